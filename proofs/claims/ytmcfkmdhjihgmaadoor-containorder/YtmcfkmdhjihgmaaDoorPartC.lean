/- The engine: a region in whatever order whose calls change no box: told once, in the order of the text. The engine, part 13: regions, code, functions. The engine, part 14: functions. The engine, part 15: how pure code is evaluated by simp. The engine, part 16: contracts in use. The engine, part 17: an argument, read in the world of the call, has a pure reading. The engine, part 18: from a contract of a law to what a row asks. The engine, part 19: small laws for the contracts. The engine, part 20: from a contract of a law to what a row asks, where the program's variables hold plain data. The deck: what its functions compute, for whatever program that holds them. The deck: what is known of what it draws: whatever it is, it is within its bounds. The deck: a new one, names, contexts. The deck: numbers up to a bound. Bits that the deck's masks want. The deck: masks. The engine, part 21: what simp need not look into; boxes of the call's own at its end. The engine, part 22: what an argument of a plain type looks like, purely: its cells one by one. The engine, part 23: lists of like things in a box; results that are frozen behind a call. -/
import Derived.Test.YtmcfkmdhjihgmaaDoorPartB
import Derived.Deep.Quiet
import Derived.Scope
import Derived.KernelRfl
import Derived.Deep.Slices
import Derived.ChangeArms
import Derived.OpenShut
import Derived.ChangeSame
import Derived.Carry
import Derived.RowKit
import Derived.Laws.BitsLemmas
import Derived.Laws.Bits64
import Derived.DataShut
set_option linter.all false
namespace Go.PE
open Go

/-- it turns slots alone, or is a call -/
def monI : PI → Bool
  | .call .. => true
  | i => neutral i

/-- all boxes are there -/
def LeH (H H' : Nat → Option (List Value)) : Prop := ∀ k row, H k = some row → H' k = some row
theorem LeH.refl (H : Nat → Option (List Value)) : LeH H H := fun _ _ h => h
theorem LeH.trans {H H' H'' : Nat → Option (List Value)} (h : LeH H H') (k : LeH H' H'') : LeH H H'' := fun _ _ e => k _ _ (h _ _ e)
/-- where the next box will lie there is none -/
def WfS (s : PS) : Prop := ∀ k, s.nx ≤ k → s.H k = none
section
variable (C : Known) (P : Program) (T : Nat → Prop) (n0 : Nat)
/-- a call that gives one result, wherever the next box would lie, and changes none -/
def wmCall (C : Known) (f : Nat) (args : List Value) (d : Option Nat) (s : PS) (K : PS → Prop) : Prop :=
  ∃ v, (∀ n H2, s.nx ≤ n → LeH s.H H2 → C f args H2 n (fun _ => False) (fun p H' _ => p = v ∧ H' = H2)) ∧ K (s.putO d v)
def mstep (d : Option Nat) (i : PI) (s : PS) (K : PS → Prop) : Prop :=
  match i with
  | .call f args => wmCall C f (args.map s.ev) d s K
  | i => PE.step C P T n0 d i s K
def bstep (d : Option Nat) (i : PI) (s : PS) (K : PS → Prop) : Prop :=
  if monI i then mstep C P T n0 d i s K else ∀ n, s.nx ≤ n → PE.step C P T n0 d i ⟨s.t, s.H, n⟩ K
def wpm : List PO → (PS → Prop) → PS → Prop
  | [], K, s => ∀ n, s.nx ≤ n → K ⟨s.t, s.H, n⟩
  | (d, none, i) :: r, K, s => bstep C P T n0 d i s (wpm r K)
  | (d, some (t, b), i) :: r, K, s => ∃ c, gB (s.ev (.tmp t)) b = some c ∧ (c = true → bstep C P T n0 d i s (wpm r K)) ∧ (c = false → wpm r K (s.putO d undef))
/-- with its guard -/
def gm (x : PO) (s : PS) (K : PS → Prop) : Prop :=
  match x.2.1 with
  | none => bstep C P T n0 x.1 x.2.2 s K
  | some (t, b) => ∃ c, gB (s.ev (.tmp t)) b = some c ∧ (c = true → bstep C P T n0 x.1 x.2.2 s K) ∧ (c = false → K (s.putO x.1 undef))
theorem wpm_cons (x : PO) (r : List PO) (K : PS → Prop) (s : PS) : wpm C P T n0 (x :: r) K s = gm C P T n0 x s (wpm C P T n0 r K) := by
  obtain ⟨d, g, i⟩ := x
  cases g with
  | none => rfl
  | some tb => obtain ⟨t, b⟩ := tb; rfl
end

/-- it turns slots alone, in one of some ways -/
def NeuR (stp : PS → (PS → Prop) → Prop) (rd wr : List Nat) : Prop :=
  ∃ E : PS → List (Nat × Value) → Prop, (∀ s K, stp s K ↔ ∃ us, E s us ∧ K ⟨applyU us s.t, s.H, s.nx⟩) ∧ (∀ s us, E s us → ∀ k ∈ keys us, k ∈ wr) ∧
    (∀ s s' us, Agree rd s s' → LeH s.H s'.H → s.nx ≤ s'.nx → E s us → E s' us)

theorem Neu.rel {stp : PS → (PS → Prop) → Prop} {rd wr : List Nat} (h : Neu stp rd wr false) : NeuR stp rd wr := by
  obtain ⟨E, h1, h2, h3⟩ := h
  exact ⟨fun s us => E s = some us, h1, h2, fun s s' us hA hH _ hE => (h3 s s' hA (fun h => by cases h)).symm.trans hE⟩
theorem lead_le {H H' : Nat → Option (List Value)} {v : Value} {p : List Value × Nat} (h : LeH H H') (hl : lead H v = some p) : lead H' v = some p := by
  unfold lead at hl ⊢
  split at hl
  · obtain ⟨row, hr, hp⟩ := Option.map_eq_some_iff.1 hl
    rw [h _ _ hr]; exact congrArg some hp
  · exact hl
  · cases hl
theorem relV {C : Known} {P : Program} {T : Nat → Prop} {n0 : Nat} {d : Option Nat} {i : PI} {F : PS → Option Value} {rd : List Nat} (h1 : ∀ s K, PE.step C P T n0 d i s K = wO (F s) d s K) (h2 : ∀ s s' v, Agree rd s s' → LeH s.H s'.H → F s = some v → F s' = some v) :
    NeuR (PE.step C P T n0 d i) rd (dS d) := by
  refine ⟨fun s us => ∃ v, F s = some v ∧ us = dU d v, fun s K => ?_, fun s us hu k hk => ?_, fun s s' us hA hH _ hE => ?_⟩
  · rw [h1]
    constructor
    · rintro ⟨v, hv, hK⟩; exact ⟨dU d v, ⟨v, hv, rfl⟩, by rw [← putO_dU]; exact hK⟩
    · rintro ⟨_, ⟨v, hv, rfl⟩, hK⟩; exact ⟨v, hv, by rw [putO_dU]; exact hK⟩
  · obtain ⟨v, _, rfl⟩ := hu
    rwa [keys_dU] at hk
  · obtain ⟨v, hv, rfl⟩ := hE
    exact ⟨v, h2 s s' v hA hH hv, rfl⟩
theorem ld_neu {C : Known} {P : Program} {T : Nat → Prop} {n0 : Nat} {d : Option Nat} {i : PI} (hn : neutral i = true) (hl : looksH i = true) : NeuR (PE.step C P T n0 d i) (rdS i) (wrS i ++ dS d) := by
  cases i with
  | ldA n x =>
    refine relV (fun s K => step_ldA C P T n0 d s K n x) fun s s' v hA hH h => ?_
    rw [← Agree.ev hA]
    obtain ⟨p, hp, hv⟩ := Option.bind_eq_some_iff.1 h
    rw [lead_le hH hp]; exact hv
  | ld st x =>
    cases st with
    | true => simp [neutral] at hn
    | false =>
      refine relV (fun s K => step_ld C P T n0 d s K x) fun s s' v hA hH h => ?_
      rw [← Agree.ev hA]
      obtain ⟨p, hp, hv⟩ := Option.bind_eq_some_iff.1 h
      rw [lead_le hH hp]; exact hv
  | _ => simp [looksH] at hl

theorem NeuR.mono {stp : PS → (PS → Prop) → Prop} {rd wr : List Nat} (h : NeuR stp rd wr) {s : PS} {K K' : PS → Prop} (hK : ∀ s, K s → K' s) (hs : stp s K) : stp s K' := by
  obtain ⟨E, h1, _, _⟩ := h
  obtain ⟨us, hu, hk⟩ := (h1 _ _).1 hs
  exact (h1 _ _).2 ⟨us, hu, hK _ hk⟩

theorem swapR {si sj : PS → (PS → Prop) → Prop} {ri wi rj wj : List Nat} (hi : NeuR si ri wi) (hj : NeuR sj rj wj) (d1 : ∀ x ∈ wi, x ∉ rj) (d2 : ∀ x ∈ wi, x ∉ wj) (d3 : ∀ x ∈ ri, x ∉ wj)
    {s : PS} {K : PS → Prop} (h : si s (fun s1 => sj s1 K)) : sj s (fun s2 => si s2 K) := by
  obtain ⟨E, e1, e2, e3⟩ := hi
  obtain ⟨F, f1, f2, f3⟩ := hj
  obtain ⟨us, hu, h⟩ := (e1 _ _).1 h
  obtain ⟨vs, hv, hK⟩ := (f1 _ _).1 h
  refine (f1 _ _).2 ⟨vs, f3 ⟨applyU us s.t, s.H, s.nx⟩ s _ (fun x hx => ?_) (LeH.refl _) (Nat.le_refl _) hv, (e1 _ _).2 ⟨us, e3 s ⟨applyU vs s.t, s.H, s.nx⟩ _ (fun x hx => ?_) (LeH.refl _) (Nat.le_refl _) hu, ?_⟩⟩
  · exact applyU_out us s.t x fun hxu => d1 x (e2 _ _ hu x hxu) hx
  · exact (applyU_out vs s.t x fun hxu => d3 x hx (f2 _ _ hv x hxu)).symm
  · show K ⟨applyU us (applyU vs s.t), s.H, s.nx⟩
    rw [applyU_comm us vs s.t fun x hx hx' => d2 x (e2 _ _ hu x hx) (f2 _ _ hv x hx')]
    exact hK

section
variable (C : Known) (P : Program) (T : Nat → Prop) (n0 : Nat)
theorem mstep_neu (d : Option Nat) (i : PI) (h : monI i = true) : NeuR (mstep C P T n0 d i) (rdS i) (wrS i ++ dS d) := by
  by_cases hn : neutral i = true
  · have hm : mstep C P T n0 d i = PE.step C P T n0 d i := by
      cases i <;> first | rfl | simp [neutral] at hn
    rw [hm]
    cases hl : looksH i with
    | true => exact ld_neu hn hl
    | false => exact (hl ▸ neutral_neu hn : Neu (PE.step C P T n0 d i) (rdS i) (wrS i ++ dS d) false).rel
  · cases i with
    | call f args =>
      refine ⟨fun s us => ∃ v, us = dU d v ∧ ∀ n H2, s.nx ≤ n → LeH s.H H2 → C f (args.map s.ev) H2 n (fun _ => False) (fun p H' _ => p = v ∧ H' = H2), fun s K => ?_, fun s us hu k hk => ?_, fun s s' us hA hH hn hE => ?_⟩
      · show wmCall C f (args.map s.ev) d s K ↔ _
        constructor
        · rintro ⟨v, h1, h2⟩; exact ⟨_, ⟨v, rfl, h1⟩, by rw [← putO_dU]; exact h2⟩
        · rintro ⟨_, ⟨v, rfl, h1⟩, h2⟩; exact ⟨v, h1, by rw [putO_dU]; exact h2⟩
      · obtain ⟨v, rfl, _⟩ := hu
        rw [keys_dU] at hk
        exact List.mem_append_right _ hk
      · obtain ⟨v, rfl, h1⟩ := hE
        refine ⟨v, rfl, fun n H2 hn' hH2 => ?_⟩
        have ha : args.map s.ev = args.map s'.ev := Agree.map hA
        rw [← ha]
        exact h1 n H2 (Nat.le_trans hn hn') (hH.trans hH2)
    | _ => simp [monI] at h; exact absurd h hn

theorem gm_neu (x : PO) (h : monI x.2.2 = true) : NeuR (gm C P T n0 x) (gRd x) (gWr x) := by
  obtain ⟨d, g, i⟩ := x
  have hb : ∀ s K, bstep C P T n0 d i s K = mstep C P T n0 d i s K := fun s K => if_pos h
  obtain ⟨E, e1, e2, e3⟩ := mstep_neu C P T n0 d i h
  cases g with
  | none => exact ⟨E, fun s K => by show bstep C P T n0 d i s K ↔ _; rw [hb]; exact e1 s K, e2, fun s s' us hA hH hn hE => e3 s s' us (fun y hy => hA y (by simpa [gRd] using hy)) hH hn hE⟩
  | some tb =>
    obtain ⟨t, b⟩ := tb
    refine ⟨fun s us => ∃ c, gB (s.ev (.tmp t)) b = some c ∧ (c = true → E s us) ∧ (c = false → us = dU d undef), fun s K => ?_, fun s us hu k hk => ?_, fun s s' us hA hH hn hE => ?_⟩
    · show (∃ c, gB (s.ev (.tmp t)) b = some c ∧ (c = true → bstep C P T n0 d i s K) ∧ (c = false → K (s.putO d undef))) ↔ _
      constructor
      · rintro ⟨c, hc, h1, h2⟩
        cases c with
        | true =>
          obtain ⟨us, hu, hK⟩ := (e1 _ _).1 (by rw [← hb]; exact h1 rfl)
          exact ⟨us, ⟨true, hc, fun _ => hu, (fun h => by cases h)⟩, hK⟩
        | false => exact ⟨dU d undef, ⟨false, hc, (fun h => by cases h), fun _ => rfl⟩, by rw [← putO_dU]; exact h2 rfl⟩
      · rintro ⟨us, ⟨c, hc, h1, h2⟩, hK⟩
        refine ⟨c, hc, fun hcb => by rw [hb]; exact (e1 _ _).2 ⟨us, h1 hcb, hK⟩, fun hcb => ?_⟩
        obtain rfl := h2 hcb
        rw [putO_dU]; exact hK
    · obtain ⟨c, hc, h1, h2⟩ := hu
      cases c with
      | true => exact e2 _ _ (h1 rfl) k hk
      | false =>
        obtain rfl := h2 rfl
        rw [keys_dU] at hk
        exact List.mem_append_right _ hk
    · obtain ⟨c, hc, h1, h2⟩ := hE
      have he : s.ev (.tmp t) = s'.ev (.tmp t) := Agree.ev fun y hy => hA y (by simp only [oS, List.mem_cons, List.not_mem_nil, or_false] at hy; subst hy; simp [gRd])
      exact ⟨c, by rw [← he]; exact hc, fun hcb => e3 s s' us (fun y hy => hA y (by simp [gRd, hy])) hH hn (h1 hcb), h2⟩

/-- the next box may lie later -/
theorem wpm_nx : ∀ (l : List PO) (K : PS → Prop) (s : PS) (n : Nat), s.nx ≤ n → wpm C P T n0 l K s → wpm C P T n0 l K ⟨s.t, s.H, n⟩
  | [], K, s, n, hn, h => fun m hm => h m (Nat.le_trans hn hm)
  | x :: r, K, s, n, hn, h => by
    rw [wpm_cons] at h ⊢
    by_cases hm : monI x.2.2 = true
    · obtain ⟨E, e1, e2, e3⟩ := gm_neu C P T n0 x hm
      obtain ⟨us, hu, hK⟩ := (e1 _ _).1 h
      exact (e1 _ _).2 ⟨us, e3 s ⟨s.t, s.H, n⟩ us (fun _ _ => rfl) (LeH.refl _) hn hu, wpm_nx r K ⟨applyU us s.t, s.H, s.nx⟩ n hn hK⟩
    · obtain ⟨d, g, i⟩ := x
      have hb : ∀ s K, bstep C P T n0 d i s K = ∀ n, s.nx ≤ n → PE.step C P T n0 d i ⟨s.t, s.H, n⟩ K := fun s K => if_neg hm
      cases g with
      | none =>
        have h' : bstep C P T n0 d i s (wpm C P T n0 r K) := h
        show bstep C P T n0 d i ⟨s.t, s.H, n⟩ (wpm C P T n0 r K)
        rw [hb] at h' ⊢
        exact fun m hm => h' m (Nat.le_trans hn hm)
      | some tb =>
        obtain ⟨t, b⟩ := tb
        obtain ⟨c, hc, h1, h2⟩ := h
        refine ⟨c, hc, fun hcb => ?_, fun hcb => ?_⟩
        · have h' := h1 hcb
          show bstep C P T n0 d i ⟨s.t, s.H, n⟩ (wpm C P T n0 r K)
          rw [hb] at h' ⊢
          exact fun m hm => h' m (Nat.le_trans hn hm)
        · have := wpm_nx r K (s.putO d undef) n (by cases d <;> exact hn) (h2 hcb)
          cases d <;> exact this

/-- a box is laid, without a guard -/
def isAl : PO → Bool
  | (_, none, .alloc _) => true
  | _ => false
theorem isAl_eq {x : PO} (h : isAl x = true) : ∃ d row, x = (d, none, .alloc row) := by
  obtain ⟨d, g, i⟩ := x
  cases g with
  | some tb => simp [isAl] at h
  | none => cases i <;> first | exact ⟨d, _, rfl⟩ | simp [isAl] at h
theorem gm_al (d : Option Nat) (row : List Value) (s : PS) (K : PS → Prop) : gm C P T n0 (d, none, .alloc row) s K = ∀ n, s.nx ≤ n → K ⟨(s.putO d (ptr n 0)).t, upd s.H n (some row), n + 1⟩ := by
  show (∀ n, s.nx ≤ n → PE.step C P T n0 d (.alloc row) ⟨s.t, s.H, n⟩ K) = _
  cases d <;> rfl
theorem swapA {y : PO} {d : Option Nat} {row : List Value} (hy : monI y.2.2 = true) (d2 : ∀ x ∈ gWr y, x ∉ dS d) (d3 : ∀ x ∈ gRd y, x ∉ dS d) {s : PS} (hw : WfS s) {K : PS → Prop} (h : gm C P T n0 y s (fun s1 => gm C P T n0 (d, none, .alloc row) s1 K)) :
    gm C P T n0 (d, none, .alloc row) s (fun s2 => gm C P T n0 y s2 K) := by
  obtain ⟨E, e1, e2, e3⟩ := gm_neu C P T n0 y hy
  obtain ⟨us, hu, h⟩ := (e1 _ _).1 h
  rw [gm_al] at h ⊢
  intro n hn
  have hK := h n hn
  have hle : LeH s.H (upd s.H n (some row)) := fun k r hk => by
    by_cases e : k = n
    · subst e; rw [hw _ hn] at hk; cases hk
    · rw [upd_ne _ _ e]; exact hk
  refine (e1 _ _).2 ⟨us, e3 s _ us (fun x hx => ?_) hle (Nat.le_succ_of_le hn) hu, ?_⟩
  · rw [putO_dU]
    exact (applyU_out (dU d (ptr n 0)) s.t x fun hxu => d3 x hx (by rwa [keys_dU] at hxu)).symm
  · show K ⟨applyU us (s.putO d (ptr n 0)).t, upd s.H n (some row), n + 1⟩
    rw [putO_dU] at hK ⊢
    have : applyU us (applyU (dU d (ptr n 0)) s.t) = applyU (dU d (ptr n 0)) (applyU us s.t) := applyU_comm us (dU d (ptr n 0)) s.t fun x hx hx' => d2 x (e2 _ _ hu x hx) (by rwa [keys_dU] at hx')
    show K ⟨applyU us (applyU (dU d (ptr n 0)) s.t), upd s.H n (some row), n + 1⟩
    rw [this]; exact hK

/-- one that waits for none of those ahead comes first -/
theorem wpm_front (x : PO) (hx : monI x.2.2 = true ∨ isAl x = true) (post : List PO) (K : PS → Prop) : ∀ (pre : List PO) (s : PS), WfS s → (∀ y ∈ pre, monI y.2.2 = true ∧ disj (gWr y) (gRd x) = true ∧ disj (gWr y) (gWr x) = true ∧ disj (gRd y) (gWr x) = true) →
    wpm C P T n0 (pre ++ x :: post) K s → gm C P T n0 x s (wpm C P T n0 (pre ++ post) K)
  | [], s, _, _, h => by rw [List.nil_append, wpm_cons] at h; exact h
  | y :: pre, s, hw, hp, h => by
    rw [List.cons_append, wpm_cons] at h
    obtain ⟨hy, h1, h2, h3⟩ := hp y (List.mem_cons_self ..)
    have h4 : gm C P T n0 y s (fun s1 => gm C P T n0 x s1 (wpm C P T n0 (pre ++ post) K)) := by
      obtain ⟨E, e1, e2, e3⟩ := gm_neu C P T n0 y hy
      obtain ⟨us, hu, h⟩ := (e1 _ _).1 h
      exact (e1 _ _).2 ⟨us, hu, wpm_front x hx post K pre ⟨applyU us s.t, s.H, s.nx⟩ hw (fun z hz => hp z (List.mem_cons_of_mem _ hz)) h⟩
    rw [List.cons_append]
    rcases hx with hx | hx
    · have h5 := swapR (gm_neu C P T n0 y hy) (gm_neu C P T n0 x hx) (disj_iff h1) (disj_iff h2) (disj_iff h3) h4
      exact (gm_neu C P T n0 x hx).mono (fun s2 h => by rw [wpm_cons]; exact h) h5
    · obtain ⟨d, row, rfl⟩ := isAl_eq hx
      have e : gWr (d, none, PI.alloc row) = dS d := by simp [gWr, wrS]
      rw [e] at h2 h3
      have h5 := swapA C P T n0 hy (disj_iff h2) (disj_iff h3) hw h4
      rw [gm_al] at h5 ⊢
      exact fun n hn => by rw [wpm_cons]; exact h5 n hn
end

section
variable {P : Program} {T : Nat → Prop} {n0 : Nat}
theorem PCalls_more {f nx : Nat} {args : List Value} {H : Nat → Option (List Value)} {T : Nat → Prop} {R : Post} (h : PCalls P f args H nx T R) :
    PCalls P f args H nx T (fun p H' nx' => R p H' nx' ∧ nx ≤ nx') := by
  intro G own vs hE hl hr
  refine (h G own vs hE hl hr).mono ?_
  rintro e w' ⟨v, p, G', own', H', nx', h1, h2, hL, hR⟩
  exact ⟨v, p, G', own', H', nx', h1, h2, hL, hR, hL.n0⟩

theorem mstep_step (d : Option Nat) (i : PI) (h : monI i = true) {s : PS} {K : PS → Prop} (hK : ∀ s n, s.nx ≤ n → K s → K ⟨s.t, s.H, n⟩) (hs : mstep (PCalls P) P T n0 d i s K) : PE.step (PCalls P) P T n0 d i s K := by
  by_cases hn : neutral i = true
  · have hm : mstep (PCalls P) P T n0 d i = PE.step (PCalls P) P T n0 d i := by
      cases i <;> first | rfl | simp [neutral] at hn
    rw [← hm]; exact hs
  · cases i with
    | call f args =>
      obtain ⟨v, h1, h2⟩ := hs
      refine ⟨fun _ => False, fun _ h => h.elim, fun _ _ h => h.elim, PCalls_mono (PCalls_more (h1 s.nx s.H (Nat.le_refl _) (LeH.refl _))) ?_⟩
      rintro p H' nx' ⟨⟨rfl, rfl⟩, hn⟩
      have := hK (s.putO d p) nx' (by cases d <;> exact hn) h2
      cases d <;> exact this
    | _ => simp [monI] at h; exact absurd h hn

theorem gm_gstep (x : PO) {s : PS} {K : PS → Prop} (hK : ∀ s n, s.nx ≤ n → K s → K ⟨s.t, s.H, n⟩) (hs : gm (PCalls P) P T n0 x s K) : gstep (PCalls P) P T n0 x s K := by
  obtain ⟨d, g, i⟩ := x
  have hb : ∀ {s}, bstep (PCalls P) P T n0 d i s K → PE.step (PCalls P) P T n0 d i s K := fun {s} h => by
    unfold bstep at h
    split at h
    · rename_i hm; exact mstep_step d i hm hK h
    · exact h s.nx (Nat.le_refl _)
  cases g with
  | none => exact hb hs
  | some tb =>
    obtain ⟨t, b⟩ := tb
    obtain ⟨c, hc, h1, h2⟩ := hs
    exact ⟨c, hc, fun h => hb (h1 h), h2⟩
end

/-! which regions -/
/-- earlier ones: waited for, or without anything in common -/
def chk1 (b : QO) (anc : Nat) : List QO → Nat → Bool
  | [], _ => true
  | a :: r, j => (Nat.testBit anc j || (monI a.x.2.2 && (monI b.x.2.2 || isAl b.x) && sepM a.w b.r && sepM a.w b.w && sepM a.r b.w)) && chk1 b anc r (j + 1)
def chkAll (done : List QO) : List QO → List Nat → Bool
  | [], _ => true
  | b :: r, a :: as => chk1 b a done 0 && chkAll (done ++ [b]) r as
  | _ :: _, [] => false
def orAt (m : Nat) : List Nat → Nat → Nat
  | [], _ => 0
  | a :: r, j => if Nat.testBit m j then a ||| orAt m r (j + 1) else orAt m r (j + 1)
/-- what each one waits for, at last -/
def ancL : List Nat → List Nat → List Nat
  | [], acc => acc
  | m :: r, acc => ancL r (acc ++ [m ||| orAt m acc 0])
def topM : List QO → Nat → Bool
  | [], _ => true
  | a :: r, j => Nat.blt a.dep (2 ^ j) && topM r (j + 1)
def monOK (ops : Array Oper) (L : List PO) : Bool := let q := prepL L ops.toList; topM q 0 && chkAll [] q (ancL (q.map (·.dep)) [])

theorem orAt_bit {m : Nat} : ∀ {l : List Nat} {j b : Nat}, (orAt m l j).testBit b = true → ∃ k a, l[k]? = some a ∧ m.testBit (j + k) = true ∧ a.testBit b = true
  | [], j, b, h => by simp [orAt] at h
  | a :: r, j, b, h => by
    unfold orAt at h
    have key : (orAt m r (j + 1)).testBit b = true → ∃ k a', (a :: r)[k]? = some a' ∧ m.testBit (j + k) = true ∧ a'.testBit b = true := fun h => by
      obtain ⟨k, a', h1, h2, h3⟩ := orAt_bit h
      exact ⟨k + 1, a', by simpa using h1, by rw [show j + (k + 1) = j + 1 + k by omega]; exact h2, h3⟩
    split at h
    · rename_i hm
      rw [Nat.testBit_or, Bool.or_eq_true] at h
      rcases h with h | h
      · exact ⟨0, a, rfl, hm, h⟩
      · exact key h
    · exact key h

theorem ancL_ok {S : Nat → Prop} : ∀ (l acc : List Nat), (∀ (i m : Nat), l[i]? = some m → S (acc.length + i) → ∀ b, m.testBit b = true → S b) → (∀ (k a : Nat), acc[k]? = some a → S k → ∀ b, a.testBit b = true → S b) →
    ∀ (k a : Nat), (ancL l acc)[k]? = some a → S k → ∀ b, a.testBit b = true → S b
  | [], acc, _, h2 => h2
  | m :: r, acc, h1, h2 => by
    unfold ancL
    refine ancL_ok r _ (fun i m' hi hS => h1 (i + 1) m' (by simpa using hi) (by rw [List.length_append] at hS; simpa [Nat.add_assoc, Nat.add_comm 1 i] using hS)) fun k a hk hS b hb => ?_
    rcases Nat.lt_trichotomy k acc.length with hlt | rfl | hlt
    · rw [List.getElem?_append_left hlt] at hk
      exact h2 k a hk hS b hb
    · simp at hk
      subst hk
      rw [Nat.testBit_or, Bool.or_eq_true] at hb
      rcases hb with hb | hb
      · exact h1 0 m rfl hS b hb
      · obtain ⟨k', a', h3, h4, h5⟩ := orAt_bit hb
        rw [Nat.zero_add] at h4
        exact h2 k' a' h3 (h1 0 m rfl hS k' h4) b h5
    · rw [List.getElem?_eq_none (by simp; omega)] at hk; cases hk

theorem chk1_get {b : QO} {anc : Nat} : ∀ {l : List QO} {j k : Nat} {a : QO}, chk1 b anc l j = true → l[k]? = some a → anc.testBit (j + k) = true ∨ (monI a.x.2.2 = true ∧ (monI b.x.2.2 = true ∨ isAl b.x = true) ∧ sepM a.w b.r = true ∧ sepM a.w b.w = true ∧ sepM a.r b.w = true)
  | [], j, k, a, _, h => by simp at h
  | c :: r, j, 0, a, hc, h => by
    simp at h; subst h
    simp only [chk1, Bool.and_eq_true, Bool.or_eq_true] at hc
    rcases hc.1 with h | h
    · exact .inl h
    · exact .inr ⟨h.1.1.1.1, h.1.1.1.2, h.1.1.2, h.1.2, h.2⟩
  | c :: r, j, k + 1, a, hc, h => by
    simp only [chk1, Bool.and_eq_true] at hc
    have := chk1_get (k := k) hc.2 (by simpa using h)
    rwa [show j + (k + 1) = j + 1 + k by omega]

theorem chkAll_get : ∀ {l : List QO} {as : List Nat} {done : List QO} {i k : Nat} {b a : QO}, chkAll done l as = true → l[i]? = some b → (done ++ l)[k]? = some a → k < done.length + i →
    ∃ anc, as[i]? = some anc ∧ (anc.testBit k = true ∨ (monI a.x.2.2 = true ∧ (monI b.x.2.2 = true ∨ isAl b.x = true) ∧ sepM a.w b.r = true ∧ sepM a.w b.w = true ∧ sepM a.r b.w = true))
  | [], _, _, i, k, b, a, _, h, _, _ => by simp at h
  | c :: r, [], _, i, k, b, a, h, _, _, _ => by simp [chkAll] at h
  | c :: r, x :: as, done, 0, k, b, a, h, hb, ha, hk => by
    simp at hb; subst hb
    simp only [chkAll, Bool.and_eq_true] at h
    refine ⟨x, rfl, ?_⟩
    rw [List.getElem?_append_left (by omega)] at ha
    have := chk1_get (j := 0) h.1 ha
    rwa [Nat.zero_add] at this
  | c :: r, x :: as, done, i + 1, k, b, a, h, hb, ha, hk => by
    simp only [chkAll, Bool.and_eq_true] at h
    obtain ⟨anc, h1, h2⟩ := chkAll_get (i := i) (k := k) (b := b) (a := a) h.2 (by simpa using hb) (by simpa using ha) (by rw [List.length_append]; simp; omega)
    exact ⟨anc, by simpa using h1, h2⟩

/-- those that are to come -/
def pendF (listed : Array Bool) : List PO → Nat → List PO
  | [], _ => []
  | x :: r, j => if listed.getD j true then pendF listed r (j + 1) else x :: pendF listed r (j + 1)
theorem pend_set {listed : Array Bool} {k : Nat} : ∀ {l : List PO} {j : Nat}, k < j → pendF (listed.setIfInBounds k true) l j = pendF listed l j
  | [], _, _ => rfl
  | x :: r, j, h => by
    unfold pendF
    rw [getD_set_ne true (by omega), pend_set (l := r) (j := j + 1) (by omega)]
theorem getD_set_self (listed : Array Bool) (i : Nat) : (listed.setIfInBounds i true).getD i true = true := by
  by_cases h : i < listed.size
  · simp [h]
  · have h0 : listed.size ≤ i := by omega
    simp [h0]
theorem pend_split {listed : Array Bool} : ∀ {l : List PO} {j i : Nat} {x : PO}, l[i]? = some x → listed.getD (j + i) true = false →
    ∃ pre post, pendF listed l j = pre ++ x :: post ∧ pendF (listed.setIfInBounds (j + i) true) l j = pre ++ post ∧ ∀ y ∈ pre, ∃ k, k < i ∧ l[k]? = some y ∧ listed.getD (j + k) true = false
  | [], j, i, x, h, _ => by simp at h
  | y :: r, j, 0, x, h, hl => by
    simp at h; subst h
    refine ⟨[], pendF listed r (j + 1), ?_, ?_, fun y hy => by cases hy⟩
    · rw [Nat.add_zero] at hl
      simp [pendF, hl]
    · rw [Nat.add_zero]
      rw [show pendF (listed.setIfInBounds j true) (y :: r) j = if (listed.setIfInBounds j true).getD j true then pendF (listed.setIfInBounds j true) r (j + 1) else y :: pendF (listed.setIfInBounds j true) r (j + 1) from rfl, getD_set_self, if_pos rfl, pend_set (by omega), List.nil_append]
  | y :: r, j, i + 1, x, h, hl => by
    obtain ⟨pre, post, h1, h2, h3⟩ := pend_split (l := r) (j := j + 1) (i := i) (x := x) (by simpa using h) (by rw [show j + 1 + i = j + (i + 1) by omega]; exact hl)
    rw [show j + 1 + i = j + (i + 1) by omega] at h2
    have e : (listed.setIfInBounds (j + (i + 1)) true).getD j true = listed.getD j true := getD_set_ne true (by omega)
    have h3' : ∀ z ∈ pre, ∃ k, k < i + 1 ∧ (y :: r)[k]? = some z ∧ listed.getD (j + k) true = false := fun z hz => by
      obtain ⟨k, a1, a2, a3⟩ := h3 z hz
      exact ⟨k + 1, by omega, by simpa using a2, by rw [show j + (k + 1) = j + 1 + k by omega]; exact a3⟩
    cases hc : listed.getD j true with
    | true =>
      refine ⟨pre, post, ?_, ?_, h3'⟩
      · unfold pendF; rw [hc, if_pos rfl]; exact h1
      · unfold pendF; rw [e, hc, if_pos rfl]; exact h2
    | false =>
      refine ⟨y :: pre, post, ?_, ?_, fun z hz => ?_⟩
      · unfold pendF; rw [hc, h1]; rfl
      · unfold pendF; rw [e, hc, h2]; rfl
      · rcases List.mem_cons.1 hz with rfl | hz
        · exact ⟨0, by omega, rfl, by simpa using hc⟩
        · exact h3' z hz
theorem pend_first {listed : Array Bool} : ∀ {l : List PO} {j : Nat}, pendF listed l j ≠ [] → ∃ i x, l[i]? = some x ∧ listed.getD (j + i) true = false ∧ ∀ k, k < i → listed.getD (j + k) true = true
  | [], j, h => absurd rfl h
  | y :: r, j, h => by
    cases hc : listed.getD j true with
    | false => exact ⟨0, y, rfl, by simpa using hc, fun k hk => by omega⟩
    | true =>
      have h' : pendF listed r (j + 1) ≠ [] := fun e => h (by unfold pendF; rw [hc, if_pos rfl]; exact e)
      obtain ⟨i, x, h1, h2, h3⟩ := pend_first h'
      refine ⟨i + 1, x, by simpa using h1, by rw [show j + (i + 1) = j + 1 + i by omega]; exact h2, fun k hk => ?_⟩
      cases k with
      | zero => simpa using hc
      | succ k => rw [show j + (k + 1) = j + 1 + k by omega]; exact h3 k (by omega)
theorem topM_get : ∀ {l : List QO} {j i : Nat} {a : QO}, topM l j = true → l[i]? = some a → a.dep < 2 ^ (j + i)
  | [], j, i, a, _, h => by simp at h
  | b :: r, j, 0, a, h, ha => by
    simp at ha; subst ha
    simp only [topM, Bool.and_eq_true] at h
    exact by simpa using h.1
  | b :: r, j, i + 1, a, h, ha => by
    simp only [topM, Bool.and_eq_true] at h
    have := topM_get (i := i) h.2 (by simpa using ha)
    rwa [show j + (i + 1) = j + 1 + i by omega]

section
variable {P : Program} {T : Nat → Prop} {n0 : Nat} {ops : Array Oper} {L : List PO}
/-- what one waited for is there -/
def DownD (ops : Array Oper) (listed : Array Bool) : Prop := ∀ i o, ops[i]? = some o → listed.getD i false = true → ∀ e ∈ o.after, Region.binds .any e = true → listed.getD e.on false = true
theorem DownD.set {listed : Array Bool} {i : Nat} (h : DownD ops listed) (hi : i ∈ Region.ready .any ops listed) : DownD ops (listed.setIfInBounds i true) := by
  intro j o ho hj e he hb
  by_cases hij : i = j
  · subst hij
    obtain ⟨_, o', ho', hall⟩ := mem_ready.1 hi
    rw [ho] at ho'
    obtain rfl := Option.some.inj ho'
    exact getD_set_true (hall e he hb)
  · rw [getD_set_ne false hij] at hj
    exact getD_set_true (h j o ho hj e he hb)
theorem getD_ff {listed : Array Bool} {i : Nat} (h : listed.getD i true = false) : listed.getD i false = false := by
  by_cases hi : i < listed.size
  · simp [hi] at h ⊢; exact h
  · have h0 : listed.size ≤ i := by omega
    simp [h0] at h

variable (P T n0 ops L) in
def wanM : Nat → Array Bool → (PS → Prop) → PS → Prop
  | 0, listed, K, s => WfS s → Region.ready .any ops listed = [] ∧ K s
  | fuel + 1, listed, K, s => WfS s → (Region.ready .any ops listed = [] → K s) ∧ ∀ i ∈ Region.ready .any ops listed, stepAt P T n0 L i s (wanM fuel (listed.setIfInBounds i true) K)
theorem mon_wan (hl : L.length = ops.size) (hsv : ∀ y ∈ L, served y = true) (hc : monOK ops L = true) : ∀ (fuel : Nat) (listed : Array Bool) (K : PS → Prop) (s : PS), listed.size = ops.size → DownD ops listed → (pendF listed L 0).length ≤ fuel →
    wpm (PCalls P) P T n0 (pendF listed L 0) K s → wanM P T n0 ops L fuel listed K s := by
  simp only [monOK, Bool.and_eq_true] at hc
  obtain ⟨ht, hc⟩ := hc
  have dn : ∀ (listed : Array Bool) (K : PS → Prop) (s : PS), pendF listed L 0 = [] → wpm (PCalls P) P T n0 (pendF listed L 0) K s → Region.ready .any ops listed = [] ∧ K s := fun listed K s h0 hw => by
    refine ⟨?_, by rw [h0] at hw; exact hw s.nx (Nat.le_refl _)⟩
    rw [List.eq_nil_iff_forall_not_mem]
    intro i hi
    obtain ⟨h1, o, ho, _⟩ := mem_ready.1 hi
    have hlt : i < ops.size := (Array.getElem?_eq_some_iff.1 ho).1
    obtain ⟨pre, post, e, _⟩ := pend_split (l := L) (j := 0) (i := i) (listed := listed) (List.getElem?_eq_getElem (by omega)) (by rw [Nat.zero_add]; exact h1)
    rw [h0] at e
    exact absurd e (by simp)
  intro fuel
  induction fuel with
  | zero =>
    intro listed K s hsz hD hf hw _
    exact dn listed K s (List.length_eq_zero_iff.1 (by omega)) hw
  | succ fuel ih =>
    intro listed K s hsz hD hf hw hW
    refine ⟨fun h0 => ?_, fun i hi => ?_⟩
    · by_cases hp : pendF listed L 0 = []
      · exact (dn listed K s hp hw).2
      · exfalso
        obtain ⟨i, x, h1, h2, h3⟩ := pend_first hp
        have hlt : i < L.length := (List.getElem?_eq_some_iff.1 h1).1
        have ho : ops[i]? = some (ops[i]'(by omega)) := Array.getElem?_eq_getElem _
        have : i ∈ Region.ready .any ops listed := mem_ready.2 ⟨by rw [Nat.zero_add] at h2; exact h2, _, ho, fun e he hb => by
          have hq := prepL_get h1 (show ops.toList[i]? = some _ by rw [Array.getElem?_toList]; exact ho)
          have hd := topM_get ht hq
          have hbit : (prepQ x (ops[i]'(by omega))).dep.testBit e.on = true := depM_bit.2 ⟨e, he, hb, rfl⟩
          have hlt2 : e.on < i := by
            apply Classical.byContradiction
            intro hge
            rw [Nat.testBit_lt_two_pow (Nat.lt_of_lt_of_le hd (Nat.pow_le_pow_right (by omega) (by omega)))] at hbit
            cases hbit
          have h4 := h3 e.on hlt2
          rw [Nat.zero_add] at h4
          have hs : e.on < listed.size := by omega
          simp only [Array.getD_eq_getD_getElem?, Array.getElem?_eq_getElem hs, Option.getD_some] at h4 ⊢
          exact h4⟩
        rw [h0] at this; cases this
    · obtain ⟨h1, o, ho, hall⟩ := mem_ready.1 hi
      have hlt : i < ops.size := (Array.getElem?_eq_some_iff.1 ho).1
      have hx : L[i]? = some (L[i]'(by omega)) := List.getElem?_eq_getElem _
      generalize L[i]'(by omega) = x at hx
      obtain ⟨pre, post, e1, e2, e3⟩ := pend_split (l := L) (j := 0) (i := i) (listed := listed) hx (by rw [Nat.zero_add]; exact h1)
      rw [Nat.zero_add] at e2
      have hDs := hD.set hi
      have hpre : ∀ y ∈ pre, monI y.2.2 = true ∧ (monI x.2.2 = true ∨ isAl x = true) ∧ disj (gWr y) (gRd x) = true ∧ disj (gWr y) (gWr x) = true ∧ disj (gRd y) (gWr x) = true := fun y hy => by
        obtain ⟨k, hk, hky, hkl⟩ := e3 y hy
        rw [Nat.zero_add] at hkl
        have hok : ops[k]? = some (ops[k]'(by omega)) := Array.getElem?_eq_getElem _
        have qi := prepL_get hx (show ops.toList[i]? = some o by rw [Array.getElem?_toList]; exact ho)
        have qk := prepL_get hky (show ops.toList[k]? = some _ by rw [Array.getElem?_toList]; exact hok)
        obtain ⟨anc, ha, hor⟩ := chkAll_get hc qi (by simpa using qk) (by simpa using hk)
        rcases hor with hb | ⟨m1, m2, m3, m4, m5⟩
        · exfalso
          have := ancL_ok (S := fun z => (listed.setIfInBounds i true).getD z false = true) _ [] (fun z m hz hS b hb => by
            simp only [List.getElem?_map, Option.map_eq_some_iff] at hz
            obtain ⟨q, hq, rfl⟩ := hz
            obtain ⟨x', o', _, ho', rfl⟩ := prepL_inv hq
            obtain ⟨e, he, hbb, rfl⟩ := depM_bit.1 hb
            exact hDs z o' (by simpa using ho') (by simpa using hS) e he hbb) (fun k a hk => by simp at hk) i anc ha (by
              have hs : i < listed.size := by omega
              simp [hs]) k hb
          rw [getD_set_ne false (by omega), getD_ff hkl] at this
          cases this
        · exact ⟨m1, m2, sepM_disj m3, sepM_disj m4, sepM_disj m5⟩
      have hg : gm (PCalls P) P T n0 x s (wpm (PCalls P) P T n0 (pre ++ post) K) := by
        rw [e1] at hw
        cases hp : pre with
        | nil =>
          rw [hp, List.nil_append, wpm_cons] at hw
          exact hw
        | cons y ys =>
          have hm := (hpre y (by rw [hp]; exact List.mem_cons_self ..)).2.1
          rw [← hp]
          exact wpm_front (PCalls P) P T n0 x hm post K pre s hW (fun z hz => ⟨(hpre z hz).1, (hpre z hz).2.2⟩) hw
      simp only [stepAt, hx]
      refine (gstep_frm P T n0 x (hsv x (List.mem_of_getElem? hx))).mono (fun s1 h => ih _ K s1 (by simpa using hsz) hDs ?_ (by rw [e2]; exact h)) (gm_gstep x (fun s n hn h => wpm_nx (PCalls P) P T n0 _ K s n hn h) hg)
      rw [e2]
      rw [e1] at hf
      simp at hf ⊢
      omega
theorem pend_all (n : Nat) : ∀ (L : List PO) (j : Nat), j + L.length ≤ n → pendF (Array.replicate n false) L j = L
  | [], _, _ => rfl
  | x :: r, j, h => by
    simp only [List.length_cons] at h
    unfold pendF
    rw [pend_all n r (j + 1) (by omega)]
    have : j < n := by omega
    simp [this]
end
end Go.PE
namespace Go.PE
open Go

inductive PC where
  | skip
  | reg (l : List PO)
  | drw (l : List PO)
  | ord (t : PT)
  | mon (l : List PO)
  | scope (l : Nat) (a r : PC)
  | goto (l : Nat)
  | seq (a b : PC)
  | cond (c : Operand) (t e : PC)
  | block (id : Nat) (c : PC)
  | loop (c : PC)
  | exit (id : Nat)
  | ret

inductive Ex where
  | nrm
  | ext (id : Nat)
  | rt
  | go (l : Nat)

def wpr (C : Known) (P : Program) (T : Nat → Prop) (n0 : Nat) : List PO → (PS → Prop) → PS → Prop
  | [], K, s => K s
  | (d, none, i) :: r, K, s => step C P T n0 d i s (wpr C P T n0 r K)
  | (d, some (t, b), i) :: r, K, s => ∃ c, gB (s.ev (.tmp t)) b = some c ∧ (c = true → step C P T n0 d i s (wpr C P T n0 r K)) ∧ (c = false → wpr C P T n0 r K (s.putO d undef))

/-- in a region that draws its order: a call hands back one plain value -/
def qstep (C : Known) (P : Program) (T : Nat → Prop) (n0 : Nat) (d : Option Nat) (i : PI) (s : PS) (K : PS → Prop) : Prop :=
  match i with
  | .call f args => ∃ v, plain v = true ∧ C f (args.map s.ev) s.H s.nx (fun _ => False) (fun p _ _ => p = v) ∧ K (s.putO d v)
  | .callB f args => ∃ H1 args' v, Sub n0 H1 s.H ∧ Cvs n0 s.H H1 (args.map s.ev) args' ∧ plain v = true ∧ C f args' H1 s.nx (fun _ => False) (fun p _ _ => p = v) ∧ K (s.putO d v)
  | i => step C P T n0 d i s K

def wpq (C : Known) (P : Program) (T : Nat → Prop) (n0 : Nat) : List PO → (PS → Prop) → PS → Prop
  | [], K, s => K s
  | (d, none, i) :: r, K, s => qstep C P T n0 d i s (wpq C P T n0 r K)
  | (d, some (t, b), i) :: r, K, s => ∃ c, gB (s.ev (.tmp t)) b = some c ∧ (c = true → qstep C P T n0 d i s (wpq C P T n0 r K)) ∧ (c = false → wpq C P T n0 r K (s.putO d undef))

def wpc (C : Known) (P : Program) (T : Nat → Prop) (n0 : Nat) : PC → (Ex → PS → Prop) → PS → Prop
  | .skip, Q, s => Q .nrm s
  | .reg l, Q, s => wpr C P T n0 l (Q .nrm) s
  | .drw l, Q, s => wpq C P T n0 l (Q .nrm) s
  | .ord t, Q, s => wpt P T n0 t (Q .nrm) s
  | .mon l, Q, s => wpm C P T n0 l (Q .nrm) s
  | .seq a b, Q, s => wpc C P T n0 a (fun e s' => match e with | .nrm => wpc C P T n0 b Q s' | e => Q e s') s
  | .cond c t e, Q, s => ∃ b, asBool (s.ev c) = some b ∧ (b = true → wpc C P T n0 t Q s) ∧ (b = false → wpc C P T n0 e Q s)
  | .block id c, Q, s => wpc C P T n0 c (fun e s' => match e with | .ext id' => if id' = id then Q .nrm s' else Q (.ext id') s' | e => Q e s') s
  | .loop c, Q, s => ∃ (I : PS → Prop) (μ : PS → Nat), I s ∧ ∀ s', I s' → wpc C P T n0 c (fun e s'' => match e with
      | .nrm => ∃ H1, Sub n0 H1 s''.H ∧ I { s'' with H := H1 } ∧ μ { s'' with H := H1 } < μ s'
      | e => Q e s'') s'
  | .exit id, Q, s => Q (.ext id) s
  | .ret, Q, s => Q .rt s
  | .goto l, Q, s => Q (.go l) s
  | .scope l a r, Q, s => ∃ (J : PS → Prop) (μ : PS → Nat), wpc C P T n0 a (fun e s' => match e with | .nrm => J s' | .go _ => False | e => Q e s') s ∧
      ∀ s', J s' → wpc C P T n0 r (fun e s'' => match e with
        | .go l' => l' = l ∧ ∃ H1, Sub n0 H1 s''.H ∧ J { s'' with H := H1 } ∧ μ { s'' with H := H1 } < μ s'
        | e => Q e s'') s'

section compile
variable (P : Program) (N : Nat) (bx : List Nat)

def compGuard (ops : Array Oper) (o : Oper) : Option (Option (Nat × Bool)) :=
  match o.guard with
  | none => some none
  | some (j, b) => match (ops[j]?).bind (·.dst) with
    | some t => if t < N then some (some (t, b)) else none
    | none => none

def compList (ops : Array Oper) : List Oper → Option (List PO)
  | [] => some []
  | o :: r => match comp1X P N ops bx o, compGuard N ops o, compList ops r with
    | some i, some g, some l => some ((o.dst, g, i) :: l)
    | _, _, _ => none

/-- is there a list in a value of the type? -/
def listTy : Nat → TypeId → Bool
  | 0, _ => false
  | n + 1, t => match P.underlying t with
    | some (.slice _) | some (.pointer _) => true
    | some (.struct fs) => fs.toList.any fun f => listTy n f.type
    | _ => false
/-- a call that gives a list: its place is not the same in all orders -/
def listCall (o : Oper) : Bool := match o.op with | .call _ => listTy P 3 o.type | _ => false
/-- is there a pointer in a value of the type? -/
def ptrTy : Nat → TypeId → Bool
  | 0, _ => false
  | n + 1, t => match P.underlying t with
    | some (.pointer _) => true
    | some (.struct fs) => fs.toList.any fun f => ptrTy n f.type
    | _ => false
/-- a call that takes or gives a pointer -/
def ptrCall (o : Oper) : Bool := match o.op with | .call c => ptrTy P 3 o.type || c.argTypes.toList.any (ptrTy P 3) | _ => false
/-- the mark 3000000: regions told once; it is no type -/
def bm (bx : List Nat) : List Nat := bx.filter fun x => !Nat.beq x 3000000
def monB (bx : List Nat) : Bool := bx.any fun x => Nat.beq x 3000000
def compCode : Code → Option PC
  | .skip => some .skip
  | .region _ ops false => (compList P N (bm bx) ops ops.toList).map .reg
  | .region _ ops true => match compList P N (bm bx) ops ops.toList with
    | some l => if (l.all (fun x => qOK x.2.2) && !ops.toList.any (listCall P)) && Region.lexB .any ops && P.follows .mixedOrders then some (.drw l)
      else if (monB bx && !ops.toList.any (ptrCall P)) && l.all served && monOK ops l && P.follows .mixedOrders then some (.mon l)
      else if l.all served && P.follows .mixedOrders then (mkM (dataM ops l) ops.size 0).map .ord else none
    | none => none
  | .seq a b => match compCode a, compCode b with
    | some x, some y => some (.seq x y)
    | _, _ => none
  | .cond c a b => match compCode a, compCode b with
    | some x, some y => if okOpd P N c then some (.cond c x y) else none
    | _, _ => none
  | .block id c => (compCode c).map (.block id)
  | .loop c => (compCode c).map .loop
  | .exit id => some (.exit id)
  | .ret => some .ret
  | .goto l => some (.goto l)
  | .label _ => some .skip
  | .scope (.seq a (.seq (.label l) r)) => match findLabel a l, compCode a, compCode r with
    | none, some x, some y => some (.scope l x y)
    | _, _, _ => none
  | _ => none
end compile

section
variable {q : Par} {own : Nat → Option Pos} {s : PS} {a : Act} {G : Gh} {bx : List Nat}

/-- what holds really where Q holds purely -/
def Real (q : Par) (Q : Ex → PS → Prop) : Exit → Act → World → Prop := fun e a w => ∃ own s G, G.w = w ∧ Inv q own s a G ∧
  match e with
  | .normal => Q .nrm s
  | .exit id => Q (.ext id) s
  | .ret => Q .rt s
  | .goto l => Q (.go l) s
  | _ => False

theorem guard_rd (h : Inv q own s a G) {ops : Array Oper} {o : Oper} {j t : Nat} {b c : Bool} (hg : o.guard = some (j, b)) (hj : (ops[j]?).bind (·.dst) = some t) (ht : t < q.N) (hc : gB (s.ev (.tmp t)) b = some c) :
    Region.wanted o (yielded ops a.tmps) = c := by
  have hts : t < a.tmps.size := by rw [h.size]; exact ht
  have hrd := h.rd (x := .tmp t) (by simpa [okOpd] using ht)
  have hget : a.tmps[t]? = some (a.tmps.getD t undef) := by simp [Array.getD, hts]
  unfold gB at hc
  split at hc
  · rename_i c' he
    have hb := (rd_bool (h.rd (x := .tmp t) (by simpa [okOpd] using ht)) (by rw [he]; rfl : asBool (s.ev (.tmp t)) = some c')).1
    have : a.tmps[t]? = some (.bool c') := by rw [hget]; exact congrArg some hb
    obtain rfl := Option.some.inj hc
    simp [Region.wanted, hg, yielded, hj, this]
  · rename_i he
    rw [he] at hrd
    have hv : a.tmps.getD t undef = .tuple #[] := by
      have hrd' : Rd G (a.tmps.getD t undef) (.tuple ⟨[]⟩) := hrd
      generalize a.tmps.getD t undef = v at hrd'
      generalize hq : Value.tuple ⟨[]⟩ = p at hrd'
      cases hrd' with
      | tuple vs ps hl hr =>
        obtain rfl : ps = [] := by simpa [tup] using hq.symm
        obtain rfl : vs = [] := List.eq_nil_of_length_eq_zero (by simpa using hl)
        rfl
      | scal v h => subst hq; simp [PE.scal] at h
      | _ => simp [tup, PE.ptr, PE.deep, PE.lin, PE.dptr, ag, PE.slc, PE.clo, PE.ns] at hq
    obtain rfl := Option.some.inj hc
    have : a.tmps[t]? = some (.tuple #[]) := by rw [hget, hv]
    simp [Region.wanted, hg, yielded, hj, this]
  · cases hc

theorem wanted_none {ops : Array Oper} {o : Oper} (hg : o.guard = none) : Region.wanted o (yielded ops a.tmps) = true := by simp [Region.wanted, hg]

theorem wpr_sound {ops : Array Oper} {K : PS → Prop} {Qr : Exit → Act → World → Prop} (hK : Then q K (fun a w => Qr .normal a w)) :
    ∀ (l : List Oper) (pl : List PO) {own : Nat → Option Pos} {s : PS} {a : Act} {G : Gh}, compList q.P q.N bx ops l = some pl → Inv q own s a G → wpr (PCalls q.P) q.P q.T q.n0 pl K s → wpList q.P ops Qr l a G.w
  | [], pl, own, s, a, G, hc, h, hw => by
    obtain rfl : pl = [] := by simpa [compList] using hc.symm
    exact hK _ _ _ _ h hw
  | o :: r, pl, own, s, a, G, hc, h, hw => by
    simp only [compList] at hc
    split at hc
    · rename_i i g l hi hg hl
      obtain rfl := Option.some.inj hc
      obtain ⟨⟨_, hdoes⟩, hd⟩ := does_compX hi
      have hrest : Then q (wpr (PCalls q.P) q.P q.T q.n0 l K) (wpList q.P ops Qr r) := fun own s a G h hw => wpr_sound hK r l hl h hw
      unfold compGuard at hg
      split at hg
      · rename_i hgn
        obtain rfl := Option.some.inj hg
        unfold wpList
        rw [if_pos (wanted_none hgn)]
        exact .inl (hdoes _ _ _ _ _ _ _ h hw hrest)
      · rename_i j b hgs
        split at hg
        · rename_i t hj
          split at hg
          · rename_i ht
            obtain rfl := Option.some.inj hg
            obtain ⟨c, hc', h1, h2⟩ := hw
            unfold wpList
            rw [guard_rd h hgs hj ht hc']
            by_cases hcb : c = true
            · rw [if_pos (by simpa using hcb)]
              exact .inl (hdoes _ _ _ _ _ _ _ h (h1 hcb) hrest)
            · rw [if_neg (by simpa using hcb)]
              exact hrest _ _ _ _ (h.putO hd Rd_undef noLin_undef) (h2 (by simpa using hcb))
          · cases hg
        · cases hg
    · cases hc

theorem compList_len {P : Program} {N : Nat} {bx : List Nat} {ops : Array Oper} : ∀ {l : List Oper} {pl : List PO}, compList P N bx ops l = some pl → pl.length = l.length
  | [], pl, h => by
    obtain rfl : pl = [] := by simpa [compList] using h.symm
    rfl
  | o :: r, pl, h => by
    simp only [compList] at h
    split at h
    · rename_i i g l hi hg hl
      obtain rfl := Option.some.inj h
      simp [compList_len hl]
    · cases h
theorem compList_get {P : Program} {N : Nat} {bx : List Nat} {ops : Array Oper} : ∀ {l : List Oper} {pl : List PO}, compList P N bx ops l = some pl → ∀ (i : Nat) o, l[i]? = some o → ∃ pi g, comp1X P N ops bx o = some pi ∧ compGuard N ops o = some g ∧ pl[i]? = some (o.dst, g, pi)
  | [], _, _, i, o, h => by simp at h
  | o :: r, pl, hc, i, o', h => by
    simp only [compList] at hc
    split at hc
    · rename_i pi g l hi hg hl
      obtain rfl := Option.some.inj hc
      cases i with
      | zero => obtain rfl : o = o' := by simpa using h
                exact ⟨pi, g, hi, hg, rfl⟩
      | succ i => exact compList_get hl i o' (by simpa using h)
    · cases hc

theorem wan_sound {ops : Array Oper} {L : List PO} {K : PS → Prop} {Qr : Exit → Act → World → Prop} (hK : Then q K (fun a w => Qr .normal a w)) (hc : compList q.P q.N bx ops ops.toList = some L) :
    ∀ (fuel : Nat) (listed : Array Bool) {own : Nat → Option Pos} {s : PS} {a : Act} {G : Gh}, Inv q own s a G → wan q.P q.T q.n0 ops L fuel listed K s → wpAny q.P .any ops Qr fuel listed a G.w
  | 0, listed, own, s, a, G, h, hw => ⟨hw.1, hK _ _ _ _ h hw.2⟩
  | fuel + 1, listed, own, s, a, G, h, hw => by
    refine ⟨fun h0 => hK _ _ _ _ h (hw.1 h0), fun i hi => ?_⟩
    have hs := hw.2 i hi
    obtain ⟨_, o, ho, _⟩ := mem_ready.1 hi
    obtain ⟨pi, g, hpi, hg, hL⟩ := compList_get hc i o (by simpa using ho)
    simp only [stepAt, hL] at hs
    have hrest : Then q (wan q.P q.T q.n0 ops L fuel (listed.setIfInBounds i true) K) (wpAny q.P .any ops Qr fuel (listed.setIfInBounds i true)) := fun own s a G h hw => wan_sound hK hc fuel _ h hw
    obtain ⟨⟨_, hdoes⟩, hd⟩ := does_compX hpi
    unfold wpOp
    simp only [ho]
    unfold compGuard at hg
    split at hg
    · rename_i hgn
      obtain rfl := Option.some.inj hg
      rw [if_pos (wanted_none hgn)]
      exact .inl (hdoes _ _ _ _ _ _ _ h hs hrest)
    · rename_i j b hgs
      split at hg
      · rename_i t hj
        split at hg
        · rename_i ht
          obtain rfl := Option.some.inj hg
          obtain ⟨c, hc', h1, h2⟩ := hs
          rw [guard_rd h hgs hj ht hc']
          by_cases hcb : c = true
          · rw [if_pos (by simpa using hcb)]
            exact .inl (hdoes _ _ _ _ _ _ _ h (h1 hcb) hrest)
          · rw [if_neg (by simpa using hcb)]
            exact hrest _ _ _ _ (h.putO hd Rd_undef noLin_undef) (h2 (by simpa using hcb))
        · cases hg
      · cases hg

theorem wanM_sound {ops : Array Oper} {L : List PO} {K : PS → Prop} {Qr : Exit → Act → World → Prop} (hK : Then q K (fun a w => Qr .normal a w)) (hc : compList q.P q.N bx ops ops.toList = some L) :
    ∀ (fuel : Nat) (listed : Array Bool) {own : Nat → Option Pos} {s : PS} {a : Act} {G : Gh}, Inv q own s a G → wanM q.P q.T q.n0 ops L fuel listed K s → wpAny q.P .any ops Qr fuel listed a G.w
  | 0, listed, own, s, a, G, h, hw => ⟨(hw h.nxH).1, hK _ _ _ _ h (hw h.nxH).2⟩
  | fuel + 1, listed, own, s, a, G, h, hw => by
    have hw := hw h.nxH
    refine ⟨fun h0 => hK _ _ _ _ h (hw.1 h0), fun i hi => ?_⟩
    have hs := hw.2 i hi
    obtain ⟨_, o, ho, _⟩ := mem_ready.1 hi
    obtain ⟨pi, g, hpi, hg, hL⟩ := compList_get hc i o (by simpa using ho)
    simp only [stepAt, hL] at hs
    have hrest : Then q (wanM q.P q.T q.n0 ops L fuel (listed.setIfInBounds i true) K) (wpAny q.P .any ops Qr fuel (listed.setIfInBounds i true)) := fun own s a G h hw => wanM_sound hK hc fuel _ h hw
    obtain ⟨⟨_, hdoes⟩, hd⟩ := does_compX hpi
    unfold wpOp
    simp only [ho]
    unfold compGuard at hg
    split at hg
    · rename_i hgn
      obtain rfl := Option.some.inj hg
      rw [if_pos (wanted_none hgn)]
      exact .inl (hdoes _ _ _ _ _ _ _ h hs hrest)
    · rename_i j b hgs
      split at hg
      · rename_i t hj
        split at hg
        · rename_i ht
          obtain rfl := Option.some.inj hg
          obtain ⟨c, hc', h1, h2⟩ := hs
          rw [guard_rd h hgs hj ht hc']
          by_cases hcb : c = true
          · rw [if_pos (by simpa using hcb)]
            exact .inl (hdoes _ _ _ _ _ _ _ h (h1 hcb) hrest)
          · rw [if_neg (by simpa using hcb)]
            exact hrest _ _ _ _ (h.putO hd Rd_undef noLin_undef) (h2 (by simpa using hcb))
        · cases hg
      · cases hg

/-- the worlds that a region which only reads may leave -/
def Cls (G : Gh) (w : World) : Prop := ∃ G', Keep G G' ∧ G'.w = w

theorem Keep.trans {G G' G'' : Gh} (h : Keep G G') (k : Keep G' G'') : Keep G G'' :=
  ⟨fun b hb => ⟨(k.blk b (Nat.lt_of_lt_of_le hb h.sz)).1.trans (h.blk b hb).1, (k.blk b (Nat.lt_of_lt_of_le hb h.sz)).2.trans (h.blk b hb).2⟩, k.be.trans h.be, k.nx.trans h.nx, Nat.le_trans h.sz k.sz, k.os.trans h.os, k.tape.trans h.tape, k.output.trans h.output⟩

theorem still_qOK {ops : Array Oper} {o : Oper} {i : PI} (hc : comp1X q.P q.N ops bx o = some i) (hq : qOK i = true) (h : Inv q own s a G) {K : PS → Prop} (hs : qstep (PCalls q.P) q.P q.T q.n0 o.dst i s K) :
    ∃ v p, (∀ w', Cls G w' → o.quietAt q.P a (Cls G) w' v) ∧ Rd G v p ∧ noLin p ∧ K (s.putO o.dst p) := by
  rcases (does_compX hc).1.1 hq with ⟨hst, hnc⟩ | ⟨f, args, ts, fn, ho, hf, hb, hnm, hx, rfl | rfl⟩
  · have hs' : step (PCalls q.P) q.P q.T q.n0 o.dst i s K ∨ ∃ f args, i = .call f args := by
      cases i with
      | call f args => exact .inr ⟨_, _, rfl⟩
      | callB f args =>
        obtain ⟨H1, args', v, h1, h2, h3, h4, h5⟩ := hs
        exact .inl ⟨H1, args', h1, h2, .inr ⟨v, h3, h4, h5⟩⟩
      | _ => exact .inl hs
    rcases hs' with hs' | ⟨f, args, rfl⟩
    · obtain ⟨v, p, hr, hn, hk, hrun⟩ := hst _ _ _ _ _ h hs'
      refine ⟨v, p, fun w' ⟨G', hG, hw⟩ => ?_, hr, hn, hk⟩
      subst hw
      simp only [Oper.quietAt, hrun G' hG, Oper.quietUpon]
      exact ⟨trivial, trivial⟩
    · simp [isCall] at hnc
  · obtain ⟨v, hpv, hcall, hk⟩ := hs
    refine ⟨v, v, fun w' ⟨G', hG, hw⟩ => ?_, Rd_plain hpv, noLin_plain hpv, hk⟩
    subst hw
    have h' := h.keep hG
    have hE := h'.entry (T' := fun _ => False) (fun k hf => hf.elim) (fun k row hf => hf.elim)
    have := hcall G' own (args.toList.map a.eval) hE (by simp) (rd_map h' hx)
    rw [Oper.quietAt, run_call ho hf hb hnm, Oper.quietUpon]
    refine ⟨rfl, this.mono fun e w'' hpost => ?_⟩
    obtain ⟨rv, p, G'', own', H', nx', rfl, rfl, hL, rfl⟩ := hpost
    refine ⟨by rw [plain_eq hL.res hpv], ⟨⟨G''.w, G''.fr, G.be, G.nx⟩, hG.trans (G' := G') ⟨fun b hb' => hL.frame b hb' (fun k _ hf => hf), hG.be.symm, hG.nx.symm, hL.sz, hL.os, hL.tape, hL.output⟩, rfl⟩⟩
  · obtain ⟨H1, args', v, hsub, hcv, hpv, hcall, hk⟩ := hs
    refine ⟨v, v, fun w' ⟨G', hG, hw⟩ => ?_, Rd_plain hpv, noLin_plain hpv, hk⟩
    subst hw
    have h' := h.keep hG
    have hF := h'.freeze hsub
    obtain ⟨hl, hrd⟩ := rd_cvs h' hsub hx hcv
    have hE := hF.entry (T' := fun _ => False) (fun k hf => hf.elim) (fun k row hf => hf.elim)
    have := hcall (frz G' H1) own (args.toList.map a.eval) hE hl hrd
    rw [Oper.quietAt, run_call ho hf hb hnm, Oper.quietUpon]
    refine ⟨rfl, this.mono fun e w'' hpost => ?_⟩
    obtain ⟨rv, p, G'', own', H', nx', rfl, rfl, hL, rfl⟩ := hpost
    refine ⟨by rw [plain_eq hL.res hpv], ⟨⟨G''.w, fun b => if b < G'.w.heap.size then G'.fr b else 0, G'.be, G'.nx⟩, hG.trans (G' := G') ⟨fun b hb' => ⟨(hL.frame b hb' (fun k _ hf => hf)).1, if_pos hb'⟩, rfl, rfl, hL.sz, hL.os, hL.tape, hL.output⟩, rfl⟩⟩

theorem wpq_sound {ops : Array Oper} {K : PS → Prop} {Qr : Exit → Act → World → Prop} (hK : Then q K (fun a w => Qr .normal a w)) :
    ∀ (l : List Oper) (pl : List PO) {own : Nat → Option Pos} {s : PS} {a : Act} {G : Gh}, compList q.P q.N bx ops l = some pl → (∀ x ∈ pl, qOK x.2.2 = true) → Inv q own s a G → wpq (PCalls q.P) q.P q.T q.n0 pl K s →
      wpQuiet q.P ops (Cls G) (fun a' => ∀ w', Cls G w' → Qr .normal a' w') l a
  | [], pl, own, s, a, G, hc, hq, h, hw => by
    obtain rfl : pl = [] := by simpa [compList] using hc.symm
    rintro w' ⟨G', hG, rfl⟩
    exact hK _ _ _ _ (h.keep hG) hw
  | o :: r, pl, own, s, a, G, hc, hq, h, hw => by
    simp only [compList] at hc
    split at hc
    · rename_i i g l hi hg hl
      obtain rfl := Option.some.inj hc
      obtain ⟨_, hd⟩ := does_compX hi
      have hqi : qOK i = true := hq _ (List.mem_cons_self ..)
      have hql : ∀ x ∈ l, qOK x.2.2 = true := fun x hx => hq x (List.mem_cons_of_mem _ hx)
      have hquiet : qstep (PCalls q.P) q.P q.T q.n0 o.dst i s (wpq (PCalls q.P) q.P q.T q.n0 l K) → o.quiet q.P a (Cls G) (wpQuiet q.P ops (Cls G) (fun a' => ∀ w', Cls G w' → Qr .normal a' w') r) := fun hs => by
        obtain ⟨v, p, h1, h2, h3, h4⟩ := still_qOK hi hqi h hs
        exact ⟨v, h1, wpq_sound hK r l hl hql (h.putO hd h2 h3) h4⟩
      unfold compGuard at hg
      split at hg
      · rename_i hgn
        obtain rfl := Option.some.inj hg
        unfold wpQuiet
        rw [if_pos (wanted_none hgn)]
        exact hquiet hw
      · rename_i j b hgs
        split at hg
        · rename_i t hj
          split at hg
          · rename_i ht
            obtain rfl := Option.some.inj hg
            obtain ⟨c, hc', h1, h2⟩ := hw
            unfold wpQuiet
            rw [guard_rd h hgs hj ht hc']
            by_cases hcb : c = true
            · rw [if_pos (by simpa using hcb)]
              exact hquiet (h1 hcb)
            · rw [if_neg (by simpa using hcb)]
              exact wpq_sound hK r l hl hql (h.putO hd Rd_undef noLin_undef) (h2 (by simpa using hcb))
          · cases hg
        · cases hg
    · cases hc

/-- boxes of the call's own are forgotten -/
theorem Base.forget (h : Base q own s G) {H1 : Nat → Option (List Value)} (hs : Sub q.n0 H1 s.H) :
    ∃ G', G'.w = G.w ∧ G'.fr = G.fr ∧ Base q own { s with H := H1 } G' ∧ Ext G G' ∧ ∀ {base : Nat} {pos : Pos} {e : Nat} {v : Value}, TokOK q.P G own base pos e v → TokOK q.P G' own base pos e v := by
  let G' : Gh := ⟨G.w, G.fr, fun k => match H1 k with | none => none | some _ => G.be k, G.nx⟩
  have hbe : ∀ k, G'.be k = G.be k ∨ G'.be k = none := fun k => by
    cases hH : H1 k with
    | none => right; show (match H1 k with | none => none | some _ => G.be k) = _; rw [hH]
    | some r => left; show (match H1 k with | none => none | some _ => G.be k) = _; rw [hH]
  have hbe' : ∀ k b, G'.be k = some b → G.be k = some b ∧ H1 k ≠ none := fun k b hk => by
    have hk' : (match H1 k with | none => none | some _ => G.be k) = some b := hk
    cases hH : H1 k with
    | none => rw [hH] at hk'; cases hk'
    | some r => rw [hH] at hk'; exact ⟨hk', by simp⟩
  have hsome : ∀ k row, H1 k = some row → s.H k = some row ∧ G'.be k = G.be k := fun k row hk => by
    refine ⟨?_, ?_⟩
    · rcases hs k with h1 | ⟨_, h1⟩
      · rw [← h1]; exact hk
      · rw [hk] at h1; cases h1
    · show (match H1 k with | none => none | some _ => G.be k) = _
      rw [hk]
  have hext : Ext G G' := ⟨Nat.le_refl _, fun _ _ _ _ hu => hu, fun _ _ => Nat.le_refl _, fun k b hk _ => by rw [← hk]; exact hbe k, fun k hk _ => by
    rcases hbe k with h1 | h1
    · rw [h1]; exact hk
    · exact h1⟩
  have htok : ∀ {base : Nat} {pos : Pos} {e : Nat} {v : Value}, TokOK q.P G own base pos e v → TokOK q.P G' own base pos e v := by
    intro base pos e v ht
    exact ht.turn (fun b _ hk => ⟨rfl, rfl, fun k hk' => hk k (hbe' k b hk').1⟩) (fun _ hg => hg)
  refine ⟨G', rfl, rfl, ⟨⟨fun k row hk => ?_, fun k hk => ?_, fun k hk => ?_, h.nx, h.n0, fun k k' b hk hk' => h.inj k k' b (hbe' k b hk).1 (hbe' k' b hk').1, fun g b hg hb => h.gl g b hg (hbe' g b hb).1, h.ng, h.ol⟩, fun k hk => ?_, h.frame, h.sz, h.os, h.tape, h.output, fun base k i e xs hob hp => ?_, fun k hk hT => ?_⟩, hext, htok⟩
  · obtain ⟨hH, hb⟩ := hsome k row hk
    obtain ⟨b, e, cs, fz, hb', hh, hsz, hr, hf, hB⟩ := h.ob k row hH
    exact ⟨b, e, cs, fz, by rw [hb]; exact hb', hh, hsz, fun i v p hv hp => ⟨(hr i v p hv hp).1, (hr i v p hv hp).2.mono hext⟩, hf, hB⟩
  · have hk' : H1 k = none := hk
    show (match H1 k with | none => none | some _ => G.be k) = none
    rw [hk']
  · rcases hs k with h1 | ⟨_, h1⟩
    · show H1 k = none
      rw [h1]; exact h.nxH k hk
    · exact h1
  · have h1 : H1 k = s.H k := by
      rcases hs k with h1 | ⟨h0, _⟩
      · exact h1
      · omega
    rw [← h.bo k hk]
    cases hH : s.H k with
    | none =>
      have : G'.be k = none := by
        show (match H1 k with | none => none | some _ => G.be k) = none
        rw [h1, hH]
      rw [this, h.bn k hH]
    | some row => exact (hsome k row (by rw [h1, hH])).2
  · have hp' : pcell H1 k i = lin e xs := hp
    cases hH : H1 k with
    | none => simp [pcell, hH, undef, lin] at hp'
    | some row =>
      obtain ⟨hH', hb⟩ := hsome k row hH
      have hrc : rcell G' k i = rcell G k i := by simp only [rcell, hb]; rfl
      rw [hrc]
      exact htok (h.ctok base k i e xs hob (by simpa [pcell, hH, hH'] using hp'))
  · rcases hs k with h1 | ⟨h0, _⟩
    · show H1 k = _
      rw [h1]; exact h.hh k hk hT
    · omega

theorem Inv.forget (h : Inv q own s a G) {H1 : Nat → Option (List Value)} (hs : Sub q.n0 H1 s.H) : ∃ G', G'.w = G.w ∧ Inv q own { s with H := H1 } a G' := by
  obtain ⟨G', hw, _, hb, hext, htok⟩ := h.toBase.forget hs
  exact ⟨G', hw, hb, h.size, h.defers, fun t ht => (h.tm t ht).mono hext, fun t e xs ht hp => htok (h.ttok t e xs ht hp), fun t i e xs ht hp => htok (h.utok t i e xs ht hp), fun b es hp => (h.mps b es hp).same (by rw [hw])⟩

theorem wpc_sound : ∀ (c : Code) (pc : PC) (Q : Ex → PS → Prop) {own : Nat → Option Pos} {s : PS} {a : Act} {G : Gh}, compCode q.P q.N bx c = some pc → Inv q own s a G → wpc (PCalls q.P) q.P q.T q.n0 pc Q s → c.wp q.P (Real q Q) a G.w
  | .skip, pc, Q, own, s, a, G, hc, h, hw => by
    obtain rfl : pc = .skip := by simpa [compCode] using hc.symm
    exact _root_.Go.wp_skip ⟨own, s, G, rfl, h, hw⟩
  | .region id ops false, pc, Q, own, s, a, G, hc, h, hw => by
    obtain ⟨pl, hl, rfl⟩ := Option.map_eq_some_iff.1 (show (compList q.P q.N (bm bx) ops ops.toList).map PC.reg = some pc from hc)
    exact wp_region_list (wpr_sound (K := Q .nrm) (fun own s a G h hw => ⟨own, s, G, rfl, h, hw⟩) ops.toList pl hl h hw)
  | .region id ops true, pc, Q, own, s, a, G, hc, h, hw => by
    simp only [compCode] at hc
    split at hc
    · rename_i l hl
      split at hc
      · rename_i hcond
        simp only [Bool.and_eq_true] at hcond
        obtain rfl := Option.some.inj hc
        refine wp_region_quiet (C := Cls G) hcond.2 hcond.1.2 ⟨⟨G.w.drew, G.fr, G.be, G.nx⟩, ⟨fun b _ => ⟨rfl, rfl⟩, rfl, rfl, Nat.le_refl _, rfl, rfl, rfl⟩, rfl⟩ ?_
        exact wpq_sound (K := Q .nrm) (fun own s a G h hw => ⟨own, s, G, rfl, h, hw⟩) ops.toList l hl (fun x hx => List.all_eq_true.1 hcond.1.1.1 x hx) h hw
      · split at hc
        · rename_i hcond
          simp only [Bool.and_eq_true] at hcond
          obtain rfl := Option.some.inj hc
          refine wp_region_any hcond.2 ?_
          have h' := h.keep (G' := ⟨G.w.drew, G.fr, G.be, G.nx⟩) ⟨fun b _ => ⟨rfl, rfl⟩, rfl, rfl, Nat.le_refl _, rfl, rfl, rfl⟩
          have hlen : l.length = ops.size := by rw [compList_len hl]; simp
          have hall : pendF (Array.replicate ops.size false) l 0 = l := pend_all _ _ _ (by omega)
          exact wanM_sound (K := Q .nrm) (fun own s a G h hw => ⟨own, s, G, rfl, h, hw⟩) hl _ _ h' (mon_wan hlen (fun y hy => List.all_eq_true.1 hcond.1.1.2 y hy) hcond.1.2 _ _ _ _ (by simp) (fun i o ho hi => by
            exfalso
            have hlt : i < ops.size := (Array.getElem?_eq_some_iff.1 ho).1
            simp [hlt] at hi) (by rw [hall]; omega) (by rw [hall]; exact hw))
        split at hc
        · rename_i hcond
          simp only [Bool.and_eq_true] at hcond
          obtain ⟨t, ht, rfl⟩ := Option.map_eq_some_iff.1 hc
          refine wp_region_any hcond.2 ?_
          have h' := h.keep (G' := ⟨G.w.drew, G.fr, G.be, G.nx⟩) ⟨fun b _ => ⟨rfl, rfl⟩, rfl, rfl, Nat.le_refl _, rfl, rfl, rfl⟩
          exact wan_sound (K := Q .nrm) (fun own s a G h hw => ⟨own, s, G, rfl, h, hw⟩) hl _ _ h' (mkM_sound q.P q.T q.n0 (by rw [compList_len hl]; simp) (fun y hy => List.all_eq_true.1 hcond.1 y hy) _ _ 0 t _ _ ⟨by simp, fun i hi => by simp [hi], fun i _ => by simp⟩ ht hw)
        · cases hc
    · cases hc
  | .seq x y, pc, Q, own, s, a, G, hc, h, hw => by
    simp only [compCode] at hc
    split at hc
    · rename_i px py hx hy
      obtain rfl := Option.some.inj hc
      refine wp_seq (wp_mono (wpc_sound x px _ hx h hw) fun e a' w' hr => ?_)
      obtain ⟨own', s', G', rfl, h', hq⟩ := hr
      cases e with
      | normal => exact wpc_sound y py Q hy h' hq
      | exit id => exact ⟨own', s', G', rfl, h', hq⟩
      | ret => exact ⟨own', s', G', rfl, h', hq⟩
      | goto l => exact ⟨own', s', G', rfl, h', hq⟩
      | _ => exact hq.elim
    · cases hc
  | .cond c x y, pc, Q, own, s, a, G, hc, h, hw => by
    simp only [compCode] at hc
    split at hc
    · rename_i px py hx hy
      split at hc
      · rename_i hok
        obtain rfl := Option.some.inj hc
        obtain ⟨b, hb, h1, h2⟩ := hw
        refine wp_cond_split (rd_bool (h.rd hok) hb).1 (fun e => wpc_sound x px Q hx h (h1 e)) (fun e => wpc_sound y py Q hy h (h2 e))
      · cases hc
    · cases hc
  | .block id c, pc, Q, own, s, a, G, hc, h, hw => by
    obtain ⟨p, hp, rfl⟩ := Option.map_eq_some_iff.1 (show (compCode q.P q.N bx c).map (PC.block id) = some pc from hc)
    refine wp_block (wp_mono (wpc_sound c p _ hp h hw) fun e a' w' hr => ?_)
    obtain ⟨own', s', G', rfl, h', hq⟩ := hr
    cases e with
    | normal => exact ⟨own', s', G', rfl, h', hq⟩
    | exit id' =>
      simp only [Exit.inBlock]
      simp only at hq
      split at hq
      · rename_i e; rw [if_pos e]; exact ⟨own', s', G', rfl, h', hq⟩
      · rename_i e; rw [if_neg e]; exact ⟨own', s', G', rfl, h', hq⟩
    | ret => exact ⟨own', s', G', rfl, h', hq⟩
    | goto l => exact ⟨own', s', G', rfl, h', hq⟩
    | _ => exact hq.elim
  | .loop c, pc, Q, own, s, a, G, hc, h, hw => by
    obtain ⟨p, hp, rfl⟩ := Option.map_eq_some_iff.1 (show (compCode q.P q.N bx c).map PC.loop = some pc from hc)
    obtain ⟨I, μ, h0, hround⟩ := hw
    have key : ∀ n own s a G, μ s = n → I s → Inv q own s a G → ∀ b k cs, ∃ e a' w', Real q Q e a' w' ∧ Arrives q.P (lone (b.at a (.code c :: .inLoop c :: k)) cs G.w) b k cs e a' w' := by
      intro n
      induction n using Nat.strongRecOn with
      | _ n ih =>
        intro own s a G hn hI h b k cs
        obtain ⟨e, a₁, w₁, hq, harr⟩ := wpc_sound c p _ hp h (hround s hI) b (.inLoop c :: k) cs
        obtain ⟨own₁, s₁, G₁, rfl, h₁, hq⟩ := hq
        cases e with
        | normal =>
          obtain ⟨H1, hsub, hI₁, hlt⟩ := hq
          obtain ⟨G₂, hw₂, h₂⟩ := h₁.forget hsub
          obtain ⟨e₂, a₂, w₂, hq₂, harr₂⟩ := ih _ (hn ▸ hlt) own₁ _ a₁ G₂ rfl hI₁ h₂ b k cs
          rw [hw₂] at harr₂
          exact ⟨e₂, a₂, w₂, hq₂, .of_steps (Steps.trans harr (.one step_inLoop)) harr₂⟩
        | exit id => exact ⟨_, a₁, _, ⟨own₁, s₁, G₁, rfl, h₁, hq⟩, .pass (x := .inLoop c) rfl (fun _ _ => .inl (by simp)) harr⟩
        | ret => exact ⟨_, a₁, _, ⟨own₁, s₁, G₁, rfl, h₁, hq⟩, .pass (x := .inLoop c) rfl (fun _ _ => .inl (by simp)) harr⟩
        | goto l => exact ⟨_, a₁, _, ⟨own₁, s₁, G₁, rfl, h₁, hq⟩, .pass (x := .inLoop c) rfl (fun _ _ => .inl (by simp)) harr⟩
        | _ => exact hq.elim
    intro b k cs
    obtain ⟨e, a', w', hq, harr⟩ := key _ own s a G rfl h0 h b k cs
    exact ⟨e, a', w', hq, .of_steps (.one step_loop) harr⟩
  | .exit id, pc, Q, own, s, a, G, hc, h, hw => by
    obtain rfl : pc = .exit id := by simpa [compCode] using hc.symm
    exact wp_exit ⟨own, s, G, rfl, h, hw⟩
  | .ret, pc, Q, own, s, a, G, hc, h, hw => by
    obtain rfl : pc = .ret := by simpa [compCode] using hc.symm
    exact wp_ret ⟨own, s, G, rfl, h, hw⟩
  | .rangeFunc .., pc, Q, own, s, a, G, hc, h, hw => by simp [compCode] at hc
  | .label l, pc, Q, own, s, a, G, hc, h, hw => by
    obtain rfl : pc = .skip := by simpa [compCode] using hc.symm
    exact wp_label ⟨own, s, G, rfl, h, hw⟩
  | .goto l, pc, Q, own, s, a, G, hc, h, hw => by
    obtain rfl : pc = .goto l := by simpa [compCode] using hc.symm
    exact wp_goto ⟨own, s, G, rfl, h, hw⟩
  | .scope (.seq x (.seq (.label l) r)), pc, Q, own, s, a, G, hc, h, hw => by
    have hc' : (match findLabel x l, compCode q.P q.N bx x, compCode q.P q.N bx r with
      | none, some x, some y => some (PC.scope l x y)
      | _, _, _ => none) = some pc := by simpa only [compCode] using hc
    split at hc'
    · rename_i px py hf hx hr
      obtain rfl := Option.some.inj hc'
      obtain ⟨J, μ, h0, hpass⟩ := hw
      have hfl : findLabel (.seq x (.seq (.label l) r)) l = some (.seq .skip r) := by simp [findLabel, hf]
      have hg : ∀ k, gotoIn l (.inScope (.seq x (.seq (.label l) r)) :: k) = some (.code (.seq .skip r) :: .inScope (.seq x (.seq (.label l) r)) :: k) := fun k => by simp [gotoIn, hfl]
      have key : ∀ n own s a G, μ s = n → J s → Inv q own s a G → ∀ b k cs, ∃ e a' w', Real q Q e a' w' ∧ Arrives q.P (lone (b.at a (.code (.seq .skip r) :: .inScope (.seq x (.seq (.label l) r)) :: k)) cs G.w) b k cs e a' w' := by
        intro n
        induction n using Nat.strongRecOn with
        | _ n ih =>
          intro own s a G hn hJ h b k cs
          have h1 := wpc_sound r py _ hr h (hpass s hJ)
          obtain ⟨e, a₁, w₁, hq, harr⟩ := wp_seq (x := .skip) (y := r) (_root_.Go.wp_skip h1) b (.inScope (.seq x (.seq (.label l) r)) :: k) cs
          obtain ⟨own₁, s₁, G₁, rfl, h₁, hq⟩ := hq
          cases e with
          | normal => exact ⟨.normal, a₁, _, ⟨own₁, s₁, G₁, rfl, h₁, hq⟩, Steps.trans harr (.one step_inScope)⟩
          | exit id => exact ⟨.exit id, a₁, _, ⟨own₁, s₁, G₁, rfl, h₁, hq⟩, fun k' hk => harr k' (by simp [exitTo, hk])⟩
          | goto l' =>
            obtain ⟨rfl, H1, hsub, hJ₁, hlt⟩ := hq
            obtain ⟨G₂, hw₂, h₂⟩ := h₁.forget hsub
            obtain ⟨e₂, a₂, w₂, hq₂, harr₂⟩ := ih _ (hn ▸ hlt) own₁ _ a₁ G₂ rfl hJ₁ h₂ b k cs
            rw [hw₂] at harr₂
            exact ⟨e₂, a₂, w₂, hq₂, .of_steps (harr _ (hg k)) harr₂⟩
          | ret => exact ⟨.ret, a₁, _, ⟨own₁, s₁, G₁, rfl, h₁, hq⟩, harr⟩
          | _ => exact hq.elim
      intro b k cs
      have hfirst : (Code.seq x (.seq (.label l) r)).wp q.P (fun e a w => match e with
          | .goto l' => ∃ own s G, G.w = w ∧ Inv q own s a G ∧ l' = l ∧ J s
          | e => Real q Q e a w) a G.w := by
        refine wp_seq (wp_mono (wpc_sound x px _ hx h h0) fun e a' w' hr' => ?_)
        obtain ⟨own', s', G', rfl, h', hq⟩ := hr'
        cases e with
        | normal =>
          refine wp_seq (wp_label ?_)
          refine wp_mono (wpc_sound r py _ hr h' (hpass s' hq)) fun e a' w' hr' => ?_
          obtain ⟨own', s', G', rfl, h', hq⟩ := hr'
          cases e with
          | normal => exact ⟨own', s', G', rfl, h', hq⟩
          | exit id => exact ⟨own', s', G', rfl, h', hq⟩
          | goto l' =>
            obtain ⟨rfl, H1, hsub, hJ₁, _⟩ := hq
            obtain ⟨G₂, hw₂, h₂⟩ := h'.forget hsub
            exact ⟨_, _, G₂, hw₂, h₂, rfl, hJ₁⟩
          | ret => exact ⟨own', s', G', rfl, h', hq⟩
          | _ => exact hq.elim
        | exit id => exact ⟨own', s', G', rfl, h', hq⟩
        | ret => exact ⟨own', s', G', rfl, h', hq⟩
        | goto l' => exact hq.elim
        | _ => exact hq.elim
      obtain ⟨e, a₁, w₁, hq, harr⟩ := hfirst b (.inScope (.seq x (.seq (.label l) r)) :: k) cs
      cases e with
      | normal => exact ⟨.normal, a₁, w₁, hq, .head step_scope (Steps.trans harr (.one step_inScope))⟩
      | exit id => exact ⟨.exit id, a₁, w₁, hq, fun k' hk => .head step_scope (harr k' (by simp [exitTo, hk]))⟩
      | goto l' =>
        obtain ⟨own₁, s₁, G₁, rfl, h₁, rfl, hJ₁⟩ := hq
        obtain ⟨e₂, a₂, w₂, hq₂, harr₂⟩ := key _ own₁ s₁ a₁ G₁ rfl hJ₁ h₁ b k cs
        exact ⟨e₂, a₂, w₂, hq₂, .of_steps (.head step_scope (harr _ (hg k))) harr₂⟩
      | ret => exact ⟨.ret, a₁, w₁, hq, .of_steps (.one step_scope) harr⟩
      | panic ch =>
        obtain ⟨_, _, _, _, _, hq⟩ := hq
        exact hq.elim
      | outgrown =>
        obtain ⟨_, _, _, _, _, hq⟩ := hq
        exact hq.elim
    · cases hc'
  | .scope .skip, pc, Q, own, s, a, G, hc, h, hw => by simp [compCode] at hc
  | .scope (.region ..), pc, Q, own, s, a, G, hc, h, hw => by simp [compCode] at hc
  | .scope (.cond ..), pc, Q, own, s, a, G, hc, h, hw => by simp [compCode] at hc
  | .scope (.block ..), pc, Q, own, s, a, G, hc, h, hw => by simp [compCode] at hc
  | .scope (.loop ..), pc, Q, own, s, a, G, hc, h, hw => by simp [compCode] at hc
  | .scope (.exit ..), pc, Q, own, s, a, G, hc, h, hw => by simp [compCode] at hc
  | .scope .ret, pc, Q, own, s, a, G, hc, h, hw => by simp [compCode] at hc
  | .scope (.rangeFunc ..), pc, Q, own, s, a, G, hc, h, hw => by simp [compCode] at hc
  | .scope (.scope ..), pc, Q, own, s, a, G, hc, h, hw => by simp [compCode] at hc
  | .scope (.label ..), pc, Q, own, s, a, G, hc, h, hw => by simp [compCode] at hc
  | .scope (.goto ..), pc, Q, own, s, a, G, hc, h, hw => by simp [compCode] at hc
  | .scope (.refuse ..), pc, Q, own, s, a, G, hc, h, hw => by simp [compCode] at hc
  | .scope (.seq _ .skip), pc, Q, own, s, a, G, hc, h, hw => by simp [compCode] at hc
  | .scope (.seq _ (.region ..)), pc, Q, own, s, a, G, hc, h, hw => by simp [compCode] at hc
  | .scope (.seq _ (.cond ..)), pc, Q, own, s, a, G, hc, h, hw => by simp [compCode] at hc
  | .scope (.seq _ (.block ..)), pc, Q, own, s, a, G, hc, h, hw => by simp [compCode] at hc
  | .scope (.seq _ (.loop ..)), pc, Q, own, s, a, G, hc, h, hw => by simp [compCode] at hc
  | .scope (.seq _ (.exit ..)), pc, Q, own, s, a, G, hc, h, hw => by simp [compCode] at hc
  | .scope (.seq _ .ret), pc, Q, own, s, a, G, hc, h, hw => by simp [compCode] at hc
  | .scope (.seq _ (.rangeFunc ..)), pc, Q, own, s, a, G, hc, h, hw => by simp [compCode] at hc
  | .scope (.seq _ (.scope ..)), pc, Q, own, s, a, G, hc, h, hw => by simp [compCode] at hc
  | .scope (.seq _ (.label ..)), pc, Q, own, s, a, G, hc, h, hw => by simp [compCode] at hc
  | .scope (.seq _ (.goto ..)), pc, Q, own, s, a, G, hc, h, hw => by simp [compCode] at hc
  | .scope (.seq _ (.refuse ..)), pc, Q, own, s, a, G, hc, h, hw => by simp [compCode] at hc
  | .scope (.seq _ (.seq .skip _)), pc, Q, own, s, a, G, hc, h, hw => by simp [compCode] at hc
  | .scope (.seq _ (.seq (.region ..) _)), pc, Q, own, s, a, G, hc, h, hw => by simp [compCode] at hc
  | .scope (.seq _ (.seq (.cond ..) _)), pc, Q, own, s, a, G, hc, h, hw => by simp [compCode] at hc
  | .scope (.seq _ (.seq (.block ..) _)), pc, Q, own, s, a, G, hc, h, hw => by simp [compCode] at hc
  | .scope (.seq _ (.seq (.loop ..) _)), pc, Q, own, s, a, G, hc, h, hw => by simp [compCode] at hc
  | .scope (.seq _ (.seq (.exit ..) _)), pc, Q, own, s, a, G, hc, h, hw => by simp [compCode] at hc
  | .scope (.seq _ (.seq .ret _)), pc, Q, own, s, a, G, hc, h, hw => by simp [compCode] at hc
  | .scope (.seq _ (.seq (.rangeFunc ..) _)), pc, Q, own, s, a, G, hc, h, hw => by simp [compCode] at hc
  | .scope (.seq _ (.seq (.scope ..) _)), pc, Q, own, s, a, G, hc, h, hw => by simp [compCode] at hc
  | .scope (.seq _ (.seq (.goto ..) _)), pc, Q, own, s, a, G, hc, h, hw => by simp [compCode] at hc
  | .scope (.seq _ (.seq (.refuse ..) _)), pc, Q, own, s, a, G, hc, h, hw => by simp [compCode] at hc
  | .scope (.seq _ (.seq (.seq ..) _)), pc, Q, own, s, a, G, hc, h, hw => by simp [compCode] at hc
  | .refuse .., pc, Q, own, s, a, G, hc, h, hw => by simp [compCode] at hc

end
end Go.PE
namespace Go.PE
open Go

inductive RV where
  | t (r : Nat)
  | cA (r n : Nat)
  | c1 (r : Nat)
  deriving DecidableEq

def resV (s : PS) : RV → Option Value
  | .t r => some (s.t r)
  | .cA r n => match lead s.H (s.ev (.tmp r)) with
    | some (row, off) => if off + n ≤ row.length then some (ag (((row.drop off).take n).map dg1)) else none
    | none => none
  | .c1 r => match lead s.H (s.ev (.tmp r)) with
    | some (row, off) => (row[off]?).map dg1
    | none => none
def resL (s : PS) : List RV → Option (List Value)
  | [] => some []
  | r :: rs => match resV s r, resL s rs with
    | some p, some ps => some (p :: ps)
    | _, _ => none
def oneOr (ps : List Value) : Value := match ps with | [p] => p | ps => tup ps

section compile
variable (P : Program) (N : Nat)
def compRes : List ResultVar → Option (List RV)
  | [] => some []
  | .tmp t :: r => if t < N then (compRes r).map (.t t :: ·) else none
  | .cell a ty :: r => if a < N then (match isAggB P ty, sz P ty with
    | some true, some n => (compRes r).map (.cA a n :: ·)
    | some false, _ => (compRes r).map (.c1 a :: ·)
    | _, _ => none) else none
/-- a function: how many slots, its code, its results -/
def compFnX (bx : List Nat) (f : Nat) : Option (Nat × PC × List RV) :=
  match P.funcs[f]? with
  | some fn => match fn.body with
    | some c => match compCode P fn.ntmps bx c, compRes P fn.ntmps fn.results.toList with
      | some pc, some rvs => if decide rvs.Nodup then some (fn.ntmps, pc, rvs) else none
      | _, _ => none
    | none => none
  | none => none
/-- no slices in boxes -/
def compFn (f : Nat) : Option (Nat × PC × List RV) := compFnX P [] f
end compile

/-- the frame at a function's beginning -/
def start (args : List Value) : Nat → Value := fun t => dg (args.getD t undef)

/-- what is owed at a function's end -/
def fin (n0 : Nat) (rvs : List RV) (R : Post) : Ex → PS → Prop
  | .ext _, _ => False
  | .go _, _ => False
  | _, s => ∃ ps, resL s rvs = some ps ∧ ∃ H1 ps', Sub n0 H1 s.H ∧ Cvs n0 s.H H1 ps ps' ∧ R (oneOr ps') H1 s.nx

section
variable {q : Par} {own : Nat → Option Pos} {s : PS} {a : Act} {G : Gh}

/-- a result, as the model reads it -/
def rvSem (a : Act) : ResultVar → Sem Value
  | .tmp t => pure (a.tmps.getD t undef)
  | .cell c t => do loadVar t (← Go.asAddr (a.tmps.getD c undef))

theorem resV_run (h : Inv q own s a G) {rv : ResultVar} {r : RV} {p : Value} (hc : compRes q.P q.N [rv] = some [r]) (hp : resV s r = some p) :
    ∃ v, (rvSem a rv).run q.P G.w = .ok v G.w ∧ Rd G v p ∧
      ((∃ t, r = .t t ∧ t < q.N ∧ v = a.tmps.getD t undef ∧ p = s.t t) ∨ noLin p) := by
  cases rv with
  | tmp t =>
    simp only [compRes] at hc
    split at hc
    · rename_i ht
      simp at hc
      subst hc
      simp only [resV, Option.some.injEq] at hp
      subst hp
      exact ⟨_, by simp [rvSem], h.tm t ht, .inl ⟨t, rfl, ht, rfl, rfl⟩⟩
    · cases hc
  | cell c ty =>
    simp only [compRes] at hc
    split at hc
    · rename_i ht
      have hok : okOpd q.P q.N (.tmp c) = true := by simpa [okOpd] using ht
      have hev : a.eval (.tmp c) = a.tmps.getD c undef := rfl
      split at hc
      · rename_i n ha hn
        simp at hc
        subst hc
        simp only [resV] at hp
        split at hp
        · rename_i row off hl
          split at hp
          · rename_i hle
            obtain rfl := Option.some.inj hp
            obtain ⟨v, p, hr, hnl, hk, hrun⟩ := still_ldA (C := PCalls q.P) (q := q) (o := { dst := none, op := .load ty (.tmp c), type := ty, pos := "", after := #[], guard := none }) rfl ha hn hok own s a G (fun _ => True) h ⟨row, off, hl, hle, trivial⟩
            -- once more, with the value at hand
            obtain ⟨ad, vs, hv, hlen, hcl, hrl⟩ := rd_lead h (h.rd hok) hl
            have hrun' : (loadCells ad n).run q.P G.w = .ok (vs.take n).toArray G.w := by
              have := run_loadCells_list (P := q.P) G.w ad (vs.take n) (fun j u hu => by
                rw [List.getElem?_take] at hu
                split at hu
                · exact (hcl j u hu).1
                · cases hu)
              rwa [List.length_take, hlen, Nat.min_eq_left (by omega)] at this
            refine ⟨ag (vs.take n), ?_, ?_, .inr (noLin_ag _)⟩
            · show Sem.run q.P (do loadVar ty (← Go.asAddr (a.tmps.getD c undef)) : Sem Value) G.w = _
              rw [← hev, hv]
              simp [Go.asAddr, loadVar, run_isAgg' ha, run_sizeOf' hn, hrun', ag]
            · refine .agg _ _ (by simp [hlen]) (fun u hu => ?_) (fun e xs hm => ?_) (fun j u y hu hy => ?_)
              · obtain ⟨j, hj⟩ := List.getElem?_of_mem hu
                rw [List.getElem?_take] at hj
                split at hj
                · exact (hcl j u hj).2
                · cases hj
              · obtain ⟨y, _, hy⟩ := List.mem_map.1 hm
                exact dg1_ne_lin y e xs hy
              · rw [List.getElem?_take] at hu
                split at hu
                · rename_i hj
                  simp only [List.getElem?_map, List.getElem?_take, hj, if_true, List.getElem?_drop, Option.map_eq_some_iff] at hy
                  obtain ⟨y', hy', rfl⟩ := hy
                  exact Rd_dg1 (hrl j u y' hu hy')
                · cases hu
          · cases hp
        · cases hp
      · rename_i ha
        simp at hc
        subst hc
        simp only [resV] at hp
        split at hp
        · rename_i row off hl
          obtain ⟨cc, hcc, rfl⟩ := Option.map_eq_some_iff.1 hp
          obtain ⟨ad, vs, hv, hlen, hcl, hrl⟩ := rd_lead h (h.rd hok) hl
          have hlt : off < row.length := (List.getElem?_eq_some_iff.1 hcc).1
          have hu : vs[0]? = some (vs[0]'(by omega)) := List.getElem?_eq_getElem _
          have hrd := hrl 0 _ cc hu (by simpa using hcc)
          obtain ⟨hcu, h1⟩ := hcl 0 _ hu
          have hcu' : G.w.cell? ad = some (vs[0]'(by omega)) := by simpa [Addr.add] using hcu
          refine ⟨vs[0]'(by omega), ?_, Rd_dg1 hrd, .inr (noLin_one (dg1_oneCell (oneCell_row hrd h1)) (dg1_ne_lin _))⟩
          show Sem.run q.P (do loadVar ty (← Go.asAddr (a.tmps.getD c undef)) : Sem Value) G.w = _
          rw [← hev, hv]
          simp [Go.asAddr, loadVar, run_isAgg' ha, hcu']
        · cases hp
      · cases hc
    · cases hc

theorem compRes_cons {P : Program} {N : Nat} {rv : ResultVar} {rs : List ResultVar} {rvs : List RV} (h : compRes P N (rv :: rs) = some rvs) : ∃ r l, compRes P N [rv] = some [r] ∧ compRes P N rs = some l ∧ rvs = r :: l := by
  cases rv with
  | tmp t =>
    simp only [compRes] at h ⊢
    split at h
    · obtain ⟨l, hl, rfl⟩ := Option.map_eq_some_iff.1 h
      exact ⟨.t t, l, by simp [*], hl, rfl⟩
    · cases h
  | cell c ty =>
    simp only [compRes] at h ⊢
    split at h
    · split at h
      · rename_i n _ _
        obtain ⟨l, hl, rfl⟩ := Option.map_eq_some_iff.1 h
        exact ⟨.cA c n, l, by simp [*], hl, rfl⟩
      · obtain ⟨l, hl, rfl⟩ := Option.map_eq_some_iff.1 h
        exact ⟨.c1 c, l, by simp [*], hl, rfl⟩
      · cases h
    · cases h

theorem resL_run (h : Inv q own s a G) : ∀ (rs : List ResultVar) (rvs : List RV) (ps : List Value), compRes q.P q.N rs = some rvs → resL s rvs = some ps →
    ∃ vs : List Value, (rs.mapM (rvSem a)).run q.P G.w = .ok vs G.w ∧ vs.length = ps.length ∧ rvs.length = ps.length ∧
      ∀ (i : Nat) v p r, vs[i]? = some v → ps[i]? = some p → rvs[i]? = some r → Rd G v p ∧ ((∃ t, r = .t t ∧ t < q.N ∧ v = a.tmps.getD t undef ∧ p = s.t t) ∨ noLin p)
  | [], rvs, ps, hc, hp => by
    obtain rfl : rvs = [] := by simpa [compRes] using hc.symm
    obtain rfl : ps = [] := by simpa [resL] using hp.symm
    exact ⟨[], by simp, rfl, rfl, fun i v p r hv => by simp at hv⟩
  | rv :: rs, rvs, ps, hc, hp => by
    obtain ⟨r, l, h1, h2, rfl⟩ := compRes_cons hc
    simp only [resL] at hp
    split at hp
    · rename_i p ps' hp1 hp2
      obtain rfl := Option.some.inj hp
      obtain ⟨v, e1, e2, e3⟩ := resV_run h h1 hp1
      obtain ⟨vs, f1, f2, f3, f4⟩ := resL_run h rs l ps' h2 hp2
      refine ⟨v :: vs, ?_, by simp [f2], by simp [f3], fun i v' p' r' hv hp hr => ?_⟩
      · simp only [List.mapM_cons, Sem.run_bind, Sem.run_pure]
        rw [e1]
        simp only [Result.andThen_ok]
        rw [f1]
        rfl
      · cases i with
        | zero =>
          simp at hv hp hr
          subst hv hp hr
          exact ⟨e2, e3⟩
        | succ i => exact f4 i v' p' r' (by simpa using hv) (by simpa using hp) (by simpa using hr)
    · cases hp

theorem Entry.inv {P : Program} {T : Nat → Prop} {H : Nat → Option (List Value)} {nx : Nat} (hE : Entry P T H nx own G) (N : Nat) (vs args : List Value) (hl : vs.length = args.length) (hN : vs.length ≤ N)
    (hr : ∀ (i : Nat) v p, vs[i]? = some v → args[i]? = some p → Rd G v p) :
    Inv ⟨P, G, T, nx, N, H⟩ own ⟨start args, H, nx⟩ { tmps := vs.toArray ++ Array.replicate (N - vs.length) undef, defers := [] } G where
  ob := hE.heap.ob
  bn := hE.heap.bn
  nxH := hE.heap.nxH
  nx := hE.heap.nx
  n0 := Nat.le_refl _
  inj := hE.heap.inj
  gl := hE.heap.gl
  ng := hE.heap.ng
  ol := hE.heap.ol
  bo := fun _ _ => rfl
  frame := fun _ _ _ => ⟨rfl, rfl⟩
  sz := Nat.le_refl _
  os := rfl
  tape := rfl
  output := rfl
  ctok := fun base k i e xs hob hp => by
    rcases hob with rfl | ⟨hT | hT, _⟩
    · exact hE.ctok k i e xs hp
    · exfalso
      have hp' : pcell H k i = lin e xs := hp
      cases hH : H k with
      | none => simp [pcell, hH, undef, lin] at hp'
      | some row =>
        have : row.getD i undef = lin e xs := by simpa [pcell, hH] using hp'
        exact hE.nolin k row hT hH i e xs this
    · exfalso
      have hp' : pcell H k i = lin e xs := hp
      have : H k = none := hE.heap.nxH k hT
      simp [pcell, this, undef, lin] at hp'
  hh := fun _ _ _ => rfl
  size := by simp; omega
  defers := rfl
  tm := fun t ht => by
    simp only [start]
    have hg : (vs.toArray ++ Array.replicate (N - vs.length) undef).getD t undef = vs.getD t undef := by
      rw [Array.getD_eq_getD_getElem?, List.getD_eq_getElem?_getD]
      by_cases hv : t < vs.length
      · rw [Array.getElem?_append_left (by simpa using hv)]; simp
      · rw [Array.getElem?_append_right (by simpa using hv)]
        rw [List.getElem?_eq_none (by omega)]
        simp only [Option.getD_none, List.size_toArray, Array.getElem?_replicate]
        split <;> rfl
    rw [hg]
    by_cases hv : t < vs.length
    · have h1 : vs[t]? = some vs[t] := List.getElem?_eq_getElem hv
      have h2 : args[t]? = some (args[t]'(by omega)) := List.getElem?_eq_getElem _
      rw [List.getD_eq_getElem?_getD, List.getD_eq_getElem?_getD, h1, h2]
      exact Rd_dg (hr t _ _ h1 h2)
    · rw [List.getD_eq_getElem?_getD, List.getD_eq_getElem?_getD, List.getElem?_eq_none (by omega), List.getElem?_eq_none (by omega)]
      exact Rd_undef
  ttok := fun t e xs _ hp => absurd hp ((noLin_dg _).1 e xs)
  utok := fun t i e xs _ hp => absurd hp ((noLin_dg _).2 i e xs)
  mps := fun b es hp => by
    have hp' : dg (args.getD (N + b) undef) = mpe es := hp
    rw [List.getD_eq_getElem?_getD, List.getElem?_eq_none (by omega)] at hp'
    simp [undef, mpe, dg, dg1] at hp'

/-- the labels at a function's end -/
def outlab (rvs : List RV) : Option Pos → Option Pos
  | some (.cell k i) => some (.cell k i)
  | some (.tmp u) => if rvs = [.t u] then some (.tmp 0) else (rvs.idxOf? (.t u)).map (.tup 0 ·)
  | some (.tup u i) => if rvs = [.t u] then some (.tup 0 i) else none
  | none => none

theorem idxOf_nodup {α : Type} [BEq α] [LawfulBEq α] : ∀ (l : List α), l.Nodup → ∀ (i : Nat) x, l[i]? = some x → l.idxOf? x = some i
  | [], _, i, x, h => by simp at h
  | y :: l, hn, 0, x, h => by simp at h; subst h; simp [List.idxOf?_cons]
  | y :: l, hn, i + 1, x, h => by
    have hx : l[i]? = some x := by simpa using h
    have hne : y ≠ x := fun e => by subst e; exact (List.nodup_cons.1 hn).1 (List.mem_of_getElem? hx)
    rw [List.idxOf?_cons, idxOf_nodup l (List.nodup_cons.1 hn).2 i x hx]
    simp [hne]

/-- FROM A FUNCTION's PURE CODE TO WHAT A CALLER KNOWS OF IT -/
theorem PCalls_ofX {P : Program} {bx : List Nat} {f N : Nat} {pc : PC} {rvs : List RV} {args : List Value} {H : Nat → Option (List Value)} {nx : Nat} {T : Nat → Prop} {R : Post} (hf : compFnX P bx f = some (N, pc, rvs)) (hN : args.length ≤ N)
    (hw : (∀ k, nx ≤ k → H k = none) → wpc (PCalls P) P T nx pc (fin nx rvs R) ⟨start args, H, nx⟩) : PCalls P f args H nx T R := by
  intro G own vs hE hl hr
  unfold compFnX at hf
  split at hf
  · rename_i fn hfn
    split at hf
    · rename_i c hb
      split at hf
      · rename_i pc' rvs' hc hcr
        split at hf
        · rename_i hnd
          simp only [Option.some.injEq, Prod.mk.injEq] at hf
          obtain ⟨rfl, rfl, rfl⟩ := hf
          have hnd' : rvs'.Nodup := of_decide_eq_true hnd
          have hinv := hE.inv fn.ntmps vs args hl (by omega) hr
          refine calls_of_wp hfn hb ?_
          have hwp := wpc_sound (q := ⟨P, G, T, nx, fn.ntmps, H⟩) c pc' (fin nx rvs' R) hc hinv (hw hE.heap.nxH)
          rw [show vs.toArray.size = vs.length by simp]
          refine wp_mono hwp fun e a' w' hreal => ?_
          obtain ⟨own', s', G', rfl, h', hq⟩ := hreal
          have main : fin nx rvs' R .rt s' → a'.defers = [] ∧ ∃ v, (results fn a'.tmps).run P G'.w = .ok v G'.w ∧
              (∃ v' p G'' own'' H' nx', G''.w = G'.w ∧ Ending.returned v = .returned v' ∧ Left ⟨P, G, T, nx, 0, H⟩ own'' H' nx' G'' v' p ∧ R p H' nx') := by
            rintro ⟨ps0, hps, H1, ps, hsub, hcvs, hR⟩
            obtain ⟨rvals, hrun, hlen0, hlen0', hrd0⟩ := resL_run h' fn.results.toList rvs' ps0 hcr hps
            obtain ⟨hb2, hext2, htok2⟩ := h'.toBase.freeze hsub
            have hw2 : (frz G' H1).w = G'.w := rfl
            have hlen : rvals.length = ps.length := by rw [hlen0]; exact hcvs.1
            have hlen' : rvs'.length = ps.length := by rw [hlen0']; exact hcvs.1
            have hrd : ∀ (i : Nat) v p r, rvals[i]? = some v → ps[i]? = some p → rvs'[i]? = some r → Rd (frz G' H1) v p ∧ ((∃ t, r = .t t ∧ t < fn.ntmps ∧ v = a'.tmps.getD t undef ∧ p = s'.t t) ∨ noLin p) := by
              intro i v p r hv hp hr
              have hi : i < ps0.length := by rw [← hlen0]; exact (List.getElem?_eq_some_iff.1 hv).1
              have hp0 : ps0[i]? = some ps0[i] := List.getElem?_eq_getElem hi
              obtain ⟨h1, h2⟩ := hrd0 i v _ r hv hp0 hr
              have hc := hcvs.2 i _ p hp0 hp
              refine ⟨Cv_rd h'.toBase hsub h1 hc, ?_⟩
              rcases hc with (hc | ⟨k, off, n, cap, size, row, xs, _, hc, _⟩) | ⟨l, l', _, hc, _⟩
              · rw [hc]; exact h2
              · rw [hc]; exact .inr (noLin_deep _)
              · rw [hc]; exact .inr (noLin_ag _)
            let G'' : Gh := frz G' H1
            have hrunA : (fn.results.mapM (rvSem a')).run P G'.w = .ok rvals.toArray G'.w := by
              rw [Array.mapM_eq_mapM_toList]
              show Sem.run P (Bind.bind (fn.results.toList.mapM (rvSem a')) (Pure.pure ∘ List.toArray)) G'.w = _
              rw [Sem.run_bind, hrun]
              rfl
            -- the labels
            let own'' : Nat → Option Pos := fun g => outlab rvs' (own' g)
            have htokc : ∀ {base : Nat} {k i : Nat} {e : Nat} {v : Value}, TokOK P G'' own' base (.cell k i) e v → TokOK P G'' own'' base (.cell k i) e v := by
              intro base k i e v ht
              exact ht.own_of fun g _ _ _ ho => by simp [own'', ho, outlab]
            have hbase : Base ⟨P, G, T, nx, 0, H⟩ own'' ⟨fun _ => undef, H1, s'.nx⟩ G'' :=
              ⟨⟨hb2.ob, hb2.bn, hb2.nxH, hb2.nx, hb2.n0, hb2.inj, hb2.gl, hb2.ng, fun g pos hg => by
                  have hg' : outlab rvs' (own' g) = some pos := hg
                  cases ho : own' g with
                  | none => rw [ho] at hg'; simp [outlab] at hg'
                  | some p => exact hb2.ol g p ho⟩,
                hb2.bo, hb2.frame, hb2.sz, hb2.os, hb2.tape, hb2.output, fun base k i e xs hob hp => htokc (hb2.ctok base k i e xs hob hp), hb2.hh⟩
            refine ⟨h'.defers, if h : rvals.toArray.size = 1 then rvals.toArray[0] else .tuple rvals.toArray, ?_, ?_⟩
            · show Sem.run P (Bind.bind (fn.results.mapM (rvSem a')) fun vs => Pure.pure (if h : vs.size = 1 then vs[0] else .tuple vs)) G'.w = _
              rw [Sem.run_bind, hrunA]
              rfl
            · refine ⟨_, oneOr ps, G'', own'', H1, s'.nx, hw2, rfl, ⟨hbase, ?_, ?_, ?_⟩, hR⟩
              all_goals by_cases h1 : rvals.length = 1
              · obtain ⟨v, rfl⟩ := List.length_eq_one_iff.1 h1
                obtain ⟨p, rfl⟩ := List.length_eq_one_iff.1 (by rw [← hlen]; exact h1 : ps.length = 1)
                obtain ⟨r, rfl⟩ := List.length_eq_one_iff.1 (by rw [hlen', ← hlen]; exact h1 : rvs'.length = 1)
                exact (hrd 0 v p r rfl rfl rfl).1
              · rw [dif_neg (by simpa using h1)]
                have : oneOr ps = tup ps := by
                  unfold oneOr
                  split
                  · rename_i p; simp at hlen; omega
                  · rfl
                rw [this]
                refine .tuple rvals ps hlen (fun i v p hv hp => ?_)
                have hi : i < rvs'.length := by rw [hlen']; exact (List.getElem?_eq_some_iff.1 hp).1
                exact (hrd i v p _ hv hp (List.getElem?_eq_getElem hi)).1
              · obtain ⟨v, rfl⟩ := List.length_eq_one_iff.1 h1
                obtain ⟨p, rfl⟩ := List.length_eq_one_iff.1 (by rw [← hlen]; exact h1 : ps.length = 1)
                obtain ⟨r, rfl⟩ := List.length_eq_one_iff.1 (by rw [hlen', ← hlen]; exact h1 : rvs'.length = 1)
                intro e xs hp
                rcases (hrd 0 v p r rfl rfl rfl).2 with ⟨t, rfl, ht, hv, hpt⟩ | hnl
                · have := h'.ttok t e xs ht (by rw [← hpt]; exact hp)
                  rw [← hv] at this
                  exact (htok2 this).own_of fun g _ _ _ ho => by simp [own'', ho, outlab]
                · exact absurd hp (hnl.1 e xs)
              · intro e xs hp
                have : oneOr ps = tup ps := by
                  unfold oneOr
                  split
                  · rename_i p; simp at hlen; omega
                  · rfl
                rw [this] at hp; simp [tup, lin] at hp
              · obtain ⟨v, rfl⟩ := List.length_eq_one_iff.1 h1
                obtain ⟨p, rfl⟩ := List.length_eq_one_iff.1 (by rw [← hlen]; exact h1 : ps.length = 1)
                obtain ⟨r, rfl⟩ := List.length_eq_one_iff.1 (by rw [hlen', ← hlen]; exact h1 : rvs'.length = 1)
                intro i e xs hp
                rcases (hrd 0 v p r rfl rfl rfl).2 with ⟨t, rfl, ht, hv, hpt⟩ | hnl
                · have := h'.utok t i e xs ht (by rw [← hpt]; exact hp)
                  rw [← hv] at this
                  exact (htok2 this).own_of fun g _ _ _ ho => by simp [own'', ho, outlab]
                · exact absurd hp (hnl.2 i e xs)
              · intro i e xs hp
                have ht : oneOr ps = tup ps := by
                  unfold oneOr
                  split
                  · rename_i p; simp at hlen; omega
                  · rfl
                rw [ht, comp_tup] at hp
                have hpi := getD_some hp (lin_ne_undef _ _)
                have hi : i < ps.length := (List.getElem?_eq_some_iff.1 hpi).1
                have hvi : rvals[i]? = some (rvals[i]'(by omega)) := List.getElem?_eq_getElem _
                have hri : rvs'[i]? = some (rvs'[i]'(by omega)) := List.getElem?_eq_getElem _
                rw [dif_neg (by simpa using h1)]
                have hcv : comp (.tuple rvals.toArray) i = rvals[i]'(by omega) := by simp [comp, List.getD_eq_getElem?_getD, hvi]
                rw [hcv]
                rcases (hrd i _ _ _ hvi hpi hri).2 with ⟨t, hrt, ht', hv, hpt⟩ | hnl
                · have := h'.ttok t e xs ht' hpt.symm
                  rw [← hv] at this
                  refine (htok2 this).own_of fun g _ _ _ ho => ?_
                  have hidx := idxOf_nodup rvs' hnd' i _ hri
                  rw [hrt] at hidx
                  have hne : rvs' ≠ [.t t] := fun e => by rw [e] at hlen'; simp at hlen'; omega
                  simp [own'', ho, outlab, hne, hidx]
                · exact absurd rfl (hnl.1 e xs)
          cases e with
          | normal => exact main hq
          | ret => exact main hq
          | exit id => exact hq.elim
          | _ => exact hq.elim
        · cases hf
      · cases hf
    · cases hf
  · cases hf

theorem PCalls_of {P : Program} {f N : Nat} {pc : PC} {rvs : List RV} {args : List Value} {H : Nat → Option (List Value)} {nx : Nat} {T : Nat → Prop} {R : Post} (hf : compFn P f = some (N, pc, rvs)) (hN : args.length ≤ N)
    (hw : (∀ k, nx ≤ k → H k = none) → wpc (PCalls P) P T nx pc (fin nx rvs R) ⟨start args, H, nx⟩) : PCalls P f args H nx T R := PCalls_ofX (bx := []) hf hN hw
end
end Go.PE
namespace Go.PE
open Go
attribute [simp] intV strV wO_some wO_none wB_true wB_false upd_apply putO_some putO_none put_mk ev_tmp ev_int ev_bool ev_string ev_nil ev_global cellsOf_int cellsOf_bool cellsOf_string cellsOf_deep cellsOf_lin cellsOf_ag cellsOf_ptr lc_int lc_bool lc_string lc_deep lc_ag asDeep_deep asAg_ag asInt_int asBool_bool asStr_string addOff_ptr addOff_dptr lead_ptr lead_dptr binV_int binV_shl binV_shr binV_str unV_not mmV_int step_mv step_steal step_cnil step_pick step_alloc wBox_some step_box step_build buildL_nil buildL_inl buildL_inr okParts_nil okParts_cons step_mks step_ldA step_ld step_nilc step_bi step_un step_mm step_bb step_cv step_slen step_b2s step_six step_eqA step_fa step_fldA step_fld step_ixS step_ixP step_ixA step_ix step_len wX_tup step_extr step_slS bnd_none bnd_some' step_st step_call step_app
section
variable (C : Known) (P : Program) (T : Nat → Prop) (n0 : Nat) (d : Option Nat) (s : PS) (K : PS → Prop)

@[simp] theorem step_mkf (f : FuncId) (a b : List Operand) : PE.step C P T n0 d (.mkf f a b) s K = K (s.putO d (clo f (a.map s.ev) (b.map s.ev))) := _root_.id rfl
/-- a call of a function value -/
def wCallv (C : Known) (P : Program) (T : Nat → Prop) (n0 : Nat) (v : Value) (args : List Value) (d : Option Nat) (s : PS) (K : PS → Prop) : Prop :=
  ∃ f first caps, v = clo f first caps ∧ okFn P f = true ∧ wCall C T n0 f (first ++ args ++ caps) d s K
@[simp] theorem step_callv (x : Operand) (args : List Operand) : PE.step C P T n0 d (.callv x args) s K = wCallv C P T n0 (s.ev x) (args.map s.ev) d s K := _root_.id rfl
theorem clo_inj {f f' : FuncId} {l l' m m' : List Value} (h : clo f l m = clo f' l' m') : f = f' ∧ l = l' ∧ m = m' := by simpa [clo] using h
@[simp] theorem wCallv_clo (f : FuncId) (first caps args : List Value) : wCallv C P T n0 (clo f first caps) args d s K = (okFn P f = true ∧ wCall C T n0 f (first ++ args ++ caps) d s K) := by
  apply propext
  constructor
  · rintro ⟨f', l', m', h1, h2, h3⟩; obtain ⟨rfl, rfl, rfl⟩ := clo_inj h1; exact ⟨h2, h3⟩
  · rintro ⟨h2, h3⟩; exact ⟨f, first, caps, rfl, h2, h3⟩

/-! lists of instructions -/
@[simp] theorem gB_bool (c b : Bool) : gB (.bool c) b = some (c == b) := _root_.id rfl
@[simp] theorem gB_undef (b : Bool) : gB undef b = some false := _root_.id rfl
@[simp] theorem dg_undef : dg undef = undef := _root_.id rfl
@[simp] theorem wpr_nil : wpr C P T n0 [] K s = K s := _root_.id rfl
@[simp] theorem wpr_cons (i : PI) (r : List PO) : wpr C P T n0 ((d, none, i) :: r) K s = PE.step C P T n0 d i s (wpr C P T n0 r K) := _root_.id rfl
@[simp] theorem wpr_guard (t : Nat) (b : Bool) (i : PI) (r : List PO) : wpr C P T n0 ((d, some (t, b), i) :: r) K s =
    wB (gB (s.ev (.tmp t)) b) (PE.step C P T n0 d i s (wpr C P T n0 r K)) (wpr C P T n0 r K (s.putO d undef)) := by
  rfl
@[simp] theorem wpq_nil : wpq C P T n0 [] K s = K s := _root_.id rfl
@[simp] theorem wpq_cons (i : PI) (r : List PO) : wpq C P T n0 ((d, none, i) :: r) K s = qstep C P T n0 d i s (wpq C P T n0 r K) := _root_.id rfl
@[simp] theorem wpq_guard (t : Nat) (b : Bool) (i : PI) (r : List PO) : wpq C P T n0 ((d, some (t, b), i) :: r) K s =
    wB (gB (s.ev (.tmp t)) b) (qstep C P T n0 d i s (wpq C P T n0 r K)) (wpq C P T n0 r K (s.putO d undef)) := by
  rfl
/-- a call that hands back one plain value -/
def wqCall (C : Known) (f : Nat) (args : List Value) (d : Option Nat) (s : PS) (K : PS → Prop) : Prop := ∃ v, plain v = true ∧ C f args s.H s.nx (fun _ => False) (fun p _ _ => p = v) ∧ K (s.putO d v)
@[simp] theorem qstep_call (f : Nat) (args : List Operand) : qstep C P T n0 d (.call f args) s K = wqCall C f (args.map s.ev) d s K := _root_.id rfl

/-! code -/
def kSeq (C : Known) (P : Program) (T : Nat → Prop) (n0 : Nat) (b : PC) (Q : Ex → PS → Prop) : Ex → PS → Prop := fun e s' => match e with | .nrm => wpc C P T n0 b Q s' | e => Q e s'
def kBlock (id : Nat) (Q : Ex → PS → Prop) : Ex → PS → Prop := fun e s' => match e with | .ext id' => if id' = id then Q .nrm s' else Q (.ext id') s' | e => Q e s'
variable (Q : Ex → PS → Prop)
@[simp] theorem kSeq_nrm (b : PC) : kSeq C P T n0 b Q .nrm s = wpc C P T n0 b Q s := _root_.id rfl
@[simp] theorem kSeq_ext (b : PC) (id : Nat) : kSeq C P T n0 b Q (.ext id) s = Q (.ext id) s := _root_.id rfl
@[simp] theorem kSeq_rt (b : PC) : kSeq C P T n0 b Q .rt s = Q .rt s := _root_.id rfl
@[simp] theorem kSeq_go (b : PC) (l : Nat) : kSeq C P T n0 b Q (.go l) s = Q (.go l) s := _root_.id rfl
@[simp] theorem kBlock_go (id l : Nat) : kBlock id Q (.go l) s = Q (.go l) s := _root_.id rfl
@[simp] theorem kBlock_nrm (id : Nat) : kBlock id Q .nrm s = Q .nrm s := _root_.id rfl
@[simp] theorem kBlock_ext (id id' : Nat) : kBlock id Q (.ext id') s = if id' = id then Q .nrm s else Q (.ext id') s := _root_.id rfl
@[simp] theorem kBlock_rt (id : Nat) : kBlock id Q .rt s = Q .rt s := _root_.id rfl
@[simp] theorem wpc_skip : wpc C P T n0 .skip Q s = Q .nrm s := _root_.id rfl
@[simp] theorem wpc_reg (l : List PO) : wpc C P T n0 (.reg l) Q s = wpr C P T n0 l (Q .nrm) s := _root_.id rfl
@[simp] theorem wpc_ord (t : PT) : wpc C P T n0 (.ord t) Q s = wpt P T n0 t (Q .nrm) s := _root_.id rfl
@[simp] theorem wpt_done : wpt P T n0 .done K s = K s := _root_.id rfl
@[simp] theorem wpt_alt (a b : PT) : wpt P T n0 (.alt a b) K s = (wpt P T n0 a K s ∧ wpt P T n0 b K s) := _root_.id rfl
@[simp] theorem wpt_one (i : PI) (r : PT) : wpt P T n0 (.one (d, none, i) r) K s = PE.step (PCalls P) P T n0 d i s (wpt P T n0 r K) := _root_.id rfl
@[simp] theorem wpt_guard (t : Nat) (b : Bool) (i : PI) (r : PT) : wpt P T n0 (.one (d, some (t, b), i) r) K s =
    wB (gB (s.ev (.tmp t)) b) (PE.step (PCalls P) P T n0 d i s (wpt P T n0 r K)) (wpt P T n0 r K (s.putO d undef)) := by
  rfl
@[simp] theorem wpc_drw (l : List PO) : wpc C P T n0 (.drw l) Q s = wpq C P T n0 l (Q .nrm) s := _root_.id rfl
@[simp] theorem wpc_seq (a b : PC) : wpc C P T n0 (.seq a b) Q s = wpc C P T n0 a (kSeq C P T n0 b Q) s := _root_.id rfl
@[simp] theorem wpc_cond (c : Operand) (a b : PC) : wpc C P T n0 (.cond c a b) Q s = wB (PE.asBool (s.ev c)) (wpc C P T n0 a Q s) (wpc C P T n0 b Q s) := _root_.id rfl
@[simp] theorem wpc_block (id : Nat) (c : PC) : wpc C P T n0 (.block id c) Q s = wpc C P T n0 c (kBlock id Q) s := _root_.id rfl
@[simp] theorem wpc_exit (id : Nat) : wpc C P T n0 (.exit id) Q s = Q (.ext id) s := _root_.id rfl
@[simp] theorem wpc_goto (l : Nat) : wpc C P T n0 (.goto l) Q s = Q (.go l) s := _root_.id rfl
@[simp] theorem wpc_mon (l : List PO) : wpc C P T n0 (.mon l) Q s = wpm C P T n0 l (Q .nrm) s := _root_.id rfl
@[simp] theorem wpc_ret : wpc C P T n0 .ret Q s = Q .rt s := _root_.id rfl

/-- at a round's end -/
def kLoop (n0 : Nat) (I : PS → Prop) (μ : PS → Nat) (m : Nat) (Q : Ex → PS → Prop) : Ex → PS → Prop := fun e s'' => match e with
  | .nrm => ∃ H1, Sub n0 H1 s''.H ∧ I ⟨s''.t, H1, s''.nx⟩ ∧ μ ⟨s''.t, H1, s''.nx⟩ < m
  | e => Q e s''
@[simp] theorem kLoop_ext (I : PS → Prop) (μ : PS → Nat) (m id : Nat) : kLoop n0 I μ m Q (.ext id) s = Q (.ext id) s := _root_.id rfl
@[simp] theorem kLoop_go (I : PS → Prop) (μ : PS → Nat) (m l : Nat) : kLoop n0 I μ m Q (.go l) s = Q (.go l) s := _root_.id rfl
@[simp] theorem kLoop_rt (I : PS → Prop) (μ : PS → Nat) (m : Nat) : kLoop n0 I μ m Q .rt s = Q .rt s := _root_.id rfl
theorem wpc_loop (I : PS → Prop) (μ : PS → Nat) (c : PC) (h0 : I s) (h : ∀ s', I s' → wpc C P T n0 c (kLoop n0 I μ (μ s') Q) s') : wpc C P T n0 (.loop c) Q s := ⟨I, μ, h0, fun s' hI => h s' hI⟩
theorem kLoop_nrm {I : PS → Prop} {μ : PS → Nat} {m : Nat} (H1 : Nat → Option (List Value)) (hs : Sub n0 H1 s.H) (hI : I ⟨s.t, H1, s.nx⟩) (hm : μ ⟨s.t, H1, s.nx⟩ < m) : kLoop n0 I μ m Q .nrm s := ⟨H1, hs, hI, hm⟩

/-- up to the label, and from the label on -/
def kS1 (J : PS → Prop) (Q : Ex → PS → Prop) : Ex → PS → Prop := fun e s' => match e with | .nrm => J s' | .go _ => False | e => Q e s'
def kS2 (n0 l : Nat) (J : PS → Prop) (μ : PS → Nat) (m : Nat) (Q : Ex → PS → Prop) : Ex → PS → Prop := fun e s'' => match e with
  | .go l' => l' = l ∧ ∃ H1, Sub n0 H1 s''.H ∧ J ⟨s''.t, H1, s''.nx⟩ ∧ μ ⟨s''.t, H1, s''.nx⟩ < m
  | e => Q e s''
@[simp] theorem kS1_nrm (J : PS → Prop) : kS1 J Q .nrm s = J s := _root_.id rfl
@[simp] theorem kS1_ext (J : PS → Prop) (id : Nat) : kS1 J Q (.ext id) s = Q (.ext id) s := _root_.id rfl
@[simp] theorem kS1_rt (J : PS → Prop) : kS1 J Q .rt s = Q .rt s := _root_.id rfl
@[simp] theorem kS2_nrm (l : Nat) (J : PS → Prop) (μ : PS → Nat) (m : Nat) : kS2 n0 l J μ m Q .nrm s = Q .nrm s := _root_.id rfl
@[simp] theorem kS2_ext (l : Nat) (J : PS → Prop) (μ : PS → Nat) (m id : Nat) : kS2 n0 l J μ m Q (.ext id) s = Q (.ext id) s := _root_.id rfl
@[simp] theorem kS2_rt (l : Nat) (J : PS → Prop) (μ : PS → Nat) (m : Nat) : kS2 n0 l J μ m Q .rt s = Q .rt s := _root_.id rfl
theorem kS2_go {l : Nat} {J : PS → Prop} {μ : PS → Nat} {m : Nat} (H1 : Nat → Option (List Value)) (hs : Sub n0 H1 s.H) (hJ : J ⟨s.t, H1, s.nx⟩) (hm : μ ⟨s.t, H1, s.nx⟩ < m) : kS2 n0 l J μ m Q (.go l) s := ⟨rfl, H1, hs, hJ, hm⟩
theorem wpc_scope (J : PS → Prop) (μ : PS → Nat) (l : Nat) (a r : PC) (h0 : wpc C P T n0 a (kS1 J Q) s) (h : ∀ s', J s' → wpc C P T n0 r (kS2 n0 l J μ (μ s') Q) s') : wpc C P T n0 (.scope l a r) Q s := ⟨J, μ, h0, fun s' hJ => h s' hJ⟩
@[simp] theorem start_apply (args : List Value) (t : Nat) : PE.start args t = dg (args.getD t undef) := _root_.id rfl
@[simp] theorem Sub_refl (H : Nat → Option (List Value)) : Sub n0 H H := fun _ => .inl rfl
end
end Go.PE
namespace Go.PE
open Go

theorem PCalls.mono {P : Program} {f nx : Nat} {args : List Value} {H : Nat → Option (List Value)} {T : Nat → Prop} {R R' : Post}
    (h : PCalls P f args H nx T R) (hR : ∀ p H' nx', R p H' nx' → R' p H' nx') : PCalls P f args H nx T R' := by
  intro G own vs h1 h2 h3
  refine (h G own vs h1 h2 h3).mono ?_
  rintro e w' ⟨v, p, G', own', H', nx', a1, a2, a3, a4⟩
  exact ⟨v, p, G', own', H', nx', a1, a2, a3, hR _ _ _ a4⟩

section
variable {P : Program} {T : Nat → Prop} {n0 f : Nat} {args : List Value} {d : Option Nat} {s : PS} {K : PS → Prop}
/-- a call of a function that writes no box of the caller's -/
theorem wCall_of {R : Post} (h : PCalls P f args s.H s.nx (fun _ => False) R) (hK : ∀ p H' nx', R p H' nx' → K ⟨(s.putO d p).t, H', nx'⟩) : wCall (PCalls P) T n0 f args d s K :=
  ⟨fun _ => False, fun _ h => h.elim, fun _ _ h => h.elim, h.mono hK⟩
/-- a call of a function that writes some -/
theorem wCall_ofT {R : Post} {T' : Nat → Prop} (h : PCalls P f args s.H s.nx T' R) (h1 : ∀ k, T' k → n0 ≤ k ∨ T k) (h2 : ∀ k row, T' k → s.H k = some row → rowNoLin row)
    (hK : ∀ p H' nx', R p H' nx' → K ⟨(s.putO d p).t, H', nx'⟩) : wCall (PCalls P) T n0 f args d s K := ⟨T', h1, h2, h.mono hK⟩
theorem wqCall_of {R : Post} {v : Value} (h : PCalls P f args s.H s.nx (fun _ => False) R) (hv : plain v = true) (hR : ∀ p H' nx', R p H' nx' → p = v) (hK : K (s.putO d v)) : wqCall (PCalls P) f args d s K :=
  ⟨v, hv, h.mono hR, hK⟩
end
/-! stores and appends, as simp takes them -/
def wSt2 (T : Nat → Prop) (n0 k off : Nat) (r o : Option (List Value)) (n : Nat) (d : Option Nat) (s : PS) (K : PS → Prop) : Prop :=
  ∃ row l, r = some row ∧ o = some l ∧ l.length = n ∧ off + n ≤ row.length ∧ (T k ∨ n0 ≤ k) ∧ K (PS.putO ⟨s.t, upd s.H k (some (row.take off ++ l ++ row.drop (off + n))), s.nx⟩ d undef)
@[simp] theorem wSt_ptr (T : Nat → Prop) (n0 k off : Nat) (o : Option (List Value)) (n : Nat) (d : Option Nat) (s : PS) (K : PS → Prop) : wSt T n0 (ptr k off) o n d s K = wSt2 T n0 k off (s.H k) o n d s K := by
  apply propext
  constructor
  · rintro ⟨k', off', row, l, e1, e2, e3, e4, e5, e6, e7⟩
    obtain ⟨rfl, rfl⟩ := ptr_inj e1
    exact ⟨row, l, e2, e3, e4, e5, e6, e7⟩
  · rintro ⟨row, l, e2, e3, e4, e5, e6, e7⟩; exact ⟨k, off, row, l, rfl, e2, e3, e4, e5, e6, e7⟩
@[simp] theorem wSt2_some (T : Nat → Prop) (n0 k off : Nat) (row l : List Value) (n : Nat) (d : Option Nat) (s : PS) (K : PS → Prop) : wSt2 T n0 k off (some row) (some l) n d s K =
    (l.length = n ∧ off + n ≤ row.length ∧ (T k ∨ n0 ≤ k) ∧ K (PS.putO ⟨s.t, upd s.H k (some (row.take off ++ l ++ row.drop (off + n))), s.nx⟩ d undef)) := by
  apply propext
  constructor
  · rintro ⟨row', l', e1, e2, e3⟩; cases e1; cases e2; exact e3
  · intro h; exact ⟨row, l, rfl, rfl, h⟩
@[simp] theorem wApp_lin (xs ys : List Value) (e size bytes t : Nat) (d : Option Nat) (s : PS) (K : PS → Prop) : wApp (lin e xs) (some ys) e size bytes t d s K =
    ((∀ y ∈ xs, (lc y).length = size) ∧ (∀ y ∈ ys, (lc y).length = size) ∧ xs.length + ys.length ≤ maxLen ∧ (xs.length + ys.length) * bytes ≤ 140737488355328 ∧ K ((s.put t (deep xs)).putO d (lin e (xs ++ ys)))) := by
  apply propext
  constructor
  · rintro ⟨xs', ys', e1, e2, e3⟩
    obtain ⟨_, rfl⟩ := lin_inj (e1.resolve_right fun h => by simp [lin, ns] at h)
    obtain rfl := Option.some.inj e2
    exact e3
  · intro h; exact ⟨xs, ys, .inl rfl, rfl, h⟩
@[simp] theorem wApp_ns (ys : List Value) (e size bytes t : Nat) (d : Option Nat) (s : PS) (K : PS → Prop) : wApp (ns []) (some ys) e size bytes t d s K =
    ((∀ y ∈ ys, (lc y).length = size) ∧ ys.length ≤ maxLen ∧ ys.length * bytes ≤ 140737488355328 ∧ K ((s.put t (deep [])).putO d (lin e ys))) := by
  apply propext
  constructor
  · rintro ⟨xs', ys', e1, e2, e3, e4, e5, e6, e7⟩
    obtain ⟨rfl, _⟩ := e1.resolve_left fun h => by simp [lin, ns] at h
    obtain rfl := Option.some.inj e2
    exact ⟨e4, by simpa using e5, by simpa using e6, by simpa using e7⟩
  · rintro ⟨h1, h2, h3, h4⟩; exact ⟨[], ys, .inr ⟨rfl, rfl⟩, rfl, by simp, h1, by simpa using h2, by simpa using h3, by simpa using h4⟩
@[simp] theorem qstep_mv (C : Known) (P : Program) (T : Nat → Prop) (n0 : Nat) (d : Option Nat) (s : PS) (K : PS → Prop) (x : Operand) : qstep C P T n0 d (.mv x) s K = PE.step C P T n0 d (.mv x) s K := _root_.id rfl
@[simp] theorem qstep_pick (C : Known) (P : Program) (T : Nat → Prop) (n0 : Nat) (d : Option Nat) (s : PS) (K : PS → Prop) (c a b : Operand) : qstep C P T n0 d (.pick c a b) s K = PE.step C P T n0 d (.pick c a b) s K := _root_.id rfl
@[simp] theorem qstep_build (C : Known) (P : Program) (T : Nat → Prop) (n0 : Nat) (d : Option Nat) (s : PS) (K : PS → Prop) (ps : List (List Value ⊕ (Operand × Nat))) : qstep C P T n0 d (.build ps) s K = PE.step C P T n0 d (.build ps) s K := _root_.id rfl
@[simp] theorem qstep_ldA (C : Known) (P : Program) (T : Nat → Prop) (n0 : Nat) (d : Option Nat) (s : PS) (K : PS → Prop) (n : Nat) (x : Operand) : qstep C P T n0 d (.ldA n x) s K = PE.step C P T n0 d (.ldA n x) s K := _root_.id rfl
@[simp] theorem qstep_ld (C : Known) (P : Program) (T : Nat → Prop) (n0 : Nat) (d : Option Nat) (s : PS) (K : PS → Prop) (b : Bool) (x : Operand) : qstep C P T n0 d (.ld b x) s K = PE.step C P T n0 d (.ld b x) s K := _root_.id rfl
@[simp] theorem qstep_nilc (C : Known) (P : Program) (T : Nat → Prop) (n0 : Nat) (d : Option Nat) (s : PS) (K : PS → Prop) (x : Operand) : qstep C P T n0 d (.nilc x) s K = PE.step C P T n0 d (.nilc x) s K := _root_.id rfl
@[simp] theorem qstep_bi (C : Known) (P : Program) (T : Nat → Prop) (n0 : Nat) (d : Option Nat) (s : PS) (K : PS → Prop) (op : BinOp) (x y : Operand) : qstep C P T n0 d (.bi op x y) s K = PE.step C P T n0 d (.bi op x y) s K := _root_.id rfl
@[simp] theorem qstep_bb (C : Known) (P : Program) (T : Nat → Prop) (n0 : Nat) (d : Option Nat) (s : PS) (K : PS → Prop) (g : Bool) (x y : Operand) : qstep C P T n0 d (.bb g x y) s K = PE.step C P T n0 d (.bb g x y) s K := _root_.id rfl
@[simp] theorem qstep_un (C : Known) (P : Program) (T : Nat → Prop) (n0 : Nat) (d : Option Nat) (s : PS) (K : PS → Prop) (op : UnOp) (x : Operand) : qstep C P T n0 d (.un op x) s K = PE.step C P T n0 d (.un op x) s K := _root_.id rfl
@[simp] theorem qstep_cv (C : Known) (P : Program) (T : Nat → Prop) (n0 : Nat) (d : Option Nat) (s : PS) (K : PS → Prop) (k : IntKind) (x : Operand) : qstep C P T n0 d (.cv k x) s K = PE.step C P T n0 d (.cv k x) s K := _root_.id rfl
@[simp] theorem qstep_mm (C : Known) (P : Program) (T : Nat → Prop) (n0 : Nat) (d : Option Nat) (s : PS) (K : PS → Prop) (b : Bool) (x y : Operand) : qstep C P T n0 d (.mm b x y) s K = PE.step C P T n0 d (.mm b x y) s K := _root_.id rfl
@[simp] theorem qstep_b2s (C : Known) (P : Program) (T : Nat → Prop) (n0 : Nat) (d : Option Nat) (s : PS) (K : PS → Prop) (x : Operand) : qstep C P T n0 d (.b2s x) s K = PE.step C P T n0 d (.b2s x) s K := _root_.id rfl
@[simp] theorem u8s_nil : u8s [] = some [] := _root_.id rfl
@[simp] theorem u8s_cons (n : Int) (r : List Value) : u8s (.int .u8 n :: r) = (u8s r).map (n :: ·) := _root_.id rfl
@[simp] theorem qstep_slen (C : Known) (P : Program) (T : Nat → Prop) (n0 : Nat) (d : Option Nat) (s : PS) (K : PS → Prop) (x : Operand) : qstep C P T n0 d (.slen x) s K = PE.step C P T n0 d (.slen x) s K := _root_.id rfl
@[simp] theorem qstep_six (C : Known) (P : Program) (T : Nat → Prop) (n0 : Nat) (d : Option Nat) (s : PS) (K : PS → Prop) (x i : Operand) : qstep C P T n0 d (.six x i) s K = PE.step C P T n0 d (.six x i) s K := _root_.id rfl
@[simp] theorem qstep_ssl (C : Known) (P : Program) (T : Nat → Prop) (n0 : Nat) (d : Option Nat) (s : PS) (K : PS → Prop) (x : Operand) (lo hi : Option Operand) : qstep C P T n0 d (.ssl x lo hi) s K = PE.step C P T n0 d (.ssl x lo hi) s K := _root_.id rfl
@[simp] theorem qstep_eqA (C : Known) (P : Program) (T : Nat → Prop) (n0 : Nat) (d : Option Nat) (s : PS) (K : PS → Prop) (g : Bool) (ks : List CK) (x y : Operand) : qstep C P T n0 d (.eqA g ks x y) s K = PE.step C P T n0 d (.eqA g ks x y) s K := _root_.id rfl
@[simp] theorem qstep_fa (C : Known) (P : Program) (T : Nat → Prop) (n0 : Nat) (d : Option Nat) (s : PS) (K : PS → Prop) (o : Nat) (x : Operand) : qstep C P T n0 d (.fa o x) s K = PE.step C P T n0 d (.fa o x) s K := _root_.id rfl
@[simp] theorem qstep_fldA (C : Known) (P : Program) (T : Nat → Prop) (n0 : Nat) (d : Option Nat) (s : PS) (K : PS → Prop) (o n : Nat) (x : Operand) : qstep C P T n0 d (.fldA o n x) s K = PE.step C P T n0 d (.fldA o n x) s K := _root_.id rfl
@[simp] theorem qstep_fld (C : Known) (P : Program) (T : Nat → Prop) (n0 : Nat) (d : Option Nat) (s : PS) (K : PS → Prop) (o : Nat) (x : Operand) : qstep C P T n0 d (.fld o x) s K = PE.step C P T n0 d (.fld o x) s K := _root_.id rfl
@[simp] theorem qstep_ixS (C : Known) (P : Program) (T : Nat → Prop) (n0 : Nat) (d : Option Nat) (s : PS) (K : PS → Prop) (n : Nat) (x i : Operand) : qstep C P T n0 d (.ixS n x i) s K = PE.step C P T n0 d (.ixS n x i) s K := _root_.id rfl
@[simp] theorem qstep_ixP (C : Known) (P : Program) (T : Nat → Prop) (n0 : Nat) (d : Option Nat) (s : PS) (K : PS → Prop) (l n : Nat) (x i : Operand) : qstep C P T n0 d (.ixP l n x i) s K = PE.step C P T n0 d (.ixP l n x i) s K := _root_.id rfl
@[simp] theorem qstep_ixA (C : Known) (P : Program) (T : Nat → Prop) (n0 : Nat) (d : Option Nat) (s : PS) (K : PS → Prop) (l n : Nat) (x i : Operand) : qstep C P T n0 d (.ixA l n x i) s K = PE.step C P T n0 d (.ixA l n x i) s K := _root_.id rfl
@[simp] theorem qstep_ix (C : Known) (P : Program) (T : Nat → Prop) (n0 : Nat) (d : Option Nat) (s : PS) (K : PS → Prop) (l : Nat) (x i : Operand) : qstep C P T n0 d (.ix l x i) s K = PE.step C P T n0 d (.ix l x i) s K := _root_.id rfl
@[simp] theorem qstep_slS (C : Known) (P : Program) (T : Nat → Prop) (n0 : Nat) (d : Option Nat) (s : PS) (K : PS → Prop) (n : Nat) (x : Operand) (lo hi mx : Option Operand) : qstep C P T n0 d (.slS n x lo hi mx) s K = PE.step C P T n0 d (.slS n x lo hi mx) s K := _root_.id rfl
@[simp] theorem qstep_len (C : Known) (P : Program) (T : Nat → Prop) (n0 : Nat) (d : Option Nat) (s : PS) (K : PS → Prop) (x : Operand) : qstep C P T n0 d (.len x) s K = PE.step C P T n0 d (.len x) s K := _root_.id rfl
@[simp] theorem qstep_mkf (C : Known) (P : Program) (T : Nat → Prop) (n0 : Nat) (d : Option Nat) (s : PS) (K : PS → Prop) (f : FuncId) (a b : List Operand) : qstep C P T n0 d (.mkf f a b) s K = PE.step C P T n0 d (.mkf f a b) s K := _root_.id rfl
@[simp] theorem qstep_sc (C : Known) (P : Program) (T : Nat → Prop) (n0 : Nat) (d : Option Nat) (s : PS) (K : PS → Prop) (op : Op) (ty : TypeId) : qstep C P T n0 d (.sc op ty) s K = PE.step C P T n0 d (.sc op ty) s K := _root_.id rfl

/-! slices in boxes -/
attribute [simp] step_cns step_mks0 step_ixB step_lenB step_capB step_slB step_stN step_mkB step_appB step_cpy step_callB
@[simp] theorem qstep_cns (C : Known) (P : Program) (T : Nat → Prop) (n0 : Nat) (d : Option Nat) (s : PS) (K : PS → Prop)  : qstep C P T n0 d (PI.cns) s K = PE.step C P T n0 d (PI.cns) s K := _root_.id rfl
@[simp] theorem qstep_ixB (C : Known) (P : Program) (T : Nat → Prop) (n0 : Nat) (d : Option Nat) (s : PS) (K : PS → Prop) (n : Nat) (x i : Operand) : qstep C P T n0 d (.ixB n x i) s K = PE.step C P T n0 d (.ixB n x i) s K := _root_.id rfl
@[simp] theorem qstep_lenB (C : Known) (P : Program) (T : Nat → Prop) (n0 : Nat) (d : Option Nat) (s : PS) (K : PS → Prop) (x : Operand) : qstep C P T n0 d (.lenB x) s K = PE.step C P T n0 d (.lenB x) s K := _root_.id rfl
@[simp] theorem qstep_capB (C : Known) (P : Program) (T : Nat → Prop) (n0 : Nat) (d : Option Nat) (s : PS) (K : PS → Prop) (x : Operand) : qstep C P T n0 d (.capB x) s K = PE.step C P T n0 d (.capB x) s K := _root_.id rfl
@[simp] theorem qstep_slB (C : Known) (P : Program) (T : Nat → Prop) (n0 : Nat) (d : Option Nat) (s : PS) (K : PS → Prop) (n : Nat) (x : Operand) (lo hi mx : Option Operand) : qstep C P T n0 d (.slB n x lo hi mx) s K = PE.step C P T n0 d (.slB n x lo hi mx) s K := _root_.id rfl
def wqCallB (C : Known) (n0 : Nat) (f : Nat) (args : List Value) (d : Option Nat) (s : PS) (K : PS → Prop) : Prop := ∃ H1 args' v, Sub n0 H1 s.H ∧ Cvs n0 s.H H1 args args' ∧ plain v = true ∧ C f args' H1 s.nx (fun _ => False) (fun p _ _ => p = v) ∧ K (s.putO d v)
@[simp] theorem qstep_callB (C : Known) (P : Program) (T : Nat → Prop) (n0 : Nat) (d : Option Nat) (s : PS) (K : PS → Prop) (f : Nat) (args : List Operand) : qstep C P T n0 d (.callB f args) s K = wqCallB C n0 f (args.map s.ev) d s K := _root_.id rfl
@[simp] theorem dg_slc (k off n cap : Nat) : dg (slc k off n cap) = slc k off n cap := _root_.id rfl
@[simp] theorem dg1_slc (k off n cap : Nat) : dg1 (slc k off n cap) = slc k off n cap := _root_.id rfl
@[simp] theorem dgT_slc (k off n cap : Nat) : dgT (slc k off n cap) = slc k off n cap := _root_.id rfl
@[simp] theorem dg_ns (xs : List Value) : dg (ns xs) = deep xs := _root_.id rfl
@[simp] theorem dg1_ns (xs : List Value) : dg1 (ns xs) = deep xs := _root_.id rfl
@[simp] theorem dgT_ns (xs : List Value) : dgT (ns xs) = ns xs := _root_.id rfl
@[simp] theorem cellsOf_slc (k off n cap : Nat) : cellsOf (slc k off n cap) = some [slc k off n cap] := _root_.id rfl
@[simp] theorem lc_slc (k off n cap : Nat) : lc (slc k off n cap) = [slc k off n cap] := _root_.id rfl
@[simp] theorem elemV_slc (k off n cap : Nat) (i : Int) (size : Nat) : elemV (slc k off n cap) i size = if 0 ≤ i ∧ i < n then some (ptr k (off + i.toNat * size)) else none := _root_.id rfl
@[simp] theorem elemV_deep (xs : List Value) (i : Int) (size : Nat) : elemV (deep xs) i size = elemAt xs i size := _root_.id rfl
@[simp] theorem lenV_slc (k off n cap : Nat) : lenV (slc k off n cap) = some n := _root_.id rfl
@[simp] theorem lenV_deep (xs : List Value) : lenV (deep xs) = some xs.length := _root_.id rfl
@[simp] theorem capV_slc (k off n cap : Nat) : capV (slc k off n cap) = some cap := _root_.id rfl
@[simp] theorem capV_deep (xs : List Value) : capV (deep xs) = some xs.length := _root_.id rfl
@[simp] theorem asSlc_slc' (k off n cap : Nat) : asSlc (slc k off n cap) = some (k, off, n, cap) := _root_.id rfl
@[simp] theorem slV_slc (k off n cap l h m size : Nat) (mx : Bool) : slV (slc k off n cap) l h m size mx = if l ≤ h ∧ h ≤ m ∧ m ≤ cap then some (if m = l then ns [] else slc k (off + l * size) (h - l) (m - l)) else none := _root_.id rfl
@[simp] theorem slV_deep (xs : List Value) (l h m size : Nat) (mx : Bool) : slV (deep xs) l h m size mx = if l ≤ h ∧ h ≤ m ∧ m ≤ xs.length ∧ (∀ x ∈ xs, (lc x).length = size) ∧ (mx = true → m = h) then some (if mx then ns ((xs.drop l).take (h - l)) else deep ((xs.drop l).take (h - l))) else none := _root_.id rfl
theorem srcV_deep (H : Nat → Option (List Value)) {xs : List Value} {size : Nat} (h : ∀ x ∈ xs, (lc x).length = size) : srcV H (deep xs) size = some (xs.length, (xs.flatMap lc).map dg1) := if_pos h
@[simp] theorem wMkB_some (kl kc : IntKind) (nl nc : Int) (bytes : Nat) (zero : List Value) (d : Option Nat) (s : PS) (K : PS → Prop) : wMkB (some (kl, nl)) (some (kc, nc)) bytes zero d s K =
    (0 ≤ nl ∧ nl ≤ nc ∧ nc ≤ maxLen ∧ nc * bytes ≤ 140737488355328 ∧ K ⟨(s.putO d (slc s.nx 0 nl.toNat nc.toNat)).t, upd s.H s.nx (some (List.replicate nc.toNat zero).flatten), s.nx + 1⟩) := by
  apply propext
  constructor
  · rintro ⟨kl', nl', kc', nc', h1, h2, h⟩
    cases h1; cases h2; exact h
  · intro h; exact ⟨kl, nl, kc, nc, rfl, rfl, h⟩
section
variable {C : Known} {P : Program} {T : Nat → Prop} {n0 f : Nat} {args : List Value} {d : Option Nat} {s : PS} {K : PS → Prop}
theorem wCpy_of {k off n cap m size : Nat} {row cells : List Value} (hk : s.H k = some row) (hle : off + n * size ≤ row.length) (hT : T k ∨ n0 ≤ k)
    (hK : K ⟨(s.putO d (.int .i64 (min n m : Nat))).t, upd s.H k (some (row.take off ++ cells.take (min n m * size) ++ row.drop (off + min n m * size))), s.nx⟩) : wCpy T n0 (slc k off n cap) (some (m, cells)) size d s K := by
  refine ⟨k, off, n, cap, row, m, cells, rfl, hk, hle, hT, rfl, ?_⟩
  cases d <;> exact hK
theorem wAppB_ns {xs : List Value} {m size bytes : Nat} {zero cells : List Value} (h1 : ∀ y ∈ xs, (lc y).length = size) (h2 : xs.length + m ≤ maxLen) (h3 : (xs.length + m) * bytes ≤ 140737488355328) (h4 : m = 0 → K ⟨(s.putO d (ns xs)).t, s.H, s.nx⟩)
    (h5 : 0 < m → ∀ cap, xs.length + m ≤ cap → cap ≤ maxLen → K ⟨(s.putO d (slc s.nx 0 (xs.length + m) cap)).t, upd s.H s.nx (some ((xs.flatMap lc).map dg1 ++ cells ++ (List.replicate (cap - (xs.length + m)) zero).flatten)), s.nx + 1⟩) :
    wAppB T n0 (ns xs) (some (m, cells)) size bytes zero d s K :=
  ⟨m, cells, rfl, .inl ⟨xs, rfl, h1, h2, h3, fun h => by cases d <;> exact h4 h, h5⟩⟩
theorem wAppB_slc {k off n cap m size bytes : Nat} {row zero cells : List Value} (hk : s.H k = some row) (hle : off + cap * size ≤ row.length) (hn : n ≤ cap) (hT : T k ∨ n0 ≤ k) (h2 : n + m ≤ maxLen) (h3 : (n + m) * bytes ≤ 140737488355328)
    (h4 : n + m ≤ cap → K ⟨(s.putO d (slc k off (n + m) cap)).t, upd s.H k (some (row.take (off + n * size) ++ cells ++ row.drop (off + (n + m) * size))), s.nx⟩)
    (h5 : cap < n + m → ∀ cap', n + m ≤ cap' → cap' ≤ maxLen → K ⟨(s.putO d (slc s.nx 0 (n + m) cap')).t, upd s.H s.nx (some (((row.drop off).take (n * size)).map dg1 ++ cells ++ (List.replicate (cap' - (n + m)) zero).flatten)), s.nx + 1⟩) :
    wAppB T n0 (slc k off n cap) (some (m, cells)) size bytes zero d s K :=
  ⟨m, cells, rfl, .inr ⟨k, off, n, cap, row, rfl, hk, hle, hn, hT, h2, h3, fun h => by cases d <;> exact h4 h, h5⟩⟩
/-- a call as ever -/
theorem wCallB_of (h : wCall C T n0 f args d s K) : wCallB C T n0 f args d s K := by
  obtain ⟨T', h1, h2, h3⟩ := h
  exact ⟨s.H, args, fun k => .inl rfl, ⟨rfl, fun i a b ha hb => .inl (.inl (by rw [ha] at hb; exact (Option.some.inj hb).symm))⟩, .inl ⟨T', h1, h2, h3⟩⟩
end
/-! at the end -/
def wF (o : Option (List Value)) (n0 : Nat) (R : Post) (H : Nat → Option (List Value)) (nx : Nat) : Prop := ∃ ps, o = some ps ∧ ∃ H1 ps', Sub n0 H1 H ∧ Cvs n0 H H1 ps ps' ∧ R (oneOr ps') H1 nx
theorem Cvs_refl (n0 : Nat) (H H1 : Nat → Option (List Value)) (l : List Value) : Cvs n0 H H1 l l := ⟨rfl, fun i a b ha hb => .inl (.inl (by rw [ha] at hb; exact (Option.some.inj hb).symm))⟩
@[simp] theorem fin_rt (n0 : Nat) (rvs : List RV) (R : Post) (s : PS) : fin n0 rvs R .rt s = wF (resL s rvs) n0 R s.H s.nx := _root_.id rfl
@[simp] theorem fin_nrm (n0 : Nat) (rvs : List RV) (R : Post) (s : PS) : fin n0 rvs R .nrm s = wF (resL s rvs) n0 R s.H s.nx := _root_.id rfl
theorem wF_of {ps : List Value} {n0 nx : Nat} {R : Post} {H : Nat → Option (List Value)} (h : R (oneOr ps) H nx) : wF (some ps) n0 R H nx := ⟨ps, rfl, H, ps, Sub_refl n0 H, Cvs_refl _ _ _ _, h⟩
theorem wF_sub {ps : List Value} {n0 nx : Nat} {R : Post} {H H1 : Nat → Option (List Value)} (hs : Sub n0 H1 H) (h : R (oneOr ps) H1 nx) : wF (some ps) n0 R H nx := ⟨ps, rfl, H1, ps, hs, Cvs_refl _ _ _ _, h⟩
@[simp] theorem oneOr_one (v : Value) : oneOr [v] = v := _root_.id rfl
@[simp] theorem oneOr_two (v w : Value) (r : List Value) : oneOr (v :: w :: r) = tup (v :: w :: r) := _root_.id rfl
attribute [simp] resL resV

/-! loads with the right, out of a box or out of a list that is only read -/
section
variable {C : Known} {P : Program} {T : Nat → Prop} {n0 : Nat}
def wLdT (T : Nat → Prop) (n0 : Nat) (v : Value) (d : Option Nat) (s : PS) (K : PS → Prop) : Prop := (∃ k off row c, v = ptr k off ∧ s.H k = some row ∧ row[off]? = some c ∧ (T k ∨ n0 ≤ k) ∧ K { (s.putO d c) with H := upd s.H k (some (row.set off (dg1 c))) }) ∨
      (isDp v = true ∧ ∃ row off c, lead s.H v = some (row, off) ∧ row[off]? = some c ∧ K (s.putO d (dg1 c)))
@[simp] theorem step_ldT (x : Operand) (d : Option Nat) (s : PS) (K : PS → Prop) : PE.step C P T n0 d (.ld true x) s K = wLdT T n0 (s.ev x) d s K := _root_.id rfl
@[simp] theorem wLdT_dptr (o : Nat) (l : List Value) (d : Option Nat) (s : PS) (K : PS → Prop) : wLdT T n0 (dptr o l) d s K = wO ((l[o]?).map dg1) d s K := by
  apply propext
  constructor
  · rintro (⟨k, off, row, c, h, _⟩ | ⟨_, row, off, c, h1, h2, h3⟩)
    · simp [dptr, ptr] at h
    · obtain ⟨rfl, rfl⟩ : l = row ∧ o = off := by simpa [lead, dptr] using h1
      exact ⟨dg1 c, by rw [h2]; rfl, h3⟩
  · rintro ⟨v, h1, h2⟩
    obtain ⟨c, hc, rfl⟩ := Option.map_eq_some_iff.1 h1
    exact .inr ⟨rfl, l, o, c, by simp [lead, dptr], hc, h2⟩
theorem wLdT_ptr {k off : Nat} {row : List Value} {c : Value} {d : Option Nat} {s : PS} {K : PS → Prop} (h1 : s.H k = some row) (h2 : row[off]? = some c) (h3 : T k ∨ n0 ≤ k)
    (h : K ⟨(s.putO d c).t, upd s.H k (some (row.set off (dg1 c))), s.nx⟩) : wLdT T n0 (ptr k off) d s K := .inl ⟨k, off, row, c, rfl, h1, h2, h3, by cases d <;> exact h⟩
end
/-! regions told once -/
@[simp] theorem bstep_mv (C : Known) (P : Program) (T : Nat → Prop) (n0 : Nat) (d : Option Nat) (s : PS) (K : PS → Prop) (x : Operand) : bstep C P T n0 d (.mv x) s K = PE.step C P T n0 d (.mv x) s K := _root_.id rfl
@[simp] theorem bstep_pick (C : Known) (P : Program) (T : Nat → Prop) (n0 : Nat) (d : Option Nat) (s : PS) (K : PS → Prop) (c a b : Operand) : bstep C P T n0 d (.pick c a b) s K = PE.step C P T n0 d (.pick c a b) s K := _root_.id rfl
@[simp] theorem bstep_build (C : Known) (P : Program) (T : Nat → Prop) (n0 : Nat) (d : Option Nat) (s : PS) (K : PS → Prop) (ps : List (List Value ⊕ (Operand × Nat))) : bstep C P T n0 d (.build ps) s K = PE.step C P T n0 d (.build ps) s K := _root_.id rfl
@[simp] theorem bstep_ldA (C : Known) (P : Program) (T : Nat → Prop) (n0 : Nat) (d : Option Nat) (s : PS) (K : PS → Prop) (n : Nat) (x : Operand) : bstep C P T n0 d (.ldA n x) s K = PE.step C P T n0 d (.ldA n x) s K := _root_.id rfl
@[simp] theorem bstep_ld (C : Known) (P : Program) (T : Nat → Prop) (n0 : Nat) (d : Option Nat) (s : PS) (K : PS → Prop) (x : Operand) : bstep C P T n0 d (.ld false x) s K = PE.step C P T n0 d (.ld false x) s K := _root_.id rfl
@[simp] theorem bstep_nilc (C : Known) (P : Program) (T : Nat → Prop) (n0 : Nat) (d : Option Nat) (s : PS) (K : PS → Prop) (x : Operand) : bstep C P T n0 d (.nilc x) s K = PE.step C P T n0 d (.nilc x) s K := _root_.id rfl
@[simp] theorem bstep_bi (C : Known) (P : Program) (T : Nat → Prop) (n0 : Nat) (d : Option Nat) (s : PS) (K : PS → Prop) (op : BinOp) (x y : Operand) : bstep C P T n0 d (.bi op x y) s K = PE.step C P T n0 d (.bi op x y) s K := _root_.id rfl
@[simp] theorem bstep_bb (C : Known) (P : Program) (T : Nat → Prop) (n0 : Nat) (d : Option Nat) (s : PS) (K : PS → Prop) (g : Bool) (x y : Operand) : bstep C P T n0 d (.bb g x y) s K = PE.step C P T n0 d (.bb g x y) s K := _root_.id rfl
@[simp] theorem bstep_un (C : Known) (P : Program) (T : Nat → Prop) (n0 : Nat) (d : Option Nat) (s : PS) (K : PS → Prop) (op : UnOp) (x : Operand) : bstep C P T n0 d (.un op x) s K = PE.step C P T n0 d (.un op x) s K := _root_.id rfl
@[simp] theorem bstep_cv (C : Known) (P : Program) (T : Nat → Prop) (n0 : Nat) (d : Option Nat) (s : PS) (K : PS → Prop) (k : IntKind) (x : Operand) : bstep C P T n0 d (.cv k x) s K = PE.step C P T n0 d (.cv k x) s K := _root_.id rfl
@[simp] theorem bstep_mm (C : Known) (P : Program) (T : Nat → Prop) (n0 : Nat) (d : Option Nat) (s : PS) (K : PS → Prop) (b : Bool) (x y : Operand) : bstep C P T n0 d (.mm b x y) s K = PE.step C P T n0 d (.mm b x y) s K := _root_.id rfl
@[simp] theorem bstep_b2s (C : Known) (P : Program) (T : Nat → Prop) (n0 : Nat) (d : Option Nat) (s : PS) (K : PS → Prop) (x : Operand) : bstep C P T n0 d (.b2s x) s K = PE.step C P T n0 d (.b2s x) s K := _root_.id rfl
@[simp] theorem bstep_slen (C : Known) (P : Program) (T : Nat → Prop) (n0 : Nat) (d : Option Nat) (s : PS) (K : PS → Prop) (x : Operand) : bstep C P T n0 d (.slen x) s K = PE.step C P T n0 d (.slen x) s K := _root_.id rfl
@[simp] theorem bstep_six (C : Known) (P : Program) (T : Nat → Prop) (n0 : Nat) (d : Option Nat) (s : PS) (K : PS → Prop) (x i : Operand) : bstep C P T n0 d (.six x i) s K = PE.step C P T n0 d (.six x i) s K := _root_.id rfl
@[simp] theorem bstep_ssl (C : Known) (P : Program) (T : Nat → Prop) (n0 : Nat) (d : Option Nat) (s : PS) (K : PS → Prop) (x : Operand) (lo hi : Option Operand) : bstep C P T n0 d (.ssl x lo hi) s K = PE.step C P T n0 d (.ssl x lo hi) s K := _root_.id rfl
@[simp] theorem bstep_eqA (C : Known) (P : Program) (T : Nat → Prop) (n0 : Nat) (d : Option Nat) (s : PS) (K : PS → Prop) (g : Bool) (ks : List CK) (x y : Operand) : bstep C P T n0 d (.eqA g ks x y) s K = PE.step C P T n0 d (.eqA g ks x y) s K := _root_.id rfl
@[simp] theorem bstep_fa (C : Known) (P : Program) (T : Nat → Prop) (n0 : Nat) (d : Option Nat) (s : PS) (K : PS → Prop) (o : Nat) (x : Operand) : bstep C P T n0 d (.fa o x) s K = PE.step C P T n0 d (.fa o x) s K := _root_.id rfl
@[simp] theorem bstep_fldA (C : Known) (P : Program) (T : Nat → Prop) (n0 : Nat) (d : Option Nat) (s : PS) (K : PS → Prop) (o n : Nat) (x : Operand) : bstep C P T n0 d (.fldA o n x) s K = PE.step C P T n0 d (.fldA o n x) s K := _root_.id rfl
@[simp] theorem bstep_fld (C : Known) (P : Program) (T : Nat → Prop) (n0 : Nat) (d : Option Nat) (s : PS) (K : PS → Prop) (o : Nat) (x : Operand) : bstep C P T n0 d (.fld o x) s K = PE.step C P T n0 d (.fld o x) s K := _root_.id rfl
@[simp] theorem bstep_ixS (C : Known) (P : Program) (T : Nat → Prop) (n0 : Nat) (d : Option Nat) (s : PS) (K : PS → Prop) (n : Nat) (x i : Operand) : bstep C P T n0 d (.ixS n x i) s K = PE.step C P T n0 d (.ixS n x i) s K := _root_.id rfl
@[simp] theorem bstep_ixP (C : Known) (P : Program) (T : Nat → Prop) (n0 : Nat) (d : Option Nat) (s : PS) (K : PS → Prop) (l n : Nat) (x i : Operand) : bstep C P T n0 d (.ixP l n x i) s K = PE.step C P T n0 d (.ixP l n x i) s K := _root_.id rfl
@[simp] theorem bstep_ixA (C : Known) (P : Program) (T : Nat → Prop) (n0 : Nat) (d : Option Nat) (s : PS) (K : PS → Prop) (l n : Nat) (x i : Operand) : bstep C P T n0 d (.ixA l n x i) s K = PE.step C P T n0 d (.ixA l n x i) s K := _root_.id rfl
@[simp] theorem bstep_ix (C : Known) (P : Program) (T : Nat → Prop) (n0 : Nat) (d : Option Nat) (s : PS) (K : PS → Prop) (l : Nat) (x i : Operand) : bstep C P T n0 d (.ix l x i) s K = PE.step C P T n0 d (.ix l x i) s K := _root_.id rfl
@[simp] theorem bstep_slS (C : Known) (P : Program) (T : Nat → Prop) (n0 : Nat) (d : Option Nat) (s : PS) (K : PS → Prop) (n : Nat) (x : Operand) (lo hi mx : Option Operand) : bstep C P T n0 d (.slS n x lo hi mx) s K = PE.step C P T n0 d (.slS n x lo hi mx) s K := _root_.id rfl
@[simp] theorem bstep_len (C : Known) (P : Program) (T : Nat → Prop) (n0 : Nat) (d : Option Nat) (s : PS) (K : PS → Prop) (x : Operand) : bstep C P T n0 d (.len x) s K = PE.step C P T n0 d (.len x) s K := _root_.id rfl
@[simp] theorem bstep_mkf (C : Known) (P : Program) (T : Nat → Prop) (n0 : Nat) (d : Option Nat) (s : PS) (K : PS → Prop) (f : FuncId) (a b : List Operand) : bstep C P T n0 d (.mkf f a b) s K = PE.step C P T n0 d (.mkf f a b) s K := _root_.id rfl
@[simp] theorem bstep_cns (C : Known) (P : Program) (T : Nat → Prop) (n0 : Nat) (d : Option Nat) (s : PS) (K : PS → Prop)  : bstep C P T n0 d (PI.cns) s K = PE.step C P T n0 d (PI.cns) s K := _root_.id rfl
@[simp] theorem bstep_ixB (C : Known) (P : Program) (T : Nat → Prop) (n0 : Nat) (d : Option Nat) (s : PS) (K : PS → Prop) (n : Nat) (x i : Operand) : bstep C P T n0 d (.ixB n x i) s K = PE.step C P T n0 d (.ixB n x i) s K := _root_.id rfl
@[simp] theorem bstep_lenB (C : Known) (P : Program) (T : Nat → Prop) (n0 : Nat) (d : Option Nat) (s : PS) (K : PS → Prop) (x : Operand) : bstep C P T n0 d (.lenB x) s K = PE.step C P T n0 d (.lenB x) s K := _root_.id rfl
@[simp] theorem bstep_capB (C : Known) (P : Program) (T : Nat → Prop) (n0 : Nat) (d : Option Nat) (s : PS) (K : PS → Prop) (x : Operand) : bstep C P T n0 d (.capB x) s K = PE.step C P T n0 d (.capB x) s K := _root_.id rfl
@[simp] theorem bstep_slB (C : Known) (P : Program) (T : Nat → Prop) (n0 : Nat) (d : Option Nat) (s : PS) (K : PS → Prop) (n : Nat) (x : Operand) (lo hi mx : Option Operand) : bstep C P T n0 d (.slB n x lo hi mx) s K = PE.step C P T n0 d (.slB n x lo hi mx) s K := _root_.id rfl
@[simp] theorem bstep_steal (C : Known) (P : Program) (T : Nat → Prop) (n0 : Nat) (d : Option Nat) (s : PS) (K : PS → Prop) (t : Nat) : bstep C P T n0 d (.steal t) s K = PE.step C P T n0 d (.steal t) s K := _root_.id rfl
@[simp] theorem bstep_cnil (C : Known) (P : Program) (T : Nat → Prop) (n0 : Nat) (d : Option Nat) (s : PS) (K : PS → Prop) (e : Nat) : bstep C P T n0 d (.cnil e) s K = PE.step C P T n0 d (.cnil e) s K := _root_.id rfl
@[simp] theorem bstep_mks (C : Known) (P : Program) (T : Nat → Prop) (n0 : Nat) (d : Option Nat) (s : PS) (K : PS → Prop) (e n : Nat) (tk : Bool) (ps : List Operand) : bstep C P T n0 d (.mks e n tk ps) s K = PE.step C P T n0 d (.mks e n tk ps) s K := _root_.id rfl
@[simp] theorem bstep_extr (C : Known) (P : Program) (T : Nat → Prop) (n0 : Nat) (d : Option Nat) (s : PS) (K : PS → Prop) (t i : Nat) : bstep C P T n0 d (.extr t i) s K = PE.step C P T n0 d (.extr t i) s K := _root_.id rfl
@[simp] theorem bstep_app (C : Known) (P : Program) (T : Nat → Prop) (n0 : Nat) (d : Option Nat) (s : PS) (K : PS → Prop) (e n b t : Nat) (x : Operand) : bstep C P T n0 d (.app e n b t x) s K = PE.step C P T n0 d (.app e n b t x) s K := _root_.id rfl
@[simp] theorem bstep_mks0 (C : Known) (P : Program) (T : Nat → Prop) (n0 : Nat) (d : Option Nat) (s : PS) (K : PS → Prop)  : bstep C P T n0 d (.mks0) s K = PE.step C P T n0 d (.mks0) s K := _root_.id rfl
@[simp] theorem bstep_call (C : Known) (P : Program) (T : Nat → Prop) (n0 : Nat) (d : Option Nat) (s : PS) (K : PS → Prop) (f : Nat) (args : List Operand) : bstep C P T n0 d (.call f args) s K = wmCall C f (args.map s.ev) d s K := _root_.id rfl
@[simp] theorem bstep_alloc (C : Known) (P : Program) (T : Nat → Prop) (n0 : Nat) (d : Option Nat) (s : PS) (K : PS → Prop) (row : List Value) : bstep C P T n0 d (.alloc row) s K = ∀ n, s.nx ≤ n → PE.step C P T n0 d (.alloc row) ⟨s.t, s.H, n⟩ K := _root_.id rfl
@[simp] theorem bstep_box (C : Known) (P : Program) (T : Nat → Prop) (n0 : Nat) (d : Option Nat) (s : PS) (K : PS → Prop) (m : Nat) (x : Operand) : bstep C P T n0 d (.box m x) s K = ∀ n, s.nx ≤ n → PE.step C P T n0 d (.box m x) ⟨s.t, s.H, n⟩ K := _root_.id rfl
@[simp] theorem bstep_ldT (C : Known) (P : Program) (T : Nat → Prop) (n0 : Nat) (d : Option Nat) (s : PS) (K : PS → Prop) (x : Operand) : bstep C P T n0 d (.ld true x) s K = ∀ n, s.nx ≤ n → PE.step C P T n0 d (.ld true x) ⟨s.t, s.H, n⟩ K := _root_.id rfl
@[simp] theorem bstep_st (C : Known) (P : Program) (T : Nat → Prop) (n0 : Nat) (d : Option Nat) (s : PS) (K : PS → Prop) (m : Nat) (x v : Operand) : bstep C P T n0 d (.st m x v) s K = ∀ n, s.nx ≤ n → PE.step C P T n0 d (.st m x v) ⟨s.t, s.H, n⟩ K := _root_.id rfl
@[simp] theorem bstep_sts (C : Known) (P : Program) (T : Nat → Prop) (n0 : Nat) (d : Option Nat) (s : PS) (K : PS → Prop) (x : Operand) (t : Nat) : bstep C P T n0 d (.sts x t) s K = ∀ n, s.nx ≤ n → PE.step C P T n0 d (.sts x t) ⟨s.t, s.H, n⟩ K := _root_.id rfl
@[simp] theorem bstep_callB (C : Known) (P : Program) (T : Nat → Prop) (n0 : Nat) (d : Option Nat) (s : PS) (K : PS → Prop) (f : Nat) (args : List Operand) : bstep C P T n0 d (.callB f args) s K = ∀ n, s.nx ≤ n → PE.step C P T n0 d (.callB f args) ⟨s.t, s.H, n⟩ K := _root_.id rfl
@[simp] theorem wpm_nil (C : Known) (P : Program) (T : Nat → Prop) (n0 : Nat) (s : PS) (K : PS → Prop) : wpm C P T n0 [] K s = ∀ n, s.nx ≤ n → K ⟨s.t, s.H, n⟩ := _root_.id rfl
@[simp] theorem wpm_none (C : Known) (P : Program) (T : Nat → Prop) (n0 : Nat) (d : Option Nat) (i : PI) (r : List PO) (s : PS) (K : PS → Prop) : wpm C P T n0 ((d, none, i) :: r) K s = bstep C P T n0 d i s (wpm C P T n0 r K) := _root_.id rfl
@[simp] theorem wpm_guard (C : Known) (P : Program) (T : Nat → Prop) (n0 : Nat) (d : Option Nat) (t : Nat) (b : Bool) (i : PI) (r : List PO) (s : PS) (K : PS → Prop) : wpm C P T n0 ((d, some (t, b), i) :: r) K s = wB (gB (s.ev (.tmp t)) b) (bstep C P T n0 d i s (wpm C P T n0 r K)) (wpm C P T n0 r K (s.putO d undef)) := _root_.id rfl
theorem wmCall_of {C : Known} {f : Nat} {args : List Value} {d : Option Nat} {s : PS} {K : PS → Prop} (v : Value) (h : ∀ n H2, s.nx ≤ n → LeH s.H H2 → C f args H2 n (fun _ => False) (fun p H' _ => p = v ∧ H' = H2)) (hK : K ⟨(s.putO d v).t, s.H, s.nx⟩) : wmCall C f args d s K := by
  refine ⟨v, h, ?_⟩
  cases d <;> exact hK
end Go.PE
namespace Go.PE
open Go Go.Deep

/-- the value that cells of a type make -/
def toV (P : Program) (e : TypeId) (cs : List Value) : Value := match P.underlying e with
  | some (.struct _) | some (.array _ _) => ag cs
  | _ => cs.headD undef

/-- the pure cells of a type -/
inductive PTy (P : Program) : TypeId → List Value → Prop
  | bool (t : TypeId) (b : Bool) (h : P.underlying t = some .bool) : PTy P t [.bool b]
  | int (t : TypeId) (k : IntKind) (n : Int) (h : P.underlying t = some (.int k)) (hw : (Lit.int k n).wf = true) : PTy P t [.int k n]
  | str (t : TypeId) (s : ByteArray) (h : P.underlying t = some .string) (hs : s.size ≤ maxLen) : PTy P t [.string s]
  | slice (t e : TypeId) (xs : List (List Value)) (h : P.underlying t = some (.slice e)) (hl : xs.length ≤ maxLen) (hx : ∀ x ∈ xs, PTy P e x) : PTy P t [deep (xs.map (toV P e))]
  | struct (t : TypeId) (fs : Array Field) (cs : List Value) (h : P.underlying t = some (.struct fs)) (hl : cs.length = P.cellsOf t)
      (hf : ∀ (i : Nat) f, fs[i]? = some f → PTy P f.type ((cs.drop f.offset).take (P.cellsOf f.type))) : PTy P t cs
  | array (t : TypeId) (n : Nat) (e : TypeId) (cs : List Value) (h : P.underlying t = some (.array n e)) (hl : cs.length = P.cellsOf t)
      (hf : ∀ (i : Nat), i < n → PTy P e ((cs.drop (i * P.cellsOf e)).take (P.cellsOf e))) : PTy P t cs

/-- parts that lie one behind the other -/
def tiles : Nat → List (Nat × Nat × TypeId) → Nat → Bool
  | off, [], tot => off == tot
  | off, (o, n, _) :: r, tot => o == off && tiles (off + n) r tot

/-- types without pointers, functions, maps -/
def plainTy (P : Program) : Nat → TypeId → Bool
  | 0, _ => false
  | d + 1, t => match P.underlying t with
    | some .bool | some (.int _) | some .string => P.cellsOf t == 1
    | some (.slice e) => plainTy P d e && P.cellsOf t == 1 && decide (0 < P.cellsOf e) && decide (0 < P.bytesOf e)
    | some (.struct fs) => fs.toList.all (fun f => plainTy P d f.type) && tiles 0 (fs.toList.map fun f => (f.offset, P.cellsOf f.type, f.type)) (P.cellsOf t)
    | some (.array n e) => plainTy P d e && n * P.cellsOf e == P.cellsOf t
    | _ => false

/-- cells and their pure reading -/
def CR (G : Gh) (cs ps : List Value) : Prop :=
  ps.length = cs.length ∧ ∀ (i : Nat) v p, cs[i]? = some v → ps[i]? = some p → v.oneCell' = true ∧ Rd G v p ∧ ∀ e xs, p ≠ lin e xs

theorem CR.nil (G : Gh) : CR G [] [] := ⟨rfl, fun i v p h => by simp at h⟩
theorem CR.append {G : Gh} {a b c d : List Value} (h1 : CR G a c) (h2 : CR G b d) : CR G (a ++ b) (c ++ d) := by
  refine ⟨by simp [h1.1, h2.1], fun i v p hv hp => ?_⟩
  rw [List.getElem?_append] at hv hp
  rw [h1.1] at hp
  split at hv
  · rename_i hi; rw [if_pos hi] at hp; exact h1.2 i v p hv hp
  · rename_i hi; rw [if_neg hi] at hp; exact h2.2 _ v p hv hp
theorem CR.one {G : Gh} {v p : Value} (h1 : v.oneCell' = true) (h2 : Rd G v p) (h3 : ∀ e xs, p ≠ lin e xs) : CR G [v] [p] := by
  refine ⟨rfl, fun i v' p' hv hp => ?_⟩
  cases i with
  | zero => simp at hv hp; subst hv; subst hp; exact ⟨h1, h2, h3⟩
  | succ i => simp at hv

/-- no list in it is longer than N, and no string -/
inductive Bd (N : Nat) : Value → Prop
  | int (k : IntKind) (n : Int) : Bd N (.int k n)
  | bool (b : Bool) : Bd N (.bool b)
  | str (s : ByteArray) (h : s.size ≤ N) : Bd N (.string s)
  | deep (xs : List Value) (hl : xs.length ≤ N) (h : ∀ x ∈ xs, Bd N x) : Bd N (deep xs)
  | ag (cs : List Value) (h : ∀ c ∈ cs, Bd N c) : Bd N (ag cs)
  | undef : Bd N undef
/-- what is said of readings of a type, and of all that they hold -/
structure BdOK {H : Type} (P : Program) (N : Nat) (B : TypeId → DataW H → Prop) : Prop where
  str : ∀ t l, P.underlying t = some .string → B t (.lit (.string l)) → l.length ≤ N
  sl : ∀ t e es sp, P.underlying t = some (.slice e) → 0 < P.bytesOf e → B t (.slice es sp) → es.length ≤ N ∧ ∀ d ∈ es, B e d
  st : ∀ t fs ds, P.underlying t = some (.struct fs) → B t (.agg ds) → ∀ (i : Nat) f d, fs[i]? = some f → ds[i]? = some d → B f.type d
  ar : ∀ t n e ds, P.underlying t = some (.array n e) → B t (.agg ds) → ∀ d ∈ ds, B e d
def Bds {H : Type} (P : Program) (t : TypeId) (x : DataW H) (p : Value) : Prop := ∀ (B : TypeId → DataW H → Prop) (N : Nat), BdOK P N B → B t x → Bd N p

theorem tile_read {G : Gh} {cs : List Value} {Q : TypeId → List Value → Prop} {R : Value → Prop} : ∀ (L : List (Nat × Nat × TypeId)) (off : Nat), off ≤ cs.length → tiles off L cs.length = true →
    (∀ o n t, (o, n, t) ∈ L → ∃ ps, CR G ((cs.drop o).take n) ps ∧ Q t ps ∧ ∀ p ∈ ps, R p) →
    ∃ ps, CR G (cs.drop off) ps ∧ (∀ p ∈ ps, R p) ∧ ∀ o n t, (o, n, t) ∈ L → off ≤ o ∧ Q t ((ps.drop (o - off)).take n)
  | [], off, hle, ht, _ => by
    have : off = cs.length := by simpa [tiles] using ht
    exact ⟨[], by rw [this, List.drop_length]; exact CR.nil G, by simp, fun o n t h => by simp at h⟩
  | (o, n, t) :: r, off, hle, ht, hx => by
    simp only [tiles, Bool.and_eq_true, beq_iff_eq] at ht
    obtain ⟨rfl, ht⟩ := ht
    obtain ⟨ps, hp, hq, hR⟩ := hx o n t (List.mem_cons_self ..)
    have hon : o + n ≤ cs.length := tiles_le r (o + n) _ ht
    obtain ⟨qs, hq1, hR2, hq2⟩ := tile_read r (o + n) hon ht (fun o' n' t' h => hx o' n' t' (List.mem_cons_of_mem _ h))
    have hpl : ps.length = n := by rw [hp.1]; simp; omega
    refine ⟨ps ++ qs, ?_, fun p hp => (List.mem_append.1 hp).elim (hR p) (hR2 p), ?_⟩
    · have := hp.append hq1
      rwa [← List.drop_drop, List.take_append_drop] at this
    · intro o' n' t' h
      rcases List.mem_cons.1 h with h | h
      · cases h
        refine ⟨Nat.le_refl _, ?_⟩
        rw [Nat.sub_self, List.drop_zero, List.take_append_of_le_length (by omega), List.take_of_length_le (by omega)]
        exact hq
      · obtain ⟨h1, h2⟩ := hq2 o' n' t' h
        refine ⟨by omega, ?_⟩
        rw [List.drop_append, List.drop_eq_nil_of_le (by omega), List.nil_append, hpl]
        rwa [show o' - o - n = o' - (o + n) by omega]
where
  tiles_le : ∀ (L : List (Nat × Nat × TypeId)) (off tot : Nat), tiles off L tot = true → off ≤ tot
    | [], off, tot, h => by simp [tiles] at h; omega
    | (o, n, t) :: r, off, tot, h => by
      simp only [tiles, Bool.and_eq_true, beq_iff_eq] at h
      have := tiles_le r (off + n) tot h.2
      omega

theorem tiles_range (c : Nat) (e : TypeId) : ∀ (n s : Nat), tiles (s * c) ((List.range' s n).map fun i => (i * c, c, e)) ((s + n) * c) = true
  | 0, s => by simp [tiles]
  | n + 1, s => by
    simp only [List.range'_succ, List.map_cons, tiles, Bool.and_eq_true, beq_iff_eq, true_and]
    have := tiles_range c e n (s + 1)
    rw [Nat.add_mul, Nat.one_mul] at this
    rwa [show s + 1 + n = s + (n + 1) by omega] at this

theorem Bd.toV {P : Program} {e : TypeId} {N : Nat} {cs : List Value} (h : ∀ p ∈ cs, Bd N p) : Bd N (toV P e cs) := by
  unfold PE.toV
  split
  · exact .ag _ h
  · exact .ag _ h
  · cases cs with
    | nil => exact .undef
    | cons v r => exact h v (List.mem_cons_self ..)

theorem PTy.one {P : Program} {t : TypeId} {cs : List Value} (h : PTy P t cs) (hn : ∀ fs, P.underlying t ≠ some (.struct fs)) (ha : ∀ n e, P.underlying t ≠ some (.array n e)) : ∃ v, cs = [v] ∧ lc v = [v] := by
  cases h with
  | bool _ b h => exact ⟨_, rfl, rfl⟩
  | int _ k n h => exact ⟨_, rfl, rfl⟩
  | str _ s h => exact ⟨_, rfl, rfl⟩
  | slice _ e xs h => exact ⟨_, rfl, rfl⟩
  | struct _ fs cs h => exact absurd h (hn fs)
  | array _ n e cs h => exact absurd h (ha n e)

theorem PTy.lc_toV {P : Program} {t : TypeId} {cs : List Value} (h : PTy P t cs) : lc (toV P t cs) = cs := by
  unfold toV
  split
  · simp
  · simp
  · rename_i h1 h2
    obtain ⟨v, rfl, hv⟩ := h.one (fun fs => h1 fs) (fun n e => h2 n e)
    exact hv

/-- the world of the call, all of it read only -/
def bsize (w : World) (b : Nat) : Nat := match w.heap[b]? with | some (.cells c _ _) => c.size | _ => 0
theorem cell_lt {w : World} {a : Addr} {v : Value} (h : w.cell? a = some v) : a.spot = none ∧ a.off < bsize w a.block := by
  unfold World.cell? at h
  unfold bsize
  split at h
  · rename_i c _ _ hc
    rw [hc]
    split at h
    · cases h
    · rename_i hs
      refine ⟨by simpa using hs, ?_⟩
      exact (Array.getElem?_eq_some_iff.1 h).1
  · cases h

section
variable {H : Type} {enc : TypeId × Value → H} {P : Program} {base : Nat} {spare : Nat → Bool} {held : Bool}

theorem trod_read {G : Gh} (hfr : ∀ b, bsize G.w b ≤ G.fr b) : ∀ (d : Nat) (t : TypeId) (fuel : Nat) (cs : List Value) (x : DataW H × List MemPlace), plainTy P d t = true →
    DataW.trod enc P G.w base spare held fuel t cs = some x → cs.length = P.cellsOf t ∧ ∃ ps, CR G cs ps ∧ PTy P t ps ∧ ∀ p ∈ ps, Bds P t x.1 p
  | 0, t, fuel, cs, x, hp, _ => by simp [plainTy] at hp
  | d + 1, t, fuel, cs, x, hp, h => by
    unfold plainTy at hp
    split at hp
    · rename_i ht
      obtain ⟨b, rfl, hxd⟩ := DataW.trod_bool ht h
      exact ⟨(by simpa using hp : P.cellsOf t = 1).symm, _, CR.one rfl (.scal _ rfl) (fun e xs he => by simp [lin] at he), .bool t b ht, fun p hp => by simp at hp; subst hp; exact fun _ _ _ _ => .bool b⟩
    · rename_i k ht
      obtain ⟨n, rfl, _, hw⟩ := DataW.trod_int ht h
      exact ⟨(by simpa using hp : P.cellsOf t = 1).symm, _, CR.one rfl (.scal _ rfl) (fun e xs he => by simp [lin] at he), .int t k n ht hw, fun p hp => by simp at hp; subst hp; exact fun _ _ _ _ => .int k n⟩
    · rename_i ht
      obtain ⟨s, rfl, hxd, hs⟩ := DataW.trod_string ht h
      exact ⟨(by simpa using hp : P.cellsOf t = 1).symm, _, CR.one rfl (.scal _ rfl) (fun e xs he => by simp [lin] at he), .str t s ht hs, fun p hp => by
        simp at hp; subst hp; subst hxd
        intro B N hB hN
        have h2 := hB.str t s.data.toList ht hN
        have h1 : s.data.toList.length = s.size := Array.length_toList
        exact .str s (by omega)⟩
    · rename_i e ht
      simp only [Bool.and_eq_true, beq_iff_eq, decide_eq_true_eq] at hp
      obtain ⟨⟨⟨hpe, hc1⟩, hc0⟩, hb0⟩ := hp
      rcases open_slice ht h with ⟨rfl, _⟩ | ⟨a, len, cap, m, n, D, Pl, rfl, _, hl, hm, hmm, hxd, hel⟩
      · refine ⟨by simp [hc1], _, CR.one rfl .nil (fun e xs he => by simp [lin, deep] at he), ?_⟩
        exact ⟨.slice t e [] ht (by simp) (fun x hx => by simp at hx), fun p hp => by simp at hp; subst hp; exact fun _ _ _ _ => .deep [] (by simp) (by simp)⟩
      · have hlm : len ≤ m := by rw [hmm]; split <;> omega
        have key : ∀ i, ∃ ps, i < len → ∃ cs', (∀ j, j < P.cellsOf e → G.w.cell? ((a.add (i * P.cellsOf e)).add j) = cs'[j]?) ∧ cs'.length = P.cellsOf e ∧ CR G cs' ps ∧ PTy P e ps ∧ ∀ p ∈ ps, Bds P e (D i) p := by
          intro i
          by_cases hi : i < len
          · obtain ⟨cs', hc', ht'⟩ := hel i (by omega)
            obtain ⟨_, hcl, hat⟩ := World.cells?_some hc'
            obtain ⟨_, ps, h1, h2, h3⟩ := trod_read hfr d e n cs' _ hpe ht'
            exact ⟨ps, fun _ => ⟨cs', hat, hcl, h1, h2, h3⟩⟩
          · exact ⟨[], fun h => absurd h hi⟩
        obtain ⟨F, hF⟩ : ∃ F : Nat → List Value, ∀ i, i < len → ∃ cs', (∀ j, j < P.cellsOf e → G.w.cell? ((a.add (i * P.cellsOf e)).add j) = cs'[j]?) ∧ cs'.length = P.cellsOf e ∧ CR G cs' (F i) ∧ PTy P e (F i) ∧ ∀ p ∈ F i, Bds P e (D i) p :=
          ⟨fun i => (key i).choose, fun i => (key i).choose_spec⟩
        have hget : ∀ q, q < len * P.cellsOf e → ∃ v, G.w.cell? (a.add q) = some v ∧ v.oneCell' = true ∧ a.off + q < G.fr a.block := by
          intro q hq
          have hi : q / P.cellsOf e < len := (Nat.div_lt_iff_lt_mul hc0).2 hq
          have hj : q % P.cellsOf e < P.cellsOf e := Nat.mod_lt _ hc0
          obtain ⟨cs', hat, hcl, hcr, _, _⟩ := hF _ hi
          have h1 := hat _ hj
          rw [Go.Deep.add_add] at h1
          have hq' : q / P.cellsOf e * P.cellsOf e + q % P.cellsOf e = q := by rw [Nat.mul_comm]; exact Nat.div_add_mod ..
          rw [hq'] at h1
          have h2 : cs'[q % P.cellsOf e]? = some (cs'[q % P.cellsOf e]'(by omega)) := List.getElem?_eq_getElem _
          have h3 : (F (q / P.cellsOf e))[q % P.cellsOf e]? = some ((F (q / P.cellsOf e))[q % P.cellsOf e]'(by rw [hcr.1]; omega)) := List.getElem?_eq_getElem _
          refine ⟨_, h1.trans h2, (hcr.2 _ _ _ h2 h3).1, ?_⟩
          have hlt := cell_lt (h1.trans h2)
          have ha : (a.add q).block = a.block ∧ (a.add q).off = a.off + q := by unfold Addr.add; split <;> simp_all
          rw [ha.1, ha.2] at hlt
          exact Nat.lt_of_lt_of_le hlt.2 (hfr _)
        refine ⟨by simp [hc1], [deep (((List.range len).map F).map (toV P e))], CR.one rfl ?_ (fun e xs he => by simp [lin, deep] at he), .slice t e _ ht (by simp; omega) (fun x hx => ?_), fun p hp => ?_⟩
        · have hlen : (((List.range len).map F).map (toV P e)).length = len := by simp
          have := Rd.deep (G := G) a cap (P.cellsOf e) (((List.range len).map F).map (toV P e)) (fun q => (G.w.cell? (a.add q)).getD undef) (fun hne => ?_) (by omega) hm (fun q hq => ?_) (fun i x hx => ?_) (fun i x j y hx hy => ?_)
          · rwa [hlen] at this
          · have h0 : 0 < len := by
              rcases Nat.eq_zero_or_pos len with h0 | h0
              · rw [h0] at hne; simp at hne
              · exact h0
            obtain ⟨v, hv, _⟩ := hget 0 (Nat.mul_pos h0 hc0)
            have := (cell_lt hv).1
            simpa [Addr.add] using this
          · rw [hlen] at hq
            obtain ⟨v, hv, h1, h2⟩ := hget q hq
            rw [hv]
            exact ⟨rfl, h2, h1⟩
          · simp only [List.map_map, List.getElem?_map, Option.map_eq_some_iff, Function.comp] at hx
            obtain ⟨i', hi', rfl⟩ := hx
            have hi : i' < len := by
              have := List.mem_of_getElem? hi'
              simpa using this
            obtain ⟨cs', _, hcl, hcr, hty, _⟩ := hF i' hi
            rw [hty.lc_toV, hcr.1, hcl]
          · simp only [List.map_map, List.getElem?_map, Option.map_eq_some_iff, Function.comp] at hx
            obtain ⟨i', hi', rfl⟩ := hx
            obtain ⟨hi, rfl⟩ : i < len ∧ i = i' := by
              obtain ⟨h1, h2⟩ := List.getElem?_eq_some_iff.1 hi'
              rw [List.getElem_range] at h2
              exact ⟨by simpa using h1, h2⟩
            obtain ⟨cs', hat, hcl, hcr, hty, _⟩ := hF i hi
            rw [hty.lc_toV] at hy
            have hj : j < P.cellsOf e := by rw [← hcl, ← hcr.1]; exact (List.getElem?_eq_some_iff.1 hy).1
            have h1 := hat j hj
            rw [Go.Deep.add_add] at h1
            have h2 : cs'[j]? = some (cs'[j]'(by omega)) := List.getElem?_eq_getElem _
            rw [h1, h2]
            exact (hcr.2 j _ _ h2 hy).2.1
        · simp only [List.mem_map, List.mem_range] at hx
          obtain ⟨i, hi, rfl⟩ := hx
          obtain ⟨_, _, _, _, hty, _⟩ := hF i hi
          exact hty
        · simp only [List.mem_singleton] at hp
          subst hp
          subst hxd
          intro B N hB hN
          have hsl := hB.sl t e ((List.range len).map D) ((List.range (m - len)).map fun j => D (len + j)) ht hb0 hN
          have hl2 : ((List.range len).map D).length = len := by simp
          refine .deep _ (by simp; omega) (fun v hv => ?_)
          simp only [List.map_map, List.mem_map, List.mem_range, Function.comp] at hv
          obtain ⟨i, hi, rfl⟩ := hv
          obtain ⟨_, _, _, _, _, hb⟩ := hF i hi
          exact Bd.toV fun p hp => hb p hp B N hB (hsl.2 _ (List.mem_map.2 ⟨i, List.mem_range.2 hi, rfl⟩))
    · rename_i fs ht
      simp only [Bool.and_eq_true, List.all_eq_true] at hp
      obtain ⟨xs, n, _, hxd, hl, hxl, hf⟩ := DataW.trod_struct ht h
      refine ⟨hl, ?_⟩
      have := tile_read (G := G) (cs := cs) (Q := fun t ps => PTy P t ps) (R := Bds P t x.1) (fs.toList.map fun f => (f.offset, P.cellsOf f.type, f.type)) 0 (Nat.zero_le _) (by rw [hl]; exact hp.2) (fun o n' t' hm => ?_)
      · obtain ⟨ps, h1, h0, h2⟩ := this
        rw [List.drop_zero] at h1
        refine ⟨ps, h1, .struct t fs ps ht (h1.1.trans hl) (fun i f hfi => ?_), h0⟩
        have := (h2 f.offset (P.cellsOf f.type) f.type (List.mem_map.2 ⟨f, List.mem_of_getElem? (by simpa using hfi), rfl⟩)).2
        rwa [Nat.sub_zero] at this
      · obtain ⟨f, hfm, hfe⟩ := List.mem_map.1 hm
        obtain ⟨rfl, rfl, rfl⟩ : f.offset = o ∧ P.cellsOf f.type = n' ∧ f.type = t' := by simpa using hfe
        obtain ⟨i, hi, hfi⟩ := List.getElem_of_mem hfm
        have hfi' : fs[i]? = some f := by rw [← hfi]; simp [Array.getElem?_eq_getElem (show i < fs.size by simpa using hi)]
        have h3 := hf i f hfi'
        have : xs[i]? = some (xs[i]'(by rw [hxl]; simpa using hi)) := List.getElem?_eq_getElem _
        obtain ⟨_, ps, h1, h2, h4⟩ := trod_read hfr d f.type n _ _ (hp.1 f hfm) (h3.trans this)
        exact ⟨ps, h1, h2, fun p hp B N hB hN => h4 p hp B N hB (by rw [hxd] at hN; exact hB.st t fs _ ht hN i f _ hfi' (by rw [List.getElem?_map, this]; rfl))⟩
    · rename_i n e ht
      simp only [Bool.and_eq_true, beq_iff_eq] at hp
      obtain ⟨xs, m, _, hxd, hl, hxl, hf⟩ := DataW.trod_array ht h
      refine ⟨hl, ?_⟩
      have htl := tiles_range (P.cellsOf e) e n 0
      rw [Nat.zero_mul, Nat.zero_add, hp.2, ← hl] at htl
      have := tile_read (G := G) (cs := cs) (Q := fun t ps => PTy P t ps) (R := Bds P t x.1) _ 0 (Nat.zero_le _) htl (fun o n' t' hm => ?_)
      · obtain ⟨ps, h1, h0, h2⟩ := this
        rw [List.drop_zero] at h1
        refine ⟨ps, h1, .array t n e ps ht (h1.1.trans hl) (fun i hi => ?_), h0⟩
        have := (h2 (i * P.cellsOf e) (P.cellsOf e) e (List.mem_map.2 ⟨i, by simp [List.mem_range', hi], rfl⟩)).2
        rwa [Nat.sub_zero] at this
      · obtain ⟨i, hi, hfe⟩ := List.mem_map.1 hm
        obtain ⟨rfl, rfl, rfl⟩ : i * P.cellsOf e = o ∧ P.cellsOf e = n' ∧ e = t' := by simpa using hfe
        have hi' : i < n := by simpa [List.mem_range'] using hi
        have h3 := hf i hi'
        have : xs[i]? = some (xs[i]'(by rw [hxl]; exact hi')) := List.getElem?_eq_getElem _
        obtain ⟨_, ps, h1, h2, h4⟩ := trod_read hfr d e m _ _ hp.1 (h3.trans this)
        exact ⟨ps, h1, h2, fun p hp B N hB hN => h4 p hp B N hB (by rw [hxd] at hN; exact hB.ar t n e _ ht hN _ (List.mem_map.2 ⟨_, List.getElem_mem _, rfl⟩))⟩
    · cases hp
end
end Go.PE
namespace Go.PE
open Go Go.Deep Go.ChangeShapes Go.RowKit

/-- pure arguments of these types -/
def Pargs (P : Program) : List TypeId → List Value → Prop
  | [], [] => True
  | t :: ts, p :: ps => (∃ cs, PTy P t cs ∧ p = toV P t cs) ∧ Pargs P ts ps
  | _, _ => False

/-- the moment of the call: nothing of the program's own is written -/
def G0 (P : Program) (W : World) : Gh := ⟨W, bsize W, fun _ => none, P.globals.size⟩

section
variable {H : Type} {enc : TypeId × Value → H} {P : Program}

theorem value_read {G : Gh} {d base b0 : Nat} {spare : Nat → Bool} {held : Bool} {r : Reach} {t : TypeId} {v : Value} {x : DataW H} {ps : List MemPlace} (hfr : ∀ b, bsize G.w b ≤ G.fr b) (hp : plainTy P d t = true)
    (hok : Value.okWide P G.w r b0 t v) (h : DataW.Trod enc P G.w base spare held t v x ps) : ∃ cs, PTy P t cs ∧ Rd G v (toV P t cs) ∧ Bds P t x (toV P t cs) := by
  obtain ⟨fuel, h⟩ := h
  obtain ⟨_, cs, hcr, hty, hbd⟩ := trod_read hfr d t fuel _ _ hp h
  refine ⟨cs, hty, ?_, fun B N hB hN => Bd.toV fun p hp => hbd p hp B N hB hN⟩
  by_cases hsa : (∃ fs, P.underlying t = some (.struct fs)) ∨ (∃ n e, P.underlying t = some (.array n e))
  · have hv : ∃ c, v = .agg c := by
      rcases hsa with ⟨fs, hs⟩ | ⟨n, e, hs⟩ <;> (unfold Value.okWide at hok; rw [hs] at hok; obtain ⟨c, hc, _⟩ := hok; exact ⟨c, hc⟩)
    obtain ⟨c, rfl⟩ := hv
    have ht : toV P t cs = ag cs := by
      rcases hsa with ⟨fs, hs⟩ | ⟨n, e, hs⟩ <;> (unfold toV; rw [hs])
    rw [ht]
    have := Rd.agg (G := G) c.toList cs (by simpa [Value.cells] using hcr.1.symm) (fun v hv => by
        obtain ⟨i, hi, hvi⟩ := List.getElem_of_mem hv
        have h1 : (Value.agg c).cells.toList[i]? = some v := by simp only [Value.cells]; rw [List.getElem?_eq_getElem hi, hvi]
        have h2 : cs[i]? = some (cs[i]'(by rw [hcr.1]; simpa [Value.cells] using hi)) := List.getElem?_eq_getElem _
        exact (hcr.2 i v _ h1 h2).1) (fun e xs hm => by
        obtain ⟨i, hi, hvi⟩ := List.getElem_of_mem hm
        have h1 : (Value.agg c).cells.toList[i]? = some ((Value.agg c).cells.toList[i]'(by rw [← hcr.1]; exact hi)) := List.getElem?_eq_getElem _
        exact (hcr.2 i _ _ h1 (by rw [List.getElem?_eq_getElem hi, hvi])).2.2 e xs rfl) (fun i u p hu hp => (hcr.2 i u p (by simpa [Value.cells] using hu) hp).2.1)
    simpa [ag] using this
  · have hns : ∀ fs, P.underlying t ≠ some (.struct fs) := fun fs h => hsa (.inl ⟨fs, h⟩)
    have hna : ∀ n e, P.underlying t ≠ some (.array n e) := fun n e h => hsa (.inr ⟨n, e, h⟩)
    obtain ⟨p, rfl, hlc⟩ := hty.one hns hna
    have ht : toV P t [p] = p := by
      unfold toV
      split
      · rename_i h; exact absurd h (hns _)
      · rename_i h; exact absurd h (hna _ _)
      · rfl
    rw [ht]
    have hlen : v.cells.size = 1 := by simpa using hcr.1.symm
    have hna' : ∀ c, v ≠ .agg c := by
      rintro c rfl
      unfold Value.okWide at hok
      split at hok
      · rename_i h; exact hns _ h
      · rename_i h; exact hna _ _ h
      · unfold Cell.okWide at hok
        split at hok <;> first | (rename_i hh; cases hh; done) | skip
        all_goals (unfold Cell.ok at hok; split at hok <;> simp_all)
    have hvc : v.cells = #[v] := by
      cases v <;> first | rfl | exact absurd rfl (hna' _)
    exact (hcr.2 0 v p (by rw [hvc]; rfl) rfl).2.1

theorem args_read {G : Gh} {d base b0 : Nat} {spare : Nat → Bool} {held : Bool} {r : Reach} (hfr : ∀ b, bsize G.w b ≤ G.fr b) : ∀ (ts : List TypeId) (vs : List Value) (ds : List (DataW H)) (ps : List MemPlace), (∀ t ∈ ts, plainTy P d t = true) →
    (∀ (j : Nat) t v, ts[j]? = some t → vs[j]? = some v → Value.okWide P G.w r b0 t v) → DataW.TrodAll enc P G.w base spare held ts vs ds ps →
    ∃ qs, Pargs P ts qs ∧ vs.length = qs.length ∧ ds.length = ts.length ∧ (∀ (i : Nat) v p, vs[i]? = some v → qs[i]? = some p → Rd G v p) ∧ ∀ (B : TypeId → DataW H → Prop) (N : Nat), BdOK P N B → (∀ (i : Nat) t x, ts[i]? = some t → ds[i]? = some x → B t x) → ∀ p ∈ qs, Bd N p
  | [], vs, ds, ps, _, _, h => by
    obtain ⟨rfl, rfl, rfl⟩ := trodAll_nil h
    exact ⟨[], trivial, rfl, rfl, fun i v p hv => by simp at hv, fun _ _ _ _ => by simp⟩
  | t :: ts, vs, ds, ps, hp, hok, h => by
    obtain ⟨v, vs1, x, ds1, a, b, rfl, rfl, rfl, h1, h2⟩ := trodAll_cons h
    obtain ⟨cs, hty, hrd, hbd⟩ := value_read hfr (hp t (List.mem_cons_self ..)) (hok 0 t v rfl rfl) h1
    obtain ⟨qs, hq1, hq2, hq3, hq4, hq5⟩ := args_read hfr ts vs1 ds1 b (fun t ht => hp t (List.mem_cons_of_mem _ ht)) (fun j t v h1 h2 => hok (j + 1) t v h1 h2) h2
    refine ⟨toV P t cs :: qs, ⟨⟨cs, hty, rfl⟩, hq1⟩, by simp [hq2], by simp [hq3], fun i u p hu hp => ?_, fun B N hB hN p hp => ?_⟩
    · cases i with
      | zero => simp at hu hp; subst hu; subst hp; exact hrd
      | succ i => exact hq4 i u p (by simpa using hu) (by simpa using hp)
    · rcases List.mem_cons.1 hp with rfl | hp
      · exact hbd B N hB (hN 0 t x rfl rfl)
      · exact hq5 B N hB (fun i t' x' h1 h2 => hN (i + 1) t' x' h1 h2) p hp

theorem trodAll_stays (hl : laidOutB P = true) {W W' : World} {base : Nat} {sp' : Nat → Bool} : ∀ (ts : List TypeId) (vs : List Value) (ds : List (DataW H)) (ps : List MemPlace), (∀ t ∈ ts, P.readableRec t = true ∧ t < P.types.size) →
    DataW.TrodAll enc P W base (fun _ => true) true ts vs ds ps → (∀ p ∈ ps, W.sameAt W' p) → (∀ p ∈ ps, sp' p.block = true) → DataW.TrodAll enc P W' base sp' true ts vs ds ps
  | [], vs, ds, ps, _, h, _, _ => by
    obtain ⟨rfl, rfl, rfl⟩ := trodAll_nil h
    exact h
  | t :: ts, vs, ds, ps, hr, h, h1, h2 => by
    obtain ⟨v, vs1, x, ds1, a, b, rfl, rfl, rfl, h3, h4⟩ := trodAll_cons h
    refine ⟨a, b, WideElems.Trod_stays hl (hr t (List.mem_cons_self ..)).1 (hr t (List.mem_cons_self ..)).2 h3 (fun p hp => h1 p (List.mem_append_left _ hp)) (fun p hp => h2 p (List.mem_append_left _ hp)), ?_, rfl⟩
    exact trodAll_stays hl ts vs1 ds1 b (fun t ht => hr t (List.mem_cons_of_mem _ ht)) h4 (fun p hp => h1 p (List.mem_append_right _ hp)) (fun p hp => h2 p (List.mem_append_right _ hp))

theorem post_true {f : Func} {s : ChangeSpec} {apart fresh handsOn again : Bool} {W W' : World} {args : Array Value} {ds gs : List (DataW H)} {before : List MemPlace} {tb : TypeId}
    (hl : laidOutB P = true) (hr : ∀ t ∈ f.params.toList, P.readableRec t = true ∧ t < P.types.size) (hv : s.vars = [])
    (hrt : f.resultTypes = #[tb]) (htb : P.underlying tb = some .bool) (hW : DataW.Whole enc P f.params.toList s.vars apart W args.toList ds gs before) (hb : Below W.heap.size W W')
    (h1 : (s.fn H (ds ++ gs)).results = [.lit (.bool true)]) (h2 : (s.fn H (ds ++ gs)).args = ds) (h3 : (s.fn H (ds ++ gs)).vars = []) :
    s.post enc P f apart fresh handsOn again W args (.bool true) W' := by
  have hlt : ∀ p ∈ before, p.block < W.heap.size := fun p hp => by simpa using hW.lt p hp
  have hW0 := hW
  obtain ⟨p, q, hA, hV, rfl, hz, hnd⟩ := hW
  rw [hv] at hV
  obtain ⟨rfl, rfl⟩ := trodVars_none hV
  simp only [List.append_nil] at hlt h1 h2 h3 hz hnd hW0
  have hres : ∀ (b : Nat) (sp : Nat → Bool) (hd : Bool), DataW.TrodAll enc P W' b sp hd f.resultTypes.toList ((Value.bool true).resultList f.resultTypes.size) (s.fn H (ds ++ [])).results [] := by
    intro b sp hd
    rw [List.append_nil, h1, hrt]
    exact trodAll_cons_mk (shut_bool htb true) trodAll_mk0
  have hargs : ∀ sp : Nat → Bool, (∀ x ∈ p, sp x.block = true) → DataW.TrodAll enc P W' 0 sp true f.params.toList args.toList (s.fn H (ds ++ [])).args p := by
    intro sp hsp
    rw [List.append_nil, h2]
    exact trodAll_stays hl _ _ _ _ hr hA (fun x hx => hb.same (hlt x hx)) hsp
  have hvars : ∀ sp : Nat → Bool, DataW.TrodVars enc P W' sp s.vars (s.fn H (ds ++ [])).vars [] := by
    intro sp
    rw [hv, List.append_nil, h3]
    rfl
  refine ⟨ds, [], p, [], p, [], by simpa using hW0, hres _ _ _, hargs _ (fun x hx => by simpa using hlt x hx), hvars _, hb.frame _, fun _ => ?_⟩
  refine ⟨ok_one hrt rfl (okWide_bool_mk htb true), (s.fn H (ds ++ [])).results ++ (s.fn H (ds ++ [])).args, (s.fn H (ds ++ [])).vars, p, ?_, fun x hx _ => hx⟩
  refine ⟨[] ++ p, [], trodAll_append (hargs _ (fun _ _ => rfl)) (hres _ _ _), hvars _, by simp, ?_, ?_⟩
  · intro b off hx
    rw [hb.frozen (hlt _ hx)]
    exact hz b off hx
  · exact hnd

end
end Go.PE
namespace Go.PE
open Go
theorem w64 {x : Int} (h1 : -9223372036854775808 ≤ x) (h2 : x < 9223372036854775808) : IntKind.i64.wrap x = x := by rw [IntKind.wrap_i64]; omega
theorem elemAt_some {xs : List Value} {n : Int} {size : Nat} {e : Value} {l : List Value} (h0 : 0 ≤ n) (he : xs[n.toNat]? = some e) (hl : cellsOf e = some l) (hs : l.length = size) : elemAt xs n size = some (dptr 0 l) := by
  simp [elemAt, h0, he, hl, hs]
/-- the elements of a slice given by a function on a plain list -/
theorem elemAt_map {α : Type} {f : α → Value} {l : List α} {n : Int} {size : Nat} {c : List Value} (h0 : 0 ≤ n) (hn : n.toNat < l.length) (hc : cellsOf (f l[n.toNat]) = some c) (hs : c.length = size) : elemAt (l.map f) n size = some (dptr 0 c) :=
  elemAt_some h0 (by simp [hn]) hc hs
end Go.PE
namespace Go.PE
open Go Go.Deep Go.ChangeShapes Go.RowKit

/-- the moment of the call: the variables in Hg may be read -/
def GG (P : Program) (W : World) (Hg : Nat → Option (List Value)) : Gh := ⟨W, bsize W, fun k => match Hg k with | some _ => some k | none => none, P.globals.size⟩

/-- the world holds the variables so -/
def Holds (P : Program) (W : World) (Hg : Nat → Option (List Value)) : Prop :=
  ∀ g row, Hg g = some row → g < P.globals.size ∧ (∃ e fz, W.heap[g]? = some (.cells row.toArray e fz)) ∧ ∀ v ∈ row, PE.scal v = true

theorem entryG (P : Program) (W : World) (Hg : Nat → Option (List Value)) (h : Holds P W Hg) : Entry P (fun _ => False) Hg P.globals.size (fun _ => none) (GG P W Hg) where
  heap := {
    ob := fun k row hk => by
      have hk : Hg k = some row := hk
      obtain ⟨hlt, ⟨e, fz, hh⟩, hs⟩ := h k row hk
      have h1 : (GG P W Hg).be k = some k := by
        show (match Hg k with | some _ => some k | none => none) = some k
        rw [hk]
      exact ⟨k, e, row.toArray, fz, h1, hh, by simp, fun i v p hv hp => by
        have hv' : row[i]? = some v := by simpa using hv
        rw [hp] at hv'
        obtain rfl : p = v := by simpa using hv'
        have := hs p (List.mem_of_getElem? hp)
        exact ⟨by cases p <;> first | rfl | simp [PE.scal] at this, .scal p this⟩, fun hW => hW.elim (fun h => h.elim) (fun h => by have h : P.globals.size ≤ k := h; omega), fun h => by have h : P.globals.size ≤ k := h; omega⟩
    bn := fun k hk => by
      show (match Hg k with | some _ => some k | none => none) = none
      rw [show Hg k = none from hk]
    nxH := fun k hk => by
      cases hH : Hg k with
      | none => exact hH
      | some row => have := (h k row hH).1; have hk : P.globals.size ≤ k := hk; omega
    nx := rfl
    n0 := Nat.le_refl _
    inj := fun k k' b h1 h2 => by
      have e1 : k = b := by
        have h1 : (match Hg k with | some _ => some k | none => none) = some b := h1
        split at h1
        · exact Option.some.inj h1
        · cases h1
      have e2 : k' = b := by
        have h2 : (match Hg k' with | some _ => some k' | none => none) = some b := h2
        split at h2
        · exact Option.some.inj h2
        · cases h2
      rw [e1, e2]
    gl := fun g b _ h1 => by
      have h1 : (match Hg g with | some _ => some g | none => none) = some b := h1
      split at h1
      · exact (Option.some.inj h1).symm
      · cases h1
    ng := Nat.le_refl _
    ol := fun g pos h => by simp at h }
  ctok := fun k i e xs hp => by
    exfalso
    unfold pcell at hp
    split at hp
    · rename_i row hk
      have := (h k row hk).2.2
      rw [List.getD_eq_getElem?_getD] at hp
      cases hx : row[i]? with
      | none => rw [hx] at hp; simp [undef, lin] at hp
      | some v =>
        rw [hx] at hp
        have hsc := this v (List.mem_of_getElem? hx)
        have : v = lin e xs := by simpa using hp
        subst this
        simp [lin, PE.scal] at hsc
    · simp [undef, lin] at hp
  nolin := fun k row h => h.elim

section
variable {H : Type} {enc : TypeId × Value → H} {P : Program}
/-- A LAW's CONTRACT IS WHAT THE ROW ASKS -/
theorem row_ofG {f : FuncId} {fn : Func} {s : ChangeSpec} {d : Nat} {apart fresh handsOn again : Bool} {tb : TypeId} (Hg : Nat → Option (List Value)) (hl : laidOutB P = true) (hr : ∀ t ∈ fn.params.toList, P.readableRec t = true ∧ t < P.types.size)
    (hp : ∀ t ∈ fn.params.toList, plainTy P d t = true) (hv : s.vars = []) (hrt : fn.resultTypes = #[tb]) (htb : P.underlying tb = some .bool)
    (hs : ∀ ds : List (DataW H), ds.length = fn.params.toList.length → (s.fn H ds).results = [.lit (.bool true)] ∧ (s.fn H ds).args = ds ∧ (s.fn H ds).vars = [])
    (hlaw : ∀ ps, Pargs P fn.params.toList ps → PCalls P f ps Hg P.globals.size (fun _ => False) (fun p _ _ => p = .bool true))
    (W : World) (hW0 : Holds P W Hg) (base : Nat) (args : Array Value) (ds gs : List (DataW H)) (before : List MemPlace)
    (hval : ∀ (j : Nat) t v, fn.params[j]? = some t → args[j]? = some v → Value.okWide P W .any base t v)
    (hW : DataW.Whole enc P fn.params.toList s.vars apart W args.toList ds gs before) :
    Calls P f args W fun e W' => ∃ v, e = .returned v ∧ s.post enc P fn apart fresh handsOn again W args v W' := by
  have hW1 := hW
  obtain ⟨p, q, hA, hV, _, _, _⟩ := hW
  rw [hv] at hV
  obtain ⟨rfl, rfl⟩ := trodVars_none hV
  obtain ⟨qs, hq1, hq2, hq3, hq4, _⟩ := args_read (G := GG P W Hg) (fun b => Nat.le_refl _) _ _ _ _ hp (fun j t v h1 h2 => hval j t v (by simpa using h1) (by simpa using h2)) hA
  obtain ⟨s1, s2, s3⟩ := hs ds hq3
  refine (hlaw qs hq1 (GG P W Hg) (fun _ => none) args.toList (entryG P W Hg hW0) hq2 hq4).mono ?_
  rintro e w' ⟨v, pv, G', own', H', nx', rfl, he, hL, rfl⟩
  have hvv := plain_eq hL.res rfl
  subst hvv
  refine ⟨_, he, post_true hl hr hv hrt htb hW1 ⟨hL.os, hL.tape, hL.output, hL.sz, fun b hb => (hL.frame b hb (fun k _ hf => hf)).1⟩ (by simpa using s1) (by simpa using s2) (by simpa using s3)⟩
end
end Go.PE
namespace Go.PE
open Go

def withinC : PC :=
  (.seq (.reg [((some 4), (none, (.mv (.const (.int .i64 0)))))])
  (.seq (.reg [((some 5), (none, (.mv (.tmp 0)))),
    ((some 6), (none, (.mv (.tmp 1)))),
    ((some 7), (none, (.bi .rem (.tmp 5) (.tmp 6)))),
    ((some 8), (none, (.mv (.tmp 1)))),
    ((some 9), (none, (.bi .add (.tmp 7) (.tmp 8)))),
    ((some 10), (none, (.mv (.tmp 1)))),
    ((some 11), (none, (.bi .rem (.tmp 9) (.tmp 10)))),
    ((some 4), (none, (.mv (.tmp 11))))])
  .ret))
def nextC (w : Nat) : PC :=
  (.seq (.reg [((some 4), (none, (.mv (.const (.int .i64 0)))))])
  (.seq (.seq (.drw [((some 5), (none, (.mv (.tmp 0)))),
    ((some 6), (none, (.nilc (.tmp 5)))),
    ((some 7), (none, (.fa 1 (.tmp 6)))),
    ((some 8), (none, (.ld false (.tmp 7)))),
    ((some 9), (none, (.mv (.tmp 0)))),
    ((some 10), (none, (.nilc (.tmp 9)))),
    ((some 11), (none, (.fa 0 (.tmp 10)))),
    ((some 12), (none, (.ld false (.tmp 11)))),
    ((some 13), (none, (.len (.tmp 12)))),
    ((some 14), (none, (.bi .geq (.tmp 8) (.tmp 13))))])
  (.cond (.tmp 14)
    (.seq (.reg [((some 4), (none, (.mv (.const (.int .i64 0)))))])
    .ret)
    .skip))
  (.seq (.reg [((some 15), (none, (.mv (.tmp 0)))),
    ((some 16), (none, (.nilc (.tmp 15)))),
    ((some 17), (none, (.fa 1 (.tmp 16)))),
    ((some 18), (none, (.ld false (.tmp 17)))),
    ((some 19), (none, (.bi .add (.tmp 18) (.const (.int .i64 1))))),
    ((some 20), (none, (.nilc (.tmp 15)))),
    ((some 21), (none, (.fa 1 (.tmp 20)))),
    (none, (none, (.st 1 (.tmp 21) (.tmp 19))))])
  (.seq (.drw [((some 22), (none, (.mv (.tmp 0)))),
    ((some 23), (none, (.nilc (.tmp 22)))),
    ((some 24), (none, (.fa 0 (.tmp 23)))),
    ((some 25), (none, (.ld false (.tmp 24)))),
    ((some 26), (none, (.mv (.tmp 0)))),
    ((some 27), (none, (.nilc (.tmp 26)))),
    ((some 28), (none, (.fa 1 (.tmp 27)))),
    ((some 29), (none, (.ld false (.tmp 28)))),
    ((some 30), (none, (.bi .sub (.tmp 29) (.const (.int .i64 1))))),
    ((some 31), (none, (.ixS 1 (.tmp 25) (.tmp 30)))),
    ((some 32), (none, (.ld false (.tmp 31)))),
    ((some 33), (none, (.mv (.tmp 1)))),
    ((some 34), (none, (.call w [(.tmp 32), (.tmp 33)]))),
    ((some 4), (none, (.mv (.tmp 34))))])
  .ret))))

/-- what Within computes, for a positive bound -/
def within (x n : Int) : Int := (IntKind.i64.wrap (x.tmod n + n)).tmod n
def WithinOK (P : Program) (f : Nat) : Prop := ∀ (x n : Int), 0 < n → ∀ (H : Nat → Option (List Value)) (nx : Nat),
    PCalls P f [.int .i64 x, .int .i64 n] H nx (fun _ => False) (fun p H' nx' => p = .int .i64 (within x n) ∧ H' = H)
theorem within_ok {P : Program} {f : Nat} (hc : compFn P f = some (12, withinC, [.t 4])) : WithinOK P f := by
  intro x n h0 H nx
  refine PCalls_of hc (by simp) fun hw => ?_
  have hn : n ≠ 0 := by omega
  simp [withinC, hn]
  exact wF_of (by simp [within])

/-- the cells of a deck -/
def dk (l : List Int) (at_ : Int) : List Value := [deep (l.map (.int .i64)), .int .i64 at_]
/-- what Next hands back -/
def nextV (l : List Int) (at_ n : Int) : Int := if at_ < l.length then within (l.getD at_.toNat 0) n else 0
/-- where the deck stands behind it -/
def nextP (l : List Int) (at_ : Int) : Int := if at_ < l.length then at_ + 1 else at_
def NextOK (P : Program) (f : Nat) : Prop := ∀ (k : Nat) (l : List Int) (at_ n : Int), 0 < n → 0 ≤ at_ → l.length ≤ maxLen → ∀ (H : Nat → Option (List Value)) (nx : Nat), H k = some (dk l at_) →
    PCalls P f [ptr k 0, .int .i64 n] H nx (fun j => j = k) (fun p H' _ => p = .int .i64 (nextV l at_ n) ∧ H' = upd H k (some (dk l (nextP l at_))))
theorem upd_self {α : Type} (f : Nat → α) (k : Nat) (v : α) (h : f k = v) : upd f k v = f := by
  funext j; simp only [upd]; split
  · rename_i e; rw [e, h]
  · rfl
theorem next_ok {P : Program} {f w : Nat} (hc : compFn P f = some (35, nextC w, [.t 4])) (hwi : WithinOK P w) : NextOK P f := by
  intro k l at_ n h0 ha hlen H nx hk
  refine PCalls_of hc (by simp) fun hw => ?_
  have hk0 := hk
  unfold dk at hk
  simp [nextC, hk]
  refine wB_of (fun h => ?_) (fun h => ?_)
  · simp at h
    have h1 : ¬ at_ < l.length := by omega
    refine wF_of ⟨by simp [nextV, h1], ?_⟩
    simp only [nextP, if_neg h1]
    exact (upd_self H k _ hk0).symm
  · simp at h
    have hm : (maxLen : Int) = 9223372036854775807 := rfl
    have hlt : at_.toNat < l.length := by omega
    rw [w64 (x := at_ + 1) (by omega) (by omega)]
    simp [w64 (x := at_) (by omega) (by omega)]
    have he : elemAt (l.map (Value.int .i64)) at_ 1 = some (dptr 0 [.int .i64 l[at_.toNat]]) := elemAt_map ha hlt rfl rfl
    rw [he]
    simp
    refine wqCall_of (hwi _ n h0 _ _) rfl (fun p H' nx' h => h.1) ?_
    simp
    exact wF_of ⟨by simp [nextV, h, hlt], by simp [dk, nextP, h]⟩
end Go.PE
namespace Go.PE
open Go

theorem within_range {x n : Int} (h0 : 0 < n) (h1 : n ≤ 4611686018427387904) : 0 ≤ within x n ∧ within x n < n := by
  have a1 := Int.lt_tmod_of_pos x h0
  have a2 := Int.tmod_lt_of_pos x h0
  unfold within
  rw [w64 (by omega) (by omega)]
  exact ⟨Int.tmod_nonneg _ (by omega), Int.tmod_lt_of_pos _ h0⟩

/-- behind a call the deck stands somewhere; v is what came out -/
def Drew (H : Nat → Option (List Value)) (k : Nat) (l : List Int) (H' : Nat → Option (List Value)) : Prop := ∃ at_ : Int, 0 ≤ at_ ∧ H' = upd H k (some (dk l at_))
/-- a function of the deck alone, with these arguments, that hands back a value with Q -/
def Draws (P : Program) (f : Nat) (args : List Value) (Q : Value → Prop) : Prop := ∀ (k : Nat) (l : List Int) (at_ : Int), 0 ≤ at_ → l.length ≤ maxLen → ∀ (H : Nat → Option (List Value)) (nx : Nat), H k = some (dk l at_) →
    PCalls P f (ptr k 0 :: args) H nx (fun j => j = k) (fun p H' _ => Q p ∧ Drew H k l H')
def isI (lo hi : Int) (p : Value) : Prop := ∃ v, p = .int .i64 v ∧ lo ≤ v ∧ v ≤ hi
def NextW (P : Program) (f : Nat) : Prop := ∀ n : Int, 0 < n → n ≤ 4611686018427387904 → Draws P f [.int .i64 n] (isI 0 (n - 1))
theorem next_w {P : Program} {f : Nat} (h : NextOK P f) : NextW P f := by
  intro n h0 h1 k l at_ ha hl H nx hk
  refine (h k l at_ n h0 ha hl H nx hk).mono fun p H' nx' hp => ?_
  obtain ⟨rfl, rfl⟩ := hp
  have := @within_range (l.getD at_.toNat 0) n h0 h1
  refine ⟨⟨_, rfl, ?_, ?_⟩, _, ?_, rfl⟩
  · unfold nextV; split <;> omega
  · unfold nextV; split <;> omega
  · unfold nextP; split <;> omega

theorem dk_noLin (l : List Int) (at_ : Int) : rowNoLin (dk l at_) := by
  intro i e xs h
  unfold dk at h
  match i with
  | 0 => simp [deep, lin] at h
  | 1 => simp [lin] at h
  | i + 2 => simp [undef, lin] at h

/-- a call that draws -/
theorem wCall_draw {P : Program} {T : Nat → Prop} {n0 f : Nat} {d : Option Nat} {s : PS} {K : PS → Prop} {Q : Value → Prop} {args : List Value} {k : Nat} {l : List Int} {at_ : Int} (h : Draws P f args Q) (ha : 0 ≤ at_) (hl : l.length ≤ maxLen)
    (hk : s.H k = some (dk l at_)) (hT : n0 ≤ k ∨ T k) (hK : ∀ p at' nx', Q p → 0 ≤ at' → K ⟨(s.putO d p).t, upd s.H k (some (dk l at')), nx'⟩) : wCall (PCalls P) T n0 f (ptr k 0 :: args) d s K := by
  refine wCall_ofT (h k l at_ ha hl s.H s.nx hk) (fun j hj => by subst hj; exact hT) (fun j row hj hr => by subst hj; rw [hk] at hr; obtain rfl := Option.some.inj hr; exact dk_noLin l at_) fun p H' nx' hp => ?_
  obtain ⟨hq, at', ha', rfl⟩ := hp
  exact hK p at' nx' hq ha'

def rangeC (w : Nat) : PC :=
  (.seq (.reg [((some 6), (none, (.mv (.const (.int .i64 0)))))])
  (.seq (.reg [((some 7), (none, (.mv (.tmp 1)))),
    ((some 8), (none, (.mv (.tmp 0)))),
    ((some 9), (none, (.mv (.tmp 2)))),
    ((some 10), (none, (.mv (.tmp 1)))),
    ((some 11), (none, (.bi .sub (.tmp 9) (.tmp 10)))),
    ((some 12), (none, (.bi .add (.tmp 11) (.const (.int .i64 1))))),
    ((some 13), (none, (.call w [(.tmp 8), (.tmp 12)]))),
    ((some 14), (none, (.bi .add (.tmp 7) (.tmp 13)))),
    ((some 6), (none, (.mv (.tmp 14))))])
  .ret))
theorem upd_upd {α : Type} (f : Nat → α) (k : Nat) (v w : α) : upd (upd f k v) k w = upd f k w := by funext j; simp only [upd]; split <;> rfl
theorem range_w {P : Program} {f w : Nat} (hc : compFn P f = some (15, rangeC w, [.t 6])) (hn : NextW P w) : ∀ lo hi : Int, 0 ≤ lo → lo ≤ hi → hi < 4611686018427387904 → Draws P f [.int .i64 lo, .int .i64 hi] (isI lo hi) := by
  intro lo hi h0 h1 h2 k l at_ ha hl H nx hk
  refine PCalls_of hc (by simp) fun hw => ?_
  simp [rangeC]
  rw [w64 (x := hi - lo) (by omega) (by omega), w64 (x := hi - lo + 1) (by omega) (by omega)]
  refine wCall_draw (hn (hi - lo + 1) (by omega) (by omega)) ha hl hk (.inr rfl) fun p at' nx' hp ha' => ?_
  obtain ⟨v, rfl, hv1, hv2⟩ := hp
  simp
  rw [w64 (x := lo + v) (by omega) (by omega)]
  exact wF_of ⟨⟨lo + v, rfl, by omega, by omega⟩, at', ha', rfl⟩
def minuteC (w : Nat) : PC :=
  (.seq (.reg [((some 2), (none, (.mv (.const (.int .i64 0)))))])
  (.seq (.seq (.reg [((some 3), (none, (.mv (.tmp 0)))),
    ((some 4), (none, (.call w [(.tmp 3), (.const (.int .i64 4))])))])
  (.block 0 (.seq (.reg [((some 6), (none, (.bi .eql (.tmp 4) (.const (.int .i64 0))))),
     ((some 5), (none, (.mv (.tmp 6))))])
   (.cond (.tmp 5)
     (.seq (.reg [((some 7), (none, (.mv (.tmp 0)))),
       ((some 8), (none, (.call w [(.tmp 7), (.const (.int .i64 4320))]))),
       ((some 2), (none, (.mv (.tmp 8))))])
     .ret)
     (.seq (.reg [((some 10), (none, (.bi .eql (.tmp 4) (.const (.int .i64 1))))),
       ((some 9), (none, (.mv (.tmp 10))))])
     (.cond (.tmp 9)
       (.seq (.reg [((some 11), (none, (.mv (.tmp 0)))),
         ((some 12), (none, (.call w [(.tmp 11), (.const (.int .i64 60))]))),
         ((some 13), (none, (.bi .mul (.tmp 12) (.const (.int .i64 1440))))),
         ((some 14), (none, (.mv (.tmp 0)))),
         ((some 15), (none, (.call w [(.tmp 14), (.const (.int .i64 3))]))),
         ((some 16), (none, (.bi .add (.tmp 13) (.tmp 15)))),
         ((some 17), (none, (.mm false (.tmp 16) (.const (.int .i64 67108864))))),
         ((some 2), (none, (.mv (.tmp 17))))])
       .ret)
       (.seq (.reg [((some 19), (none, (.bi .eql (.tmp 4) (.const (.int .i64 2))))),
         ((some 18), (none, (.mv (.tmp 19))))])
       (.cond (.tmp 18)
         (.seq (.reg [((some 20), (none, (.mv (.tmp 0)))),
           ((some 21), (none, (.call w [(.tmp 20), (.const (.int .i64 4320))]))),
           ((some 22), (none, (.bi .sub (.const (.int .i64 67108864)) (.tmp 21)))),
           ((some 2), (none, (.mv (.tmp 22))))])
         .ret)
         .skip))))))))
  (.seq (.reg [((some 23), (none, (.mv (.tmp 0)))),
    ((some 24), (none, (.call w [(.tmp 23), (.const (.int .i64 67108865))]))),
    ((some 2), (none, (.mv (.tmp 24))))])
  .ret)))
theorem minute_w {P : Program} {f w : Nat} (hc : compFn P f = some (25, minuteC w, [.t 2])) (hn : NextW P w) : Draws P f [] (isI 0 67108864) := by
  intro k l at_ ha hl H nx hk
  refine PCalls_of hc (by simp) fun hw => ?_
  simp [minuteC]
  refine wCall_draw (hn 4 (by omega) (by omega)) ha hl hk (.inr rfl) fun p at1 nx1 hp ha1 => ?_
  obtain ⟨v, rfl, hv1, hv2⟩ := hp
  simp
  refine wB_of (fun h1 => ?_) (fun h1 => ?_)
  · refine wCall_draw (hn 4320 (by omega) (by omega)) ha1 hl (by simp) (.inr rfl) fun p at2 nx2 hp ha2 => ?_
    obtain ⟨v2, rfl, hv21, hv22⟩ := hp
    simp
    exact wF_of ⟨⟨v2, rfl, by omega, by omega⟩, at2, ha2, by simp [upd_upd]⟩
  · refine wB_of (fun h2 => ?_) (fun h2 => ?_)
    · refine wCall_draw (hn 60 (by omega) (by omega)) ha1 hl (by simp) (.inr rfl) fun p at2 nx2 hp ha2 => ?_
      obtain ⟨v2, rfl, hv21, hv22⟩ := hp
      simp
      refine wCall_draw (hn 3 (by omega) (by omega)) ha2 hl (by simp) (.inr rfl) fun p at3 nx3 hp ha3 => ?_
      obtain ⟨v3, rfl, hv31, hv32⟩ := hp
      simp
      rw [w64 (x := v2 * 1440) (by omega) (by omega), w64 (x := v2 * 1440 + v3) (by omega) (by omega)]
      refine wF_of ⟨⟨_, rfl, by split <;> omega, by split <;> omega⟩, at3, ha3, by simp [upd_upd]⟩
    · refine wB_of (fun h3 => ?_) (fun h3 => ?_)
      · refine wCall_draw (hn 4320 (by omega) (by omega)) ha1 hl (by simp) (.inr rfl) fun p at2 nx2 hp ha2 => ?_
        obtain ⟨v2, rfl, hv21, hv22⟩ := hp
        simp
        rw [w64 (x := 67108864 - v2) (by omega) (by omega)]
        exact wF_of ⟨⟨67108864 - v2, rfl, by omega, by omega⟩, at2, ha2, by simp [upd_upd]⟩
      · refine wCall_draw (hn 67108865 (by omega) (by omega)) ha1 hl (by simp) (.inr rfl) fun p at2 nx2 hp ha2 => ?_
        obtain ⟨v2, rfl, hv21, hv22⟩ := hp
        simp
        exact wF_of ⟨⟨v2, rfl, by omega, by omega⟩, at2, ha2, by simp [upd_upd]⟩
end Go.PE
namespace Go.PE
open Go

def names : List ByteArray := [⟨#[97]⟩, ⟨#[98]⟩, ⟨#[97, 110, 110]⟩, ⟨#[98, 111, 98]⟩, ⟨#[99, 105, 100]⟩, ⟨#[122, 111, 101]⟩, ⟨#[97, 97]⟩, ⟨#[97, 98, 99, 100, 101, 102, 103, 104, 105, 106, 107, 108, 109, 110, 111, 112]⟩]
def isN (p : Value) : Prop := ∃ b ∈ names, p = .string b
def nameC (e w : Nat) : PC :=
  (.seq (.reg [((some 2), (none, (.mv (.const (.string ⟨#[]⟩)))))])
  (.seq (.reg [((some 3), (none, (.mks e 1 false [(.const (.string ⟨#[97]⟩)), (.const (.string ⟨#[98]⟩)), (.const (.string ⟨#[97, 110, 110]⟩)), (.const (.string ⟨#[98, 111, 98]⟩)), (.const (.string ⟨#[99, 105, 100]⟩)), (.const (.string ⟨#[122, 111, 101]⟩)), (.const (.string ⟨#[97, 97]⟩)), (.const (.string ⟨#[97, 98, 99, 100, 101, 102, 103, 104, 105, 106, 107, 108, 109, 110, 111, 112]⟩))]))),
    ((some 4), (none, (.mv (.tmp 0)))),
    ((some 5), (none, (.call w [(.tmp 4), (.const (.int .i64 8))]))),
    ((some 6), (none, (.ixS 1 (.tmp 3) (.tmp 5)))),
    ((some 7), (none, (.ld false (.tmp 6)))),
    ((some 2), (none, (.mv (.tmp 7))))])
  .ret))
theorem name_w {P : Program} {f w e : Nat} (hc : compFn P f = some (8, nameC e w, [.t 2])) (hn : NextW P w) : Draws P f [] isN := by
  intro k l at_ ha hl H nx hk
  refine PCalls_of hc (by simp) fun hw => ?_
  simp [nameC]
  refine wCall_draw (hn 8 (by omega) (by omega)) ha hl hk (.inr rfl) fun p at1 nx1 hp ha1 => ?_
  obtain ⟨v, rfl, hv1, hv2⟩ := hp
  simp
  have hv : v = 0 ∨ v = 1 ∨ v = 2 ∨ v = 3 ∨ v = 4 ∨ v = 5 ∨ v = 6 ∨ v = 7 := by omega
  rcases hv with rfl | rfl | rfl | rfl | rfl | rfl | rfl | rfl <;> simp [elemAt] <;> exact wF_of ⟨⟨_, by simp [names], rfl⟩, at1, ha1, rfl⟩

/-- a new deck -/
def newC : PC :=
  (.seq (.reg [((some 2), (none, (.mv (.const (.pointer none)))))])
  (.seq (.reg [((some 3), (none, (.mv (.tmp 0)))),
    ((some 4), (none, (.build [(.inr ((.tmp 3), 1)), (.inl [(.int .i64 0)])]))),
    ((some 5), (none, (.box 2 (.tmp 4)))),
    ((some 2), (none, (.mv (.tmp 5))))])
  .ret))
theorem new_ok {P : Program} {f : Nat} (hc : compFn P f = some (6, newC, [.t 2])) (l : List Int) (H : Nat → Option (List Value)) (nx : Nat) :
    PCalls P f [deep (l.map (.int .i64))] H nx (fun _ => False) (fun p H' nx' => p = ptr nx 0 ∧ H' = upd H nx (some (dk l 0)) ∧ nx' = nx + 1) := by
  refine PCalls_of hc (by simp) fun hw => ?_
  simp [newC]
  exact wF_of ⟨rfl, rfl, rfl⟩

end Go.PE
namespace Go.PE
open Go
def uptoC (w : Nat) : PC :=
  (.seq (.reg [((some 4), (none, (.mv (.const (.int .i64 0)))))])
  (.seq (.seq (.reg [((some 5), (none, (.mv (.tmp 0)))),
    ((some 6), (none, (.call w [(.tmp 5), (.const (.int .i64 4))])))])
  (.block 0 (.seq (.reg [((some 8), (none, (.bi .eql (.tmp 6) (.const (.int .i64 0))))),
     ((some 7), (none, (.mv (.tmp 8))))])
   (.cond (.tmp 7)
     (.seq (.reg [((some 9), (none, (.mv (.tmp 0)))),
       ((some 10), (none, (.call w [(.tmp 9), (.const (.int .i64 4))]))),
       ((some 11), (none, (.mv (.tmp 1)))),
       ((some 12), (none, (.mm false (.tmp 10) (.tmp 11)))),
       ((some 4), (none, (.mv (.tmp 12))))])
     .ret)
     (.seq (.reg [((some 14), (none, (.bi .eql (.tmp 6) (.const (.int .i64 1))))),
       ((some 13), (none, (.mv (.tmp 14))))])
     (.cond (.tmp 13)
       (.seq (.reg [((some 15), (none, (.mv (.tmp 0)))),
         ((some 16), (none, (.call w [(.tmp 15), (.const (.int .i64 300))]))),
         ((some 17), (none, (.mv (.tmp 1)))),
         ((some 18), (none, (.mm false (.tmp 16) (.tmp 17)))),
         ((some 4), (none, (.mv (.tmp 18))))])
       .ret)
       (.seq (.reg [((some 20), (none, (.bi .eql (.tmp 6) (.const (.int .i64 2))))),
         ((some 19), (none, (.mv (.tmp 20))))])
       (.cond (.tmp 19)
         (.seq (.reg [((some 21), (none, (.mv (.tmp 1)))),
           ((some 22), (none, (.mv (.tmp 0)))),
           ((some 23), (none, (.mv (.tmp 1)))),
           ((some 24), (none, (.bi .add (.tmp 23) (.const (.int .i64 1))))),
           ((some 25), (none, (.mm false (.const (.int .i64 3)) (.tmp 24)))),
           ((some 26), (none, (.call w [(.tmp 22), (.tmp 25)]))),
           ((some 27), (none, (.bi .sub (.tmp 21) (.tmp 26)))),
           ((some 4), (none, (.mv (.tmp 27))))])
         .ret)
         .skip))))))))
  (.seq (.reg [((some 28), (none, (.mv (.tmp 0)))),
    ((some 29), (none, (.mv (.tmp 1)))),
    ((some 30), (none, (.bi .add (.tmp 29) (.const (.int .i64 1))))),
    ((some 31), (none, (.call w [(.tmp 28), (.tmp 30)]))),
    ((some 4), (none, (.mv (.tmp 31))))])
  .ret)))
theorem upto_w {P : Program} {f w : Nat} (hc : compFn P f = some (32, uptoC w, [.t 4])) (hn : NextW P w) : ∀ n : Int, 2 ≤ n → n < 4611686018427387903 → Draws P f [.int .i64 n] (isI 0 n) := by
  intro n h0 h1 k l at_ ha hl H nx hk
  refine PCalls_of hc (by simp) fun hw => ?_
  simp [uptoC]
  refine wCall_draw (hn 4 (by omega) (by omega)) ha hl hk (.inr rfl) fun p at1 nx1 hp ha1 => ?_
  obtain ⟨v, rfl, hv1, hv2⟩ := hp
  simp
  refine wB_of (fun h1 => ?_) (fun h1 => ?_)
  · refine wCall_draw (hn 4 (by omega) (by omega)) ha1 hl (by simp) (.inr rfl) fun p at2 nx2 hp ha2 => ?_
    obtain ⟨v2, rfl, hv21, hv22⟩ := hp
    simp
    exact wF_of ⟨⟨_, rfl, by split <;> omega, by split <;> omega⟩, at2, ha2, by simp [upd_upd]⟩
  · refine wB_of (fun h2 => ?_) (fun h2 => ?_)
    · refine wCall_draw (hn 300 (by omega) (by omega)) ha1 hl (by simp) (.inr rfl) fun p at2 nx2 hp ha2 => ?_
      obtain ⟨v2, rfl, hv21, hv22⟩ := hp
      simp
      exact wF_of ⟨⟨_, rfl, by split <;> omega, by split <;> omega⟩, at2, ha2, by simp [upd_upd]⟩
    · refine wB_of (fun h3 => ?_) (fun h3 => ?_)
      · rw [w64 (x := n + 1) (by omega) (by omega), if_neg (by omega)]
        refine wCall_draw (hn 3 (by omega) (by omega)) ha1 hl (by simp) (.inr rfl) fun p at2 nx2 hp ha2 => ?_
        obtain ⟨v2, rfl, hv21, hv22⟩ := hp
        simp
        rw [w64 (x := n - v2) (by omega) (by omega)]
        exact wF_of ⟨⟨n - v2, rfl, by omega, by omega⟩, at2, ha2, by simp [upd_upd]⟩
      · rw [w64 (x := n + 1) (by omega) (by omega)]
        refine wCall_draw (hn (n + 1) (by omega) (by omega)) ha1 hl (by simp) (.inr rfl) fun p at2 nx2 hp ha2 => ?_
        obtain ⟨v2, rfl, hv21, hv22⟩ := hp
        simp
        exact wF_of ⟨⟨v2, rfl, by omega, by omega⟩, at2, ha2, by simp [upd_upd]⟩
end Go.PE
namespace Go.PE
open Go
theorem and_mask {m : Int} {n : Nat} (h0 : 0 ≤ m) (h1 : m < 18446744073709551616) (hn : n < 64) : bitsV .and .u64 m (2 ^ n - 1) = m % 2 ^ n := by
  obtain ⟨a, rfl⟩ := Int.eq_ofNat_of_zero_le h0
  have hp : (2 : Nat) ^ n ≤ 2 ^ 63 := Nat.pow_le_pow_right (by omega) (by omega)
  have hpos : 0 < (2 : Nat) ^ n := Nat.two_pow_pos n
  have e1 : ((2 : Int) ^ n - 1) = ((2 ^ n - 1 : Nat) : Int) := by
    rw [Int.natCast_sub (by omega)]; simp
  have e2 : (2 : Int) ^ n = ((2 ^ n : Nat) : Int) := by simp
  rw [e1, e2]
  have e3 : (BitVec.ofInt 64 ((2 ^ n - 1 : Nat) : Int)).toNat = 2 ^ n - 1 := by
    rw [BitVec.toNat_ofInt]; simp; omega
  have e4 : (BitVec.ofInt 64 (a : Int)).toNat = a := by
    rw [BitVec.toNat_ofInt]; simp; omega
  unfold bitsV
  show IntKind.u64.wrap ((BitVec.ofInt 64 (a : Int) &&& BitVec.ofInt 64 ((2 ^ n - 1 : Nat) : Int)).toNat : Int) = _
  rw [BitVec.toNat_and, e3, e4, Nat.and_two_pow_sub_one_eq_mod, IntKind.wrap_u64]
  have : a % 2 ^ n < 2 ^ n := Nat.mod_lt _ hpos
  rw [← Int.natCast_emod]
  omega
end Go.PE
namespace Go.PE
open Go
def isMask (bits : Int) (p : Value) : Prop := ∃ m : Int, p = .int .u64 m ∧ 0 < m ∧ m < 2 ^ bits.toNat
def maskRest (w : Nat) : PC :=
  (.seq (.seq (.reg [((some 29), (none, (.mv (.tmp 1)))),
    ((some 30), (none, (.bi .lss (.tmp 29) (.const (.int .i64 64)))))])
  (.cond (.tmp 30)
    (.reg [((some 31), (none, (.mv (.tmp 5)))),
      ((some 32), (none, (.mv (.tmp 1)))),
      ((some 33), (none, (.cv .u64 (.tmp 32)))),
      ((some 34), (none, (.bi .shl (.const (.int .u64 1)) (.tmp 33)))),
      ((some 35), (none, (.bi .sub (.tmp 34) (.const (.int .u64 1))))),
      ((some 36), (none, (.bi .and (.tmp 31) (.tmp 35)))),
      ((some 5), (none, (.mv (.tmp 36))))])
    .skip))
  (.seq (.seq (.reg [((some 37), (none, (.mv (.tmp 5)))),
    ((some 38), (none, (.bi .eql (.tmp 37) (.const (.int .u64 0)))))])
  (.cond (.tmp 38)
    (.seq (.reg [((some 39), (none, (.mv (.tmp 0)))),
      ((some 40), (none, (.mv (.tmp 1)))),
      ((some 41), (none, (.call w [(.tmp 39), (.tmp 40)]))),
      ((some 42), (none, (.cv .u64 (.tmp 41)))),
      ((some 43), (none, (.bi .shl (.const (.int .u64 1)) (.tmp 42)))),
      ((some 4), (none, (.mv (.tmp 43))))])
    .ret)
    .skip))
  (.seq (.reg [((some 44), (none, (.mv (.tmp 5)))),
    ((some 4), (none, (.mv (.tmp 44))))])
  .ret)))
def maskC (w : Nat) : PC :=
  (.seq (.reg [((some 4), (none, (.mv (.const (.int .u64 0)))))])
  (.seq (.reg [((some 5), (none, (.mv (.const (.int .u64 0)))))])
  (.seq (.seq (.reg [((some 6), (none, (.mv (.tmp 0)))),
    ((some 7), (none, (.call w [(.tmp 6), (.const (.int .i64 3))])))])
  (.block 0 (.seq (.reg [((some 9), (none, (.bi .eql (.tmp 7) (.const (.int .i64 0))))),
     ((some 8), (none, (.mv (.tmp 9))))])
   (.cond (.tmp 8)
     (.reg [((some 10), (none, (.mv (.tmp 0)))),
       ((some 11), (none, (.call w [(.tmp 10), (.const (.int .i64 16))]))),
       ((some 12), (none, (.cv .u64 (.tmp 11)))),
       ((some 5), (none, (.mv (.tmp 12))))])
     (.seq (.reg [((some 14), (none, (.bi .eql (.tmp 7) (.const (.int .i64 1))))),
       ((some 13), (none, (.mv (.tmp 14))))])
     (.cond (.tmp 13)
       (.reg [((some 15), (none, (.mv (.tmp 0)))),
         ((some 16), (none, (.call w [(.tmp 15), (.const (.int .i64 65536))]))),
         ((some 17), (none, (.cv .u64 (.tmp 16)))),
         ((some 18), (none, (.mv (.tmp 0)))),
         ((some 19), (none, (.call w [(.tmp 18), (.const (.int .i64 65536))]))),
         ((some 20), (none, (.cv .u64 (.tmp 19)))),
         ((some 21), (none, (.bi .shl (.tmp 20) (.const (.int .u64 48))))),
         ((some 22), (none, (.bi .or (.tmp 17) (.tmp 21)))),
         ((some 5), (none, (.mv (.tmp 22))))])
       (.seq (.reg [((some 24), (none, (.bi .eql (.tmp 7) (.const (.int .i64 2))))),
         ((some 23), (none, (.mv (.tmp 24))))])
       (.cond (.tmp 23)
         (.reg [((some 25), (none, (.mv (.tmp 0)))),
           ((some 26), (none, (.call w [(.tmp 25), (.const (.int .i64 65536))]))),
           ((some 27), (none, (.cv .u64 (.tmp 26)))),
           ((some 28), (none, (.un .xor (.tmp 27)))),
           ((some 5), (none, (.mv (.tmp 28))))])
         .skip))))))))
  (maskRest w))))
theorem mask_rest {P : Program} {w : Nat} (hn : NextW P w) (n m : Int) (h0 : 1 ≤ n) (h1 : n ≤ 64) (hm0 : 0 ≤ m) (hm1 : m < 18446744073709551616) {nx0 : Nat} {Q : Ex → PS → Prop} (k : Nat) (l : List Int) (at_ : Int) (ha : 0 ≤ at_) (hl : l.length ≤ maxLen) (s : PS)
    (e0 : s.t 0 = ptr k 0) (e1 : s.t 1 = .int .i64 n) (e5 : s.t 5 = .int .u64 m) (hk : s.H k = some (dk l at_))
    (hQ : ∀ s' : PS, (∃ at', 0 ≤ at' ∧ s'.H = upd s.H k (some (dk l at'))) → isMask n (s'.t 4) → Q .rt s') : wpc (PCalls P) P (fun j => j = k) nx0 (maskRest w) Q s := by
  obtain ⟨t, H, nx⟩ := s
  simp only at e0 e1 e5 hk
  have hwn : IntKind.u64.wrap n = n := by rw [IntKind.wrap_u64]; omega
  have hsh : 0 ≤ n := by omega
  obtain ⟨N, rfl⟩ := Int.eq_ofNat_of_zero_le hsh
  by_cases h64 : (N : Int) < 64
  · have hp : (2 : Nat) ^ N ≤ 2 ^ 63 := Nat.pow_le_pow_right (by omega) (by omega)
    have hpos : 0 < (2 : Nat) ^ N := Nat.two_pow_pos N
    have e2 : (2 : Int) ^ N = ((2 ^ N : Nat) : Int) := by simp
    have hmin : min N 64 = N := by omega
    have hw1 : IntKind.u64.wrap ((2 : Int) ^ N) = 2 ^ N := by rw [IntKind.wrap_u64, e2]; omega
    have hw2 : IntKind.u64.wrap ((2 : Int) ^ N - 1) = 2 ^ N - 1 := by rw [IntKind.wrap_u64, e2]; omega
    have hand : bitsV .and .u64 m (2 ^ N - 1) = m % 2 ^ N := and_mask hm0 hm1 (by omega)
    simp [maskRest, e0, e1, e5, h64, hwn, IntKind.bits, hmin, hw1, hw2, hand]
    refine wB_of (fun hz => ?_) (fun hz => ?_)
    · refine wCall_draw (hn N (by omega) (by omega)) ha hl (by simp [hk]) (.inr rfl) fun p at2 nx2 hp ha2 => ?_
      obtain ⟨v2, rfl, hv21, hv22⟩ := hp
      obtain ⟨V, rfl⟩ := Int.eq_ofNat_of_zero_le hv21
      have hwv : IntKind.u64.wrap (V : Int) = V := by rw [IntKind.wrap_u64]; omega
      have hminv : min V 64 = V := by omega
      have hpv : (2 : Nat) ^ V < 2 ^ N := Nat.pow_lt_pow_right (by omega) (by omega)
      have e3 : (2 : Int) ^ V = ((2 ^ V : Nat) : Int) := by simp
      have hposv : 0 < (2 : Nat) ^ V := Nat.two_pow_pos V
      have hwv2 : IntKind.u64.wrap ((2 : Int) ^ V) = 2 ^ V := by rw [IntKind.wrap_u64, e3]; omega
      simp [hwv, hminv, IntKind.bits, hwv2]
      refine hQ _ ⟨at2, ha2, rfl⟩ ⟨2 ^ V, by simp, by rw [e3]; omega, ?_⟩
      rw [e3]; simp only [Int.toNat_natCast]; rw [e2]; omega
    · simp at hz
      refine hQ _ ⟨at_, ha, (upd_self H k _ hk).symm⟩ ⟨m % 2 ^ N, by simp, ?_, ?_⟩
      · rw [e2] at hz ⊢; omega
      · simp only [Int.toNat_natCast]; rw [e2]; omega
  · obtain rfl : N = 64 := by omega
    simp [maskRest, e0, e1, e5]
    refine wB_of (fun hz => ?_) (fun hz => ?_)
    · refine wCall_draw (hn 64 (by omega) (by omega)) ha hl (by simp [hk]) (.inr rfl) fun p at2 nx2 hp ha2 => ?_
      obtain ⟨v2, rfl, hv21, hv22⟩ := hp
      obtain ⟨V, rfl⟩ := Int.eq_ofNat_of_zero_le hv21
      have hwv : IntKind.u64.wrap (V : Int) = V := by rw [IntKind.wrap_u64]; omega
      have hminv : min V 64 = V := by omega
      have hpv : (2 : Nat) ^ V < 2 ^ 64 := Nat.pow_lt_pow_right (by omega) (by omega)
      have e3 : (2 : Int) ^ V = ((2 ^ V : Nat) : Int) := by simp
      have hposv : 0 < (2 : Nat) ^ V := Nat.two_pow_pos V
      have hwv2 : IntKind.u64.wrap ((2 : Int) ^ V) = 2 ^ V := by rw [IntKind.wrap_u64, e3]; omega
      simp [hwv, hminv, IntKind.bits, hwv2]
      refine hQ _ ⟨at2, ha2, rfl⟩ ⟨2 ^ V, by simp, by rw [e3]; omega, ?_⟩
      rw [e3]; show ((2 ^ V : Nat) : Int) < 2 ^ 64; omega
    · simp at hz
      refine hQ _ ⟨at_, ha, (upd_self H k _ hk).symm⟩ ⟨m, by simp, by omega, ?_⟩
      show m < 2 ^ 64
      omega
theorem mask_w {P : Program} {f w : Nat} (hc : compFn P f = some (45, maskC w, [.t 4])) (hn : NextW P w) : ∀ n : Int, 1 ≤ n → n ≤ 64 → Draws P f [.int .i64 n] (isMask n) := by
  intro n h0 h1 k l at_ ha hl H nx hk
  refine PCalls_of hc (by simp) fun hw => ?_
  simp [maskC]
  refine wCall_draw (hn 3 (by omega) (by omega)) ha hl hk (.inr rfl) fun p at1 nx1 hp ha1 => ?_
  obtain ⟨v, rfl, hv1, hv2⟩ := hp
  simp
  have fin' : ∀ (s : PS) (m at' : Int), 0 ≤ m → m < 18446744073709551616 → 0 ≤ at' → s.t 0 = ptr k 0 → s.t 1 = .int .i64 n → s.t 5 = .int .u64 m → s.H = upd H k (some (dk l at')) →
      wpc (PCalls P) P (fun j => j = k) nx (maskRest w) (fin nx [RV.t 4] fun p H' _ => isMask n p ∧ Drew H k l H') s := by
    intro s m at' hm0 hm1 ha' e0 e1 e5 eH
    refine mask_rest hn n m h0 h1 hm0 hm1 k l at' ha' hl s e0 e1 e5 (by rw [eH]; simp) fun s' ⟨a2, ha2, hs'⟩ hq => ?_
    simp
    exact wF_of ⟨hq, a2, ha2, by rw [hs', eH, upd_upd]⟩
  refine wB_of (fun c => ?_) (fun c => ?_)
  · refine wCall_draw (hn 16 (by omega) (by omega)) ha1 hl (by simp) (.inr rfl) fun p at2 nx2 hp ha2 => ?_
    obtain ⟨v2, rfl, hv21, hv22⟩ := hp
    simp
    have e : IntKind.u64.wrap v2 = v2 := by rw [IntKind.wrap_u64]; omega
    exact fin' _ v2 at2 hv21 (by omega) ha2 (by simp) (by simp) (by simp [e]) (by simp [upd_upd])
  · refine wB_of (fun c => ?_) (fun c => ?_)
    · refine wCall_draw (hn 65536 (by omega) (by omega)) ha1 hl (by simp) (.inr rfl) fun p at2 nx2 hp ha2 => ?_
      obtain ⟨v2, rfl, hv21, hv22⟩ := hp
      simp
      refine wCall_draw (hn 65536 (by omega) (by omega)) ha2 hl (by simp) (.inr rfl) fun p at3 nx3 hp ha3 => ?_
      obtain ⟨v3, rfl, hv31, hv32⟩ := hp
      simp
      refine fin' _ _ at3 ?_ ?_ ha3 (by simp) (by simp) (by simp; rfl) (by simp [upd_upd])
      · unfold bitsV; rw [IntKind.wrap_u64]; omega
      · unfold bitsV; rw [IntKind.wrap_u64]; omega
    · refine wB_of (fun c => ?_) (fun c => ?_)
      · refine wCall_draw (hn 65536 (by omega) (by omega)) ha1 hl (by simp) (.inr rfl) fun p at2 nx2 hp ha2 => ?_
        obtain ⟨v2, rfl, hv21, hv22⟩ := hp
        simp [unV]
        refine fin' _ _ at2 ?_ ?_ ha2 (by simp) (by simp) (by simp; rfl) (by simp [upd_upd])
        · unfold bitsV; rw [IntKind.wrap_u64]; omega
        · unfold bitsV; rw [IntKind.wrap_u64]; omega
      · exact fin' _ 0 at1 (by omega) (by omega) ha1 (by simp) (by simp) (by simp) (by simp [upd_upd])
end Go.PE
namespace Go.PE
open Go
@[congr] theorem wB_congr {o o2 : Option Bool} {A B : Prop} (h : o = o2) : wB o A B = wB o2 A B := by rw [h]
@[congr] theorem wO_congr {o o2 : Option Value} {d : Option Nat} {s : PS} {K : PS → Prop} (h : o = o2) : wO o d s K = wO o2 d s K := by rw [h]
@[congr] theorem wpr_congr {C : Known} {P : Program} {T : Nat → Prop} {n0 : Nat} {l : List PO} {s s2 : PS} {K : PS → Prop} (h : s = s2) : wpr C P T n0 l K s = wpr C P T n0 l K s2 := by rw [h]
@[congr] theorem wpq_congr {C : Known} {P : Program} {T : Nat → Prop} {n0 : Nat} {l : List PO} {s s2 : PS} {K : PS → Prop} (h : s = s2) : wpq C P T n0 l K s = wpq C P T n0 l K s2 := by rw [h]
@[congr] theorem wpt_congr {P : Program} {T : Nat → Prop} {n0 : Nat} {l : PT} {s s2 : PS} {K : PS → Prop} (h : s = s2) : wpt P T n0 l K s = wpt P T n0 l K s2 := by rw [h]
@[congr] theorem wpc_congr {C : Known} {P : Program} {T : Nat → Prop} {n0 : Nat} {l : PC} {s s2 : PS} {K : Ex → PS → Prop} (h : s = s2) : wpc C P T n0 l K s = wpc C P T n0 l K s2 := by rw [h]
/-- below nx the boxes are the same -/
def Own (nx : Nat) (H H' : Nat → Option (List Value)) : Prop := ∀ k, k < nx → H' k = H k
@[simp] theorem own_upd {nx k : Nat} {H H' : Nat → Option (List Value)} {r : Option (List Value)} (hk : nx ≤ k) : Own nx H (upd H' k r) = Own nx H H' := by
  apply propext
  constructor
  · intro h j hj; have := h j hj; rw [upd_ne _ _ (by omega)] at this; exact this
  · intro h j hj; rw [upd_ne _ _ (by omega)]; exact h j hj
@[simp] theorem own_refl (nx : Nat) (H : Nat → Option (List Value)) : Own nx H H := fun _ _ => rfl
theorem Own.sub {nx : Nat} {H H' : Nat → Option (List Value)} (h : Own nx H H') (hw : ∀ k, nx ≤ k → H k = none) : Sub nx H H' := fun k => by
  rcases Nat.lt_or_ge k nx with h1 | h1
  · exact .inl (h k h1).symm
  · exact .inr ⟨h1, hw k h1⟩
theorem wF_own {ps : List Value} {nx nx' : Nat} {R : Post} {H H' : Nat → Option (List Value)} (hw : ∀ k, nx ≤ k → H k = none) (h : Own nx H H') (hR : R (oneOr ps) H nx') : wF (some ps) nx R H' nx' :=
  wF_sub (h.sub hw) hR
attribute [simp] upd_upd
@[simp] theorem fitsL_nil : fitsL [] [] = true := _root_.id rfl
@[simp] theorem fitsL_cons (k : CK) (ks : List CK) (v : Value) (vs : List Value) : fitsL (k :: ks) (v :: vs) = (k.fits v && fitsL ks vs) := _root_.id rfl
@[simp] theorem fits_int (k k' : IntKind) (n : Int) : CK.fits (.int k) (.int k' n) = (k == k') := _root_.id rfl
@[simp] theorem fits_bool (b : Bool) : CK.fits .bool (.bool b) = true := _root_.id rfl
@[simp] theorem fits_string (b : ByteArray) : CK.fits .string (.string b) = true := _root_.id rfl
@[simp] theorem eqL_nil : eqL [] [] = true := _root_.id rfl
@[simp] theorem eqL_cons (x y : Value) (xs ys : List Value) : eqL (x :: xs) (y :: ys) = (eqC x y && eqL xs ys) := _root_.id rfl
@[simp] theorem eqC_int (k k' : IntKind) (a b : Int) : eqC (.int k a) (.int k' b) = (a == b) := _root_.id rfl
@[simp] theorem eqC_bool (a b : Bool) : eqC (.bool a) (.bool b) = (a == b) := _root_.id rfl
@[simp] theorem eqC_string (a b : ByteArray) : eqC (.string a) (.string b) = (a == b) := _root_.id rfl
theorem ba_beq_iff (a b : ByteArray) : (a == b) = true ↔ a = b := by
  constructor
  · intro h
    have : a.data = b.data := by
      have h2 : (a.data == b.data) = true := h
      exact eq_of_beq h2
    cases a; cases b; simp_all
  · intro h; subst h
    show (a.data == a.data) = true
    exact beq_self_eq_true _
instance baLawful : LawfulBEq ByteArray where
  eq_of_beq := fun h => (ba_beq_iff _ _).1 h
  rfl := (ba_beq_iff _ _).2 rfl
@[simp] theorem ba_toList (a b : ByteArray) : (a.toList == b.toList) = (a == b) := by
  rw [Bool.eq_iff_iff, ba_beq_iff, beq_iff_eq]
  constructor
  · intro h
    have := congrArg List.toArray h
    cases a; cases b
    simp [ByteArray.toList_eq] at *
    exact h
  · intro h; rw [h]
@[simp] theorem dg_clo (f : FuncId) (a b : List Value) : dg (clo f a b) = clo f a b := _root_.id rfl
@[simp] theorem dg1_clo (f : FuncId) (a b : List Value) : dg1 (clo f a b) = clo f a b := _root_.id rfl
@[simp] theorem dgT_clo (f : FuncId) (a b : List Value) : dgT (clo f a b) = clo f a b := _root_.id rfl
@[simp] theorem cellsOf_clo (f : FuncId) (a b : List Value) : cellsOf (clo f a b) = some [clo f a b] := _root_.id rfl
@[simp] theorem lc_clo (f : FuncId) (a b : List Value) : lc (clo f a b) = [clo f a b] := _root_.id rfl
@[simp] theorem dg1_nilFunc : dg1 .nilFunc = .nilFunc := _root_.id rfl
@[simp] theorem dg_nilFunc : dg .nilFunc = .nilFunc := _root_.id rfl
theorem dg1_id {v : Value} (h : ∀ xs c, v ≠ .func (.yield 1) xs c) : dg1 v = v := by
  unfold dg1
  split
  · exact absurd rfl (h _ _)
  · rfl
theorem dg1_dg1 (v : Value) : dg1 (dg1 v) = dg1 v := by
  by_cases h : ∃ xs c, v = .func (.yield 1) xs c
  · obtain ⟨xs, c, rfl⟩ := h
    rfl
  · have e := dg1_id (v := v) fun xs c hv => h ⟨xs, c, hv⟩
    rw [e, e]
@[simp] theorem dg1_comp : dg1 ∘ dg1 = dg1 := funext dg1_dg1
theorem Sub.upd {n0 k : Nat} {H1 H : Nat → Option (List Value)} {r : Option (List Value)} (h : Sub n0 H1 H) (hk : n0 ≤ k) (h1 : H1 k = none) : Sub n0 H1 (upd H k r) := fun j => by
  by_cases e : j = k
  · subst e; exact .inr ⟨hk, h1⟩
  · rw [upd_ne _ _ e]; exact h j
@[simp] theorem ba_empty_size : (⟨#[]⟩ : ByteArray).size = 0 := _root_.id rfl
@[simp] theorem dg_tup (l : List Value) : dg (tup l) = tup (l.map dg1) := _root_.id rfl
/-- what every contract says besides -/
theorem PCalls.more {P : Program} {f nx : Nat} {args : List Value} {H : Nat → Option (List Value)} {T : Nat → Prop} {R : Post} (h : PCalls P f args H nx T R) :
    PCalls P f args H nx T (fun p H' nx' => R p H' nx' ∧ nx ≤ nx' ∧ ∀ k, k < nx → ¬ T k → H' k = H k) := by
  intro G own vs hE hl hr
  refine (h G own vs hE hl hr).mono ?_
  rintro e w' ⟨v, p, G', own', H', nx', h1, h2, hL, hR⟩
  exact ⟨v, p, G', own', H', nx', h1, h2, hL, hR, hL.n0, hL.hh⟩
section
variable {P : Program} {T : Nat → Prop} {n0 f : Nat} {args : List Value} {d : Option Nat} {s : PS} {K : PS → Prop}
/-- a call of a function that writes no box of the caller's: where the boxes are as they were -/
theorem wCall_eq {Q : Value → Prop} (h : PCalls P f args s.H s.nx (fun _ => False) (fun p H' _ => Q p ∧ H' = s.H)) (hK : ∀ p nx', Q p → s.nx ≤ nx' → K ⟨(s.putO d p).t, s.H, nx'⟩) : wCall (PCalls P) T n0 f args d s K :=
  wCall_of h.more fun p H' nx' ⟨⟨hq, hH⟩, hn, _⟩ => by rw [hH]; exact hK p nx' hq hn
theorem wCall_le {R : Post} (h : PCalls P f args s.H s.nx (fun _ => False) R) (hK : ∀ p H' nx', R p H' nx' → s.nx ≤ nx' → Own s.nx s.H H' → K ⟨(s.putO d p).t, H', nx'⟩) : wCall (PCalls P) T n0 f args d s K :=
  wCall_of h.more fun p H' nx' ⟨hR, hn, ho⟩ => hK p H' nx' hR hn fun k hk => ho k hk (fun h => h)
theorem wCall_leT {R : Post} {T' : Nat → Prop} (h : PCalls P f args s.H s.nx T' R) (h1 : ∀ k, T' k → n0 ≤ k ∨ T k) (h2 : ∀ k row, T' k → s.H k = some row → rowNoLin row)
    (hK : ∀ p H' nx', R p H' nx' → s.nx ≤ nx' → K ⟨(s.putO d p).t, H', nx'⟩) : wCall (PCalls P) T n0 f args d s K :=
  wCall_ofT h.more h1 h2 fun p H' nx' ⟨hR, hn, _⟩ => hK p H' nx' hR hn
/-- a call that draws -/
theorem wCall_drawL {Q : Value → Prop} {k : Nat} {l : List Int} {at_ : Int} {as : List Value} (h : Draws P f as Q) (ha : 0 ≤ at_) (hl : l.length ≤ maxLen)
    (hk : s.H k = some (dk l at_)) (hT : n0 ≤ k ∨ T k) (hK : ∀ p at' nx', Q p → 0 ≤ at' → s.nx ≤ nx' → K ⟨(s.putO d p).t, upd s.H k (some (dk l at')), nx'⟩) : wCall (PCalls P) T n0 f (ptr k 0 :: as) d s K := by
  refine wCall_leT (h k l at_ ha hl s.H s.nx hk) (fun j hj => by subst hj; exact hT) (fun j row hj hr => ?_) fun p H' nx' ⟨hq, at', ha', hH⟩ hn => by rw [hH]; exact hK p at' nx' hq ha' hn
  subst hj
  rw [hk] at hr
  obtain rfl : dk l at_ = row := by simpa using hr
  exact dk_noLin l at_
end
theorem own_k {nx k : Nat} {H H' : Nat → Option (List Value)} {r : Option (List Value)} (h1 : H' k = r) (h2 : ∀ j, j < nx → j ≠ k → H' j = H j) : Own nx (upd H k r) H' := fun j hj => by
  by_cases e : j = k
  · subst e; simp [h1]
  · rw [upd_ne _ _ e]; exact h2 j hj e
theorem none_k {nx k : Nat} {H : Nat → Option (List Value)} {r : Option (List Value)} (hw : ∀ j, nx ≤ j → H j = none) (hk : k < nx) : ∀ j, nx ≤ j → upd H k r j = none := fun j hj => by
  rw [upd_ne _ _ (by omega)]; exact hw j hj
end Go.PE
namespace Go.PE
open Go
inductive FK where
  | int (k : IntKind)
  | bool
  | str
  | sl (e : Nat)
  deriving DecidableEq
def FKok (P : Program) : FK → Value → Prop
  | .int k, v => ∃ n : Int, v = .int k n ∧ k.min ≤ n ∧ n ≤ k.max
  | .bool, v => ∃ b : Bool, v = .bool b
  | .str, v => ∃ s : ByteArray, v = .string s ∧ s.size ≤ maxLen
  | .sl e, v => ∃ xs : List (List Value), v = deep (xs.map (toV P e)) ∧ xs.length ≤ maxLen ∧ ∀ x ∈ xs, PTy P e x
def fkAll (P : Program) : List FK → List Value → Prop
  | [], [] => True
  | k :: ks, v :: vs => FKok P k v ∧ fkAll P ks vs
  | _, _ => False
def flatF (P : Program) (rec : TypeId → Option (List FK)) : List Field → Nat → Option (List FK)
  | [], _ => some []
  | f :: fs, off => if f.offset = off then (match rec f.type with
    | some l => if P.cellsOf f.type = l.length then (flatF P rec fs (off + l.length)).map (l ++ ·) else none
    | none => none) else none
def flat (P : Program) : Nat → TypeId → Option (List FK)
  | 0, _ => none
  | d + 1, t => match P.underlying t with
    | some .bool => some [.bool]
    | some (.int k) => some [.int k]
    | some .string => some [.str]
    | some (.slice e) => some [.sl e]
    | some (.struct fs) => match flatF P (flat P d) fs.toList 0 with
      | some ks => if P.cellsOf t = ks.length then some ks else none
      | none => none
    | some (.array n e) => match flat P d e with
      | some l => if P.cellsOf e = l.length ∧ P.cellsOf t = n * l.length then some (List.replicate n l).flatten else none
      | none => none
    | _ => none
theorem fkAll_append {P : Program} : ∀ (l ks : List FK) (xs : List Value), fkAll P l (xs.take l.length) → fkAll P ks (xs.drop l.length) → fkAll P (l ++ ks) xs
  | [], ks, xs, _, h => by simpa using h
  | k :: l, ks, [], h, _ => by simp [fkAll] at h
  | k :: l, ks, x :: xs, h, h' => by
    simp only [List.length_cons, List.take_succ_cons, List.drop_succ_cons] at h h'
    exact ⟨h.1, fkAll_append l ks xs h.2 h'⟩
theorem flatF_ok {P : Program} {rec : TypeId → Option (List FK)} (hrec : ∀ t l cs, rec t = some l → PTy P t cs → fkAll P l cs) (cs : List Value) : ∀ (fs : List Field) (off : Nat) (ks : List FK), flatF P rec fs off = some ks →
    (∀ f ∈ fs, PTy P f.type ((cs.drop f.offset).take (P.cellsOf f.type))) → cs.length = off + ks.length → fkAll P ks (cs.drop off)
  | [], off, ks, h, _, hl => by
    obtain rfl : ([] : List FK) = ks := Option.some.inj h
    rw [List.drop_of_length_le (by simp at hl; omega)]
    trivial
  | f :: fs, off, ks, h, hf, hl => by
    unfold flatF at h
    split at h
    · rename_i ho
      split at h
      · rename_i l hr
        split at h
        · rename_i hc
          cases hk : flatF P rec fs (off + l.length) with
          | none => rw [hk] at h; cases h
          | some k2 =>
            rw [hk] at h
            obtain rfl : l ++ k2 = ks := by simpa using h
            have h1 := hrec _ _ _ hr (hf f (by simp))
            rw [ho, hc] at h1
            simp only [List.length_append] at hl
            have h2 := flatF_ok hrec cs fs (off + l.length) k2 hk (fun g hg => hf g (by simp [hg])) (by omega)
            exact fkAll_append _ _ _ h1 (by rw [List.drop_drop]; exact h2)
        · cases h
      · cases h
    · cases h
theorem fkRep {P : Program} {l : List FK} : ∀ (n : Nat) (cs : List Value), cs.length = n * l.length → (∀ i, i < n → fkAll P l ((cs.drop (i * l.length)).take l.length)) → fkAll P (List.replicate n l).flatten cs
  | 0, cs, hl, _ => by
    obtain rfl : cs = [] := List.length_eq_zero_iff.1 (by simpa using hl)
    trivial
  | n + 1, cs, hl, h => by
    rw [List.replicate_succ, List.flatten_cons]
    refine fkAll_append _ _ _ (by simpa using h 0 (by omega)) (fkRep n _ (by simp [hl, Nat.add_mul]) fun i hi => ?_)
    have := h (i + 1) (by omega)
    rw [List.drop_drop]
    rwa [Nat.add_mul, Nat.one_mul, Nat.add_comm] at this
theorem flat_ok {P : Program} : ∀ (d : Nat) (t : TypeId) (ks : List FK) (cs : List Value), flat P d t = some ks → PTy P t cs → fkAll P ks cs
  | 0, t, ks, cs, h, _ => by cases h
  | d + 1, t, ks, cs, h, hp => by
    unfold flat at h
    cases hp with
    | bool _ b hu => rw [hu] at h; obtain rfl := Option.some.inj h; exact ⟨⟨b, rfl⟩, trivial⟩
    | int _ k n hu hw => rw [hu] at h; obtain rfl := Option.some.inj h; rw [Lit.wf_int_iff] at hw; exact ⟨⟨n, rfl, hw.1, hw.2⟩, trivial⟩
    | str _ s hu hs => rw [hu] at h; obtain rfl := Option.some.inj h; exact ⟨⟨s, rfl, hs⟩, trivial⟩
    | slice _ e xs hu hl hx => rw [hu] at h; obtain rfl := Option.some.inj h; exact ⟨⟨xs, rfl, hl, hx⟩, trivial⟩
    | struct _ fs cs hu hl hf =>
      rw [hu] at h
      simp only at h
      split at h
      · rename_i k2 hk
        split at h
        · rename_i hc
          obtain rfl := Option.some.inj h
          have := flatF_ok (fun t l cs hr hp => flat_ok d t l cs hr hp) cs fs.toList 0 k2 hk (fun f hf2 => by
            obtain ⟨i, hi⟩ := List.getElem?_of_mem hf2
            exact hf i f (by simpa using hi)) (by omega)
          simpa using this
        · cases h
      · cases h
    | array _ n e cs hu hl hf =>
      rw [hu] at h
      simp only at h
      split at h
      · rename_i l hk
        split at h
        · rename_i hc
          obtain rfl := Option.some.inj h
          refine fkRep n cs (by rw [hl, hc.2]) fun i hi => ?_
          have := flat_ok d e l _ hk (hf i hi)
          rwa [hc.1] at this
        · cases h
      · cases h
theorem fk_cons {P : Program} {k : FK} {ks : List FK} {cs : List Value} (h : fkAll P (k :: ks) cs) : ∃ v vs, cs = v :: vs ∧ FKok P k v ∧ fkAll P ks vs := by
  cases cs with
  | nil => cases h
  | cons v vs => exact ⟨v, vs, rfl, h.1, h.2⟩
theorem fk_nil {P : Program} {cs : List Value} (h : fkAll P [] cs) : cs = [] := by
  cases cs with
  | nil => rfl
  | cons v vs => cases h
/-- the elements of a slice, each with a reading of one's own -/
theorem elems_of {α : Type} {P : Program} {e : Nat} (f : α → Value) (Q : α → Prop) (h : ∀ x, PTy P e x → ∃ a, toV P e x = f a ∧ Q a) : ∀ xs : List (List Value), (∀ x ∈ xs, PTy P e x) → ∃ l : List α, xs.map (toV P e) = l.map f ∧ l.length = xs.length ∧ ∀ a ∈ l, Q a
  | [], _ => ⟨[], rfl, rfl, by simp⟩
  | x :: xs, hx => by
    obtain ⟨a, ha, hq⟩ := h x (hx x (by simp))
    obtain ⟨l, hl, hn, hl2⟩ := elems_of f Q h xs fun y hy => hx y (by simp [hy])
    refine ⟨a :: l, by simp [ha, hl], by simp [hn], ?_⟩
    intro b hb
    simp only [List.mem_cons] at hb
    rcases hb with rfl | hb
    · exact hq
    · exact hl2 b hb
/-- an integer -/
theorem int_of {P : Program} {t : Nat} {k : IntKind} (h : P.underlying t = some (.int k)) {cs : List Value} (hp : PTy P t cs) : ∃ n : Int, toV P t cs = .int k n ∧ k.min ≤ n ∧ n ≤ k.max := by
  have hf : flat P 1 t = some [.int k] := by simp [flat, h]
  obtain ⟨v, vs, rfl, ⟨n, rfl, h1, h2⟩, hn⟩ := fk_cons (flat_ok 1 t _ cs hf hp)
  obtain rfl := fk_nil hn
  exact ⟨n, by simp [toV, h], h1, h2⟩
/-- a slice -/
theorem slice_of {α : Type} {P : Program} {t e : Nat} (h : P.underlying t = some (.slice e)) (f : α → Value) (Q : α → Prop) (he : ∀ x, PTy P e x → ∃ a, toV P e x = f a ∧ Q a) {cs : List Value} (hp : PTy P t cs) :
    ∃ l : List α, toV P t cs = deep (l.map f) ∧ l.length ≤ maxLen ∧ ∀ a ∈ l, Q a := by
  have hf : flat P 1 t = some [.sl e] := by simp [flat, h]
  obtain ⟨v, vs, rfl, ⟨xs, rfl, hl, hx⟩, hn⟩ := fk_cons (flat_ok 1 t _ cs hf hp)
  obtain rfl := fk_nil hn
  obtain ⟨l, h1, h2, h3⟩ := elems_of f Q he xs hx
  exact ⟨l, by simp [toV, h, h1], by omega, h3⟩
theorem ints_of {P : Program} {t e : Nat} {k : IntKind} (h : P.underlying t = some (.slice e)) (he : P.underlying e = some (.int k)) {cs : List Value} (hp : PTy P t cs) :
    ∃ l : List Int, toV P t cs = deep (l.map (.int k)) ∧ l.length ≤ maxLen ∧ ∀ a ∈ l, k.min ≤ a ∧ a ≤ k.max := by
  refine slice_of h (.int k) (fun a => k.min ≤ a ∧ a ≤ k.max) (fun x hx => ?_) hp
  obtain ⟨n, h1, h2, h3⟩ := int_of he hx
  exact ⟨n, h1, h2, h3⟩
end Go.PE
namespace Go.PE
open Go
section
variable {α : Type} (f : α → List Value) (size : Nat) (hf : ∀ a, (f a).length = size) (rest : List Value)
include hf
theorem fl_len (l : List α) : (l.flatMap f).length = l.length * size := flat_len f l fun x _ => hf x
theorem fl_split {l : List α} {i : Nat} (hi : i < l.length) : l.flatMap f ++ rest = (l.take i).flatMap f ++ (f l[i] ++ ((l.drop (i + 1)).flatMap f ++ rest)) ∧ ((l.take i).flatMap f).length = i * size := by
  refine ⟨?_, by rw [fl_len f size hf, List.length_take]; congr 1; omega⟩
  have e : l = l.take i ++ l[i] :: l.drop (i + 1) := by rw [← List.drop_eq_getElem_cons hi, List.take_append_drop]
  have e2 : l.flatMap f = (l.take i).flatMap f ++ (f l[i] ++ (l.drop (i + 1)).flatMap f) := by
    conv => lhs; rw [e]
    rw [List.flatMap_append, List.flatMap_cons]
  rw [e2, List.append_assoc, List.append_assoc]
theorem fl_cut {l : List α} {i o n : Nat} (hi : i < l.length) (ho : o + n ≤ size) : ((l.flatMap f ++ rest).drop (i * size + o)).take n = ((f l[i]).drop o).take n := by
  obtain ⟨h1, h2⟩ := fl_split f size hf rest hi
  have hl := hf l[i]
  rw [h1, List.drop_append, List.drop_of_length_le (by omega), List.nil_append, h2, Nat.add_sub_cancel_left, List.drop_append_of_le_length (by omega), List.take_append_of_le_length (by rw [List.length_drop]; omega)]
theorem fl_get {l : List α} {i o : Nat} (hi : i < l.length) (ho : o < size) : (l.flatMap f ++ rest)[i * size + o]? = (f l[i])[o]? := by
  obtain ⟨h1, h2⟩ := fl_split f size hf rest hi
  rw [h1, List.getElem?_append_right (by omega), h2, Nat.add_sub_cancel_left, List.getElem?_append_left (by rw [hf]; exact ho)]
theorem fl_set {l : List α} {i o : Nat} {vs : List Value} {a : α} (hi : i < l.length) (ho : o + vs.length ≤ size) (ha : f a = (f l[i]).take o ++ vs ++ (f l[i]).drop (o + vs.length)) :
    (l.flatMap f ++ rest).take (i * size + o) ++ vs ++ (l.flatMap f ++ rest).drop (i * size + o + vs.length) = (l.set i a).flatMap f ++ rest := by
  obtain ⟨h1, h2⟩ := fl_split f size hf rest hi
  have hi' : i < (l.set i a).length := by simpa using hi
  obtain ⟨h3, _⟩ := fl_split f size hf rest hi'
  rw [h3, h1]
  have e1 : (l.set i a)[i] = a := by simp
  have e2 : (l.set i a).take i = l.take i := by rw [List.take_set, List.set_eq_of_length_le (by simp; omega)]
  have e3 : (l.set i a).drop (i + 1) = l.drop (i + 1) := by rw [List.drop_set_of_lt (by omega)]
  rw [e1, e2, e3, ha]
  have hfl := hf l[i]
  rw [List.take_append, h2, List.take_of_length_le (by omega), Nat.add_sub_cancel_left, List.take_append_of_le_length (by omega)]
  rw [List.drop_append, List.drop_of_length_le (by omega), List.nil_append, h2, Nat.add_assoc, Nat.add_sub_cancel_left, List.drop_append_of_le_length (by omega)]
  simp [List.append_assoc]
end
/-- a pure list whose elements lie in a box -/
theorem Cv1_list {α : Type} (f : α → List Value) (g : α → Value) (hg : ∀ a, lc (g a) = f a) (size : Nat) (hf : ∀ a, (f a).length = size) (hd : ∀ a, (f a).map dg1 = f a) {n0 : Nat} {H H1 : Nat → Option (List Value)} {k cap : Nat} {l : List α} {rest : List Value}
    (hk : H k = some (l.flatMap f ++ rest)) (h1 : H1 k = none) (hn : n0 ≤ k) (hc : cap ≤ maxLen) : Cv1 n0 H H1 (slc k 0 l.length cap) (deep (l.map g)) := by
  refine .inr ⟨k, 0, l.length, cap, size, _, l.map g, rfl, rfl, hk, h1, hn, hc, by simp, ?_, fun i x hx => ?_⟩
  · rw [List.length_append, fl_len f size hf]; omega
  · rw [List.getElem?_map] at hx
    obtain ⟨a, ha, rfl⟩ := Option.map_eq_some_iff.1 hx
    have hi := (List.getElem?_eq_some_iff.1 ha).1
    have ha' := (List.getElem?_eq_some_iff.1 ha).2
    have := fl_cut f size hf rest (i := i) (o := 0) (n := size) hi (by omega)
    rw [Nat.add_zero] at this
    rw [hg, Nat.zero_add, this, List.drop_zero, List.take_of_length_le (by rw [hf]; omega), ha', hd]
/-- a result, frozen -/
def CvT (n0 : Nat) (H H1 : Nat → Option (List Value)) (p p' : Value) : Prop := Cv n0 H H1 p p' ∨ ∃ l l', p = tup l ∧ p' = tup l' ∧ Cvs n0 H H1 l l'
theorem tup_rd {G : Gh} {v : Value} {l : List Value} (h : Rd G v (tup l)) : ∃ vs, v = tup vs ∧ vs.length = l.length ∧ ∀ (i : Nat) v p, vs[i]? = some v → l[i]? = some p → Rd G v p := by
  generalize hq : tup l = P at h
  cases h with
  | tuple vs ps hl hr =>
    obtain rfl : l = ps := by simpa [tup] using hq
    exact ⟨vs, rfl, hl, hr⟩
  | scal v h => subst hq; simp [tup, PE.scal] at h
  | _ => simp [tup, PE.ptr, PE.deep, PE.lin, PE.dptr, ag, PE.slc, PE.clo, PE.ns] at hq
theorem PCalls.frz {P : Program} {f nx : Nat} {args : List Value} {H : Nat → Option (List Value)} {T : Nat → Prop} {R R' : Post} (h : PCalls P f args H nx T R)
    (hR : ∀ p H' nx', R p H' nx' → ∃ H1 p', Sub nx H1 H' ∧ CvT nx H' H1 p p' ∧ R' p' H1 nx') : PCalls P f args H nx T R' := by
  intro G own vs hE hl hr
  refine (h G own vs hE hl hr).mono ?_
  rintro e w' ⟨v, p, G', own', H', nx', rfl, rfl, hL, hRR⟩
  obtain ⟨H1, p', hsub, hcv, hR1⟩ := hR p H' nx' hRR
  obtain ⟨hb, hext, htok⟩ := hL.toBase.freeze hsub
  refine ⟨v, p', PE.frz G' H1, own', H1, nx', rfl, rfl, ⟨hb, ?_, ?_, ?_⟩, hR1⟩
  · rcases hcv with hcv | ⟨l, l', rfl, rfl, hcv⟩
    · exact Cv_rd hL.toBase hsub hL.res hcv
    · obtain ⟨vs', rfl, hvl, hvr⟩ := tup_rd hL.res
      refine .tuple vs' l' (by rw [hvl]; exact hcv.1) fun i v p hv hp => ?_
      have hi : i < l.length := by rw [← hvl]; exact (List.getElem?_eq_some_iff.1 hv).1
      exact Cv_rd hL.toBase hsub (hvr i v _ hv (List.getElem?_eq_getElem hi)) (hcv.2 i _ p (List.getElem?_eq_getElem hi) hp)
  · intro e xs hp
    rcases hcv with (hcv | ⟨l, l', rfl, rfl, _⟩) | ⟨l, l', rfl, rfl, hcv⟩
    · exact htok (hL.rtok e xs (Cv1_noLin hcv e xs hp))
    · simp [ag, lin] at hp
    · simp [tup, lin] at hp
  · intro i e xs hp
    rcases hcv with (hcv | ⟨l, l', rfl, rfl, _⟩) | ⟨l, l', rfl, rfl, hcv⟩
    · rcases hcv with rfl | ⟨k, off, n, cap, size, row, ys, rfl, rfl, _⟩
      · exact htok (hL.ptok i e xs hp)
      · simp [comp, deep, undef, lin] at hp
    · simp [comp, ag, undef, lin] at hp
    · rw [comp_tup] at hp
      have hpi := getD_some hp (lin_ne_undef _ _)
      have hi : i < l.length := by rw [hcv.1]; exact (List.getElem?_eq_some_iff.1 hpi).1
      refine htok (hL.ptok i e xs ?_)
      rw [comp_tup, List.getD_eq_getElem?_getD, List.getElem?_eq_getElem hi]
      rcases hcv.2 i _ _ (List.getElem?_eq_getElem hi) hpi with hc | ⟨m, m', _, hc, _⟩
      · exact Cv1_noLin hc e xs rfl
      · simp [ag, lin] at hc
end Go.PE
