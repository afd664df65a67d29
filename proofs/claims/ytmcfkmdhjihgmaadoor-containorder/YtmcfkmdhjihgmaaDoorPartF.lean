/- The references: Of. The references: Of, a predicate. The references: Of. DONE. The references: SameAuthority. Of: the examples of the chapter; what Of returns is one thing. Pure code: the law AuthorityOf, awake. AuthorityOf: the law. Two authorities are equal. Which authorities are valid. Layer 8: pure code: valid, AuthorityOk, in, Meet and Contains. authority.Valid. Pure code: made, spoilt, ranges; the law AuthorityValid. The references: ranges, AuthorityOk. made and spoilt: the authorities of the statements. What Of gives is valid. made; the law AuthorityValid. An authority as an argument. authority.Contains. authority.Contains: a context of an authority. AuthorityExact: the plain law. -/
import Derived.Test.YtmcfkmdhjihgmaaDoorPartE
import Derived.Test.YtmcfkmdhjihgmaaDoorPartC
import Derived.Test.YtmcfkmdhjihgmaaDoorPartD
set_option linter.all false
namespace Go.PE
open Go
theorem OInv.start : ∀ m : Nat → Bool, (∀ k : Nat, k < 1440 → (m k = true ↔ inS fullA.daily k)) → OInv [] fullA (Tms.mk fullA.fr fullA.to fullA.days m) false := fun m hm => ⟨rfl, fullA.daily, OfI.nil, hm⟩
/-- the minutes of a day up to k have been looked at -/
def mmTo (m : Nat → Bool) (fr to : Int) (k : Nat) : Nat → Bool := fun j => if j < k then m j && decide (dayB fr to j) else m j
theorem mmTo_0 (m : Nat → Bool) (fr to : Int) : mmTo m fr to 0 = m := funext fun j => by simp [mmTo]
theorem mmTo_at (m : Nat → Bool) (fr to : Int) (k : Nat) : mmTo m fr to k k = m k := by simp [mmTo]
theorem mmTo_succ (m : Nat → Bool) (fr to : Int) (k : Nat) {b : Bool} (hb : b = (m k && decide (dayB fr to k))) : upd (mmTo m fr to k) k b = mmTo m fr to (k + 1) := funext fun j => by
  unfold mmTo
  by_cases e : j = k
  · subst e; rw [upd_same, if_pos (by omega), hb]
  · rw [upd_ne _ _ e]
    by_cases h : j < k
    · rw [if_pos h, if_pos (by omega)]
    · rw [if_neg h, if_neg (by omega)]
section
variable {P : Program}
theorem ro_j1 {t : Tms} {kt kp nx0 k : Nat} {p : Pred} {s : PS} {Q : Ex → PS → Prop} (hk : k < 1440) (hkt : nx0 ≤ kt) (e5 : s.t 5 = ptr kt 0) (e8 : s.t 8 = ptr kp 0) (e9 : s.t 9 = .int .i64 k) (hp : s.H kp = some p.cells) (ht : s.H kt = some { t with m := mmTo t.m p.fr p.to k : Tms }.cells)
    (hK : ∀ t', (∀ u, u < 9 → t' u = s.t u) → t' 9 = .int .i64 (k + 1 : Nat) → Q .nrm ⟨t', upd s.H kt (some { t with m := mmTo t.m p.fr p.to (k + 1) : Tms }.cells), s.nx⟩) :
    wpc (PCalls P) P (fun _ => False) nx0 ref06_OfC_j1 Q s := by
  obtain ⟨T, H, nx⟩ := s
  simp only at e5 e8 e9 hp ht hK
  have hw := w64 (x := (k : Int) + 1) (by omega) (by omega)
  have hg := Tms.get3 { t with m := mmTo t.m p.fr p.to k : Tms } hk
  have hset := fun b => Tms.set3 { t with m := mmTo t.m p.fr p.to k : Tms } b hk
  have hat : mmTo t.m p.fr p.to k k = t.m k := mmTo_at _ _ _ _
  have hsucc := fun (b : Bool) (hb : b = (t.m k && decide (dayB p.fr p.to k))) => mmTo_succ t.m p.fr p.to k hb
  simp only [hat] at hg
  have kp9 : ∀ {t2 : Nat → Value}, t2 0 = T 0 → t2 1 = T 1 → t2 2 = T 2 → t2 3 = T 3 → t2 4 = T 4 → t2 5 = T 5 → t2 6 = T 6 → t2 7 = T 7 → t2 8 = T 8 → ∀ u, u < 9 → t2 u = T u := fun b0 b1 b2 b3 b4 b5 b6 b7 b8 u hu => by
    have : u = 0 ∨ u = 1 ∨ u = 2 ∨ u = 3 ∨ u = 4 ∨ u = 5 ∨ u = 6 ∨ u = 7 ∨ u = 8 := by omega
    rcases this with rfl | rfl | rfl | rfl | rfl | rfl | rfl | rfl | rfl <;> assumption
  have h2 : ∀ b, b = (t.m k && decide (dayB p.fr p.to k)) → ({ t with m := mmTo t.m p.fr p.to k : Tms }.cells.take (3 + k) ++ Value.bool b :: { t with m := mmTo t.m p.fr p.to k : Tms }.cells.drop (3 + k + 1)) = { t with m := mmTo t.m p.fr p.to (k + 1) : Tms }.cells := fun b hb => by
    rw [hset b]
    simp only [hsucc b hb]
  cases hm : t.m k with
  | false =>
    simp [ref06_OfC_j1, e5, e8, e9, hp, ht, hg, hm, hk, show (k : Int) < 1440 by omega, hw, hkt, show 3 + k + 1 ≤ 1443 by omega, h2 false (by simp [hm])]
    exact hK _ (kp9 rfl rfl rfl rfl rfl rfl rfl rfl rfl) (by simp)
  | true =>
    by_cases hft : p.fr ≤ p.to
    · have hft2 : ¬ p.to < p.fr := by omega
      by_cases c1 : p.fr ≤ (k : Int) <;> by_cases c2 : (k : Int) ≤ p.to
      all_goals
        simp [ref06_OfC_j1, e5, e8, e9, hp, ht, hg, hm, hk, show (k : Int) < 1440 by omega, hw, hkt, show 3 + k + 1 ≤ 1443 by omega, hft, hft2, c1, c2, h2 true, h2 false, dayB]
        exact hK _ (kp9 rfl rfl rfl rfl rfl rfl rfl rfl rfl) (by simp)
    · have hft2 : p.to < p.fr := by omega
      by_cases c1 : p.fr ≤ (k : Int) <;> by_cases c2 : (k : Int) ≤ p.to
      all_goals
        simp [ref06_OfC_j1, e5, e8, e9, hp, ht, hg, hm, hk, show (k : Int) < 1440 by omega, hw, hkt, show 3 + k + 1 ≤ 1443 by omega, hft, hft2, c1, c2, h2 true, h2 false, dayB]
        exact hK _ (kp9 rfl rfl rfl rfl rfl rfl rfl rfl rfl) (by simp)
end
end Go.PE
namespace Go.PE
open Go
section
variable {P : Program}
theorem kp7 {t2 T : Nat → Value} (b0 : t2 0 = T 0) (b1 : t2 1 = T 1) (b2 : t2 2 = T 2) (b3 : t2 3 = T 3) (b4 : t2 4 = T 4) (b5 : t2 5 = T 5) (b7 : t2 7 = T 7) (b8 : t2 8 = T 8) : ∀ u, u < 9 → u ≠ 6 → t2 u = T u := fun u hu h6 => by
  have : u = 0 ∨ u = 1 ∨ u = 2 ∨ u = 3 ∨ u = 4 ∨ u = 5 ∨ u = 7 ∨ u = 8 := by omega
  rcases this with rfl | rfl | rfl | rfl | rfl | rfl | rfl | rfl <;> assumption
theorem Tms.up (t : Tms) (fr to days : Int) : (.int .i64 fr :: .int .i64 to :: .int .u64 days :: tmR t.m) = { t with fr := fr, to := to, days := days : Tms }.cells := rfl
set_option maxHeartbeats 2000000 in
theorem ro_j2 {l : List Pred} {a : Aut} {t : Tms} {none : Bool} {ka kt kp nx0 : Nat} {p : Pred} {s : PS} {Q : Ex → PS → Prop} (ho : OInv l a t none) (hv : p.valid = true) (hwf : p.wf) (hnm : named l) (hka : nx0 ≤ ka) (hkt : nx0 ≤ kt) (hne : ka ≠ kt)
    (e4 : s.t 4 = ptr ka 0) (e5 : s.t 5 = ptr kt 0) (e6 : s.t 6 = .bool none) (e8 : s.t 8 = ptr kp 0) (hp : s.H kp = some p.cells) (ha : s.H ka = some a.cells) (ht : s.H kt = some t.cells) (hpa : kp ≠ ka) (hpt : kp ≠ kt)
    (hK : ∀ t2 H2 a' t' n', (∀ u, u < 9 → u ≠ 6 → t2 u = s.t u) → t2 6 = .bool n' → H2 ka = some a'.cells → H2 kt = some t'.cells → (∀ j, j ≠ ka → j ≠ kt → H2 j = s.H j) → OInv (l ++ [p]) a' t' n' → Q .nrm ⟨t2, H2, s.nx⟩) :
    wpc (PCalls P) P (fun _ => False) nx0 ref06_OfC_j2 Q s := by
  obtain ⟨T, H, nx⟩ := s
  simp only at e4 e5 e6 e8 hp ha ht hK
  obtain ⟨v4, v5, v6, v0, v7⟩ := valid_kinds hv
  have hmu : isU64 p.mask := ⟨hwf.2.1, hwf.2.2⟩
  by_cases h1 : p.kind = 1
  · simp [ref06_OfC_j2, e4, e8, hp, ha, h1, hka, Aut.ag]
    exact hK _ _ _ _ _ (kp7 rfl rfl rfl rfl rfl rfl rfl rfl) (by simp [e6]) (upd_same _ _ _) (by simp [hne.symm, ht]) (fun j j1 j2 => by simp [j1]) (ho.zone h1 hmu)
  by_cases h2 : p.kind = 2
  · simp [ref06_OfC_j2, e4, e8, hp, ha, h2, hka]
    exact hK _ _ _ _ _ (kp7 rfl rfl rfl rfl rfl rfl rfl rfl) (by simp [e6]) (upd_same _ _ _) (by simp [hne.symm, ht]) (fun j j1 j2 => by simp [j1]) (ho.line h2 hmu)
  by_cases h3 : p.kind = 3
  · simp [ref06_OfC_j2, e4, e5, e8, hp, ha, ht, h3, hkt]
    exact hK _ _ _ _ _ (kp7 rfl rfl rfl rfl rfl rfl rfl rfl) (by simp [e6]) (by simp [hne, ha]) (upd_same _ _ _) (fun j j1 j2 => by simp [j2]) (ho.dayw h3 hmu)
  have b1 : (p.kind == 1) = false := by simp [h1]
  have b2 : (p.kind == 2) = false := by simp [h2]
  have b3 : (p.kind == 3) = false := by simp [h3]
  have hm1 : ∀ u v : Int, (if u < v then v else u) = max u v := fun u v => by split <;> omega
  have hm2 : ∀ u v : Int, (if v < u then v else u) = min u v := fun u v => by split <;> omega
  by_cases h4 : p.kind = 4
  · obtain ⟨q1, q2, q3⟩ := v4 h4
    simp [ref06_OfC_j2, e4, e5, e8, hp, ha, ht, h4, hkt, hpt, hm1, hm2]
    exact hK _ _ a { t with fr := max t.fr p.fr, to := min t.to p.to : Tms } none (kp7 rfl rfl rfl rfl rfl rfl rfl rfl) (by simp [e6]) (by simp [hne, ha]) (by simp; rfl) (fun j j1 j2 => by simp [j2]) (ho.time h4 q1 q2 q3)
  have b4 : (p.kind == 4) = false := by simp [h4]
  by_cases h5 : p.kind = 5
  · simp [ref06_OfC_j2, e4, e5, e8, hp, ha, ht, h5]
    refine wpc_loop _ _ _ _ _ _ (fun s => (∀ u, u < 9 → u ≠ 6 → s.t u = T u) ∧ s.t 6 = .bool none ∧ s.nx = nx ∧ ∃ k : Nat, k ≤ 1440 ∧ s.t 9 = .int .i64 k ∧ s.H kt = some { t with m := mmTo t.m p.fr p.to k : Tms }.cells ∧ ∀ j, j ≠ kt → s.H j = H j)
      (fun s => match s.t 9 with | .int _ k => (1440 - k).toNat | _ => 0) _ ⟨kp7 rfl rfl rfl rfl rfl rfl rfl rfl, by simp [e6], rfl, 0, by omega, by simp, by rw [mmTo_0]; exact ht, fun _ _ => rfl⟩ ?_
    rintro ⟨T2, H2, n2⟩ ⟨hT, f6, hn2, k, hk, f9, hHt, hoth⟩
    simp only at hT f6 hn2 f9 hHt hoth
    subst hn2
    simp [f9]
    refine wB_of (fun hlt => ?_) (fun hlt => ?_)
    · have hlt : k < 1440 := by simp at hlt; omega
      have hTT : ∀ u, u < 9 → u ≠ 6 → (upd (upd T2 85 (Value.int IntKind.i64 ↑k)) 86 (Value.bool (decide ((k : Int) < 1440)))) u = T u := kp7 (hT 0 (by omega) (by omega)) (hT 1 (by omega) (by omega)) (hT 2 (by omega) (by omega)) (hT 3 (by omega) (by omega)) (hT 4 (by omega) (by omega)) (hT 5 (by omega) (by omega)) (hT 7 (by omega) (by omega)) (hT 8 (by omega) (by omega))
      refine ro_j1 (t := t) (kt := kt) (kp := kp) (p := p) hlt hkt (by simp [hT 5, e5]) (by simp [hT 8, e8]) (by simp [f9]) (by simp [hoth kp hpt, hp]) (by simpa using hHt) fun t3 g1 g9 => ?_
      refine kLoop_nrm _ _ _ _ (Sub_refl _ _) ⟨fun u hu h6 => (g1 u hu).trans (hTT u hu h6), (g1 6 (by omega)).trans (by simp [f6]), rfl, k + 1, by omega, g9, by simp, fun j hj => by simp [hj, hoth j hj]⟩ (by simp [g9]; omega)
    · have hk2 : k = 1440 := by simp at hlt; omega
      subst hk2
      refine hK _ _ a { t with m := mmTo t.m p.fr p.to 1440 : Tms } none (kp7 (hT 0 (by omega) (by omega)) (hT 1 (by omega) (by omega)) (hT 2 (by omega) (by omega)) (hT 3 (by omega) (by omega)) (hT 4 (by omega) (by omega)) (hT 5 (by omega) (by omega)) (hT 7 (by omega) (by omega)) (hT 8 (by omega) (by omega))) (by simp [f6]) (by rw [hoth ka hne]; exact ha) hHt (fun j j1 j2 => hoth j j2) ?_
      obtain ⟨x1, dl, x2, x3⟩ := ho.dayly h5
      refine ⟨x1, dl, x2, fun k hk => ?_⟩
      rw [← x3 k hk]
      simp [mmTo, hk]
  have b5 : (p.kind == 5) = false := by simp [h5]
  by_cases h6 : p.kind = 6
  · have hz : ∀ n2, n2 = (none || (decide (a.holder ≠ noName) && decide (a.holder ≠ p.name))) → OInv (l ++ [p]) { a with holder := p.name : Aut } t n2 := fun n2 hz => ho.holder h6 hnm hz
    have g0 : ∀ H2 : Nat → Option (List Value), True := fun _ => trivial
    cases none with
    | true =>
      simp [ref06_OfC_j2, e4, e6, e8, hp, ha, ht, h6, hka]
      exact hK _ _ _ _ true (kp7 rfl rfl rfl rfl rfl rfl rfl rfl) (by simp) (upd_same _ _ _) (by simp [hne.symm, ht]) (fun j j1 j2 => by simp [j1]) (hz true rfl)
    | false =>
      by_cases g1 : a.holder = noName
      · have g1'' : a.holder.toList = [] := (noName_iff _).2 g1
        have g1' : a.holder.toList.isEmpty = true := by rw [g1'']; rfl
        simp [ref06_OfC_j2, e4, e6, e8, hp, ha, ht, h6, hka, g1', g1'']
        exact hK _ _ _ _ false (kp7 rfl rfl rfl rfl rfl rfl rfl rfl) (by simp) (upd_same _ _ _) (by simp [hne.symm, ht]) (fun j j1 j2 => by simp [j1]) (hz false (by simp [g1]))
      · have g1'' : ¬ a.holder.toList = [] := fun e => g1 ((noName_iff _).1 e)
        have g1' : a.holder.toList.isEmpty = false := by simpa using g1''
        by_cases g2 : a.holder = p.name
        · simp [ref06_OfC_j2, e4, e6, e8, hp, ha, ht, h6, hka, g1', g1'', show (a.holder == p.name) = true by simp [g2]]
          exact hK _ _ _ _ false (kp7 rfl rfl rfl rfl rfl rfl rfl rfl) (by simp) (upd_same _ _ _) (by simp [hne.symm, ht]) (fun j j1 j2 => by simp [j1]) (hz false (by simp [g2]))
        · have g2' : (a.holder == p.name) = false := by simpa using g2
          simp [ref06_OfC_j2, e4, e6, e8, hp, ha, ht, h6, hka, g1', g1'', g2']
          exact hK _ _ _ _ true (kp7 rfl rfl rfl rfl rfl rfl rfl rfl) (by simp) (upd_same _ _ _) (by simp [hne.symm, ht]) (fun j j1 j2 => by simp [j1]) (hz true (by simp [g1, g2]))
  · have h7 : p.kind = 7 := by omega
    simp [ref06_OfC_j2, e4, e8, hp, ha, ht, h7]
    exact hK _ _ a t none (kp7 rfl rfl rfl rfl rfl rfl rfl rfl) (by simp [e6]) ha ht (fun j j1 j2 => rfl) (ho.rides h7)
end
end Go.PE
namespace Go.PE
open Go
def ROfOK (P : Program) (f : Nat) : Prop := ∀ (l : List Pred), (∀ p ∈ l, p.wf) → l.length ≤ maxLen → ∀ (H : Nat → Option (List Value)) (nx : Nat), PCalls P f [deep (l.map Pred.v)] H nx (fun _ => False) (fun r H' _ => ofR l r ∧ H' = H)
structure OfW (l : List Pred) (nx ka kt : Nat) (H : Nat → Option (List Value)) (i : Nat) (s : PS) : Prop where
  t0 : s.t 0 = deep (l.map Pred.v)
  t2 : s.t 2 = ptr nx 0
  t4 : s.t 4 = ptr ka 0
  t5 : s.t 5 = ptr kt 0
  t7 : s.t 7 = .int .i64 i
  own : Own nx H s.H
  n : kt < s.nx
  h2 : ∃ c, s.H nx = some c ∧ c.length = 8
  val : ∀ p ∈ l.take i, p.valid = true
  o : ∃ a t none, s.t 6 = .bool none ∧ s.H ka = some a.cells ∧ s.H kt = some t.cells ∧ OInv (l.take i) a t none
section
variable {P : Program} {rv : Nat} (hrv : RValidOK P rv)
include hrv
theorem ro_j3 {l : List Pred} {nx ka kt : Nat} {H : Nat → Option (List Value)} {i : Nat} {s : PS} {Q : Ex → PS → Prop} (hw : ∀ k, nx ≤ k → H k = none) (hl : ∀ p ∈ l, p.wf) (h64 : l.length ≤ 64) (hka : nx < ka) (hkt : ka < kt) (hi : i < l.length) (h : OfW l nx ka kt H i s)
    (hret : ∀ s', (∃ p ∈ l, p.valid = false) → s'.t 2 = ptr nx 0 → s'.t 3 = .int .i64 5 → s'.H nx = some zeroA.cells → Own nx H s'.H → Q .rt s')
    (hK : ∀ s', OfW l nx ka kt H (i + 1) s' → Q .nrm s') :
    wpc (PCalls P) P (fun _ => False) nx (ref06_OfC_j3 rv) Q s := by
  obtain ⟨T, H', nx'⟩ := s
  obtain ⟨e0, e2, e4, e5, e7, hown, hn, ⟨c, hc1, hc2⟩, hval, a, t, none, e6, ha, ht, ho⟩ := h
  simp only at e0 e2 e4 e5 e6 e7 hown hn hc1 ha ht
  have he := elem_prd (l := l) (n := (i : Int)) (by omega) (by simpa using hi)
  simp at he
  have hw1 := w64 (x := (i : Int) + 1) (by omega) (by omega)
  have hwf := hl _ (List.getElem_mem hi)
  have htk : l.take (i + 1) = l.take i ++ [l[i]] := List.take_succ_eq_append_getElem hi
  have hmem := List.getElem_mem hi
  generalize l[i] = p at he hwf htk hmem
  have b1 : ¬ ka = nx' := by omega
  have b2 : ¬ kt = nx' := by omega
  have b3 : ¬ nx = nx' := by omega
  simp [ref06_OfC_j3, e0, e7, he, show nx ≤ nx' by omega, Pred.ag]
  refine wCall_eq (Q := fun r => r = .bool p.valid) (hrv p hwf.1 hwf.2.1 _ _) fun r n2 hr hn2 => ?_
  subst hr
  simp at hn2
  cases hp : p.valid with
  | false =>
    simp [e2, hc1, hc2, b3]
    rw [List.drop_of_length_le (by omega)]
    exact hret _ ⟨p, hmem, hp⟩ (by simp [e2]) (by simp) (by simp; rfl) (by simp [hown, show nx ≤ nx' by omega])
  | true =>
    simp
    refine ro_j2 (p := p) (kp := nx') (ka := ka) (kt := kt) ho hp hwf (valid_named hval) (by omega) (by omega) (by omega) (by simp [e4]) (by simp [e5]) (by simp [e6]) (by simp) (by simp) (by simp [b1, ha]) (by simp [b2, ht]) (by omega) (by omega) fun t2 H2 a' t' n' g1 g6 gA gT gH gO => ?_
    have g7 := g1 7 (by omega) (by omega)
    simp [e7] at g7
    simp [g7, hw1]
    refine hK _ ⟨?_, ?_, ?_, ?_, by simp, ?_, ?_, ⟨c, ?_, hc2⟩, fun q hq => ?_, a', t', n', by simp [g6], gA, gT, by rw [htk]; exact gO⟩
    · simp [g1 0, e0]
    · simp [g1 2, e2]
    · simp [g1 4, e4]
    · simp [g1 5, e5]
    · intro j hj
      show H2 j = _
      have := gH j (by omega) (by omega)
      simp [show ¬ j = nx' by omega] at this
      exact this.trans (hown j hj)
    · show kt < n2; omega
    · show H2 nx = _
      have := gH nx (by omega) (by omega)
      simp [b3] at this
      exact this.trans hc1
    · rw [htk] at hq
      rcases List.mem_append.1 hq with hq | hq
      · exact hval q hq
      · simp at hq; subst hq; exact hp
end
theorem rof_ok {P : Program} {f tS fu tm rv cl : Nat} (hc : compFn P f = some (182, ref06_OfC tS fu tm rv cl, [.cA 2 8, .t 3])) (hfu : FullOK P fu) (htm : TimesOK P tm) (hrv : RValidOK P rv) (hcl : RClosedOK P cl) : ROfOK P f := by
  intro l hl hlen H nx
  refine PCalls_of hc (by simp) fun hw => ?_
  have hmx : (maxLen : Int) = 9223372036854775807 := rfl
  by_cases h64 : l.length ≤ 64
  case neg =>
    simp [ref06_OfC, show (64 : Int) < l.length by omega]
    exact wF_own hw (by simp) ⟨.inl ⟨by omega, rfl⟩, rfl⟩
  simp [ref06_OfC, ref06_OfC_j5, show ¬ (64 : Int) < l.length by omega]
  refine wCall_eq (Q := fun r => r = fullA.v) (hfu _ _) fun r n1 hr hn1 => ?_
  subst hr
  simp at hn1
  have a1 : ¬ nx = n1 := by omega
  simp [show nx ≤ n1 by omega, Aut.ag]
  refine wCall_le (htm fullA (by decide) (by decide) _ _) fun p H1 nx1 hR hn' hown1 => ?_
  obtain ⟨rfl, rfl, m, hm, rfl⟩ := hR
  simp at hn' hown1
  simp
  obtain ⟨I, hI⟩ : ∃ I : PS → Prop, ∀ s, I s ↔ ∃ i : Nat, i ≤ l.length ∧ OfW l nx n1 (n1 + 1 + 1) H i s := ⟨_, fun _ => Iff.rfl⟩
  refine wpc_loop _ _ _ _ _ _ I (fun s => match s.t 7 with | .int _ i => (l.length - i).toNat | _ => 0) _ ((hI _).2 ⟨0, by omega, by simp, by simp, by simp, by simp, by simp, ?_, by simp, ⟨[.bool false, .int .u64 0, .int .u64 0, .int .u64 0, .int .i64 0, .int .i64 0, lin tS [], .string noName], ?_, rfl⟩, by simp, fullA, _, false, by simp, ?_, by simp; rfl, by simpa using OInv.start m hm⟩) ?_
  · intro j hj
    have h1 : ¬ j = n1 := by omega
    have h2 : ¬ j = n1 + 1 + 1 := by omega
    have h3 : ¬ j = nx := by omega
    simp [h1, h2, h3]
  · simp [a1, show ¬ nx = n1 + 1 + 1 by omega]; rfl
  · simp [show ¬ n1 = n1 + 1 + 1 by omega]
  intro s hs
  obtain ⟨i, hi, hU⟩ := (hI _).1 hs
  obtain ⟨T, H', nx'⟩ := s
  have e0 : T 0 = deep (l.map Pred.v) := hU.t0
  have e7 : T 7 = .int .i64 i := hU.t7
  simp [e0, e7]
  have turn : ∀ {j : Nat} {s s' : PS}, OfW l nx n1 (n1 + 1 + 1) H j s → s'.H = s.H → s'.nx = s.nx → (∀ u, u < 8 → s'.t u = s.t u) → OfW l nx n1 (n1 + 1 + 1) H j s' := fun {j s s'} h h1 h2 h3 => by
    obtain ⟨x0, x2, x4, x5, x7, xo, xn, xh, xv, a, t, none, x6, xa, xt, xI⟩ := h
    exact ⟨(h3 0 (by omega)).trans x0, (h3 2 (by omega)).trans x2, (h3 4 (by omega)).trans x4, (h3 5 (by omega)).trans x5, (h3 7 (by omega)).trans x7, by rw [h1]; exact xo, by rw [h2]; exact xn, by rw [h1]; exact xh, xv, a, t, none, (h3 6 (by omega)).trans x6, by rw [h1]; exact xa, by rw [h1]; exact xt, xI⟩
  refine wB_of (fun hlt => ?_) (fun hlt => ?_)
  · have hlt : i < l.length := by simp at hlt; omega
    refine ro_j3 hrv hw hl h64 (by omega) (by omega) hlt (turn hU rfl rfl (kp8 rfl rfl rfl rfl rfl rfl rfl rfl)) (fun s' hbad g2 g3 gH gO => ?_) (fun s' hU' => ?_)
    · obtain ⟨T3, H3, n3⟩ := s'
      simp only at g2 g3 gH gO
      simp [g2, g3, gH]
      exact wF_own hw (by simpa using gO) ⟨.inr (.inl ⟨h64, hbad, rfl⟩), rfl⟩
    · obtain ⟨T3, H3, n3⟩ := s'
      have g7 : T3 7 = .int .i64 (i + 1 : Nat) := hU'.t7
      exact kLoop_nrm _ _ _ _ (Sub_refl _ _) ((hI _).2 ⟨i + 1, by omega, hU'⟩) (by simp [g7]; omega)
  · have hil : i = l.length := by simp at hlt; omega
    subst hil
    obtain ⟨_, e2, e4, e5, _, hown, hn, ⟨c, hc1, hc2⟩, hval, a, t, none, e6, ha, ht, ho⟩ := hU
    simp only at e2 e4 e5 hown hn hc1 e6 ha ht
    rw [List.take_length] at hval ho
    have fin0 : IsOf l noneA → wF (some [ag noneA.cells, .int .i64 0]) nx (fun r H' _ => ofR l r ∧ H' = H) (upd H' nx (some noneA.cells)) nx' := fun hI => wF_own hw (by simp [hown]) ⟨.inr (.inr ⟨h64, hval, noneA, hI, rfl⟩), rfl⟩
    cases none with
    | true =>
      simp [ref06_OfC_j4, e2, e6, hc1, hc2]
      rw [List.drop_of_length_le (by omega)]
      exact fin0 (ho.none_ok (.inl rfl))
    | false =>
      by_cases z0 : a.zones = 0
      · simp [ref06_OfC_j4, e2, e4, e6, hc1, hc2, ha, z0]
        rw [List.drop_of_length_le (by omega)]
        exact fin0 (ho.none_ok (.inr (.inl z0)))
      have z0b : (a.zones == 0) = false := by simpa using z0
      by_cases z1 : a.lines = 0
      · simp [ref06_OfC_j4, e2, e4, e6, hc1, hc2, ha, z0b, z1]
        rw [List.drop_of_length_le (by omega)]
        exact fin0 (ho.none_ok (.inr (.inr (.inl z1))))
      have z1b : (a.lines == 0) = false := by simpa using z1
      by_cases z2 : t.to < t.fr
      · simp [ref06_OfC_j4, e2, e4, e5, e6, hc1, hc2, ha, ht, z0b, z1b, z2]
        rw [List.drop_of_length_le (by omega)]
        exact fin0 (ho.none_ok (.inr (.inr (.inr z2))))
      · simp [ref06_OfC_j4, e2, e4, e5, e6, hc1, hc2, ha, ht, z0b, z1b, z2, Aut.ag]
        refine wCall_eq (Q := fun r => ∃ r', r = r'.v ∧ RClosed a t r') (hcl a t _ ho.an ho.wft _ _ ht (by show n1 + 1 + 1 < nx'; omega)) fun r n3 hr hn3 => ?_
        obtain ⟨r', rfl, hr'⟩ := hr
        simp at hn3
        simp [e2, hc1, hc2]
        rw [List.drop_of_length_le (by omega)]
        simp
        exact wF_own hw (by simp [hown]) ⟨.inr (.inr ⟨h64, hval, r', ho.closed rfl z0 z1 hr', rfl⟩), rfl⟩
end Go.PE
namespace Go.PE
open Go
def SameAOK (P : Program) (f : Nat) : Prop := ∀ (a b : Aut), a.daily.length ≤ maxLen → b.daily.length ≤ maxLen → ∀ (H : Nat → Option (List Value)) (nx : Nat), PCalls P f [a.v, b.v] H nx (fun _ => False) (fun r H' _ => r = .bool (decide (a = b)) ∧ H' = H)
theorem same_ok {P : Program} {f : Nat} (hc : compFn P f = some (80, ref06_SameAuthorityC, [.t 4])) : SameAOK P f := by
  intro a b hla hlb H nx
  refine PCalls_of hc (by simp) fun hw => ?_
  have hmx : (maxLen : Int) = 9223372036854775807 := rfl
  have a1 : ¬ nx = nx + 1 := by omega
  have a2 : nx ≤ nx + 1 := by omega
  have a3 : ¬ nx + 1 = nx := by omega
  have hno : a ≠ b → decide (a = b) = false := fun h => by simp [h]
  by_cases g0 : a.none = b.none
  case neg =>
    have hne : a ≠ b := fun e => g0 (by rw [e])
    have e0 : (a.none == b.none) = false := by simp [g0]
    simp [ref06_SameAuthorityC, a1, a2, a3, e0]
    exact wF_own hw (by simp [a2]) ⟨by rw [hno hne]; rfl, rfl⟩
  have e0 : (a.none == b.none) = true := by simp [g0]
  by_cases g1 : a.zones = b.zones
  case neg =>
    have hne : a ≠ b := fun e => g1 (by rw [e])
    have e1 : (a.zones != b.zones) = true := by simp [g1]
    simp [ref06_SameAuthorityC, a1, a2, a3, e0, e1]
    exact wF_own hw (by simp [a2]) ⟨by rw [hno hne]; rfl, rfl⟩
  have e1 : (a.zones != b.zones) = false := by simp [g1]
  by_cases g2 : a.lines = b.lines
  case neg =>
    have hne : a ≠ b := fun e => g2 (by rw [e])
    have e2 : (a.lines != b.lines) = true := by simp [g2]
    simp [ref06_SameAuthorityC, a1, a2, a3, e0, e1, e2]
    exact wF_own hw (by simp [a2]) ⟨by rw [hno hne]; rfl, rfl⟩
  have e2 : (a.lines != b.lines) = false := by simp [g2]
  by_cases g3 : a.days = b.days
  case neg =>
    have hne : a ≠ b := fun e => g3 (by rw [e])
    have e3 : (a.days != b.days) = true := by simp [g3]
    simp [ref06_SameAuthorityC, a1, a2, a3, e0, e1, e2, e3]
    exact wF_own hw (by simp [a2]) ⟨by rw [hno hne]; rfl, rfl⟩
  have e3 : (a.days != b.days) = false := by simp [g3]
  by_cases g4 : a.fr = b.fr
  case neg =>
    have hne : a ≠ b := fun e => g4 (by rw [e])
    have e4 : (a.fr != b.fr) = true := by simp [g4]
    simp [ref06_SameAuthorityC, a1, a2, a3, e0, e1, e2, e3, e4]
    exact wF_own hw (by simp [a2]) ⟨by rw [hno hne]; rfl, rfl⟩
  have e4 : (a.fr != b.fr) = false := by simp [g4]
  by_cases g5 : a.to = b.to
  case neg =>
    have hne : a ≠ b := fun e => g5 (by rw [e])
    have e5 : (a.to != b.to) = true := by simp [g5]
    simp [ref06_SameAuthorityC, a1, a2, a3, e0, e1, e2, e3, e4, e5]
    exact wF_own hw (by simp [a2]) ⟨by rw [hno hne]; rfl, rfl⟩
  have e5 : (a.to != b.to) = false := by simp [g5]
  by_cases g6 : a.holder = b.holder
  case neg =>
    have hne : a ≠ b := fun e => g6 (by rw [e])
    have e6 : (a.holder == b.holder) = false := by simp [g6]
    simp [ref06_SameAuthorityC, a1, a2, a3, e0, e1, e2, e3, e4, e5, e6]
    exact wF_own hw (by simp [a2]) ⟨by rw [hno hne]; rfl, rfl⟩
  have e6 : (a.holder == b.holder) = true := by simp [g6]
  by_cases g7 : a.daily.length = b.daily.length
  case neg =>
    have hne : a ≠ b := fun e => g7 (by rw [e])
    have e7 : ((a.daily.length : Int) != b.daily.length) = true := by simp; omega
    simp [ref06_SameAuthorityC, a1, a2, a3, e0, e1, e2, e3, e4, e5, e6, e7]
    exact wF_own hw (by simp [a2]) ⟨by rw [hno hne]; rfl, rfl⟩
  have e7 : ((a.daily.length : Int) != b.daily.length) = false := by simp [g7]
  have hab : a = b ↔ a.daily = b.daily := ⟨fun e => by rw [e], fun e => by
    obtain ⟨x1, x2, x3, x4, x5, x6, x7, x8⟩ := a
    obtain ⟨y1, y2, y3, y4, y5, y6, y7, y8⟩ := b
    simp only at g0 g1 g2 g3 g4 g5 g6 e
    subst g0; subst g1; subst g2; subst g3; subst g4; subst g5; subst g6; subst e; rfl⟩
  simp [ref06_SameAuthorityC, ref06_SameAuthorityC_j2, a1, a2, a3, e0, e1, e2, e3, e4, e5, e6, e7]
  refine wpc_loop _ _ _ _ _ _ (fun s => s.t 2 = ptr nx 0 ∧ s.t 3 = ptr (nx + 1) 0 ∧ s.H = upd (upd H nx (some a.cells)) (nx + 1) (some b.cells) ∧ ∃ i : Nat, i ≤ a.daily.length ∧ s.t 5 = .int .i64 i ∧ a.daily.take i = b.daily.take i)
    (fun s => match s.t 5 with | .int _ i => (a.daily.length - i).toNat | _ => 0) _ ⟨by simp, by simp, rfl, 0, by omega, by simp, by simp⟩ ?_
  rintro ⟨T, H', nx'⟩ ⟨f2, f3, hH, i, hi, f5, htk⟩
  simp only at f2 f3 hH f5
  subst hH
  simp [f2, f5, a1]
  refine wB_of (fun hlt => ?_) (fun hlt => ?_)
  · have hlt : i < a.daily.length := by simp at hlt; omega
    have hlt2 : i < b.daily.length := by omega
    have he1 := elem_spn (l := a.daily) (n := (i : Int)) (by omega) (by simpa using hlt)
    have he2 := elem_spn (l := b.daily) (n := (i : Int)) (by omega) (by simpa using hlt2)
    simp at he1 he2
    have hw1 := w64 (x := (i : Int) + 1) (by omega) (by omega)
    have t1 : a.daily.take (i + 1) = a.daily.take i ++ [a.daily[i]] := List.take_succ_eq_append_getElem hlt
    have t2 : b.daily.take (i + 1) = b.daily.take i ++ [b.daily[i]] := List.take_succ_eq_append_getElem hlt2
    have hne : a.daily[i] ≠ b.daily[i] → a ≠ b := fun h e => h (by subst e; rfl)
    generalize a.daily[i] = x at he1 t1 hne
    generalize b.daily[i] = y at he2 t2 hne
    have hf : ∀ z : Spn, fitsL [CK.int IntKind.i64, CK.int IntKind.i64] z.cells = true := fun _ => rfl
    have heq : eqL x.cells y.cells = decide (x = y) := by
      obtain ⟨_, _⟩ := x
      obtain ⟨_, _⟩ := y
      simp [Spn.cells, eqL, Spn.mk.injEq, Bool.decide_and]
      rfl
    by_cases hxy : x = y
    · subst hxy
      simp [ref06_SameAuthorityC_j1, f2, f3, f5, a1, he1, he2, Spn.ag, hw1, hf, heq]
      exact kLoop_nrm _ _ _ _ (Sub_refl _ _) ⟨by simp [f2], by simp [f3], rfl, i + 1, by omega, by simp, by rw [t1, t2, htk]⟩ (by simp; omega)
    · have hxy2 : x.f = y.f → ¬ x.t = y.t := fun h1 h2 => hxy (by obtain ⟨_, _⟩ := x; obtain ⟨_, _⟩ := y; simp only at h1 h2; subst h1; subst h2; rfl)
      simp [ref06_SameAuthorityC_j1, f2, f3, f5, a1, he1, he2, Spn.ag, hf, heq, hxy]
      exact wF_own hw (by simp [a2]) ⟨by rw [hno (hne hxy)]; rfl, rfl⟩
  · have hil : i = a.daily.length := by simp at hlt; omega
    subst hil
    rw [List.take_length, g7, List.take_length] at htk
    have : decide (a = b) = true := by simp [hab, htk]
    simp [this]
    exact wF_own hw (by simp [a2]) ⟨rfl, rfl⟩
end Go.PE
namespace Go.PE
open Go
/-- the outcome of Of -/
def ofE (l : List Pred) (a : Aut) (e : Int) : Prop := (64 < l.length ∧ a = zeroA ∧ e = 2) ∨ (l.length ≤ 64 ∧ (∃ p ∈ l, p.valid = false) ∧ a = zeroA ∧ e = 5) ∨ (l.length ≤ 64 ∧ (∀ p ∈ l, p.valid = true) ∧ IsOf l a ∧ e = 0)
theorem ofR_E {l : List Pred} {v : Value} (h : ofR l v) : ∃ a e, v = tup [a.v, .int .i64 e] ∧ ofE l a e := by
  rcases h with ⟨h1, rfl⟩ | ⟨h1, h2, rfl⟩ | ⟨h1, h2, r, h3, rfl⟩
  · exact ⟨_, _, rfl, .inl ⟨h1, rfl, rfl⟩⟩
  · exact ⟨_, _, rfl, .inr (.inl ⟨h1, h2, rfl, rfl⟩)⟩
  · exact ⟨_, _, rfl, .inr (.inr ⟨h1, h2, h3, rfl⟩)⟩
theorem ofE_valid {l : List Pred} {a : Aut} {e : Int} (h : ofE l a e) (h1 : l.length ≤ 64) (h2 : ∀ p ∈ l, p.valid = true) : IsOf l a ∧ e = 0 := by
  rcases h with ⟨h1', _⟩ | ⟨_, ⟨p, hp, hv⟩, _⟩ | ⟨_, _, h3, e⟩
  · omega
  · rw [h2 p hp] at hv; cases hv
  · exact ⟨h3, e⟩
/-! the examples -/
end Go.PE
namespace Go.PE
open Go
end Go.PE
namespace Go.PE
open Go
section
variable {P : Program} {g of_ : Nat} (hof : AOfOK P of_ g)
include hof
end
end Go.PE
namespace Go.PE
open Go
def SpnEqOK (P : Program) (f : Nat) : Prop := ∀ (a b : List Spn), a.length ≤ maxLen → b.length ≤ maxLen → ∀ (H : Nat → Option (List Value)) (nx : Nat), PCalls P f [deep (a.map Spn.v), deep (b.map Spn.v)] H nx (fun _ => False) (fun r H' _ => r = .bool (decide (a = b)) ∧ H' = H)
theorem spnEq_ok {P : Program} {f : Nat} (hc : compFn P f = some (26, slices_Equal_api_Span_api_SpanC, [.t 4])) : SpnEqOK P f := by
  intro a b hla hlb H nx
  refine PCalls_of hc (by simp) fun hw => ?_
  have hmx : (maxLen : Int) = 9223372036854775807 := rfl
  by_cases g7 : a.length = b.length
  case neg =>
    have e7 : ((a.length : Int) != b.length) = true := by simp; omega
    have hne : decide (a = b) = false := by simp; intro e; rw [e] at g7; exact g7 rfl
    simp [slices_Equal_api_Span_api_SpanC, e7, g7]
    exact wF_own hw (by simp) ⟨by rw [hne]; rfl, rfl⟩
  have e7 : ((a.length : Int) != b.length) = false := by simp [g7]
  simp [slices_Equal_api_Span_api_SpanC, slices_Equal_api_Span_api_SpanC_j2, e7, g7]
  refine wpc_loop _ _ _ _ _ _ (fun s => s.t 0 = deep (a.map Spn.v) ∧ s.t 1 = deep (b.map Spn.v) ∧ s.t 12 = .int .i64 a.length ∧ s.H = H ∧ ∃ i : Nat, i ≤ a.length ∧ s.t 13 = .int .i64 i ∧ a.take i = b.take i)
    (fun s => match s.t 13 with | .int _ i => (a.length - i).toNat | _ => 0) _ ⟨by simp, by simp, by simp [g7], rfl, 0, by omega, by simp, by simp⟩ ?_
  rintro ⟨T, H', nx'⟩ ⟨f0, f1, f12, rfl, i, hi, f13, htk⟩
  simp only at f0 f1 f12 f13 hw
  simp [f12, f13]
  refine wB_of (fun hlt => ?_) (fun hlt => ?_)
  · have hlt : i < a.length := by simp at hlt; omega
    have hlt2 : i < b.length := by omega
    have he1 := elem_spn (l := a) (n := (i : Int)) (by omega) (by simpa using hlt)
    have he2 := elem_spn (l := b) (n := (i : Int)) (by omega) (by simpa using hlt2)
    simp at he1 he2
    have hw1 := w64 (x := (i : Int) + 1) (by omega) (by omega)
    have t1 : a.take (i + 1) = a.take i ++ [a[i]] := List.take_succ_eq_append_getElem hlt
    have t2 : b.take (i + 1) = b.take i ++ [b[i]] := List.take_succ_eq_append_getElem hlt2
    have hne : a[i] ≠ b[i] → a ≠ b := fun h e => h (by subst e; rfl)
    generalize a[i] = x at he1 t1 hne
    generalize b[i] = y at he2 t2 hne
    have hf : ∀ z : Spn, fitsL [CK.int IntKind.i64, CK.int IntKind.i64] z.cells = true := fun _ => rfl
    have heq : eqL x.cells y.cells = decide (x = y) := by
      obtain ⟨_, _⟩ := x
      obtain ⟨_, _⟩ := y
      simp [Spn.cells, eqL, Spn.mk.injEq, Bool.decide_and]
      rfl
    by_cases hxy : x = y
    · subst hxy
      simp [slices_Equal_api_Span_api_SpanC_j1, f0, f1, f13, he1, he2, Spn.ag, hw1, hf, heq]
      exact kLoop_nrm _ _ _ _ (Sub_refl _ _) ⟨by simp [f0], by simp [f1], by simp [f12], rfl, i + 1, by omega, by simp, by rw [t1, t2, htk]⟩ (by simp; omega)
    · simp [slices_Equal_api_Span_api_SpanC_j1, f0, f1, f13, he1, he2, Spn.ag, hf, heq, hxy]
      exact wF_own hw (by simp) ⟨by simp [hne hxy], rfl⟩
  · have hil : i = a.length := by simp at hlt; omega
    subst hil
    rw [List.take_length, g7, List.take_length] at htk
    exact wF_own hw (by simp) ⟨by simp [htk], rfl⟩
theorem aequal_ok {P : Program} {f e : Nat} (hc : compFn P f = some (59, authority_equalC e, [.t 4])) (he : SpnEqOK P e) : SameAOK P f := by
  intro a b hla hlb H nx
  refine PCalls_of hc (by simp) fun hw => ?_
  have hmx : (maxLen : Int) = 9223372036854775807 := rfl
  have a1 : ¬ nx = nx + 1 := by omega
  have a2 : nx ≤ nx + 1 := by omega
  have a3 : ¬ nx + 1 = nx := by omega
  have hno : a ≠ b → decide (a = b) = false := fun h => by simp [h]
  by_cases g0 : a.none = b.none
  case neg =>
    have hne : a ≠ b := fun e => g0 (by rw [e])
    have e0 : (a.none == b.none) = false := by simp [g0]
    simp [authority_equalC, a1, a2, a3, e0]
    exact wF_own hw (by simp [a2]) ⟨by rw [hno hne]; rfl, rfl⟩
  have e0 : (a.none == b.none) = true := by simp [g0]
  by_cases g1 : a.zones = b.zones
  case neg =>
    have hne : a ≠ b := fun e => g1 (by rw [e])
    have e1 : (a.zones == b.zones) = false := by simp [g1]
    simp [authority_equalC, a1, a2, a3, e0, e1]
    exact wF_own hw (by simp [a2]) ⟨by rw [hno hne]; rfl, rfl⟩
  have e1 : (a.zones == b.zones) = true := by simp [g1]
  by_cases g2 : a.lines = b.lines
  case neg =>
    have hne : a ≠ b := fun e => g2 (by rw [e])
    have e2 : (a.lines == b.lines) = false := by simp [g2]
    simp [authority_equalC, a1, a2, a3, e0, e1, e2]
    exact wF_own hw (by simp [a2]) ⟨by rw [hno hne]; rfl, rfl⟩
  have e2 : (a.lines == b.lines) = true := by simp [g2]
  by_cases g3 : a.days = b.days
  case neg =>
    have hne : a ≠ b := fun e => g3 (by rw [e])
    have e3 : (a.days == b.days) = false := by simp [g3]
    simp [authority_equalC, a1, a2, a3, e0, e1, e2, e3]
    exact wF_own hw (by simp [a2]) ⟨by rw [hno hne]; rfl, rfl⟩
  have e3 : (a.days == b.days) = true := by simp [g3]
  by_cases g4 : a.fr = b.fr
  case neg =>
    have hne : a ≠ b := fun e => g4 (by rw [e])
    have e4 : (a.fr == b.fr) = false := by simp [g4]
    simp [authority_equalC, a1, a2, a3, e0, e1, e2, e3, e4]
    exact wF_own hw (by simp [a2]) ⟨by rw [hno hne]; rfl, rfl⟩
  have e4 : (a.fr == b.fr) = true := by simp [g4]
  by_cases g5 : a.to = b.to
  case neg =>
    have hne : a ≠ b := fun e => g5 (by rw [e])
    have e5 : (a.to == b.to) = false := by simp [g5]
    simp [authority_equalC, a1, a2, a3, e0, e1, e2, e3, e4, e5]
    exact wF_own hw (by simp [a2]) ⟨by rw [hno hne]; rfl, rfl⟩
  have e5 : (a.to == b.to) = true := by simp [g5]
  by_cases g6 : a.holder = b.holder
  case neg =>
    have hne : a ≠ b := fun e => g6 (by rw [e])
    have e6 : (a.holder == b.holder) = false := by simp [g6]
    simp [authority_equalC, a1, a2, a3, e0, e1, e2, e3, e4, e5, e6]
    exact wF_own hw (by simp [a2]) ⟨by rw [hno hne]; rfl, rfl⟩
  have e6 : (a.holder == b.holder) = true := by simp [g6]
  have hab : a = b ↔ a.daily = b.daily := ⟨fun e => by rw [e], fun e => by
    obtain ⟨x1, x2, x3, x4, x5, x6, x7, x8⟩ := a
    obtain ⟨y1, y2, y3, y4, y5, y6, y7, y8⟩ := b
    simp only at g0 g1 g2 g3 g4 g5 g6 e
    subst g0; subst g1; subst g2; subst g3; subst g4; subst g5; subst g6; subst e; rfl⟩
  simp [authority_equalC, a1, a2, a3, e0, e1, e2, e3, e4, e5, e6]
  refine wCall_eq (Q := fun r => r = .bool (decide (a.daily = b.daily))) (he a.daily b.daily hla hlb _ _) fun r n1 hr hn1 => ?_
  subst hr
  simp
  exact wF_own hw (by simp [a2]) ⟨by simp [hab], rfl⟩
end Go.PE
namespace Go.PE
open Go
def okD (l : List Spn) : Prop := canon (-1) l ∧ ∀ s ∈ l, s.t < 1440
/-- what the i-th span must be -/
def cD (l : List Spn) (i : Nat) : Prop := ∀ s, l[i]? = some s → 0 ≤ s.f ∧ s.f ≤ s.t ∧ s.t < 1440 ∧ ∀ p, 0 < i → l[i - 1]? = some p → p.t + 1 < s.f
theorem okD_take (l : List Spn) : ∀ i, i ≤ l.length → (okD (l.take i) ↔ ∀ j, j < i → cD l j)
  | 0, _ => by simp [okD, canon]
  | i + 1, hi => by
    have ih := okD_take l i (by omega)
    have hlt : i < l.length := by omega
    have htk : l.take (i + 1) = l.take i ++ [l[i]] := List.take_succ_eq_append_getElem hlt
    have hgi : l[i]? = some l[i] := List.getElem?_eq_getElem hlt
    have key : okD (l.take (i + 1)) ↔ okD (l.take i) ∧ lastT (-1) (l.take i) < l[i].f ∧ l[i].f ≤ l[i].t ∧ l[i].t < 1440 := by
      unfold okD
      rw [htk, canon_snoc]
      constructor
      · rintro ⟨⟨a, b, c⟩, d⟩
        exact ⟨⟨a, fun s hs => d s (List.mem_append.2 (.inl hs))⟩, b, c, d _ (List.mem_append.2 (.inr (List.mem_singleton.2 rfl)))⟩
      · rintro ⟨⟨a, b⟩, c, d, e⟩
        refine ⟨⟨a, c, d⟩, fun s hs => ?_⟩
        rcases List.mem_append.1 hs with h | h
        · exact b s h
        · simp at h; subst h; exact e
    have hlast : okD (l.take i) → (lastT (-1) (l.take i) < l[i].f ↔ 0 ≤ l[i].f ∧ ∀ p, 0 < i → l[i - 1]? = some p → p.t + 1 < l[i].f) := fun hok => by
      cases i with
      | zero => simp [lastT]; omega
      | succ k =>
        have h2 : l.take (k + 1) = l.take k ++ [l[k]] := List.take_succ_eq_append_getElem (by omega)
        have hgk : l[k]? = some l[k] := List.getElem?_eq_getElem (by omega)
        have hpos : -1 < l[k].f ∧ l[k].f ≤ l[k].t := canon_mem hok.1 (by rw [h2]; exact List.mem_append.2 (.inr (List.mem_singleton.2 rfl)))
        rw [h2, lastT_snoc]
        simp only [Nat.add_sub_cancel, hgk]
        constructor
        · intro h; exact ⟨by omega, fun p _ e => by obtain rfl := Option.some.inj e; exact h⟩
        · rintro ⟨_, h⟩; exact h _ (by omega) rfl
    rw [key]
    constructor
    · rintro ⟨h1, h2, h3, h4⟩ j hj
      by_cases e : j = i
      · subst e
        intro s hs
        obtain rfl : l[j] = s := by rw [hgi] at hs; exact Option.some.inj hs
        have := (hlast h1).1 h2
        exact ⟨this.1, h3, h4, this.2⟩
      · exact ih.1 h1 j (by omega)
    · intro h
      have h1 := ih.2 fun j hj => h j (by omega)
      obtain ⟨b1, b2, b3, b4⟩ := h i (by omega) _ hgi
      exact ⟨h1, (hlast h1).2 ⟨b1, b4⟩, b2, b3⟩
theorem okD_all (l : List Spn) : okD l ↔ ∀ j, j < l.length → cD l j := by
  have := okD_take l l.length (Nat.le_refl _)
  rwa [List.take_length] at this
theorem okD.k {l : List Spn} (h : okD l) (k : Int) (hk : inS l k) : k < 1440 := by
  obtain ⟨s, hs, h1, h2⟩ := hk
  have := h.2 s hs
  omega
structure rgA (a : Aut) : Prop where
  l : a.lines ≤ 4294967295
  d : a.days ≤ 127
  f : 0 ≤ a.fr
  ft : a.fr ≤ a.to
  t : a.to ≤ 67108864
  h : a.holder = noName ∨ nameV a.holder = true
  s : okD a.daily
def VA (a : Aut) : Prop := a = noneA ∨ (a.none = false ∧ rgA a ∧ IsClosed a a)
noncomputable def okA (a : Aut) : Bool := @decide (VA a) (Classical.propDecidable _)
theorem okA_iff (a : Aut) : okA a = true ↔ VA a := by unfold okA; simp
theorem okA_no {a : Aut} (h : ¬ VA a) : okA a = false := by
  cases hb : okA a with
  | false => rfl
  | true => exact absurd ((okA_iff a).1 hb) h
theorem VA.not {a : Aut} (hn : a.none = false) (h : ¬ rgA a) : ¬ VA a := by
  rintro (rfl | ⟨_, h2, _⟩)
  · cases hn
  · exact h h2
def rgI (x : Int) : Prop := -9223372036854775808 ≤ x ∧ x ≤ 9223372036854775807
/-- what a value of the type is -/
structure Aut.wf (a : Aut) : Prop where
  zu : isU64 a.zones
  lu : isU64 a.lines
  du : isU64 a.days
  f : rgI a.fr
  t : rgI a.to
  h : (a.holder.size : Int) ≤ 9223372036854775807
  n : a.daily.length ≤ 1000000
theorem rgA.wfi {a : Aut} (h : rgA a) (hw : a.wf) : WfI a := ⟨hw.zu, hw.lu, hw.du, ⟨h.f, by have := h.ft; have := h.t; omega, by have := h.f; have := h.ft; omega, h.t⟩, h.s.1, h.s.k⟩
theorem IsClosed.uniq1 {a r r' : Aut} (h : IsClosed a r) (h' : IsClosed a r') : r = r' := h.uniq h' rfl rfl rfl fun _ => Iff.rfl
/-- the code's answer -/
theorem VA_closed {a r : Aut} (hn : a.none = false) (hg : rgA a) (hr : IsClosed a r) : decide (a = r) = okA a := by
  by_cases e : a = r
  · have : VA a := .inr ⟨hn, hg, by rw [← e] at hr; exact hr⟩
    rw [(okA_iff a).2 this]; simp [e]
  · have : ¬ VA a := by
      rintro (rfl | ⟨_, _, h⟩)
      · cases hn
      · exact e (h.uniq1 hr)
    rw [okA_no this]; simp [e]
theorem VA_none {a : Aut} (hn : a.none = true) : decide (a = noneA) = okA a := by
  by_cases e : a = noneA
  · rw [(okA_iff a).2 (.inl e)]; simp [e]
  · have : ¬ VA a := by
      rintro (h | ⟨h, _⟩)
      · exact e h
      · rw [hn] at h; cases h
    rw [okA_no this]; simp [e]
/-- of a valid authority nothing is empty -/
theorem VA.full {a : Aut} (hn : a.none = false) (h : VA a) : a.zones ≠ 0 ∧ a.lines ≠ 0 ∧ a.days ≠ 0 := by
  rcases h with rfl | ⟨_, hg, hc⟩
  · cases hn
  · rcases hc with ⟨_, e⟩ | ⟨h1, h2, f, t, d, l, hc, e⟩
    · rw [e] at hn; cases hn
    · refine ⟨h1, h2, fun h0 => ?_⟩
      have e2 : a.days = d := by rw [e]
      have := (hc.days (wk f)).2 ⟨f, hc.fr.1, rfl⟩
      rw [← e2, h0, tb_0] at this
      cases this
end Go.PE
namespace Go.PE
open Go
def authority_ValidC_j1 : PC :=
 (.seq (.block 1 (.seq (.reg [(some 51, none, .mv (.tmp 49)), (some 52, none, .ixS 2 (.tmp 47) (.tmp 49)), (some 53, none, .ldA 2 (.tmp 52)), (some 4, none, .alloc [(.int .i64 0), (.int .i64 0)]), (some 3, none, .mv (.tmp 51)), (none, none, .st 2 (.tmp 4) (.tmp 53))]) (.seq (.drw [(some 54, none, .fa 0 (.tmp 4)), (some 55, none, .ld false (.tmp 54)), (some 56, none, .bi .lss (.tmp 55) (.const (.int .i64 0))), (some 57, none, .mv (.tmp 56)), (some 58, some (57, false), .fa 0 (.tmp 4)), (some 59, some (57, false), .ld false (.tmp 58)), (some 60, some (57, false), .fa 1 (.tmp 4)), (some 61, some (57, false), .ld false (.tmp 60)), (some 62, some (57, false), .bi .gtr (.tmp 59) (.tmp 61)), (some 63, none, .pick (.tmp 57) (.const (.bool true)) (.tmp 62)), (some 64, none, .mv (.tmp 63)), (some 65, some (64, false), .fa 1 (.tmp 4)), (some 66, some (64, false), .ld false (.tmp 65)), (some 67, some (64, false), .bi .geq (.tmp 66) (.const (.int .i64 1440))), (some 68, none, .pick (.tmp 64) (.const (.bool true)) (.tmp 67)), (some 69, none, .mv (.tmp 68)), (some 70, some (69, false), .mv (.tmp 3)), (some 71, some (69, false), .bi .gtr (.tmp 70) (.const (.int .i64 0))), (some 72, some (69, false), .mv (.tmp 71)), (some 73, some (72, true), .fa 0 (.tmp 4)), (some 74, some (72, true), .ld false (.tmp 73)), (some 75, some (72, true), .fa 6 (.tmp 1)), (some 76, some (72, true), .ld false (.tmp 75)), (some 77, some (72, true), .mv (.tmp 3)), (some 78, some (72, true), .bi .sub (.tmp 77)
 (.const (.int .i64 1))), (some 79, some (72, true), .ixS 2 (.tmp 76) (.tmp 78)), (some 80, some (72, true), .fa 1 (.tmp 79)), (some 81, some (72, true), .ld false (.tmp 80)), (some 82, some (72, true), .bi .add (.tmp 81) (.const (.int .i64 1))), (some 83, some (72, true), .bi .leq (.tmp 74) (.tmp 82)), (some 84, some (69, false), .pick (.tmp 72) (.tmp 83) (.const (.bool false))), (some 85, none, .pick (.tmp 69) (.const (.bool true)) (.tmp 84))]) (.cond (.tmp 85) (.seq (.reg [(some 2, none, .mv (.const (.bool false)))]) .ret) .skip)))) (.reg [(some 86, none, .bi .add (.tmp 49) (.const (.int .i64 1))), (some 49, none, .mv (.tmp 86))]))
def authority_ValidC_j2 (f_authority_equal : Nat) (f_authority_closed : Nat) : PC :=
 (.seq (.ord (.alt (.one (some 87, none, .ldA 8 (.tmp 1)) (.one (some 88, none, .ldA 8 (.tmp 1)) (.one (some 89, none, .call f_authority_closed [(.tmp 88)]) (.one (some 90, none, .call f_authority_equal [(.tmp 87), (.tmp 89)]) (.one (some 2, none, .mv (.tmp 90)) .done))))) (.one (some 88, none, .ldA 8 (.tmp 1)) (.alt (.one (some 87, none, .ldA 8 (.tmp 1)) (.one (some 89, none, .call f_authority_closed [(.tmp 88)]) (.one (some 90, none, .call f_authority_equal [(.tmp 87), (.tmp 89)]) (.one (some 2, none, .mv (.tmp 90)) .done)))) (.one (some 89, none, .call f_authority_closed [(.tmp 88)]) (.one (some 87, none, .ldA 8 (.tmp 1)) (.one (some 90, none, .call f_authority_equal [(.tmp 87), (.tmp 89)]) (.one (some 2, none, .mv (.tmp 90)) .done)))))))) .ret)
def authority_ValidC_j3 (f_authority_equal : Nat) (f_authority_closed : Nat) : PC :=
 (.seq (.seq (.reg [(some 46, none, .fa 6 (.tmp 1)), (some 47, none, .ld false (.tmp 46)), (some 48, none, .len (.tmp 47)), (some 49, none, .mv (.const (.int .i64 0)))]) (.block 0 (.loop (.seq (.reg [(some 50, none, .bi .lss (.tmp 49) (.tmp 48))]) (.seq (.cond (.tmp 50) .skip (.exit 0)) authority_ValidC_j1))))) (authority_ValidC_j2 f_authority_equal f_authority_closed))
def authority_ValidC_j4 (f_authority_equal : Nat) (f_authority_name : Nat) (f_authority_closed : Nat) : PC :=
 (.seq (.seq (.reg [(some 10, none, .fa 2 (.tmp 1)), (some 11, none, .ld false (.tmp 10)), (some 12, none, .bi .gtr (.tmp 11) (.const (.int .u64 4294967295))), (some 13, none, .mv (.tmp 12)), (some 14, some (13, false), .fa 3 (.tmp 1)), (some 15, some (13, false), .ld false (.tmp 14)), (some 16, some (13, false), .bi .gtr (.tmp 15) (.const (.int .u64 127))), (some 17, none, .pick (.tmp 13) (.const (.bool true)) (.tmp 16)), (some 18, none, .mv (.tmp 17)), (some 19, some (18, false), .fa 4 (.tmp 1)), (some 20, some (18, false), .ld false (.tmp 19)), (some 21, some (18, false), .bi .lss (.tmp 20) (.const (.int .i64 0))), (some 22, none, .pick (.tmp 18) (.const (.bool true)) (.tmp 21)), (some 23, none, .mv (.tmp 22)), (some 24, some (23, false), .fa 4 (.tmp 1)), (some 25, some (23, false), .ld false (.tmp 24)), (some 26, some (23, false), .fa 5 (.tmp 1)), (some 27, some (23, false), .ld false (.tmp 26)), (some 28, some (23, false), .bi .gtr (.tmp 25) (.tmp 27)), (some 29, none, .pick (.tmp 23) (.const (.bool true)) (.tmp 28)), (some 30, none, .mv (.tmp 29)), (some 31, some (30, false), .fa 5 (.tmp 1)), (some 32, some (30, false), .ld false (.tmp 31)), (some 33, some (30, false), .bi .gtr (.tmp 32) (.const (.int .i64 67108864))), (some 34, none, .pick (.tmp 30) (.const (.bool true)) (.tmp 33)), (some 35, none, .mv (.tmp 34)), (some 36, some (35, false), .fa 7 (.tmp 1)), (some 37, some (35, false), .ld false (.tmp 36)), (some 38, some (35, false), .bi .neq (.tmp 37)
 (.const (.string ⟨#[]⟩))), (some 39, some (35, false), .mv (.tmp 38)), (some 40, some (39, true), .fa 7 (.tmp 1)), (some 41, some (39, true), .ld false (.tmp 40)), (some 42, some (39, true), .call f_authority_name [(.tmp 41)]), (some 43, some (39, true), .un .not (.tmp 42)), (some 44, some (35, false), .pick (.tmp 39) (.tmp 43) (.const (.bool false))), (some 45, none, .pick (.tmp 35) (.const (.bool true)) (.tmp 44))]) (.cond (.tmp 45) (.seq (.reg [(some 2, none, .mv (.const (.bool false)))]) .ret) .skip)) (authority_ValidC_j3 f_authority_equal f_authority_closed))
def authority_ValidC (f_authority_none : Nat) (f_authority_equal : Nat) (f_authority_name : Nat) (f_authority_closed : Nat) : PC :=
 (.seq (.reg [(some 1, none, .box 8 (.tmp 0)), (some 2, none, .mv (.const (.bool false)))]) (.seq (.seq (.reg [(some 5, none, .fa 0 (.tmp 1)), (some 6, none, .ld false (.tmp 5))]) (.cond (.tmp 6) (.seq (.ord (.alt (.one (some 7, none, .ldA 8 (.tmp 1)) (.one (some 8, none, .call f_authority_none []) (.one (some 9, none, .call f_authority_equal [(.tmp 7), (.tmp 8)]) (.one (some 2, none, .mv (.tmp 9)) .done)))) (.one (some 8, none, .call f_authority_none []) (.one (some 7, none, .ldA 8 (.tmp 1)) (.one (some 9, none, .call f_authority_equal [(.tmp 7), (.tmp 8)]) (.one (some 2, none, .mv (.tmp 9)) .done)))))) .ret) .skip)) (authority_ValidC_j4 f_authority_equal f_authority_name f_authority_closed)))
def authority_MeetC_j1 (f_authority_common : Nat) (f_authority_restrict : Nat) (f_authority_closed : Nat) : PC :=
 (.seq (.reg [(some 52, none, .fa 6 (.tmp 2)), (some 53, none, .ld false (.tmp 52)), (some 54, none, .fa 6 (.tmp 3)), (some 55, none, .ld false (.tmp 54)), (some 56, none, .call f_authority_common [(.tmp 53), (.tmp 55)]), (some 57, none, .fa 6 (.tmp 2)), (none, none, .sts (.tmp 57) 56)]) (.seq (.seq (.reg [(some 58, none, .fa 7 (.tmp 3)), (some 59, none, .ld false (.tmp 58)), (some 60, none, .bi .neq (.tmp 59) (.const (.string ⟨#[]⟩)))]) (.cond (.tmp 60) (.reg [(some 61, none, .ldA 8 (.tmp 2)), (some 62, none, .fa 7 (.tmp 3)), (some 63, none, .ld false (.tmp 62)), (some 64, none, .build [(.inr ((.const (.int .i64 6)), 1)), (.inl [(.int .u64 0)]), (.inl [(.int .i64 0)]), (.inl [(.int .i64 0)]), (.inr ((.tmp 63), 1)), (.inl [(.int .i64 0)])]), (some 65, none, .call f_authority_restrict [(.tmp 61), (.tmp 64)]), (none, none, .st 8 (.tmp 2) (.tmp 65))]) .skip)) (.seq (.reg [(some 66, none, .ldA 8 (.tmp 2)), (some 67, none, .call f_authority_closed [(.tmp 66)]), (none, none, .st 8 (.tmp 4) (.tmp 67))]) .ret)))
def authority_MeetC_j2 (f_authority_common : Nat) (f_authority_restrict : Nat) (f_authority_closed : Nat) : PC :=
 (.seq (.ord (.one (some 40, none, .fa 4 (.tmp 2)) (.one (some 41, none, .ld false (.tmp 40)) (.one (some 42, none, .fa 4 (.tmp 3)) (.one (some 43, none, .ld false (.tmp 42)) (.one (some 44, none, .mm true (.tmp 41) (.tmp 43)) (.one (some 45, none, .fa 5 (.tmp 2)) (.one (some 46, none, .ld false (.tmp 45)) (.one (some 47, none, .fa 5 (.tmp 3)) (.one (some 50, none, .fa 4 (.tmp 2)) (.alt (.one (some 48, none, .ld false (.tmp 47)) (.one (some 49, none, .mm false (.tmp 46) (.tmp 48)) (.one (none, none, .st 1 (.tmp 50) (.tmp 44)) (.one (some 51, none, .fa 5 (.tmp 2)) (.one (none, none, .st 1 (.tmp 51) (.tmp 49)) .done))))) (.one (none, none, .st 1 (.tmp 50) (.tmp 44)) (.one (some 48, none, .ld false (.tmp 47)) (.one (some 49, none, .mm false (.tmp 46) (.tmp 48)) (.one (some 51, none, .fa 5 (.tmp 2)) (.one (none, none, .st 1 (.tmp 51) (.tmp 49)) .done)))))))))))))))) (authority_MeetC_j1 f_authority_common f_authority_restrict f_authority_closed))
def authority_MeetC_j3 (f_authority_common : Nat) (f_authority_restrict : Nat) (f_authority_closed : Nat) : PC :=
 (.seq (.ord (.one (some 22, none, .fa 1 (.tmp 2)) (.one (some 23, none, .ld false (.tmp 22)) (.one (some 24, none, .fa 1 (.tmp 3)) (.one (some 25, none, .ld false (.tmp 24)) (.one (some 26, none, .bi .and (.tmp 23) (.tmp 25)) (.one (some 27, none, .fa 2 (.tmp 2)) (.one (some 28, none, .ld false (.tmp 27)) (.one (some 29, none, .fa 2 (.tmp 3)) (.one (some 32, none, .fa 3 (.tmp 2)) (.one (some 33, none, .ld false (.tmp 32)) (.one (some 34, none, .fa 3 (.tmp 3)) (.one (some 37, none, .fa 1 (.tmp 2)) (.alt (.one (some 30, none, .ld false (.tmp 29)) (.one (some 31, none, .bi .and (.tmp 28) (.tmp 30)) (.alt (.one (some 35, none, .ld false (.tmp 34)) (.one (some 36, none, .bi .and (.tmp 33) (.tmp 35)) (.one (none, none, .st 1 (.tmp 37) (.tmp 26)) (.one (some 38, none, .fa 2 (.tmp 2)) (.one (none, none, .st 1 (.tmp 38) (.tmp 31)) (.one (some 39, none, .fa 3 (.tmp 2)) (.one (none, none, .st 1 (.tmp 39) (.tmp 36)) .done))))))) (.one (none, none, .st 1 (.tmp 37) (.tmp 26)) (.one (some 38, none, .fa 2 (.tmp 2)) (.alt (.one (some 35, none, .ld false (.tmp 34)) (.one (some 36, none, .bi .and (.tmp 33) (.tmp 35)) (.one (none, none, .st 1 (.tmp 38) (.tmp 31)) (.one (some 39, none, .fa 3 (.tmp 2)) (.one (none, none, .st 1 (.tmp 39) (.tmp 36)) .done))))) (.one (none, none, .st 1 (.tmp 38) (.tmp 31)) (.one (some 35, none, .ld false (.tmp 34)) (.one (some 36, none, .bi .and (.tmp 33) (.tmp 35)) (.one (some 39, none, .fa 3 (.tmp 2)) (.one (none, none, .st 1 (.tmp 39) (.tmp 36)) .done)))))))))))
 (.alt (.one (some 35, none, .ld false (.tmp 34)) (.one (some 36, none, .bi .and (.tmp 33) (.tmp 35)) (.alt (.one (some 30, none, .ld false (.tmp 29)) (.one (some 31, none, .bi .and (.tmp 28) (.tmp 30)) (.one (none, none, .st 1 (.tmp 37) (.tmp 26)) (.one (some 38, none, .fa 2 (.tmp 2)) (.one (none, none, .st 1 (.tmp 38) (.tmp 31)) (.one (some 39, none, .fa 3 (.tmp 2)) (.one (none, none, .st 1 (.tmp 39) (.tmp 36)) .done))))))) (.one (none, none, .st 1 (.tmp 37) (.tmp 26)) (.one (some 30, none, .ld false (.tmp 29)) (.one (some 31, none, .bi .and (.tmp 28) (.tmp 30)) (.one (some 38, none, .fa 2 (.tmp 2)) (.one (none, none, .st 1 (.tmp 38) (.tmp 31)) (.one (some 39, none, .fa 3 (.tmp 2)) (.one (none, none, .st 1 (.tmp 39) (.tmp 36)) .done)))))))))) (.one (none, none, .st 1 (.tmp 37) (.tmp 26)) (.one (some 30, none, .ld false (.tmp 29)) (.one (some 31, none, .bi .and (.tmp 28) (.tmp 30)) (.one (some 38, none, .fa 2 (.tmp 2)) (.alt (.one (some 35, none, .ld false (.tmp 34)) (.one (some 36, none, .bi .and (.tmp 33) (.tmp 35)) (.one (none, none, .st 1 (.tmp 38) (.tmp 31)) (.one (some 39, none, .fa 3 (.tmp 2)) (.one (none, none, .st 1 (.tmp 39) (.tmp 36)) .done))))) (.one (none, none, .st 1 (.tmp 38) (.tmp 31)) (.one (some 35, none, .ld false (.tmp 34)) (.one (some 36, none, .bi .and (.tmp 33) (.tmp 35)) (.one (some 39, none, .fa 3 (.tmp 2)) (.one (none, none, .st 1 (.tmp 39) (.tmp 36)) .done)))))))))))))))))))))))))
 (authority_MeetC_j2 f_authority_common f_authority_restrict f_authority_closed))
def authority_MeetC (t_api_Span : Nat) (f_authority_Valid : Nat) (f_authority_none : Nat) (f_authority_common : Nat) (f_authority_restrict : Nat) (f_authority_closed : Nat) : PC :=
 (.seq (.reg [(some 2, none, .box 8 (.tmp 0)), (some 3, none, .box 8 (.tmp 1)), (some 4, none, .alloc [(.bool false), (.int .u64 0), (.int .u64 0), (.int .u64 0), (.int .i64 0), (.int .i64 0), (lin t_api_Span []), (.string ⟨#[]⟩)])]) (.seq (.seq (.reg [(some 5, none, .ldA 8 (.tmp 2)), (some 6, none, .call f_authority_Valid [(.tmp 5)]), (some 7, none, .un .not (.tmp 6)), (some 8, none, .mv (.tmp 7)), (some 9, some (8, false), .ldA 8 (.tmp 3)), (some 10, some (8, false), .call f_authority_Valid [(.tmp 9)]), (some 11, some (8, false), .un .not (.tmp 10)), (some 12, none, .pick (.tmp 8) (.const (.bool true)) (.tmp 11)), (some 13, none, .mv (.tmp 12)), (some 14, some (13, false), .fa 0 (.tmp 2)), (some 15, some (13, false), .ld false (.tmp 14)), (some 16, none, .pick (.tmp 13) (.const (.bool true)) (.tmp 15)), (some 17, none, .mv (.tmp 16)), (some 18, some (17, false), .fa 0 (.tmp 3)), (some 19, some (17, false), .ld false (.tmp 18)), (some 20, none, .pick (.tmp 17) (.const (.bool true)) (.tmp 19))]) (.cond (.tmp 20) (.seq (.reg [(some 21, none, .call f_authority_none []), (none, none, .st 8 (.tmp 4) (.tmp 21))]) .ret) .skip)) (authority_MeetC_j3 f_authority_common f_authority_restrict f_authority_closed)))
end Go.PE
namespace Go.PE
open Go
def ANameOK (P : Program) (f g : Nat) : Prop := ∀ (b : ByteArray) (_ : (b.size : Int) ≤ 9223372036854775807) (H : Nat → Option (List Value)) (nx : Nat), H g = some bitsRow → g < nx → PCalls P f [.string b] H nx (fun _ => False) (fun r H' _ => r = .bool (nameV b) ∧ H' = H)
theorem aname_ok {P : Program} {f g pv : Nat} (hc : compFn P f = some (6, authority_nameC pv, [.t 2])) (hpv : PValidOK P pv g) : ANameOK P f g := by
  intro b hb H nx hg hgn
  refine PCalls_of hc (by simp) fun hw => ?_
  have b1 : (ag [.int .i64 6, .int .u64 0, .int .i64 0, .int .i64 0, .string b, .int .i64 0] : Value) = (Pred.mk 6 0 0 0 b 0).v := rfl
  have b2 : (Pred.mk 6 0 0 0 b 0).valid = nameV b := by simp [Pred.valid]
  simp [authority_nameC, b1]
  refine wCall_eq (Q := fun r => r = .bool (nameV b)) (by have := hpv (Pred.mk 6 0 0 0 b 0) hb H nx hg hgn; rw [b2] at this; exact this) fun r n1 hr hn1 => ?_
  subst hr
  simp
  exact wF_own hw (by simp) ⟨rfl, rfl⟩
/-- the loop of both: before a span -/
theorem cD_no {l : List Spn} {i : Nat} (h : ¬ cD l i) (hi : i < l.length) : ¬ okD l := fun hok => h ((okD_all l).1 hok i hi)
structure VInv (a : Aut) (nx : Nat) (H : Nat → Option (List Value)) (i : Nat) (s : PS) : Prop where
  t1 : s.t 1 = ptr nx 0
  own : Own nx H s.H
  ha : s.H nx = some a.cells
  n : nx < s.nx
  d : ∀ j, j < i → cD a.daily j
section
variable {P : Program}
theorem av_j1 {a : Aut} {nx : Nat} {H : Nat → Option (List Value)} {i : Nat} {s : PS} {Q : Ex → PS → Prop} (h : VInv a nx H i s) (hi : i < a.daily.length) (hn : a.daily.length ≤ 1000000) (e47 : s.t 47 = deep (a.daily.map Spn.v)) (e49 : s.t 49 = .int .i64 i)
    (hret : ∀ s', ¬ cD a.daily i → s'.t 2 = .bool false → Own nx H s'.H → Q .rt s')
    (hK : ∀ s', VInv a nx H (i + 1) s' → s'.t 47 = s.t 47 → s'.t 48 = s.t 48 → s'.t 49 = .int .i64 (i + 1 : Nat) → Q .nrm s') :
    wpc (PCalls P) P (fun _ => False) nx authority_ValidC_j1 Q s := by
  obtain ⟨T, H', nx'⟩ := s
  obtain ⟨e1, hown, hha, hnx, hd⟩ := h
  simp only at e1 hown hha hnx e47 e49 hK
  have he := elem_spn (l := a.daily) (n := (i : Int)) (by omega) (by simpa using hi)
  simp at he
  have hw1 := w64 (x := (i : Int) + 1) (by omega) (by omega)
  have hw2 := w64 (x := (i : Int) - 1) (by omega) (by omega)
  have hgi : a.daily[i]? = some a.daily[i] := List.getElem?_eq_getElem hi
  have k1 : ¬ nx = nx' := by omega
  have k2 : nx ≤ nx' := by omega
  have hci : cD a.daily i ↔ 0 ≤ a.daily[i].f ∧ a.daily[i].f ≤ a.daily[i].t ∧ a.daily[i].t < 1440 ∧ ∀ p, 0 < i → a.daily[i - 1]? = some p → p.t + 1 < a.daily[i].f := by
    constructor
    · intro h; exact h _ hgi
    · intro h s hs; rw [hgi] at hs; obtain rfl := Option.some.inj hs; exact h
  generalize a.daily[i] = x at he hci
  have no : ∀ {T2 : Nat → Value} {n2 : Nat}, ¬ cD a.daily i → Q .rt ⟨upd T2 2 (.bool false), upd H' nx' (some x.cells), n2⟩ := fun {T2 n2} hc => hret _ hc (by simp) (by simp [hown, k2])
  have yes : ∀ {T2 : Nat → Value}, cD a.daily i → T2 1 = T 1 → T2 47 = T 47 → T2 48 = T 48 → T2 49 = .int .i64 (i + 1 : Nat) → Q .nrm ⟨T2, upd H' nx' (some x.cells), nx' + 1⟩ := fun {T2} hc g1 g2 g3 g4 =>
    hK _ ⟨g1.trans e1, by simp [hown, k2], by simp [k1, hha], by show nx < nx' + 1; omega, fun j hj => by
      by_cases e : j = i
      · subst e; exact hc
      · exact hd j (by omega)⟩ g2 g3 g4
  by_cases c1 : x.f < 0
  · simp [authority_ValidC_j1, e1, e47, e49, he, k1, k2, Spn.ag, c1]
    exact no (fun h => by have := hci.1 h; omega)
  by_cases c2 : x.t < x.f
  · simp [authority_ValidC_j1, e1, e47, e49, he, k1, k2, Spn.ag, c1, c2]
    exact no (fun h => by have := hci.1 h; omega)
  by_cases c3 : 1440 ≤ x.t
  · simp [authority_ValidC_j1, e1, e47, e49, he, k1, k2, Spn.ag, c1, c2, c3]
    exact no (fun h => by have := hci.1 h; omega)
  by_cases c4 : 0 < i
  case neg =>
    simp [authority_ValidC_j1, e1, e47, e49, he, k1, k2, Spn.ag, c1, c2, c3, c4, hw1]
    exact yes (hci.2 ⟨by omega, by omega, by omega, fun p h => by omega⟩) rfl rfl rfl (by simp)
  have hgp : a.daily[i - 1]? = some a.daily[i - 1] := List.getElem?_eq_getElem (by omega)
  have hep := elem_spn (l := a.daily) (n := (i : Int) - 1) (by omega) (by omega)
  have hnat : ((i : Int) - 1).toNat = i - 1 := by omega
  simp only [hnat] at hep
  have hpc := hd (i - 1) (by omega) _ hgp
  have hci2 : cD a.daily i ↔ 0 ≤ x.f ∧ x.f ≤ x.t ∧ x.t < 1440 ∧ a.daily[i - 1].t + 1 < x.f := by
    rw [hci]
    constructor
    · rintro ⟨h1, h2, h3, h4⟩; exact ⟨h1, h2, h3, h4 _ c4 hgp⟩
    · rintro ⟨h1, h2, h3, h4⟩; exact ⟨h1, h2, h3, fun p _ e => by rw [hgp] at e; obtain rfl := Option.some.inj e; exact h4⟩
  generalize a.daily[i - 1] = y at hep hpc hci2
  have hw3 := w64 (x := y.t + 1) (by omega) (by omega)
  by_cases c5 : x.f ≤ y.t + 1
  · simp [authority_ValidC_j1, e1, e47, e49, he, k1, k2, Spn.ag, c1, c2, c3, c4, hha, hw2, hep, hw3, c5]
    exact no (fun h => by have := hci2.1 h; omega)
  · simp [authority_ValidC_j1, e1, e47, e49, he, k1, k2, Spn.ag, c1, c2, c3, c4, hha, hw2, hep, hw3, c5, hw1]
    exact yes (hci2.2 ⟨by omega, by omega, by omega, by omega⟩) rfl rfl rfl (by simp)
end
def AValOK (P : Program) (f g : Nat) : Prop := ∀ (a : Aut), a.wf → ∀ (H : Nat → Option (List Value)) (nx : Nat), H g = some bitsRow → g < nx → PCalls P f [a.v] H nx (fun _ => False) (fun r H' _ => r = .bool (okA a) ∧ H' = H)
theorem avalid_ok {P : Program} {f g no eq na cl : Nat} (hc : compFn P f = some (91, authority_ValidC no eq na cl, [.t 2])) (hno : NoneOK P no) (heq : SameAOK P eq) (hna : ANameOK P na g) (hcl : ClosedOK P cl) : AValOK P f g := by
  intro a hwf H nx hg hgn
  refine PCalls_of hc (by simp) fun hw => ?_
  have hmx : (maxLen : Int) = 9223372036854775807 := rfl
  have hdn := hwf.n
  have fin0 : ∀ {s' : PS}, okA a = false → s'.t 2 = .bool false → Own nx H s'.H → wF (some [s'.t 2]) nx (fun r H' _ => r = .bool (okA a) ∧ H' = H) s'.H s'.nx := fun {s'} h1 h2 h3 => by
    rw [h2]
    exact wF_own hw h3 ⟨by rw [h1]; rfl, rfl⟩
  cases hn : a.none with
  | true =>
    simp [authority_ValidC, hn]
    refine ⟨?_, ?_⟩
    all_goals
      refine wCall_eq (Q := fun r => r = noneA.v) (hno _ _) fun r n1 hr hn1 => ?_
      subst hr
      simp
      refine wCall_eq (Q := fun r => r = .bool (decide (a = noneA))) (heq a noneA (by omega) (by simp [noneA, maxLen]) _ _) fun r n2 hr hn2 => ?_
      subst hr
      simp [VA_none hn]
      exact wF_own hw (by simp) ⟨rfl, rfl⟩
  | false =>
    have bad : ¬ rgA a → okA a = false := fun h => okA_no (VA.not hn h)
    simp [authority_ValidC, authority_ValidC_j4, hn]
    by_cases c1 : 4294967295 < a.lines
    · simp [c1]
      exact wF_own hw (by simp) ⟨by rw [bad fun h => by have := h.l; omega]; rfl, rfl⟩
    by_cases c2 : 127 < a.days
    · simp [c1, c2]
      exact wF_own hw (by simp) ⟨by rw [bad fun h => by have := h.d; omega]; rfl, rfl⟩
    by_cases c3 : a.fr < 0
    · simp [c1, c2, c3]
      exact wF_own hw (by simp) ⟨by rw [bad fun h => by have := h.f; omega]; rfl, rfl⟩
    by_cases c4 : a.to < a.fr
    · simp [c1, c2, c3, c4]
      exact wF_own hw (by simp) ⟨by rw [bad fun h => by have := h.ft; omega]; rfl, rfl⟩
    by_cases c5 : 67108864 < a.to
    · simp [c1, c2, c3, c4, c5]
      exact wF_own hw (by simp) ⟨by rw [bad fun h => by have := h.t; omega]; rfl, rfl⟩
    have tail : ∀ (T2 : Nat → Value) (n2 : Nat), (a.holder = noName ∨ nameV a.holder = true) → T2 1 = ptr nx 0 → nx < n2 →
        wpc (PCalls P) P (fun _ => False) nx (authority_ValidC_j3 eq cl) (fin nx [RV.t 2] fun r H' _ => r = .bool (okA a) ∧ H' = H) ⟨T2, upd H nx (some a.cells), n2⟩ := by
      intro T2 n2 hh f1 hn2
      simp [authority_ValidC_j3, f1]
      obtain ⟨I, hI⟩ : ∃ I : PS → Prop, ∀ s, I s ↔ s.t 47 = deep (a.daily.map Spn.v) ∧ s.t 48 = .int .i64 a.daily.length ∧ ∃ i : Nat, i ≤ a.daily.length ∧ s.t 49 = .int .i64 i ∧ VInv a nx H i s := ⟨_, fun _ => Iff.rfl⟩
      refine wpc_loop _ _ _ _ _ _ I (fun s => match s.t 49 with | .int _ i => (a.daily.length - i).toNat | _ => 0) _ ((hI _).2 ⟨by simp, by simp, 0, by omega, by simp, ⟨by simp [f1], by simp, by simp, by simpa using hn2, fun j hj => by omega⟩⟩) ?_
      intro s hs
      obtain ⟨f47, f48, i, hi, f49, hV⟩ := (hI _).1 hs
      obtain ⟨T, H', n3⟩ := s
      simp only at f47 f48 f49
      simp [f48, f49]
      refine wB_of (fun hlt => ?_) (fun hlt => ?_)
      · have hlt : i < a.daily.length := by simp at hlt; omega
        refine av_j1 (i := i) (a := a) (H := H) ⟨by simp [show T 1 = ptr nx 0 from hV.t1], hV.own, hV.ha, hV.n, hV.d⟩ hlt hdn (by simp [f47]) (by simp [f49]) (fun s' hc g2 gO => ?_) (fun s' hV' g47 g48 g49 => ?_)
        · obtain ⟨T3, H3, n3⟩ := s'
          simp only at g2 gO
          simp [g2]
          exact wF_own hw gO ⟨by rw [bad fun h => cD_no hc hlt h.s]; rfl, rfl⟩
        · obtain ⟨T3, H3, n3⟩ := s'
          simp at g47 g48 g49
          exact kLoop_nrm _ _ _ _ (Sub_refl _ _) ((hI _).2 ⟨g47.trans f47, g48.trans f48, i + 1, by omega, by simp [g49], hV'⟩) (by simp [g49]; omega)
      · have hil : i = a.daily.length := by simp at hlt; omega
        subst hil
        have hg : rgA a := ⟨by omega, by omega, by omega, by omega, by omega, hh, (okD_all _).2 hV.d⟩
        have e1 : T 1 = ptr nx 0 := hV.t1
        have hha : H' nx = some a.cells := hV.ha
        have hown : Own nx H H' := hV.own
        simp [e1, hha, Aut.ag]
        refine ⟨?_, ?_⟩
        all_goals simp [e1, hha, Aut.ag]
        rotate_left 1
        refine ⟨?_, ?_⟩
        all_goals try simp [e1, hha, Aut.ag]
        all_goals
          refine wCall_eq (Q := fun r => ∃ r', r = r'.v ∧ IsClosed a r') (hcl a (hg.wfi hwf) _ _) fun r n4 hr hn4 => ?_
          obtain ⟨r', rfl, hr'⟩ := hr
          simp [e1, hha, Aut.ag]
          refine wCall_eq (Q := fun r => r = .bool (decide (a = r'))) (heq a r' (by omega) (by
            rcases hr' with ⟨_, rfl⟩ | ⟨_, _, f, t, d, l, hc, rfl⟩
            · simp [noneA, maxLen]
            · have h1 := (canon_day hc.c fun k hk => by obtain ⟨m, _, e⟩ := (hc.l k).1 hk; omega).1
              show l.length ≤ maxLen
              omega) _ _) fun r n5 hr hn5 => ?_
          subst hr
          simp [VA_closed hn hg hr']
          exact wF_own hw hown ⟨rfl, rfl⟩
    have hsz := hwf.h
    by_cases c6 : a.holder = noName
    · have g1'' : a.holder.toList = [] := (noName_iff _).2 c6
      have g1' : a.holder.toList.isEmpty = true := by rw [g1'']; rfl
      simp [c1, c2, c3, c4, c5, g1', g1'']
      exact tail _ _ (.inl c6) (by simp) (by omega)
    · have g1'' : ¬ a.holder.toList = [] := fun e => c6 ((noName_iff _).1 e)
      have g1' : a.holder.toList.isEmpty = false := by simpa using g1''
      simp [c1, c2, c3, c4, c5, g1', g1'']
      refine wCall_eq (Q := fun r => r = .bool (nameV a.holder)) (hna a.holder hsz _ _ (by simp [show ¬ g = nx by omega, hg]) (by simp; omega)) fun r n2 hr hn2 => ?_
      subst hr
      simp at hn2
      cases hv : nameV a.holder with
      | true =>
        simp
        exact tail _ _ (.inr hv) (by simp) (by omega)
      | false =>
        simp
        exact wF_own hw (by simp) ⟨by rw [bad fun h => by rcases h.h with h | h; exact c6 h; rw [hv] at h; cases h]; rfl, rfl⟩
end Go.PE
namespace Go.PE
open Go
end Go.PE
namespace Go.PE
open Go
theorem canon_len2 {n : Int} : ∀ {l : List Spn} {b : Int}, canon b l → (∀ s ∈ l, s.t < n) → b ≤ n → 2 * (l.length : Int) ≤ n - b
  | [], b, _, _, hb => by simp; omega
  | [s], b, h, hs, hb => by
    have := hs s (by simp)
    have h1 := h.1; have h2 := h.2.1
    simp; omega
  | s :: x :: r, b, h, hs, hb => by
    have h0 := hs s (by simp)
    have h1 := h.1; have h2 := h.2.1
    have h3 := h.2.2.1; have h4 := h.2.2.2.1
    have h5 := hs x (by simp)
    have := canon_len2 (l := x :: r) h.2.2 (fun y hy => hs y (by simp at hy; simp [hy])) (by omega)
    simp at this ⊢
    omega
theorem okD.len {l : List Spn} (h : okD l) : l.length ≤ 720 := by
  have := canon_len2 h.1 h.2 (by omega)
  omega
section
variable {P : Program}
end
theorem okD.day {l : List Spn} (h : okD l) : ∀ s ∈ l, 0 ≤ s.f ∧ s.t < 1440 := fun s hs => ⟨by have := (canon_mem h.1 hs).1; omega, h.2 s hs⟩
end Go.PE
namespace Go.PE
open Go
def SmA (a : Aut) : Prop := a.wf ∧ -1 ≤ a.fr ∧ a.fr ≤ 67108865 ∧ -1 ≤ a.to ∧ a.to ≤ 67108865 ∧ a.daily.length ≤ 2000
end Go.PE
namespace Go.PE
open Go
/-- the summary has the contexts of what it sums up -/
theorem IsClosed.S {a r : Aut} (h : IsClosed a r) (hn : r.none = false) (m : Int) : r.S m ↔ a.S m := by
  rcases h with ⟨_, rfl⟩ | ⟨_, _, f, t, d, l, hc, rfl⟩
  · cases hn
  · show (f ≤ m ∧ m ≤ t ∧ tb d (wk m) = true ∧ inS l (m % 1440)) ↔ a.S m
    constructor
    · rintro ⟨h1, h2, h3, h4⟩
      obtain ⟨x, hx, hxw⟩ := (hc.days _).1 h3
      obtain ⟨y, hy, hym⟩ := (hc.l _).1 h4
      have hf : a.S f := hc.fr.1
      have ht : a.S t := hc.to.1
      refine ⟨?_, ?_, ?_, ?_⟩
      · have := hf.1; omega
      · have := ht.2.1; omega
      · rw [← hxw]; exact hx.2.2.1
      · rw [← hym]; exact hy.2.2.2
    · intro hm
      exact ⟨hc.fr.2 m hm, hc.to.2 m hm, (hc.days _).2 ⟨m, hm, rfl⟩, (hc.l _).2 ⟨m, hm, rfl⟩⟩
theorem IsClosed.self {a r : Aut} (h : IsClosed a r) (hn : r.none = false) : IsClosed r r := by
  have e : r.S = a.S := funext fun m => propext (h.S hn m)
  rcases h with ⟨_, rfl⟩ | ⟨hz, hl, f, t, d, l, hc, rfl⟩
  · cases hn
  · exact .inr ⟨hz, hl, f, t, d, l, by rw [e]; exact hc, rfl⟩
/-- what a valid summary keeps of what it sums up -/
theorem IsClosed.fields {a r : Aut} (h : IsClosed a r) (hn : r.none = false) : r.zones = a.zones ∧ r.lines = a.lines ∧ r.holder = a.holder := by
  rcases h with ⟨_, rfl⟩ | ⟨_, _, f, t, d, l, hc, rfl⟩
  · cases hn
  · exact ⟨rfl, rfl, rfl⟩
theorem tb_le {x : Int} (hx : isU64 x) {n : Nat} (hn : n ≤ 64) (h : ∀ j, tb x j = true → j < n) : x ≤ 2 ^ n - 1 := by
  obtain ⟨k, rfl, hk⟩ := u64_nat hx
  have h1 : k < 2 ^ n := by
    apply Nat.lt_pow_two_of_testBit
    intro i hi
    apply Classical.byContradiction
    intro hb
    have hb : k.testBit i = true := by simpa using hb
    have : tb (k : Int) i = true := by
      first
        | exact hb
        | (unfold tb; simpa using hb)
    have := h i this
    omega
  have h2 : ((2 ^ n : Nat) : Int) = 2 ^ n := by simp
  omega
theorem IsClosed.VA {a r : Aut} (h : IsClosed a r) (hl : a.lines ≤ 4294967295) (hb : 0 ≤ a.fr ∧ a.to ≤ 67108864) (hh : a.holder = noName ∨ nameV a.holder = true) : VA r := by
  cases hn : r.none with
  | true =>
    rcases h with ⟨_, rfl⟩ | ⟨_, _, f, t, d, l, hc, rfl⟩
    · exact .inl rfl
    · cases hn
  | false =>
    have hs := h.self hn
    rcases h with ⟨_, rfl⟩ | ⟨_, _, f, t, d, l, hc, rfl⟩
    · cases hn
    · refine .inr ⟨rfl, ⟨hl, ?_, ?_, ?_, ?_, hh, hc.c, fun s hsm => ?_⟩, hs⟩
      · show d ≤ 127
        have := tb_le hc.u (n := 7) (by omega) fun j hj => by
          obtain ⟨m, _, rfl⟩ := (hc.days j).1 hj
          unfold wk; omega
        omega
      · show 0 ≤ f
        have := hc.fr.1.1; omega
      · exact hc.fr.2 _ hc.to.1
      · show t ≤ 67108864
        have := hc.to.1.2.1; omega
      · obtain ⟨m, _, e⟩ := (hc.l s.t).1 ⟨s, hsm, (canon_mem hc.c hsm).2, Int.le_refl _⟩
        omega
theorem IsClosed.wf {a r : Aut} (h : IsClosed a r) (hw : a.wf) (hb : 0 ≤ a.fr ∧ a.to ≤ 67108864) : SmA r := by
  rcases h with ⟨_, rfl⟩ | ⟨_, _, f, t, d, l, hc, rfl⟩
  · exact ⟨⟨⟨by decide, by decide⟩, ⟨by decide, by decide⟩, ⟨by decide, by decide⟩, ⟨by decide, by decide⟩, ⟨by decide, by decide⟩, by decide, by decide⟩, by decide, by decide, by decide, by decide, by decide⟩
  · have h1 := (canon_day hc.c fun k hk => by obtain ⟨m, _, e⟩ := (hc.l k).1 hk; omega).1
    have h2 := hc.fr.1.1; have h3 := hc.to.1.2.1; have h4 := hc.fr.2 _ hc.to.1
    exact ⟨⟨hw.zu, hw.lu, hc.u, ⟨by show _ ≤ f; omega, by show f ≤ _; omega⟩, ⟨by show _ ≤ t; omega, by show t ≤ _; omega⟩, hw.h, by show l.length ≤ _; omega⟩, by show _ ≤ f; omega, by show f ≤ _; omega, by show _ ≤ t; omega, by show t ≤ _; omega, by show l.length ≤ _; omega⟩
theorem valid_name {p : Pred} (h : p.valid = true) (h6 : p.kind = 6) : nameV p.name = true := by
  simp only [Pred.valid, h6] at h
  simpa using (by simpa using h : _ ∧ _).1
theorem OfI.wfA {l : List Pred} {a : Aut} (h : OfI l a) (hw : ∀ p ∈ l, p.wf) : a.wf := by
  have h1 := h.fb
  have h2 := (canon_day h.c fun k hk => ((h.k k).1 hk).2.1).1
  refine ⟨h.zu, h.lu, h.du, ⟨by omega, by omega⟩, ⟨by omega, by omega⟩, ?_, by omega⟩
  rcases h.h with ⟨p, hp, _, e⟩ | ⟨e, _⟩
  · rw [e]; exact (hw p hp).1
  · rw [e]; decide
theorem IsOf.ok {l : List Pred} {r : Aut} (h : IsOf l r) (hv : ∀ p ∈ l, p.valid = true) (hw : ∀ p ∈ l, p.wf) : PE.VA r ∧ SmA r := by
  obtain ⟨a, ha, hr⟩ := h
  refine ⟨hr.VA ?_ ⟨ha.fb.1, ha.fb.2.2.2⟩ ?_, hr.wf (ha.wfA hw) ⟨ha.fb.1, ha.fb.2.2.2⟩⟩
  · have := tb_le ha.lu (n := 32) (by omega) fun j hj => ((ha.li j).1 hj).1
    omega
  · rcases ha.h with ⟨p, hp, h6, e⟩ | ⟨e, _⟩
    · rw [e]; exact .inr (valid_name (hv p hp) h6)
    · exact .inl e
theorem fullA_ok : PE.VA fullA ∧ SmA fullA := by
  have hw : fullA.wf := OfI.nil.wfA (by simp)
  refine ⟨?_, hw, by decide, by decide, by decide, by decide, by decide⟩
  have hS : ∀ m, fullA.S m ↔ 0 ≤ m ∧ m ≤ 67108864 := fun m => by
    rw [OfI.nil.S_iff]
    simp
    have : wk m < 7 := by unfold wk; omega
    intros; omega
  refine .inr ⟨rfl, ⟨by decide, by decide, by decide, by decide, by decide, .inl rfl, OfI.nil.c, fun s hs => ?_⟩, .inr ⟨by decide, by decide, 0, 67108864, 127, [⟨0, 1439⟩], ?_, rfl⟩⟩
  · simp [fullA] at hs; subst hs; decide
  · refine Clo.congr (S := fun m => 0 ≤ m ∧ m ≤ 67108864) ?_ fun m => (hS m).symm
    refine ⟨⟨by decide, fun m hm => hm.1⟩, ⟨by decide, fun m hm => hm.2⟩, ⟨by decide, by decide⟩, fun j => ?_, OfI.nil.c, fun k => ?_⟩
    · rw [full_days, tb_all]
      simp
      constructor
      · intro hj
        exact ⟨j * 1440, ⟨by omega, by omega⟩, by unfold wk; omega⟩
      · rintro ⟨m, _, rfl⟩; unfold wk; omega
    · rw [inS_cons]
      have := inS_nil k
      simp only
      constructor
      · rintro (h | h)
        · exact ⟨k, ⟨by omega, by omega⟩, by omega⟩
        · exact absurd h this
      · rintro ⟨m, hm, rfl⟩; left; omega
end Go.PE
namespace Go.PE
open Go
def MdA (a : Aut) : Prop := ∃ l : List Pred, IsOf l a ∧ (∀ p ∈ l, p.valid = true) ∧ (∀ p ∈ l, p.wf) ∧ l.length ≤ 4
theorem MdA.ok {a : Aut} (h : MdA a) : VA a ∧ SmA a := by
  obtain ⟨l, h1, h2, h3, _⟩ := h
  exact h1.ok h2 h3
inductive MadeR (l : List Int) (H : Nat → Option (List Value)) (nx : Nat) (r : Value) (H' : Nat → Option (List Value)) (nx' : Nat) : Prop
  | mk (a b : Aut) (nd : Nat) (at' : Int) (h1 : r = tup [a.v, b.v, ptr nd 0]) (h2 : MdA a) (h3 : MdA b) (h4 : nx ≤ nd) (h5 : nd < nx') (h6 : 0 ≤ at') (h7 : H' = upd H nd (some (dk l at')))
end Go.PE
namespace Go.PE
open Go
end Go.PE
namespace Go.PE
open Go
def ixS {α : Type} (p : α → Bool) : List α → Nat → Int
  | [], _ => -1
  | x :: r, i => if p x then i else ixS p r (i + 1)
end Go.PE
namespace Go.PE
open Go
@[simp] theorem Ctx.len4 (c : Ctx) : c.cells.length = 4 := _root_.id rfl
@[simp] theorem Ctx.dg1s4 (c : Ctx) : c.cells.map dg1 = c.cells := _root_.id rfl
@[simp] theorem Ctx.take44 (c : Ctx) : c.cells.take 4 = c.cells := _root_.id rfl
@[simp] theorem Ctx.drop44 (c : Ctx) : c.cells.drop 4 = [] := _root_.id rfl
@[simp] theorem Ctx.cget0 (c : Ctx) : c.cells[0]? = some (.int .i64 c.zone) := _root_.id rfl
@[simp] theorem Ctx.cget1 (c : Ctx) : c.cells[1]? = some (.int .i64 c.line) := _root_.id rfl
@[simp] theorem Ctx.cget2 (c : Ctx) : c.cells[2]? = some (.int .i64 c.minute) := _root_.id rfl
@[simp] theorem Ctx.cget3 (c : Ctx) : c.cells[3]? = some (.string c.holder) := _root_.id rfl
@[simp] theorem Ctx.cgetE0 (c : Ctx) (h : 0 < c.cells.length) : c.cells[0] = .int .i64 c.zone := _root_.id rfl
@[simp] theorem Ctx.cgetE1 (c : Ctx) (h : 1 < c.cells.length) : c.cells[1] = .int .i64 c.line := _root_.id rfl
@[simp] theorem Ctx.cgetE2 (c : Ctx) (h : 2 < c.cells.length) : c.cells[2] = .int .i64 c.minute := _root_.id rfl
@[simp] theorem Ctx.cgetE3 (c : Ctx) (h : 3 < c.cells.length) : c.cells[3] = .string c.holder := _root_.id rfl
@[simp] theorem Ctx.cellsOf4 (c : Ctx) : PE.cellsOf c.v = some c.cells := _root_.id rfl
@[simp] theorem Ctx.dgv4 (c : Ctx) : dg c.v = c.v := _root_.id rfl
@[simp] theorem Ctx.dg1v4 (c : Ctx) : dg1 c.v = c.v := _root_.id rfl
@[simp] theorem Ctx.dgTv4 (c : Ctx) : dgT c.v = c.v := _root_.id rfl
@[simp] theorem Ctx.lcv4 (c : Ctx) : lc c.v = c.cells := _root_.id rfl
@[simp] theorem Ctx.asAgv4 (c : Ctx) : asAg c.v = some c.cells := _root_.id rfl
/-- is the context one of a valid authority's? -/
structure inP (a : Aut) (c : Ctx) : Prop where
  n : a.none = false
  v : c.valid = true
  z : tb a.zones c.zone.toNat = true
  l : tb a.lines c.line.toNat = true
  h : a.holder = noName ∨ a.holder = c.holder
  S : a.S c.minute
section
variable {P : Program}
end
end Go.PE
namespace Go.PE
open Go
theorem bit_tb {m n : Int} (hm : 0 ≤ m) : bit m n = tb m n.toNat := by
  unfold bit tb
  obtain ⟨k, rfl⟩ := Int.eq_ofNat_of_zero_le hm
  rw [Int.toNat_natCast, Nat.testBit_eq_decide_div_mod_eq]
  have e : ((k : Int) / 2 ^ n.toNat % 2) = ((k / 2 ^ n.toNat % 2 : Nat) : Int) := by simp
  rw [e]
  by_cases h : k / 2 ^ n.toNat % 2 = 1
  · simp [h]
  · simp [h]; omega
theorem dayB_daily (m fr to : Int) : dayB fr to (m % 1440) ↔ dailyV m fr to = true := by
  unfold dayB dailyV
  split
  · simp
  · simp; omega
/-- what a list permits, before it is closed, is what all its predicates permit -/
theorem OfI.exact {l : List Pred} {b : Aut} {c : Ctx} (h : OfI l b) (hv : ∀ p ∈ l, p.valid = true) (hw : ∀ p ∈ l, p.wf) (hc : c.valid = true) :
    (tb b.zones c.zone.toNat = true ∧ tb b.lines c.line.toNat = true ∧ (b.holder = noName ∨ b.holder = c.holder) ∧ b.S c.minute) ↔ ∀ p ∈ l, rideV p.kind p c = true := by
  obtain ⟨v1, v2, v3, v4, v5, v6, v7⟩ := (Ctx.valid_iff c).1 hc
  have hnm := valid_named hv
  have hwk : (c.minute / 1440 % 7).toNat = wk c.minute := rfl
  rw [h.z, h.li, h.S_iff]
  constructor
  · rintro ⟨⟨z1, z2, z3⟩, ⟨l1, l2⟩, hh, ⟨s1, s2, s3⟩, ⟨s4, s5⟩, s6, s7, s8⟩ p hp
    have hm0 := (hw p hp).2.1
    obtain ⟨_, _, _, k1, k2⟩ := valid_kinds (hv p hp)
    have hk : p.kind = 1 ∨ p.kind = 2 ∨ p.kind = 3 ∨ p.kind = 4 ∨ p.kind = 5 ∨ p.kind = 6 ∨ p.kind = 7 := by omega
    rcases hk with hk | hk | hk | hk | hk | hk | hk
    · simp [rideV, hk, bit_tb hm0, z3 p hp hk]
    · simp [rideV, hk, bit_tb hm0, l2 p hp hk]
    · simp [rideV, hk, bit_tb hm0, hwk, s5 p hp hk]
    · simp [rideV, hk, s3 p hp hk]
    · simp [rideV, hk, (dayB_daily _ _ _).1 (s8 p hp hk)]
    · simp [rideV, hk]
      rcases h.h with ⟨q, hq, h6, e⟩ | ⟨_, hno⟩
      · have hpq : p.name = q.name := by
          apply Classical.byContradiction
          intro hne
          exact z2 ⟨p, hp, q, hq, hk, h6, hne⟩
        rcases hh with hh | hh
        · exact absurd (e ▸ hh) (hnm q hq h6)
        · rw [hpq, ← e, hh]
      · exact absurd hk (hno p hp)
    · simp [rideV, hk]
  · intro ha
    have hcf : ¬ conf l := by
      rintro ⟨p, hp, q, hq, h1, h2, h3⟩
      have e1 := ha p hp
      have e2 := ha q hq
      simp [rideV, h1] at e1
      simp [rideV, h2] at e2
      exact h3 (e1.trans e2.symm)
    refine ⟨⟨by omega, hcf, fun p hp hk => ?_⟩, ⟨by omega, fun p hp hk => ?_⟩, ?_, ⟨v5, v6, fun p hp hk => ?_⟩, ⟨by unfold wk; omega, fun p hp hk => ?_⟩, by omega, by omega, fun p hp hk => ?_⟩
    · have := ha p hp
      simp [rideV, hk, bit_tb (hw p hp).2.1] at this; exact this
    · have := ha p hp
      simp [rideV, hk, bit_tb (hw p hp).2.1] at this; exact this
    · rcases h.h with ⟨q, hq, h6, e⟩ | ⟨e, hno⟩
      · have := ha q hq
        simp [rideV, h6] at this
        exact .inr (e.trans this)
      · exact .inl e
    · have := ha p hp
      simp [rideV, hk] at this; exact this
    · have := ha p hp
      simp [rideV, hk, bit_tb (hw p hp).2.1] at this
      exact this
    · have := ha p hp
      simp [rideV, hk] at this
      exact (dayB_daily _ _ _).2 this
/-- the contexts of a summary -/
theorem IsClosed.inP_iff {b a : Aut} {c : Ctx} (h : IsClosed b a) (hc : c.valid = true) : inP a c ↔ (tb b.zones c.zone.toNat = true ∧ tb b.lines c.line.toNat = true ∧ (b.holder = noName ∨ b.holder = c.holder) ∧ b.S c.minute) := by
  cases hn : a.none with
  | true =>
    constructor
    · intro hp; have := hp.n; rw [hn] at this; cases this
    · rintro ⟨h1, h2, _, h4⟩
      rcases h with ⟨h0 | h0 | h0, rfl⟩ | ⟨_, _, f, t, d, l, _, rfl⟩
      · rw [h0, tb_0] at h1; cases h1
      · rw [h0, tb_0] at h2; cases h2
      · exact absurd h4 (h0 _)
      · cases hn
  | false =>
    obtain ⟨e1, e2, e3⟩ := h.fields hn
    constructor
    · intro hp
      exact ⟨e1 ▸ hp.z, e2 ▸ hp.l, e3 ▸ hp.h, (h.S hn _).1 hp.S⟩
    · rintro ⟨h1, h2, h3, h4⟩
      exact ⟨hn, hc, e1 ▸ h1, e2 ▸ h2, e3 ▸ h3, (h.S hn _).2 h4⟩
end Go.PE
