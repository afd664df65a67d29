/- What the authority of a list of predicates is, and of two authorities together; which authorities are valid. Layer 8: the pure code of its functions. Spans and authorities as values; common, Day. slices.SortFunc at spans, by the kit's contract: what a caller of it knows. merged: spans put together. Full, none, daily, restrict. closed: the only summary of its kind. closed, the walk. closed: DONE. authority.Of. Layer 8: the pure code of the references. The references: times, has, Full. The references: times. The references: closed, a minute. The references: closed, the days. The references: closed, the runs of minutes. The references: closed, the loops. The references: closed. The references: Of, as plain data. -/
import Derived.Test.YtmcfkmdhjihgmaaDoorPartD
import Derived.Test.YtmcfkmdhjihgmaaDoorPartC
import Derived.Shelf.SlSortCmp.WholeK
set_option linter.all false
namespace Go.PE
open Go
theorem Run.ex (M : Int → Prop) : ∀ n : Nat, ∃ l, Run M n l
  | 0 => ⟨[], Run.nil M⟩
  | n + 1 => by
    obtain ⟨l, h⟩ := Run.ex M n
    by_cases hM : M n
    · rcases List.eq_nil_or_concat l with rfl | ⟨o, x, rfl⟩
      · exact ⟨_, h.new (by omega) hM fun o x e => by simp at e⟩
      · rw [List.concat_eq_append] at h
        by_cases hx : x.t = (n : Int) - 1
        · exact ⟨_, h.ext hM hx⟩
        · exact ⟨_, h.new (by omega) hM fun o' x' e => by
            have := (List.append_inj' e rfl).2
            simp at this
            rw [← this]; exact hx⟩
    · exact ⟨l, h.skip hM⟩
/-- the minutes of the day of a predicate 'daily' -/
def dayB (fr to k : Int) : Prop := if fr ≤ to then fr ≤ k ∧ k ≤ to else (k ≤ to ∨ fr ≤ k)
def conf (l : List Pred) : Prop := ∃ p ∈ l, ∃ q ∈ l, p.kind = 6 ∧ q.kind = 6 ∧ p.name ≠ q.name
/-- what a list of predicates permits, before it is closed -/
structure OfI (l : List Pred) (a : Aut) : Prop where
  none : a.none = false
  zu : isU64 a.zones
  lu : isU64 a.lines
  du : isU64 a.days
  z : ∀ j, tb a.zones j = true ↔ j < 64 ∧ ¬ conf l ∧ ∀ p ∈ l, p.kind = 1 → tb p.mask j = true
  li : ∀ j, tb a.lines j = true ↔ j < 32 ∧ ∀ p ∈ l, p.kind = 2 → tb p.mask j = true
  d : ∀ j, tb a.days j = true ↔ j < 7 ∧ ∀ p ∈ l, p.kind = 3 → tb p.mask j = true
  f : ∀ m, (a.fr ≤ m ∧ m ≤ a.to) ↔ (0 ≤ m ∧ m ≤ 67108864 ∧ ∀ p ∈ l, p.kind = 4 → p.fr ≤ m ∧ m ≤ p.to)
  fb : 0 ≤ a.fr ∧ a.fr ≤ 67108864 ∧ 0 ≤ a.to ∧ a.to ≤ 67108864
  c : canon (-1) a.daily
  k : ∀ k, inS a.daily k ↔ 0 ≤ k ∧ k < 1440 ∧ ∀ p ∈ l, p.kind = 5 → dayB p.fr p.to k
  h : (∃ p ∈ l, p.kind = 6 ∧ a.holder = p.name) ∨ (a.holder = noName ∧ ∀ p ∈ l, p.kind ≠ 6)
theorem full_zones : (18446744073709551615 : Int) = 2 ^ 64 - 1 := by decide
theorem full_lines : (4294967295 : Int) = 2 ^ 32 - 1 := by decide
theorem full_days : (127 : Int) = 2 ^ 7 - 1 := by decide
theorem OfI.nil : OfI [] fullA where
  none := rfl
  zu := ⟨by decide, by decide⟩
  lu := ⟨by decide, by decide⟩
  du := ⟨by decide, by decide⟩
  z := fun j => by
    show tb 18446744073709551615 j = true ↔ _
    rw [full_zones, tb_all]; simp [conf]
  li := fun j => by
    show tb 4294967295 j = true ↔ _
    rw [full_lines, tb_all]; simp
  d := fun j => by
    show tb 127 j = true ↔ _
    rw [full_days, tb_all]; simp
  f := fun m => by simp [fullA]
  fb := ⟨by decide, by decide, by decide, by decide⟩
  c := ⟨by show (-1 : Int) < 0; omega, by show (0 : Int) ≤ 1439; omega, trivial⟩
  k := fun k => by
    rw [show fullA.daily = [⟨0, 1439⟩] from rfl, inS_cons]
    simp [inS_nil]; omega
  h := .inr ⟨rfl, by simp⟩
theorem all_snoc {l : List Pred} {p : Pred} {Q : Pred → Prop} : (∀ q ∈ l ++ [p], Q q) ↔ (∀ q ∈ l, Q q) ∧ Q p := by
  constructor
  · intro h; exact ⟨fun q hq => h q (by simp [hq]), h p (by simp)⟩
  · rintro ⟨h1, h2⟩ q hq
    rcases List.mem_append.1 hq with hq | hq
    · exact h1 q hq
    · simp at hq; subst hq; exact h2
theorem conf_snoc {l : List Pred} {p : Pred} (hp : p.kind ≠ 6) : conf (l ++ [p]) ↔ conf l := by
  constructor
  · rintro ⟨a, ha, b, hb, h1, h2, h3⟩
    refine ⟨a, ?_, b, ?_, h1, h2, h3⟩
    · rcases List.mem_append.1 ha with ha | ha
      · exact ha
      · simp at ha; subst ha; exact absurd h1 hp
    · rcases List.mem_append.1 hb with hb | hb
      · exact hb
      · simp at hb; subst hb; exact absurd h2 hp
  · rintro ⟨a, ha, b, hb, h⟩; exact ⟨a, by simp [ha], b, by simp [hb], h⟩
theorem OfI.hold {l : List Pred} {a : Aut} {p : Pred} (h : OfI l a) (hp : p.kind ≠ 6) : (∃ q ∈ l ++ [p], q.kind = 6 ∧ a.holder = q.name) ∨ (a.holder = noName ∧ ∀ q ∈ l ++ [p], q.kind ≠ 6) := by
  rcases h.h with ⟨q, hq, e⟩ | ⟨e, hn⟩
  · exact .inl ⟨q, by simp [hq], e⟩
  · exact .inr ⟨e, (all_snoc (Q := fun q => q.kind ≠ 6)).2 ⟨hn, hp⟩⟩
section
variable {l : List Pred} {a : Aut} {p : Pred} (h : OfI l a)
include h
theorem OfI.zone (hp : p.kind = 1) (hm : isU64 p.mask) : OfI (l ++ [p]) { a with zones := bitsV .and .u64 a.zones p.mask : Aut } :=
  { h with
    zu := and_isU64 h.zu hm
    z := fun j => by
      show tb (bitsV .and .u64 a.zones p.mask) j = true ↔ _
      rw [tb_and h.zu hm, Bool.and_eq_true, h.z, conf_snoc (by omega), all_snoc]
      simp [hp, and_assoc]
    li := fun j => by rw [all_snoc]; simp [hp, h.li]
    d := fun j => by rw [all_snoc]; simp [hp, h.d]
    f := fun m => by rw [all_snoc]; simp [hp, h.f]
    k := fun k => by rw [all_snoc]; simp [hp, h.k]
    h := h.hold (by omega) }
theorem OfI.line (hp : p.kind = 2) (hm : isU64 p.mask) : OfI (l ++ [p]) { a with lines := bitsV .and .u64 a.lines p.mask : Aut } :=
  { h with
    lu := and_isU64 h.lu hm
    z := fun j => by rw [conf_snoc (by omega), all_snoc]; simp [hp, h.z]
    li := fun j => by
      show tb (bitsV .and .u64 a.lines p.mask) j = true ↔ _
      rw [tb_and h.lu hm, Bool.and_eq_true, h.li, all_snoc]
      simp [hp, and_assoc]
    d := fun j => by rw [all_snoc]; simp [hp, h.d]
    f := fun m => by rw [all_snoc]; simp [hp, h.f]
    k := fun k => by rw [all_snoc]; simp [hp, h.k]
    h := h.hold (by omega) }
theorem OfI.dayw (hp : p.kind = 3) (hm : isU64 p.mask) : OfI (l ++ [p]) { a with days := bitsV .and .u64 a.days p.mask : Aut } :=
  { h with
    du := and_isU64 h.du hm
    z := fun j => by rw [conf_snoc (by omega), all_snoc]; simp [hp, h.z]
    li := fun j => by rw [all_snoc]; simp [hp, h.li]
    d := fun j => by
      show tb (bitsV .and .u64 a.days p.mask) j = true ↔ _
      rw [tb_and h.du hm, Bool.and_eq_true, h.d, all_snoc]
      simp [hp, and_assoc]
    f := fun m => by rw [all_snoc]; simp [hp, h.f]
    k := fun k => by rw [all_snoc]; simp [hp, h.k]
    h := h.hold (by omega) }
theorem OfI.time (hp : p.kind = 4) (h0 : 0 ≤ p.fr) (h1 : p.fr ≤ p.to) (h2 : p.to ≤ 67108864) : OfI (l ++ [p]) { a with fr := max a.fr p.fr, to := min a.to p.to : Aut } :=
  { h with
    z := fun j => by rw [conf_snoc (by omega), all_snoc]; simp [hp, h.z]
    li := fun j => by rw [all_snoc]; simp [hp, h.li]
    d := fun j => by rw [all_snoc]; simp [hp, h.d]
    f := fun m => by
      rw [all_snoc]
      have := h.f m
      simp only [hp, true_implies]
      constructor
      · intro hm
        have h3 := this.1 ⟨by omega, by omega⟩
        exact ⟨h3.1, h3.2.1, h3.2.2, by omega, by omega⟩
      · rintro ⟨a1, a2, a3, a4⟩
        have := this.2 ⟨a1, a2, a3⟩
        exact ⟨by omega, by omega⟩
    fb := by have := h.fb; simp only; omega
    k := fun k => by rw [all_snoc]; simp [hp, h.k]
    h := h.hold (by omega) }
theorem OfI.dayly (hp : p.kind = 5) {dl : List Spn} (hc : canon (-1) dl) (hd : ∀ k, inS dl k ↔ 0 ≤ k ∧ k < 1440 ∧ dayB p.fr p.to k) : OfI (l ++ [p]) { a with daily := commonL a.daily dl : Aut } :=
  { h with
    z := fun j => by rw [conf_snoc (by omega), all_snoc]; simp [hp, h.z]
    li := fun j => by rw [all_snoc]; simp [hp, h.li]
    d := fun j => by rw [all_snoc]; simp [hp, h.d]
    f := fun m => by rw [all_snoc]; simp [hp, h.f]
    c := canon_common h.c hc
    k := fun k => by
      show inS (commonL a.daily dl) k ↔ _
      rw [inS_common, h.k, hd, all_snoc]
      simp only [hp, true_implies]
      constructor
      · rintro ⟨⟨a1, a2, a3⟩, _, _, a4⟩; exact ⟨a1, a2, a3, a4⟩
      · rintro ⟨a1, a2, a3, a4⟩; exact ⟨⟨a1, a2, a3⟩, a1, a2, a4⟩
    h := h.hold (by omega) }
theorem OfI.rides (hp : p.kind = 7) : OfI (l ++ [p]) a :=
  { h with
    z := fun j => by rw [conf_snoc (by omega), all_snoc]; simp [hp, h.z]
    li := fun j => by rw [all_snoc]; simp [hp, h.li]
    d := fun j => by rw [all_snoc]; simp [hp, h.d]
    f := fun m => by rw [all_snoc]; simp [hp, h.f]
    k := fun k => by rw [all_snoc]; simp [hp, h.k]
    h := h.hold (by omega) }
/-- names of valid predicates are not empty -/
def named (l : List Pred) : Prop := ∀ p ∈ l, p.kind = 6 → p.name ≠ noName
theorem OfI.holder (hp : p.kind = 6) (hn : named l) {z : Int} (hz : z = if a.holder ≠ noName ∧ a.holder ≠ p.name then 0 else a.zones) : OfI (l ++ [p]) { a with zones := z, holder := p.name : Aut } := by
  have hcf : conf (l ++ [p]) ↔ conf l ∨ (a.holder ≠ noName ∧ a.holder ≠ p.name) := by
    constructor
    · rintro ⟨x, hx, y, hy, h1, h2, h3⟩
      by_cases hl : conf l
      · exact .inl hl
      right
      have key : ∀ q ∈ l, q.kind = 6 → a.holder = q.name := by
        intro q hq hq6
        rcases h.h with ⟨r, hr, h6, e⟩ | ⟨_, hno⟩
        · apply Classical.byContradiction
          intro hne
          exact hl ⟨r, hr, q, hq, h6, hq6, fun e2 => hne (e.trans e2)⟩
        · exact absurd hq6 (hno q hq)
      have : ∃ q ∈ l, q.kind = 6 ∧ q.name ≠ p.name := by
        rcases List.mem_append.1 hx with hx' | hx'
        · rcases List.mem_append.1 hy with hy' | hy'
          · exact absurd ⟨x, hx', y, hy', h1, h2, h3⟩ hl
          · have hy2 : y = p := by simpa using hy'
            exact ⟨x, hx', h1, hy2 ▸ h3⟩
        · have hx2 : x = p := by simpa using hx'
          rcases List.mem_append.1 hy with hy' | hy'
          · exact ⟨y, hy', h2, fun e => h3 (by rw [hx2, e])⟩
          · have hy2 : y = p := by simpa using hy'
            exact absurd (by rw [hx2, hy2]) h3
      obtain ⟨q, hq, h6, hne⟩ := this
      rw [key q hq h6]
      exact ⟨hn q hq h6, hne⟩
    · rintro (⟨x, hx, y, hy, h3⟩ | ⟨h1, h2⟩)
      · exact ⟨x, by simp [hx], y, by simp [hy], h3⟩
      · rcases h.h with ⟨r, hr, h6, e⟩ | ⟨e, _⟩
        · exact ⟨r, by simp [hr], p, by simp, h6, hp, fun e2 => h2 (e.trans e2)⟩
        · exact absurd e h1
  have hzu : isU64 z := by
    rw [hz]; split
    · exact ⟨by omega, by omega⟩
    · exact h.zu
  exact { h with
    zu := hzu
    z := fun j => by
      show tb z j = true ↔ _
      rw [hcf, all_snoc, hz]
      split
      · rename_i hh
        simp [tb_0, hh]
      · rename_i hh
        rw [h.z]
        simp only [hp, hh, or_false]
        simp
    li := fun j => by rw [all_snoc]; simp [hp, h.li]
    d := fun j => by rw [all_snoc]; simp [hp, h.d]
    f := fun m => by rw [all_snoc]; simp [hp, h.f]
    k := fun k => by rw [all_snoc]; simp [hp, h.k]
    h := .inl ⟨p, by simp, hp, rfl⟩ }
end
/-- the authority of a list -/
def IsOf (l : List Pred) (r : Aut) : Prop := ∃ a, OfI l a ∧ IsClosed a r
theorem OfI.S_iff {l : List Pred} {a : Aut} (h : OfI l a) (m : Int) : a.S m ↔ (0 ≤ m ∧ m ≤ 67108864 ∧ ∀ p ∈ l, p.kind = 4 → p.fr ≤ m ∧ m ≤ p.to) ∧ (wk m < 7 ∧ ∀ p ∈ l, p.kind = 3 → tb p.mask (wk m) = true) ∧ (0 ≤ m % 1440 ∧ m % 1440 < 1440 ∧ ∀ p ∈ l, p.kind = 5 → dayB p.fr p.to (m % 1440)) := by
  unfold Aut.S Tm
  rw [h.d, h.k, ← h.f]
  simp only [and_assoc]
theorem IsOf.uniq {l l' : List Pred} {r r' : Aut} (h : IsOf l r) (h' : IsOf l' r') (he : ∀ p, p ∈ l ↔ p ∈ l') : r = r' := by
  obtain ⟨a, ha, hr⟩ := h
  obtain ⟨b, hb, hr'⟩ := h'
  have hq : ∀ Q : Pred → Prop, (∀ p ∈ l, Q p) ↔ ∀ p ∈ l', Q p := fun Q => ⟨fun h p hp => h p ((he p).2 hp), fun h p hp => h p ((he p).1 hp)⟩
  have hcf : conf l ↔ conf l' := by
    constructor
    · rintro ⟨x, hx, y, hy, h⟩; exact ⟨x, (he x).1 hx, y, (he y).1 hy, h⟩
    · rintro ⟨x, hx, y, hy, h⟩; exact ⟨x, (he x).2 hx, y, (he y).2 hy, h⟩
  have hz : a.zones = b.zones := tb_ext ha.zu hb.zu fun j _ => by
    rw [Bool.eq_iff_iff, ha.z, hb.z, hcf, hq]
  have hl : a.lines = b.lines := tb_ext ha.lu hb.lu fun j _ => by
    rw [Bool.eq_iff_iff, ha.li, hb.li, hq]
  have hS : ∀ m, a.S m ↔ b.S m := fun m => by
    rw [ha.S_iff, hb.S_iff, hq, hq, hq]
  by_cases hc : conf l
  · have z0 : a.zones = 0 := tb_ext ha.zu ⟨by omega, by omega⟩ fun j _ => by
      rw [tb_0, Bool.eq_false_iff]
      intro h
      exact ((ha.z j).1 h).2.1 hc
    have z0' : b.zones = 0 := hz ▸ z0
    rcases hr with ⟨_, rfl⟩ | ⟨h1, _⟩
    · rcases hr' with ⟨_, rfl⟩ | ⟨h1, _⟩
      · rfl
      · exact absurd z0' h1
    · exact absurd z0 h1
  · have hh : a.holder = b.holder := by
      rcases ha.h with ⟨p, hp, h6, e⟩ | ⟨e, hno⟩
      · rcases hb.h with ⟨q, hq, h6', e'⟩ | ⟨e', hno⟩
        · rw [e, e']
          apply Classical.byContradiction
          intro hne
          exact hc ⟨p, hp, q, (he q).2 hq, h6, h6', hne⟩
        · exact absurd h6 (hno p ((he p).1 hp))
      · rcases hb.h with ⟨q, hq, h6', e'⟩ | ⟨e', _⟩
        · exact absurd h6' (hno q ((he q).2 hq))
        · rw [e, e']
    exact hr.uniq hr' hz hl hh hS
end Go.PE
namespace Go.PE
open Go
def authority_OfC_j1 (f_predicate_Valid : Nat) (f_authority_restrict : Nat) : PC :=
 (.seq (.block 1 (.seq (.reg [(some 16, none, .ixS 6 (.tmp 12) (.tmp 14)), (some 17, none, .ldA 6 (.tmp 16)), (some 6, none, .alloc [(.int .i64 0), (.int .u64 0), (.int .i64 0), (.int .i64 0), (.string ⟨#[]⟩), (.int .i64 0)]), (none, none, .st 6 (.tmp 6) (.tmp 17))]) (.seq (.seq (.reg [(some 18, none, .ldA 6 (.tmp 6)), (some 19, none, .call f_predicate_Valid [(.tmp 18)]), (some 20, none, .un .not (.tmp 19))]) (.cond (.tmp 20) (.seq (.reg [(some 21, none, .build [(.inl [(.bool false)]), (.inl [(.int .u64 0)]), (.inl [(.int .u64 0)]), (.inl [(.int .u64 0)]), (.inl [(.int .i64 0)]), (.inl [(.int .i64 0)]), (.inl [(deep [])]), (.inl [(.string ⟨#[]⟩)])]), (none, none, .st 8 (.tmp 2) (.tmp 21)), (some 3, none, .mv (.const (.int .i64 5)))]) .ret) .skip)) (.reg [(some 22, none, .ldA 8 (.tmp 4)), (some 23, none, .ldA 6 (.tmp 6)), (some 24, none, .call f_authority_restrict [(.tmp 22), (.tmp 23)]), (none, none, .st 8 (.tmp 4) (.tmp 24))])))) (.reg [(some 25, none, .bi .add (.tmp 14) (.const (.int .i64 1))), (some 14, none, .mv (.tmp 25))]))
def authority_OfC_j2 (t_api_Span : Nat) (f_authority_Full : Nat) (f_predicate_Valid : Nat) (f_authority_restrict : Nat) (f_authority_closed : Nat) : PC :=
 (.seq (.reg [(some 11, none, .call f_authority_Full []), (some 4, none, .alloc [(.bool false), (.int .u64 0), (.int .u64 0), (.int .u64 0), (.int .i64 0), (.int .i64 0), (lin t_api_Span []), (.string ⟨#[]⟩)]), (none, none, .st 8 (.tmp 4) (.tmp 11))]) (.seq (.seq (.reg [(some 12, none, .mv (.tmp 0)), (some 13, none, .len (.tmp 12)), (some 14, none, .mv (.const (.int .i64 0)))]) (.block 0 (.loop (.seq (.reg [(some 15, none, .bi .lss (.tmp 14) (.tmp 13))]) (.seq (.cond (.tmp 15) .skip (.exit 0)) (authority_OfC_j1 f_predicate_Valid f_authority_restrict)))))) (.seq (.reg [(some 26, none, .ldA 8 (.tmp 4)), (some 27, none, .call f_authority_closed [(.tmp 26)]), (none, none, .st 8 (.tmp 2) (.tmp 27)), (some 3, none, .mv (.const (.int .i64 0)))]) .ret)))
def authority_OfC (t_api_Span : Nat) (f_authority_Full : Nat) (f_predicate_Valid : Nat) (f_authority_restrict : Nat) (f_authority_closed : Nat) : PC :=
 (.seq (.reg [(some 2, none, .alloc [(.bool false), (.int .u64 0), (.int .u64 0), (.int .u64 0), (.int .i64 0), (.int .i64 0), (lin t_api_Span []), (.string ⟨#[]⟩)]), (some 3, none, .mv (.const (.int .i64 0)))]) (.seq (.seq (.reg [(some 7, none, .mv (.tmp 0)), (some 8, none, .len (.tmp 7)), (some 9, none, .bi .gtr (.tmp 8) (.const (.int .i64 64)))]) (.cond (.tmp 9) (.seq (.reg [(some 10, none, .build [(.inl [(.bool false)]), (.inl [(.int .u64 0)]), (.inl [(.int .u64 0)]), (.inl [(.int .u64 0)]), (.inl [(.int .i64 0)]), (.inl [(.int .i64 0)]), (.inl [(deep [])]), (.inl [(.string ⟨#[]⟩)])]), (none, none, .st 8 (.tmp 2) (.tmp 10)), (some 3, none, .mv (.const (.int .i64 2)))]) .ret) .skip)) (authority_OfC_j2 t_api_Span f_authority_Full f_predicate_Valid f_authority_restrict f_authority_closed)))
def authority_FullC (t_api_Span : Nat) : PC :=
 (.seq (.reg [(some 0, none, .alloc [(.bool false), (.int .u64 0), (.int .u64 0), (.int .u64 0), (.int .i64 0), (.int .i64 0), (lin t_api_Span []), (.string ⟨#[]⟩)])]) (.seq (.reg [(some 1, none, .build [(.inr ((.const (.int .i64 0)), 1)), (.inr ((.const (.int .i64 1439)), 1))]), (some 2, none, .mks t_api_Span 2 false [(.tmp 1)]), (some 3, none, .build [(.inl [(.bool false)]), (.inr ((.const (.int .u64 18446744073709551615)), 1)), (.inr ((.const (.int .u64 4294967295)), 1)), (.inr ((.const (.int .u64 127)), 1)), (.inl [(.int .i64 0)]), (.inr ((.const (.int .i64 67108864)), 1)), (.inr ((.tmp 2), 1)), (.inl [(.string ⟨#[]⟩)])]), (none, none, .st 8 (.tmp 0) (.tmp 3))]) .ret))
def authority_restrictC (t_api_Span : Nat) (f_authority_daily : Nat) (f_authority_common : Nat) : PC :=
 (.seq (.reg [(some 2, none, .box 8 (.tmp 0)), (some 3, none, .box 6 (.tmp 1)), (some 4, none, .alloc [(.bool false), (.int .u64 0), (.int .u64 0), (.int .u64 0), (.int .i64 0), (.int .i64 0), (lin t_api_Span []), (.string ⟨#[]⟩)])]) (.seq (.seq (.reg [(some 5, none, .fa 0 (.tmp 3)), (some 6, none, .ld false (.tmp 5))]) (.block 0 (.seq (.reg [(some 8, none, .bi .eql (.tmp 6) (.const (.int .i64 1))), (some 7, none, .mv (.tmp 8))]) (.cond (.tmp 7) (.reg [(some 9, none, .fa 1 (.tmp 2)), (some 10, none, .ld false (.tmp 9)), (some 11, none, .fa 1 (.tmp 3)), (some 12, none, .ld false (.tmp 11)), (some 13, none, .bi .and (.tmp 10) (.tmp 12)), (some 14, none, .fa 1 (.tmp 2)), (none, none, .st 1 (.tmp 14) (.tmp 13))]) (.seq (.reg [(some 16, none, .bi .eql (.tmp 6) (.const (.int .i64 2))), (some 15, none, .mv (.tmp 16))]) (.cond (.tmp 15) (.reg [(some 17, none, .fa 2 (.tmp 2)), (some 18, none, .ld false (.tmp 17)), (some 19, none, .fa 1 (.tmp 3)), (some 20, none, .ld false (.tmp 19)), (some 21, none, .bi .and (.tmp 18) (.tmp 20)), (some 22, none, .fa 2 (.tmp 2)), (none, none, .st 1 (.tmp 22) (.tmp 21))]) (.seq (.reg [(some 24, none, .bi .eql (.tmp 6) (.const (.int .i64 3))), (some 23, none, .mv (.tmp 24))]) (.cond (.tmp 23) (.reg [(some 25, none, .fa 3 (.tmp 2)), (some 26, none, .ld false (.tmp 25)), (some 27, none, .fa 1 (.tmp 3)), (some 28, none, .ld false (.tmp 27)), (some 29, none, .bi .and (.tmp 26) (.tmp 28)), (some 30, none, .fa 3 (.tmp 2)), (none, none, .st 1 (.tmp 30)
 (.tmp 29))]) (.seq (.reg [(some 32, none, .bi .eql (.tmp 6) (.const (.int .i64 4))), (some 31, none, .mv (.tmp 32))]) (.cond (.tmp 31) (.ord (.one (some 33, none, .fa 4 (.tmp 2)) (.one (some 34, none, .ld false (.tmp 33)) (.one (some 35, none, .fa 2 (.tmp 3)) (.one (some 36, none, .ld false (.tmp 35)) (.one (some 37, none, .mm true (.tmp 34) (.tmp 36)) (.one (some 38, none, .fa 5 (.tmp 2)) (.one (some 39, none, .ld false (.tmp 38)) (.one (some 40, none, .fa 3 (.tmp 3)) (.one (some 43, none, .fa 4 (.tmp 2)) (.alt (.one (some 41, none, .ld false (.tmp 40)) (.one (some 42, none, .mm false (.tmp 39) (.tmp 41)) (.one (none, none, .st 1 (.tmp 43) (.tmp 37)) (.one (some 44, none, .fa 5 (.tmp 2)) (.one (none, none, .st 1 (.tmp 44) (.tmp 42)) .done))))) (.one (none, none, .st 1 (.tmp 43) (.tmp 37)) (.one (some 41, none, .ld false (.tmp 40)) (.one (some 42, none, .mm false (.tmp 39) (.tmp 41)) (.one (some 44, none, .fa 5 (.tmp 2)) (.one (none, none, .st 1 (.tmp 44) (.tmp 42)) .done)))))))))))))))) (.seq (.reg [(some 46, none, .bi .eql (.tmp 6) (.const (.int .i64 5))), (some 45, none, .mv (.tmp 46))]) (.cond (.tmp 45) (.ord (.one (some 47, none, .fa 6 (.tmp 2)) (.one (some 49, none, .fa 2 (.tmp 3)) (.one (some 51, none, .fa 3 (.tmp 3)) (.alt (.one (some 48, none, .ld false (.tmp 47)) (.alt (.one (some 50, none, .ld false (.tmp 49)) (.one (some 52, none, .ld false (.tmp 51)) (.one (some 53, none, .call f_authority_daily [(.tmp 50), (.tmp 52)])
 (.one (some 54, none, .call f_authority_common [(.tmp 48), (.tmp 53)]) (.one (some 55, none, .fa 6 (.tmp 2)) (.one (none, none, .sts (.tmp 55) 54) .done)))))) (.one (some 52, none, .ld false (.tmp 51)) (.one (some 50, none, .ld false (.tmp 49)) (.one (some 53, none, .call f_authority_daily [(.tmp 50), (.tmp 52)]) (.one (some 54, none, .call f_authority_common [(.tmp 48), (.tmp 53)]) (.one (some 55, none, .fa 6 (.tmp 2)) (.one (none, none, .sts (.tmp 55) 54) .done)))))))) (.alt (.one (some 50, none, .ld false (.tmp 49)) (.alt (.one (some 48, none, .ld false (.tmp 47)) (.one (some 52, none, .ld false (.tmp 51)) (.one (some 53, none, .call f_authority_daily [(.tmp 50), (.tmp 52)]) (.one (some 54, none, .call f_authority_common [(.tmp 48), (.tmp 53)]) (.one (some 55, none, .fa 6 (.tmp 2)) (.one (none, none, .sts (.tmp 55) 54) .done)))))) (.one (some 52, none, .ld false (.tmp 51)) (.alt (.one (some 48, none, .ld false (.tmp 47)) (.one (some 53, none, .call f_authority_daily [(.tmp 50), (.tmp 52)]) (.one (some 54, none, .call f_authority_common [(.tmp 48), (.tmp 53)]) (.one (some 55, none, .fa 6 (.tmp 2)) (.one (none, none, .sts (.tmp 55) 54) .done))))) (.one (some 53, none, .call f_authority_daily [(.tmp 50), (.tmp 52)]) (.one (some 48, none, .ld false (.tmp 47)) (.one (some 54, none, .call f_authority_common [(.tmp 48), (.tmp 53)]) (.one (some 55, none, .fa 6 (.tmp 2)) (.one (none, none, .sts (.tmp 55) 54) .done))))))))) (.one (some 52, none, .ld false (.tmp 51))
 (.alt (.one (some 48, none, .ld false (.tmp 47)) (.one (some 50, none, .ld false (.tmp 49)) (.one (some 53, none, .call f_authority_daily [(.tmp 50), (.tmp 52)]) (.one (some 54, none, .call f_authority_common [(.tmp 48), (.tmp 53)]) (.one (some 55, none, .fa 6 (.tmp 2)) (.one (none, none, .sts (.tmp 55) 54) .done)))))) (.one (some 50, none, .ld false (.tmp 49)) (.alt (.one (some 48, none, .ld false (.tmp 47)) (.one (some 53, none, .call f_authority_daily [(.tmp 50), (.tmp 52)]) (.one (some 54, none, .call f_authority_common [(.tmp 48), (.tmp 53)]) (.one (some 55, none, .fa 6 (.tmp 2)) (.one (none, none, .sts (.tmp 55) 54) .done))))) (.one (some 53, none, .call f_authority_daily [(.tmp 50), (.tmp 52)]) (.one (some 48, none, .ld false (.tmp 47)) (.one (some 54, none, .call f_authority_common [(.tmp 48), (.tmp 53)]) (.one (some 55, none, .fa 6 (.tmp 2)) (.one (none, none, .sts (.tmp 55) 54) .done))))))))))))))) (.seq (.reg [(some 57, none, .bi .eql (.tmp 6) (.const (.int .i64 6))), (some 56, none, .mv (.tmp 57))]) (.cond (.tmp 56) (.seq (.seq (.reg [(some 58, none, .fa 7 (.tmp 2)), (some 59, none, .ld false (.tmp 58)), (some 60, none, .bi .neq (.tmp 59) (.const (.string ⟨#[]⟩))), (some 61, none, .mv (.tmp 60)), (some 62, some (61, true), .fa 7 (.tmp 2)), (some 63, some (61, true), .ld false (.tmp 62)), (some 64, some (61, true), .fa 4 (.tmp 3)), (some 65, some (61, true), .ld false (.tmp 64)), (some 66, some (61, true), .bi .neq (.tmp 63) (.tmp 65)),
 (some 67, none, .pick (.tmp 61) (.tmp 66) (.const (.bool false)))]) (.cond (.tmp 67) (.reg [(some 68, none, .fa 1 (.tmp 2)), (none, none, .st 1 (.tmp 68) (.const (.int .u64 0)))]) .skip)) (.reg [(some 69, none, .fa 4 (.tmp 3)), (some 70, none, .ld false (.tmp 69)), (some 71, none, .fa 7 (.tmp 2)), (none, none, .st 1 (.tmp 71) (.tmp 70))])) .skip)))))))))))))) (.seq (.reg [(some 72, none, .ldA 8 (.tmp 2)), (none, none, .st 8 (.tmp 4) (.tmp 72))]) .ret)))
def authority_closed_BC_j1 (f_authority_merged : Nat) : PC :=
 (.seq (.ord (.one (some 45, none, .fa 3 (.tmp 5)) (.one (some 46, none, .ld false (.tmp 45)) (.one (some 47, none, .mv (.tmp 6)) (.one (some 48, none, .bi .rem (.tmp 47) (.const (.int .i64 7))) (.one (some 49, none, .bi .shl (.const (.int .u64 1)) (.tmp 48)) (.one (some 50, none, .bi .or (.tmp 46) (.tmp 49)) (.one (some 51, none, .fa 3 (.tmp 5)) (.one (none, none, .st 1 (.tmp 51) (.tmp 50)) .done))))))))) (.seq (.ord (.one (some 52, none, .fa 4 (.tmp 5)) (.one (some 53, none, .ld false (.tmp 52)) (.one (some 54, none, .mv (.tmp 6)) (.one (some 55, none, .bi .mul (.tmp 54) (.const (.int .i64 1440))) (.one (some 56, none, .mv (.tmp 7)) (.one (some 57, none, .ixB 2 (.tmp 56) (.const (.int .i64 0))) (.one (some 58, none, .fa 0 (.tmp 57)) (.one (some 59, none, .ld false (.tmp 58)) (.one (some 60, none, .bi .add (.tmp 55) (.tmp 59)) (.one (some 61, none, .mm false (.tmp 53) (.tmp 60)) (.one (some 62, none, .fa 4 (.tmp 5)) (.one (none, none, .st 1 (.tmp 62) (.tmp 61)) .done))))))))))))) (.seq (.ord (.one (some 63, none, .fa 5 (.tmp 5)) (.one (some 64, none, .ld false (.tmp 63)) (.one (some 65, none, .mv (.tmp 6)) (.one (some 66, none, .bi .mul (.tmp 65) (.const (.int .i64 1440))) (.one (some 67, none, .mv (.tmp 7)) (.one (some 68, none, .mv (.tmp 7)) (.one (some 69, none, .lenB (.tmp 68)) (.one (some 70, none, .bi .sub (.tmp 69) (.const (.int .i64 1))) (.one (some 71, none, .ixB 2 (.tmp 67) (.tmp 70)) (.one (some 72, none, .fa 1 (.tmp 71)) (.one (some 73, none, .ld false (.tmp 72))
 (.one (some 74, none, .bi .add (.tmp 66) (.tmp 73)) (.one (some 75, none, .mm true (.tmp 64) (.tmp 74)) (.one (some 76, none, .fa 5 (.tmp 5)) (.one (none, none, .st 1 (.tmp 76) (.tmp 75)) .done)))))))))))))))) (.reg [(some 77, none, .fa 6 (.tmp 5)), (some 78, none, .ld true (.tmp 77)), (some 79, none, .mv (.tmp 7)), (some 80, none, .appB 2 16 [(.int .i64 0), (.int .i64 0)] 78 (.tmp 79)), (some 81, none, .callB f_authority_merged [(.tmp 80)]), (some 82, none, .fa 6 (.tmp 5)), (none, none, .sts (.tmp 82) 81)]))))
def authority_closed_BC_j2 (f_authority_Day : Nat) (f_authority_merged : Nat) : PC :=
 (.seq (.reg [(some 39, none, .ldA 8 (.tmp 1)), (some 40, none, .mv (.tmp 6)), (some 41, none, .callB f_authority_Day [(.tmp 39), (.tmp 40)]), (some 7, none, .steal 41)]) (.seq (.seq (.reg [(some 42, none, .mv (.tmp 7)), (some 43, none, .lenB (.tmp 42)), (some 44, none, .bi .eql (.tmp 43) (.const (.int .i64 0)))]) (.cond (.tmp 44) (.exit 1) .skip)) (authority_closed_BC_j1 f_authority_merged)))
def authority_closed_BC_j3 (f_authority_Day : Nat) (f_authority_merged : Nat) : PC :=
 (.seq (.block 1 (.seq (.seq (.reg [(some 27, none, .mv (.tmp 6)), (some 28, none, .mv (.tmp 3)), (some 29, none, .bi .add (.tmp 28) (.const (.int .i64 8))), (some 30, none, .bi .gtr (.tmp 27) (.tmp 29)), (some 31, none, .mv (.tmp 30)), (some 32, some (31, true), .mv (.tmp 6)), (some 33, some (31, true), .mv (.tmp 4)), (some 34, some (31, true), .bi .sub (.tmp 33) (.const (.int .i64 8))), (some 35, some (31, true), .bi .lss (.tmp 32) (.tmp 34)), (some 36, none, .pick (.tmp 31) (.tmp 35) (.const (.bool false)))]) (.cond (.tmp 36) (.reg [(some 37, none, .mv (.tmp 4)), (some 38, none, .bi .sub (.tmp 37) (.const (.int .i64 8))), (some 6, none, .mv (.tmp 38))]) .skip)) (authority_closed_BC_j2 f_authority_Day f_authority_merged))) (.reg [(some 25, none, .mv (.tmp 6)), (some 26, none, .bi .add (.tmp 25) (.const (.int .i64 1))), (some 6, none, .mv (.tmp 26))]))
def authority_closed_BC_j4 (f_authority_none : Nat) : PC :=
 (.seq (.seq (.reg [(some 83, none, .fa 5 (.tmp 5)), (some 84, none, .ld false (.tmp 83)), (some 85, none, .bi .lss (.tmp 84) (.const (.int .i64 0))), (some 86, none, .mv (.tmp 85)), (some 87, some (86, false), .fa 1 (.tmp 5)), (some 88, some (86, false), .ld false (.tmp 87)), (some 89, some (86, false), .bi .eql (.tmp 88) (.const (.int .u64 0))), (some 90, none, .pick (.tmp 86) (.const (.bool true)) (.tmp 89)), (some 91, none, .mv (.tmp 90)), (some 92, some (91, false), .fa 2 (.tmp 5)), (some 93, some (91, false), .ld false (.tmp 92)), (some 94, some (91, false), .bi .eql (.tmp 93) (.const (.int .u64 0))), (some 95, none, .pick (.tmp 91) (.const (.bool true)) (.tmp 94))]) (.cond (.tmp 95) (.seq (.reg [(some 96, none, .callB f_authority_none []), (none, none, .st 8 (.tmp 2) (.tmp 96))]) .ret) .skip)) (.seq (.reg [(some 97, none, .ldA 8 (.tmp 5)), (none, none, .st 8 (.tmp 2) (.tmp 97))]) .ret))
def authority_closed_BC (f_authority_Day : Nat) (f_authority_merged : Nat) (f_authority_none : Nat) : PC :=
 (.seq (.reg [(some 1, none, .box 8 (.tmp 0)), (some 2, none, .alloc [(.bool false), (.int .u64 0), (.int .u64 0), (.int .u64 0), (.int .i64 0), (.int .i64 0), (ns []), (.string ⟨#[]⟩)])]) (.seq (.drw [(some 8, none, .fa 4 (.tmp 1)), (some 9, none, .ld false (.tmp 8)), (some 10, none, .bi .quo (.tmp 9) (.const (.int .i64 1440))), (some 11, none, .fa 5 (.tmp 1)), (some 12, none, .ld false (.tmp 11)), (some 13, none, .bi .quo (.tmp 12) (.const (.int .i64 1440))), (some 3, none, .mv (.tmp 10)), (some 4, none, .mv (.tmp 13))]) (.seq (.reg [(some 14, none, .fa 1 (.tmp 1)), (some 15, none, .ld false (.tmp 14)), (some 16, none, .fa 2 (.tmp 1)), (some 17, none, .ld false (.tmp 16)), (some 18, none, .fa 7 (.tmp 1)), (some 19, none, .ld false (.tmp 18)), (some 20, none, .build [(.inl [(.bool false)]), (.inr ((.tmp 15), 1)), (.inr ((.tmp 17), 1)), (.inl [(.int .u64 0)]), (.inr ((.const (.int .i64 67108865)), 1)), (.inr ((.const (.int .i64 (-1))), 1)), (.inl [(ns [])]), (.inr ((.tmp 19), 1))]), (some 5, none, .alloc [(.bool false), (.int .u64 0), (.int .u64 0), (.int .u64 0), (.int .i64 0), (.int .i64 0), (ns []), (.string ⟨#[]⟩)]), (none, none, .st 8 (.tmp 5) (.tmp 20))]) (.seq (.seq (.reg [(some 21, none, .mv (.tmp 3)), (some 6, none, .mv (.tmp 21))]) (.block 0 (.loop (.seq (.seq (.reg [(some 22, none, .mv (.tmp 6)), (some 23, none, .mv (.tmp 4)), (some 24, none, .bi .leq (.tmp 22) (.tmp 23))]) (.cond (.tmp 24) .skip (.exit 0)))
 (authority_closed_BC_j3 f_authority_Day f_authority_merged))))) (authority_closed_BC_j4 f_authority_none)))))
def authority_equalC (f_slices_Equal_api_Span_api_Span : Nat) : PC :=
 (.seq (.reg [(some 2, none, .box 8 (.tmp 0)), (some 3, none, .box 8 (.tmp 1)), (some 4, none, .mv (.const (.bool false)))]) (.seq (.reg [(some 5, none, .fa 0 (.tmp 2)), (some 6, none, .ld false (.tmp 5)), (some 7, none, .fa 0 (.tmp 3)), (some 8, none, .ld false (.tmp 7)), (some 9, none, .bb false (.tmp 6) (.tmp 8)), (some 10, none, .mv (.tmp 9)), (some 11, some (10, true), .fa 1 (.tmp 2)), (some 12, some (10, true), .ld false (.tmp 11)), (some 13, some (10, true), .fa 1 (.tmp 3)), (some 14, some (10, true), .ld false (.tmp 13)), (some 15, some (10, true), .bi .eql (.tmp 12) (.tmp 14)), (some 16, none, .pick (.tmp 10) (.tmp 15) (.const (.bool false))), (some 17, none, .mv (.tmp 16)), (some 18, some (17, true), .fa 2 (.tmp 2)), (some 19, some (17, true), .ld false (.tmp 18)), (some 20, some (17, true), .fa 2 (.tmp 3)), (some 21, some (17, true), .ld false (.tmp 20)), (some 22, some (17, true), .bi .eql (.tmp 19) (.tmp 21)), (some 23, none, .pick (.tmp 17) (.tmp 22) (.const (.bool false))), (some 24, none, .mv (.tmp 23)), (some 25, some (24, true), .fa 3 (.tmp 2)), (some 26, some (24, true), .ld false (.tmp 25)), (some 27, some (24, true), .fa 3 (.tmp 3)), (some 28, some (24, true), .ld false (.tmp 27)), (some 29, some (24, true), .bi .eql (.tmp 26) (.tmp 28)), (some 30, none, .pick (.tmp 24) (.tmp 29) (.const (.bool false))), (some 31, none, .mv (.tmp 30)), (some 32, some (31, true), .fa 4 (.tmp 2)), (some 33, some (31, true), .ld false (.tmp 32)), (some 34, some (31, true),
 .fa 4 (.tmp 3)), (some 35, some (31, true), .ld false (.tmp 34)), (some 36, some (31, true), .bi .eql (.tmp 33) (.tmp 35)), (some 37, none, .pick (.tmp 31) (.tmp 36) (.const (.bool false))), (some 38, none, .mv (.tmp 37)), (some 39, some (38, true), .fa 5 (.tmp 2)), (some 40, some (38, true), .ld false (.tmp 39)), (some 41, some (38, true), .fa 5 (.tmp 3)), (some 42, some (38, true), .ld false (.tmp 41)), (some 43, some (38, true), .bi .eql (.tmp 40) (.tmp 42)), (some 44, none, .pick (.tmp 38) (.tmp 43) (.const (.bool false))), (some 45, none, .mv (.tmp 44)), (some 46, some (45, true), .fa 7 (.tmp 2)), (some 47, some (45, true), .ld false (.tmp 46)), (some 48, some (45, true), .fa 7 (.tmp 3)), (some 49, some (45, true), .ld false (.tmp 48)), (some 50, some (45, true), .bi .eql (.tmp 47) (.tmp 49)), (some 51, none, .pick (.tmp 45) (.tmp 50) (.const (.bool false))), (some 52, none, .mv (.tmp 51)), (some 53, some (52, true), .fa 6 (.tmp 2)), (some 54, some (52, true), .ld false (.tmp 53)), (some 55, some (52, true), .fa 6 (.tmp 3)), (some 56, some (52, true), .ld false (.tmp 55)), (some 57, some (52, true), .call f_slices_Equal_api_Span_api_Span [(.tmp 54), (.tmp 56)]), (some 58, none, .pick (.tmp 52) (.tmp 57) (.const (.bool false))), (some 4, none, .mv (.tmp 58))]) .ret))
def authority_noneC (t_api_Span : Nat) : PC :=
 (.seq (.reg [(some 0, none, .alloc [(.bool false), (.int .u64 0), (.int .u64 0), (.int .u64 0), (.int .i64 0), (.int .i64 0), (lin t_api_Span []), (.string ⟨#[]⟩)])]) (.seq (.reg [(some 1, none, .build [(.inr ((.const (.bool true)), 1)), (.inl [(.int .u64 0)]), (.inl [(.int .u64 0)]), (.inl [(.int .u64 0)]), (.inl [(.int .i64 0)]), (.inl [(.int .i64 0)]), (.inl [(deep [])]), (.inl [(.string ⟨#[]⟩)])]), (none, none, .st 8 (.tmp 0) (.tmp 1))]) .ret))
def authority_nameC (f_predicate_Valid : Nat) : PC :=
 (.seq (.reg [(some 2, none, .mv (.const (.bool false)))]) (.seq (.reg [(some 3, none, .mv (.tmp 0)), (some 4, none, .build [(.inr ((.const (.int .i64 6)), 1)), (.inl [(.int .u64 0)]), (.inl [(.int .i64 0)]), (.inl [(.int .i64 0)]), (.inr ((.tmp 3), 1)), (.inl [(.int .i64 0)])]), (some 5, none, .call f_predicate_Valid [(.tmp 4)]), (some 2, none, .mv (.tmp 5))]) .ret))
def authority_commonC_j1 (t_api_Span : Nat) : PC :=
 (.seq (.block 3 (.seq (.reg [(some 21, none, .ixS 2 (.tmp 17) (.tmp 19)), (some 22, none, .ldA 2 (.tmp 21)), (some 9, none, .alloc [(.int .i64 0), (.int .i64 0)]), (none, none, .st 2 (.tmp 9) (.tmp 22))]) (.seq (.reg [(some 23, none, .fa 0 (.tmp 7)), (some 24, none, .ld false (.tmp 23)), (some 25, none, .fa 0 (.tmp 9)), (some 26, none, .ld false (.tmp 25)), (some 27, none, .mm true (.tmp 24) (.tmp 26)), (some 28, none, .fa 1 (.tmp 7)), (some 29, none, .ld false (.tmp 28)), (some 30, none, .fa 1 (.tmp 9)), (some 31, none, .ld false (.tmp 30)), (some 32, none, .mm false (.tmp 29) (.tmp 31)), (some 33, none, .build [(.inr ((.tmp 27), 1)), (.inr ((.tmp 32), 1))]), (some 10, none, .alloc [(.int .i64 0), (.int .i64 0)]), (none, none, .st 2 (.tmp 10) (.tmp 33))]) (.seq (.reg [(some 34, none, .fa 0 (.tmp 10)), (some 35, none, .ld false (.tmp 34)), (some 36, none, .fa 1 (.tmp 10)), (some 37, none, .ld false (.tmp 36)), (some 38, none, .bi .leq (.tmp 35) (.tmp 37))]) (.cond (.tmp 38) (.reg [(some 39, none, .steal 5), (some 40, none, .ldA 2 (.tmp 10)), (some 41, none, .mks t_api_Span 2 false [(.tmp 40)]), (some 42, none, .app t_api_Span 2 16 39 (.tmp 41)), (some 5, none, .steal 42)]) .skip))))) (.reg [(some 43, none, .bi .add (.tmp 19) (.const (.int .i64 1))), (some 19, none, .mv (.tmp 43))]))
def authority_commonC_j2 (t_api_Span : Nat) : PC :=
 (.seq (.block 1 (.seq (.reg [(some 15, none, .ixS 2 (.tmp 11) (.tmp 13)), (some 16, none, .ldA 2 (.tmp 15)), (some 7, none, .alloc [(.int .i64 0), (.int .i64 0)]), (none, none, .st 2 (.tmp 7) (.tmp 16))]) (.seq (.reg [(some 17, none, .mv (.tmp 1)), (some 18, none, .len (.tmp 17)), (some 19, none, .mv (.const (.int .i64 0)))]) (.block 2 (.loop (.seq (.reg [(some 20, none, .bi .lss (.tmp 19) (.tmp 18))]) (.seq (.cond (.tmp 20) .skip (.exit 2)) (authority_commonC_j1 t_api_Span)))))))) (.reg [(some 44, none, .bi .add (.tmp 13) (.const (.int .i64 1))), (some 13, none, .mv (.tmp 44))]))
def authority_commonC (t_api_Span : Nat) : PC :=
 (.seq (.reg [(some 4, none, .cnil t_api_Span)]) (.seq (.reg [(some 5, none, .cnil t_api_Span)]) (.seq (.seq (.reg [(some 11, none, .mv (.tmp 0)), (some 12, none, .len (.tmp 11)), (some 13, none, .mv (.const (.int .i64 0)))]) (.block 0 (.loop (.seq (.reg [(some 14, none, .bi .lss (.tmp 13) (.tmp 12))]) (.seq (.cond (.tmp 14) .skip (.exit 0)) (authority_commonC_j2 t_api_Span)))))) (.seq (.reg [(some 45, none, .steal 5), (some 4, none, .steal 45)]) .ret))))
def authority_DayC_j1 (t_api_Span : Nat) (f_authority_common : Nat) : PC :=
 (.seq (.reg [(some 26, none, .fa 6 (.tmp 2)), (some 27, none, .ld false (.tmp 26)), (some 28, none, .fa 4 (.tmp 2)), (some 29, none, .ld false (.tmp 28)), (some 30, none, .mv (.tmp 1)), (some 31, none, .bi .mul (.tmp 30) (.const (.int .i64 1440))), (some 32, none, .bi .sub (.tmp 29) (.tmp 31)), (some 33, none, .mm true (.tmp 32) (.const (.int .i64 0))), (some 34, none, .fa 5 (.tmp 2)), (some 35, none, .ld false (.tmp 34)), (some 36, none, .mv (.tmp 1)), (some 37, none, .bi .mul (.tmp 36) (.const (.int .i64 1440))), (some 38, none, .bi .sub (.tmp 35) (.tmp 37)), (some 39, none, .mm false (.tmp 38) (.const (.int .i64 1439))), (some 40, none, .build [(.inr ((.tmp 33), 1)), (.inr ((.tmp 39), 1))]), (some 41, none, .mks t_api_Span 2 false [(.tmp 40)]), (some 42, none, .call f_authority_common [(.tmp 27), (.tmp 41)]), (some 4, none, .steal 42)]) .ret)
def authority_DayC (t_api_Span : Nat) (f_authority_common : Nat) : PC :=
 (.seq (.reg [(some 2, none, .box 8 (.tmp 0)), (some 4, none, .cnil t_api_Span)]) (.seq (.seq (.reg [(some 5, none, .mv (.tmp 1)), (some 6, none, .fa 4 (.tmp 2)), (some 7, none, .ld false (.tmp 6)), (some 8, none, .bi .quo (.tmp 7) (.const (.int .i64 1440))), (some 9, none, .bi .lss (.tmp 5) (.tmp 8)), (some 10, none, .mv (.tmp 9)), (some 11, some (10, false), .mv (.tmp 1)), (some 12, some (10, false), .fa 5 (.tmp 2)), (some 13, some (10, false), .ld false (.tmp 12)), (some 14, some (10, false), .bi .quo (.tmp 13) (.const (.int .i64 1440))), (some 15, some (10, false), .bi .gtr (.tmp 11) (.tmp 14)), (some 16, none, .pick (.tmp 10) (.const (.bool true)) (.tmp 15)), (some 17, none, .mv (.tmp 16)), (some 18, some (17, false), .fa 3 (.tmp 2)), (some 19, some (17, false), .ld false (.tmp 18)), (some 20, some (17, false), .mv (.tmp 1)), (some 21, some (17, false), .bi .rem (.tmp 20) (.const (.int .i64 7))), (some 22, some (17, false), .bi .shr (.tmp 19) (.tmp 21)), (some 23, some (17, false), .bi .and (.tmp 22) (.const (.int .u64 1))), (some 24, some (17, false), .bi .eql (.tmp 23) (.const (.int .u64 0))), (some 25, none, .pick (.tmp 17) (.const (.bool true)) (.tmp 24))]) (.cond (.tmp 25) (.seq (.reg [(some 4, none, .cnil t_api_Span)]) .ret) .skip)) (authority_DayC_j1 t_api_Span f_authority_common)))
def authority_dailyC_j1 (t_api_Span : Nat) (f_authority_merged : Nat) : PC :=
 (.seq (.reg [(some 12, none, .mv (.tmp 1)), (some 13, none, .build [(.inr ((.const (.int .i64 0)), 1)), (.inr ((.tmp 12), 1))]), (some 14, none, .mv (.tmp 0)), (some 15, none, .build [(.inr ((.tmp 14), 1)), (.inr ((.const (.int .i64 1439)), 1))]), (some 16, none, .mks t_api_Span 2 false [(.tmp 13), (.tmp 15)]), (some 17, none, .call f_authority_merged [(.tmp 16)]), (some 4, none, .steal 17)]) .ret)
def authority_dailyC (t_api_Span : Nat) (f_authority_merged : Nat) : PC :=
 (.seq (.reg [(some 4, none, .cnil t_api_Span)]) (.seq (.seq (.reg [(some 5, none, .mv (.tmp 0)), (some 6, none, .mv (.tmp 1)), (some 7, none, .bi .leq (.tmp 5) (.tmp 6))]) (.cond (.tmp 7) (.seq (.reg [(some 8, none, .mv (.tmp 0)), (some 9, none, .mv (.tmp 1)), (some 10, none, .build [(.inr ((.tmp 8), 1)), (.inr ((.tmp 9), 1))]), (some 11, none, .mks t_api_Span 2 true [(.tmp 10)]), (some 4, none, .steal 11)]) .ret) .skip)) (authority_dailyC_j1 t_api_Span f_authority_merged)))
def authority_merged_BC_j1 (t_api_Span : Nat) : PC :=
 (.seq (.block 1 (.seq (.reg [(some 20, none, .ixB 2 (.tmp 16) (.tmp 18)), (some 21, none, .ldA 2 (.tmp 20)), (some 6, none, .alloc [(.int .i64 0), (.int .i64 0)]), (none, none, .st 2 (.tmp 6) (.tmp 21))]) (.seq (.reg [(some 22, none, .mv (.tmp 4)), (some 23, none, .lenB (.tmp 22)), (some 7, none, .mv (.tmp 23))]) (.seq (.drw [(some 24, none, .mv (.tmp 7)), (some 25, none, .bi .gtr (.tmp 24) (.const (.int .i64 0))), (some 26, none, .mv (.tmp 25)), (some 27, some (26, true), .fa 0 (.tmp 6)), (some 28, some (26, true), .ld false (.tmp 27)), (some 29, some (26, true), .mv (.tmp 4)), (some 30, some (26, true), .mv (.tmp 7)), (some 31, some (26, true), .bi .sub (.tmp 30) (.const (.int .i64 1))), (some 32, some (26, true), .ixB 2 (.tmp 29) (.tmp 31)), (some 33, some (26, true), .fa 1 (.tmp 32)), (some 34, some (26, true), .ld false (.tmp 33)), (some 35, some (26, true), .bi .add (.tmp 34) (.const (.int .i64 1))), (some 36, some (26, true), .bi .leq (.tmp 28) (.tmp 35)), (some 37, none, .pick (.tmp 26) (.tmp 36) (.const (.bool false)))]) (.cond (.tmp 37) (.ord (.one (some 38, none, .mv (.tmp 4)) (.one (some 39, none, .mv (.tmp 7)) (.one (some 40, none, .bi .sub (.tmp 39) (.const (.int .i64 1))) (.one (some 41, none, .mv (.tmp 4)) (.one (some 42, none, .mv (.tmp 7)) (.one (some 43, none, .bi .sub (.tmp 42) (.const (.int .i64 1))) (.one (some 44, none, .ixB 2 (.tmp 41) (.tmp 43)) (.one (some 45, none, .fa 1 (.tmp 44)) (.one (some 46, none, .ld false (.tmp 45))
 (.one (some 47, none, .fa 1 (.tmp 6)) (.one (some 48, none, .ld false (.tmp 47)) (.one (some 49, none, .mm true (.tmp 46) (.tmp 48)) (.one (some 50, none, .ixB 2 (.tmp 38) (.tmp 40)) (.one (some 51, none, .fa 1 (.tmp 50)) (.one (none, none, .st 1 (.tmp 51) (.tmp 49)) .done)))))))))))))))) (.reg [(some 52, none, .steal 4), (some 53, none, .ldA 2 (.tmp 6)), (some 54, none, .mks t_api_Span 2 false [(.tmp 53)]), (some 55, none, .appB 2 16 [(.int .i64 0), (.int .i64 0)] 52 (.tmp 54)), (some 4, none, .steal 55)])))))) (.reg [(some 56, none, .bi .add (.tmp 18) (.const (.int .i64 1))), (some 18, none, .mv (.tmp 56))]))
def authority_merged_BC (f_slices_SortFunc_api_Span_api_Span : Nat) (f_authority_merged_1 : Nat) (t_api_Span : Nat) : PC :=
 (.seq (.reg [(some 2, none, .cns)]) (.seq (.reg [(some 8, none, .mv (.tmp 0)), (some 9, none, .lenB (.tmp 8)), (some 10, none, .mkB 2 16 [(.int .i64 0), (.int .i64 0)] (.tmp 9) (.tmp 9)), (some 3, none, .steal 10)]) (.seq (.reg [(some 11, none, .mv (.tmp 3)), (some 12, none, .mv (.tmp 0)), (some 13, none, .cpy 2 (.tmp 11) (.tmp 12))]) (.seq (.reg [(some 14, none, .mv (.tmp 3)), (some 15, none, .callB f_slices_SortFunc_api_Span_api_Span [(.tmp 14), (.func f_authority_merged_1)])]) (.seq (.reg [(some 4, none, .cns)]) (.seq (.seq (.reg [(some 16, none, .mv (.tmp 3)), (some 17, none, .lenB (.tmp 16)), (some 18, none, .mv (.const (.int .i64 0)))]) (.block 0 (.loop (.seq (.reg [(some 19, none, .bi .lss (.tmp 18) (.tmp 17))]) (.seq (.cond (.tmp 19) .skip (.exit 0)) (authority_merged_BC_j1 t_api_Span)))))) (.seq (.reg [(some 57, none, .steal 4), (some 2, none, .steal 57)]) .ret)))))))
def slices_Equal_api_Span_api_SpanC_j1 : PC :=
 (.seq (.block 1 (.seq (.reg [(some 15, none, .mv (.tmp 13)), (some 5, none, .mv (.tmp 15))]) (.seq (.drw [(some 16, none, .mv (.tmp 0)), (some 17, none, .mv (.tmp 5)), (some 18, none, .ixS 2 (.tmp 16) (.tmp 17)), (some 19, none, .ldA 2 (.tmp 18)), (some 20, none, .mv (.tmp 1)), (some 21, none, .mv (.tmp 5)), (some 22, none, .ixS 2 (.tmp 20) (.tmp 21)), (some 23, none, .ldA 2 (.tmp 22)), (some 24, none, .eqA true [(.int .i64), (.int .i64)] (.tmp 19) (.tmp 23))]) (.cond (.tmp 24) (.seq (.reg [(some 4, none, .mv (.const (.bool false)))]) .ret) .skip)))) (.reg [(some 25, none, .bi .add (.tmp 13) (.const (.int .i64 1))), (some 13, none, .mv (.tmp 25))]))
def slices_Equal_api_Span_api_SpanC_j2 : PC :=
 (.seq (.seq (.reg [(some 11, none, .mv (.tmp 0)), (some 12, none, .len (.tmp 11)), (some 13, none, .mv (.const (.int .i64 0)))]) (.block 0 (.loop (.seq (.reg [(some 14, none, .bi .lss (.tmp 13) (.tmp 12))]) (.seq (.cond (.tmp 14) .skip (.exit 0)) slices_Equal_api_Span_api_SpanC_j1))))) (.seq (.reg [(some 4, none, .mv (.const (.bool true)))]) .ret))
def slices_Equal_api_Span_api_SpanC : PC :=
 (.seq (.reg [(some 4, none, .mv (.const (.bool false)))]) (.seq (.seq (.reg [(some 6, none, .mv (.tmp 0)), (some 7, none, .len (.tmp 6)), (some 8, none, .mv (.tmp 1)), (some 9, none, .len (.tmp 8)), (some 10, none, .bi .neq (.tmp 7) (.tmp 9))]) (.cond (.tmp 10) (.seq (.reg [(some 4, none, .mv (.const (.bool false)))]) .ret) .skip)) slices_Equal_api_Span_api_SpanC_j2))
end Go.PE
namespace Go.PE
open Go
def Spn.cells (x : Spn) : List Value := [.int .i64 x.f, .int .i64 x.t]
def Spn.v (x : Spn) : Value := PE.ag x.cells
@[simp] theorem Spn.len (x : Spn) : x.cells.length = 2 := _root_.id rfl
@[simp] theorem Spn.dg1s (x : Spn) : x.cells.map dg1 = x.cells := _root_.id rfl
@[simp] theorem Spn.dgv (x : Spn) : dg x.v = x.v := _root_.id rfl
@[simp] theorem Spn.dg1v (x : Spn) : dg1 x.v = x.v := _root_.id rfl
@[simp] theorem Spn.dgTv (x : Spn) : dgT x.v = x.v := _root_.id rfl
@[simp] theorem Spn.cellsOf (x : Spn) : PE.cellsOf x.v = some x.cells := _root_.id rfl
@[simp] theorem Spn.lcv (x : Spn) : lc x.v = x.cells := _root_.id rfl
@[simp] theorem Spn.asAgv (x : Spn) : asAg x.v = some x.cells := _root_.id rfl
@[simp] theorem Spn.take2 (x : Spn) : x.cells.take 2 = x.cells := _root_.id rfl
@[simp] theorem Spn.drop2 (x : Spn) : x.cells.drop 2 = [] := _root_.id rfl
@[simp] theorem Spn.get0 (x : Spn) : x.cells[0]? = some (.int .i64 x.f) := _root_.id rfl
@[simp] theorem Spn.get1 (x : Spn) : x.cells[1]? = some (.int .i64 x.t) := _root_.id rfl
@[simp] theorem Spn.getE0 (x : Spn) (h : 0 < x.cells.length) : x.cells[0] = .int .i64 x.f := _root_.id rfl
@[simp] theorem Spn.getE1 (x : Spn) (h : 1 < x.cells.length) : x.cells[1] = .int .i64 x.t := _root_.id rfl
theorem Spn.ag (x : Spn) : PE.ag x.cells = x.v := rfl
theorem Spn.mk_v (f t : Int) : PE.ag [.int .i64 f, .int .i64 t] = (Spn.mk f t).v := rfl
def spEl : El Spn := ⟨Spn.cells, Spn.v, 2, fun _ => rfl, Spn.len, Spn.dg1s⟩
theorem elem_spn {l : List Spn} {n : Int} (h0 : 0 ≤ n) (hn : n.toNat < l.length) : elemAt (l.map Spn.v) n 2 = some (dptr 0 l[n.toNat].cells) := elemAt_map h0 hn rfl (by simp)
def Aut.cells (a : Aut) : List Value := [.bool a.none, .int .u64 a.zones, .int .u64 a.lines, .int .u64 a.days, .int .i64 a.fr, .int .i64 a.to, deep (a.daily.map Spn.v), .string a.holder]
def Aut.v (a : Aut) : Value := PE.ag a.cells
@[simp] theorem Aut.len (x : Aut) : x.cells.length = 8 := _root_.id rfl
@[simp] theorem Aut.dg1s (x : Aut) : x.cells.map dg1 = x.cells := _root_.id rfl
@[simp] theorem Aut.dgv (x : Aut) : dg x.v = x.v := _root_.id rfl
@[simp] theorem Aut.dg1v (x : Aut) : dg1 x.v = x.v := _root_.id rfl
@[simp] theorem Aut.dgTv (x : Aut) : dgT x.v = x.v := _root_.id rfl
@[simp] theorem Aut.cellsOf (x : Aut) : PE.cellsOf x.v = some x.cells := _root_.id rfl
@[simp] theorem Aut.lcv (x : Aut) : lc x.v = x.cells := _root_.id rfl
@[simp] theorem Aut.asAgv (x : Aut) : asAg x.v = some x.cells := _root_.id rfl
@[simp] theorem Aut.take8 (x : Aut) : x.cells.take 8 = x.cells := _root_.id rfl
@[simp] theorem Aut.drop8 (x : Aut) : x.cells.drop 8 = [] := _root_.id rfl
@[simp] theorem Aut.get0 (x : Aut) : x.cells[0]? = some (.bool x.none) := _root_.id rfl
@[simp] theorem Aut.get1 (x : Aut) : x.cells[1]? = some (.int .u64 x.zones) := _root_.id rfl
@[simp] theorem Aut.get2 (x : Aut) : x.cells[2]? = some (.int .u64 x.lines) := _root_.id rfl
@[simp] theorem Aut.get3 (x : Aut) : x.cells[3]? = some (.int .u64 x.days) := _root_.id rfl
@[simp] theorem Aut.get4 (x : Aut) : x.cells[4]? = some (.int .i64 x.fr) := _root_.id rfl
@[simp] theorem Aut.get5 (x : Aut) : x.cells[5]? = some (.int .i64 x.to) := _root_.id rfl
@[simp] theorem Aut.get6 (x : Aut) : x.cells[6]? = some (deep (x.daily.map Spn.v)) := _root_.id rfl
@[simp] theorem Aut.get7 (x : Aut) : x.cells[7]? = some (.string x.holder) := _root_.id rfl
@[simp] theorem Aut.getE0 (x : Aut) (h : 0 < x.cells.length) : x.cells[0] = .bool x.none := _root_.id rfl
@[simp] theorem Aut.getE1 (x : Aut) (h : 1 < x.cells.length) : x.cells[1] = .int .u64 x.zones := _root_.id rfl
@[simp] theorem Aut.getE2 (x : Aut) (h : 2 < x.cells.length) : x.cells[2] = .int .u64 x.lines := _root_.id rfl
@[simp] theorem Aut.getE3 (x : Aut) (h : 3 < x.cells.length) : x.cells[3] = .int .u64 x.days := _root_.id rfl
@[simp] theorem Aut.getE4 (x : Aut) (h : 4 < x.cells.length) : x.cells[4] = .int .i64 x.fr := _root_.id rfl
@[simp] theorem Aut.getE5 (x : Aut) (h : 5 < x.cells.length) : x.cells[5] = .int .i64 x.to := _root_.id rfl
@[simp] theorem Aut.getE6 (x : Aut) (h : 6 < x.cells.length) : x.cells[6] = deep (x.daily.map Spn.v) := _root_.id rfl
@[simp] theorem Aut.getE7 (x : Aut) (h : 7 < x.cells.length) : x.cells[7] = .string x.holder := _root_.id rfl
theorem Aut.ag (x : Aut) : PE.ag x.cells = x.v := rfl
def CommonOK (P : Program) (f tS : Nat) : Prop := ∀ (a b : List Spn), a.length ≤ 1000000 → b.length ≤ 1000000 → ∀ (H : Nat → Option (List Value)) (nx : Nat), PCalls P f [deep (a.map Spn.v), deep (b.map Spn.v)] H nx (fun _ => False) (fun r H' _ => r = lin tS ((commonL a b).map Spn.v) ∧ H' = H)
theorem flat_le {α : Type} (f : α → List Spn) (n : Nat) : ∀ l : List α, (∀ x ∈ l, (f x).length ≤ n) → (l.flatMap f).length ≤ l.length * n
  | [], _ => by simp
  | x :: l, h => by
    have := flat_le f n l fun y hy => h y (by simp [hy])
    have := h x (by simp)
    simp only [List.flatMap_cons, List.length_append, List.length_cons, Nat.add_mul]; omega
theorem meet1_len (x y : Spn) : (meet1 x y).length ≤ 1 := by unfold meet1; split <;> simp
theorem common_len (a b : List Spn) : (commonL a b).length ≤ a.length * b.length := flat_le _ _ _ fun x _ => by
  have := flat_le (fun y => meet1 x y) 1 b fun y _ => meet1_len x y
  simpa using this
theorem common_ok {P : Program} {f tS : Nat} (hc : compFn P f = some (46, authority_commonC tS, [.t 4])) : CommonOK P f tS := by
  intro a b ha hb H nx
  refine PCalls_of hc (by simp) fun hw => ?_
  have hmx : (maxLen : Int) = 9223372036854775807 := rfl
  simp [authority_commonC]
  refine wpc_loop _ _ _ _ _ _ (fun s => ∃ i : Nat, i ≤ a.length ∧ s.t 0 = deep (a.map Spn.v) ∧ s.t 1 = deep (b.map Spn.v) ∧ s.t 5 = lin tS ((commonL (a.take i) b).map Spn.v) ∧ s.t 11 = deep (a.map Spn.v) ∧ s.t 12 = .int .i64 a.length ∧ s.t 13 = .int .i64 i ∧ nx ≤ s.nx ∧ Own nx H s.H)
    (fun s => match s.t 13 with | .int _ i => (a.length - i).toNat | _ => 0) _ ⟨0, by omega, by simp, by simp, by simp [commonL], by simp, by simp, by simp, by simp, by simp⟩ ?_
  rintro ⟨T, H', nx'⟩ ⟨i, hi, e0, e1, e5, e11, e12, e13, hnx, hown⟩
  simp only at e0 e1 e5 e11 e12 e13 hnx hown
  simp [e12, e13]
  refine wB_of (fun hlt => ?_) (fun hlt => ?_)
  · simp at hlt
    have he := elem_spn (l := a) (n := (i : Int)) (by omega) (by simpa using hlt)
    simp at he
    have hw1 := w64 (x := (i : Int) + 1) (by omega) (by omega)
    have htk : commonL (a.take (i + 1)) b = commonL (a.take i) b ++ b.flatMap fun y => meet1 a[i] y := by
      unfold commonL
      rw [List.take_succ_eq_append_getElem hlt, List.flatMap_append]; simp
    have hcl : (commonL (a.take i) b).length ≤ 1000000 * 1000000 := by
      have := common_len (a.take i) b
      have h2 : (a.take i).length ≤ 1000000 := by simp; omega
      exact Nat.le_trans this (Nat.mul_le_mul h2 hb)
    generalize a[i] = x at he htk
    simp [authority_commonC_j2, e0, e1, e5, e11, e13, he, hnx, Spn.ag]
    refine wpc_loop _ _ _ _ _ _ (fun s => ∃ j : Nat, j ≤ b.length ∧ s.t 0 = deep (a.map Spn.v) ∧ s.t 1 = deep (b.map Spn.v) ∧ s.t 5 = lin tS ((commonL (a.take i) b ++ (b.take j).flatMap fun y => meet1 x y).map Spn.v) ∧ s.t 7 = ptr nx' 0 ∧ s.t 11 = deep (a.map Spn.v) ∧ s.t 12 = .int .i64 a.length ∧ s.t 13 = .int .i64 i ∧
        s.t 17 = deep (b.map Spn.v) ∧ s.t 18 = .int .i64 b.length ∧ s.t 19 = .int .i64 j ∧ nx' < s.nx ∧ Own nx H s.H ∧ s.H nx' = some x.cells)
      (fun s => match s.t 19 with | .int _ j => (b.length - j).toNat | _ => 0) _ ⟨0, by omega, by simp [e0], by simp [e1], by simp [e5], by simp, by simp [e11], by simp [e12], by simp [e13], by simp, by simp, by simp, by simp, by simp [hown, hnx], by simp⟩ ?_
    rintro ⟨t, H2, n2⟩ ⟨j, hj, f0, f1, f5, f7, f11, f12, f13, f17, f18, f19, hn2, hown2, hHx⟩
    simp only at f0 f1 f5 f7 f11 f12 f13 f17 f18 f19 hn2 hown2 hHx
    simp [f18, f19]
    refine wB_of (fun hlt2 => ?_) (fun hlt2 => ?_)
    · simp at hlt2
      have he2 := elem_spn (l := b) (n := (j : Int)) (by omega) (by simpa using hlt2)
      simp at he2
      have hw2 := w64 (x := (j : Int) + 1) (by omega) (by omega)
      have hfl : ((b.take j).flatMap fun y => meet1 x y).length ≤ 1000000 := by
        have := flat_le (fun y => meet1 x y) 1 (b.take j) fun y _ => meet1_len x y
        simp at this ⊢; omega
      have htk2 : ((b.take (j + 1)).flatMap fun y => meet1 x y) = ((b.take j).flatMap fun y => meet1 x y) ++ meet1 x b[j] := by
        rw [List.take_succ_eq_append_getElem hlt2, List.flatMap_append]; simp
      generalize b[j] = y at he2 htk2
      generalize ((b.take j).flatMap fun y => meet1 x y) = g at f5 hfl htk2
      have k1 : ¬ nx' = n2 := by omega
      have k2 : ¬ nx' = n2 + 1 := by omega
      have k3 : ¬ n2 = n2 + 1 := by omega
      have hm1 : ∀ u v : Int, (if u < v then v else u) = max u v := fun u v => by split <;> omega
      have hm2 : ∀ u v : Int, (if v < u then v else u) = min u v := fun u v => by split <;> omega
      simp [authority_commonC_j1, f5, f7, f17, f19, he2, hHx, k1, k2, k3, show nx ≤ n2 by omega, show nx ≤ n2 + 1 by omega, hm1, hm2, Spn.mk_v]
      have hsz : ∀ (l m : List Spn) (y : Value), ((∃ a_1, a_1 ∈ l ∧ a_1.v = y) ∨ ∃ a, a ∈ m ∧ a.v = y) → (lc y).length = 2 := fun l m y hy => by
        rcases hy with ⟨z, _, rfl⟩ | ⟨z, _, rfl⟩ <;> rfl
      refine wB_of (fun hc1 => ?_) (fun hc1 => ?_)
      · simp at hc1
        have hme : meet1 x y = [⟨max x.f y.f, min x.t y.t⟩] := by unfold meet1; rw [if_pos (by omega)]
        refine ⟨hsz _ _, by unfold maxLen; omega, by omega, ?_⟩
        rw [hw2]
        exact kLoop_nrm _ _ _ _ (Sub_refl _ _) ⟨j + 1, by omega, by simp [f0], by simp [f1], by simp [htk2, hme, Spn.ag], by simp [f7], by simp [f11], by simp [f12], by simp [f13], by simp [f17], by simp [f18], by simp, by simp; omega, by simp [hown2, show nx ≤ n2 by omega, show nx ≤ n2 + 1 by omega], by simp [hHx, k1, k2]⟩ (by simp; omega)
      · simp at hc1
        have hme : meet1 x y = [] := by unfold meet1; rw [if_neg (by omega)]
        rw [hw2]
        exact kLoop_nrm _ _ _ _ (Sub_refl _ _) ⟨j + 1, by omega, by simp [f0], by simp [f1], by simp [htk2, hme, f5], by simp [f7], by simp [f11], by simp [f12], by simp [f13], by simp [f17], by simp [f18], by simp, by simp; omega, by simp [hown2, show nx ≤ n2 by omega, show nx ≤ n2 + 1 by omega], by simp [hHx, k1, k2]⟩ (by simp; omega)
    · simp at hlt2
      have hja : j = b.length := by omega
      subst hja
      rw [List.take_length] at f5
      simp [f13, hw1]
      exact kLoop_nrm _ _ _ _ (Sub_refl _ _) ⟨i + 1, by omega, by simp [f0], by simp [f1], by simp [f5, htk], by simp [f11], by simp [f12], by simp, by simp; omega, by simpa using hown2⟩ (by simp; omega)
  · simp at hlt
    have hia : i = a.length := by omega
    subst hia
    rw [List.take_length] at e5
    simp [e5]
    exact wF_own hw hown ⟨rfl, rfl⟩
/-- the minutes of a day that an authority permits -/
def dayL (a : Aut) (d : Int) : List Spn := if d < a.fr / 1440 ∨ a.to / 1440 < d ∨ tb a.days (d % 7).toNat = false then [] else commonL a.daily [⟨max (a.fr - d * 1440) 0, min (a.to - d * 1440) 1439⟩]
theorem dayL_inS {a : Aut} {d k : Int} (hd : ∀ j, inS a.daily j → 0 ≤ j ∧ j < 1440) : inS (dayL a d) k ↔ a.S (d * 1440 + k) ∧ 0 ≤ k ∧ k < 1440 := by
  have hw : 0 ≤ k → k < 1440 → wk (d * 1440 + k) = (d % 7).toNat := fun h0 h1 => by unfold wk; congr 2; omega
  have hk : 0 ≤ k → k < 1440 → (d * 1440 + k) % 1440 = k := fun h0 h1 => by omega
  unfold dayL Aut.S Tm
  split
  · rename_i h
    constructor
    · intro h; exact absurd h (inS_nil _)
    · rintro ⟨⟨h1, h2, h3, h4⟩, h5, h6⟩
      rw [hw h5 h6] at h3
      rcases h with h | h | h
      · omega
      · omega
      · rw [h] at h3; cases h3
  · rename_i h
    rw [inS_common, inS_cons]
    have hn := inS_nil k
    simp only [not_or, Bool.not_eq_false] at h
    constructor
    · rintro ⟨h1, h2 | h2⟩
      · have := hd k h1
        simp only at h2
        refine ⟨⟨by omega, by omega, by rw [hw this.1 this.2]; exact h.2.2, by rw [hk this.1 this.2]; exact h1⟩, this.1, this.2⟩
      · exact absurd h2 hn
    · rintro ⟨⟨h1, h2, h3, h4⟩, h5, h6⟩
      rw [hk h5 h6] at h4
      exact ⟨h4, .inl ⟨by simp only; omega, by simp only; omega⟩⟩
theorem dayL_canon {a : Aut} {d : Int} (h : canon (-1) a.daily) : canon (-1) (dayL a d) := by
  unfold dayL
  split
  · trivial
  · exact canon_common1 _ h
def DayOK (P : Program) (f tS : Nat) : Prop := ∀ (a : Aut) (d : Int), a.daily.length ≤ 1000000 → isU64 a.days → 0 ≤ a.fr → a.fr ≤ 67108864 → 0 ≤ a.to → a.to ≤ 67108864 → -100000 ≤ d → d ≤ 100000 → ∀ (H : Nat → Option (List Value)) (nx : Nat),
    PCalls P f [a.v, .int .i64 d] H nx (fun _ => False) (fun r H' _ => r = lin tS ((dayL a d).map Spn.v) ∧ H' = H)
theorem day_ok {P : Program} {f tS co : Nat} (hc : compFn P f = some (43, authority_DayC tS co, [.t 4])) (hco : CommonOK P co tS) : DayOK P f tS := by
  intro a d hal hdu hf0 hf1 ht0 ht1 hd0 hd1 H nx
  refine PCalls_of hc (by simp) fun hw => ?_
  have hmx : (maxLen : Int) = 9223372036854775807 := rfl
  have q1 : a.fr.tdiv 1440 = a.fr / 1440 := Int.tdiv_eq_ediv_of_nonneg hf0
  have q2 : a.to.tdiv 1440 = a.to / 1440 := Int.tdiv_eq_ediv_of_nonneg ht0
  have hw1 := w64 (x := a.fr / 1440) (by omega) (by omega)
  have hw2 := w64 (x := a.to / 1440) (by omega) (by omega)
  by_cases h1 : d < a.fr / 1440
  · simp [authority_DayC, q1, q2, hw1, hw2, h1]
    exact wF_own hw (by simp) ⟨by simp [dayL, h1], rfl⟩
  by_cases h2 : a.to / 1440 < d
  · simp [authority_DayC, q1, q2, hw1, hw2, h1, h2]
    exact wF_own hw (by simp) ⟨by simp [dayL, h2], rfl⟩
  have h0 : 0 ≤ d := by omega
  have q3 : d.tmod 7 = d % 7 := Int.tmod_eq_emod_of_nonneg h0
  have q4 : min (d % 7).toNat 64 = (d % 7).toNat := by omega
  have q5 := shr_and1 hdu (d % 7).toNat
  have q6 : IntKind.u64.bits = 64 := rfl
  cases hb : tb a.days (d % 7).toNat with
  | false =>
    rw [hb] at q5
    simp [authority_DayC, q1, q2, hw1, hw2, h1, h2, q3, show 0 ≤ d % 7 by omega, q4, q5, q6]
    exact wF_own hw (by simp) ⟨by simp [dayL, hb], rfl⟩
  | true =>
    rw [hb] at q5
    have w1 := w64 (x := d * 1440) (by omega) (by omega)
    have w2 := w64 (x := a.fr - d * 1440) (by omega) (by omega)
    have w3 := w64 (x := a.to - d * 1440) (by omega) (by omega)
    have hm1 : ∀ u v : Int, (if u < v then v else u) = max u v := fun u v => by split <;> omega
    have hm2 : ∀ u v : Int, (if v < u then v else u) = min u v := fun u v => by split <;> omega
    simp [authority_DayC, authority_DayC_j1, q1, q2, hw1, hw2, h1, h2, q3, show 0 ≤ d % 7 by omega, q4, q5, q6, w1, w2, w3, hm1, hm2, Spn.mk_v]
    refine wCall_eq (Q := fun r => r = lin tS ((commonL a.daily [⟨max (a.fr - d * 1440) 0, min (a.to - d * 1440) 1439⟩]).map Spn.v)) (hco a.daily [⟨max (a.fr - d * 1440) 0, min (a.to - d * 1440) 1439⟩] hal (by simp) _ _) fun r n1 hr hn1 => ?_
    subst hr
    simp
    exact wF_own hw (by simp) ⟨by simp [dayL, h1, h2, hb], rfl⟩
end Go.PE
namespace Go.PE
open Go
open Go.Sort (PermIn SortedIn SWO)
/-- a row of a box is turned, blocks are laid behind -/
theorem left_row {P : Program} {G : Gh} {own : Nat → Option Pos} {k b nx : Nat} {H : Nat → Option (List Value)} {row row' : List Value} {cs cs' : Array Value} {e : TypeId} {w' : World} (hE : Entry P (fun j => j = k) H nx own G) (hk : H k = some row) (hb : G.be k = some b)
    (hh : G.w.heap[b]? = some (.cells cs e (0, 0))) (hh' : w'.heap[b]? = some (.cells cs' e (0, 0))) (ho : ∀ b', b' ≠ b → b' < G.w.heap.size → w'.heap[b']? = G.w.heap[b']?) (hsz : G.w.heap.size ≤ w'.heap.size)
    (hos : w'.os = G.w.os) (htp : w'.tape = G.w.tape) (hou : w'.output = G.w.output) (hs : cs'.size = row'.length) (hr : ∀ (i : Nat) v p, cs'[i]? = some v → row'[i]? = some p → v.oneCell' = true ∧ Rd G v p) (hl : ∀ (i : Nat) e xs, row'[i]? ≠ some (lin e xs)) :
    Left ⟨P, G, fun j => j = k, nx, 0, H⟩ own (upd H k (some row')) nx { G with w := w' } (.tuple #[]) (tup []) := by
  have hkn : k < nx := by
    rcases Nat.lt_or_ge k nx with h | h
    · exact h
    · have : H k = none := hE.heap.nxH k h
      rw [hk] at this; cases this
  have hbl := hE.heap.be_lt hb
  have hfr0 : G.fr b = 0 := hbl.2.2 (.inl rfl)
  have hext : Ext G { G with w := w' } := by
    refine ⟨Nat.le_refl _, fun ad _ hf u hu => ?_, fun b _ => Nat.le_refl _, fun k b hk _ => .inl hk, fun k hk _ => hk⟩
    have hlt := World.block_lt_of_cell? _ ad hu
    show w'.cell? ad = some u
    rw [World.cell?_of_block (ho _ (fun e => by rw [e, hfr0] at hf; omega) hlt)]; exact hu
  have hturn : ∀ b', b' < G.w.heap.size → (∀ k, G.be k ≠ some b') → w'.heap[b']? = G.w.heap[b']? ∧ G.fr b' = G.fr b' ∧ ∀ k, G.be k ≠ some b' := fun b' hlt hk' =>
    ⟨ho b' (fun e => hk' k (by rw [e]; exact hb)) hlt, rfl, hk'⟩
  refine ⟨⟨⟨fun j r hj => ?_, fun j hj => ?_, fun j hj => ?_, hE.heap.nx, Nat.le_refl _, hE.heap.inj, hE.heap.gl, hE.heap.ng, fun g pos hg => Nat.lt_of_lt_of_le (hE.heap.ol g pos hg) hsz⟩, fun _ _ => rfl, fun b' hb' hT' => ?_, hsz, hos, htp, hou, fun base j i e' xs hob hp => ?_, fun j hj hT' => ?_⟩, .tuple [] [] rfl (fun i v p hv => by simp at hv), fun e xs h => by simp [tup, lin] at h, fun i e xs h => by simp [comp, tup, undef, lin] at h⟩
  · by_cases hjk : j = k
    · subst hjk
      obtain rfl : row' = r := by simpa using hj
      exact ⟨b, e, cs', (0, 0), hb, hh', hs, fun i v p hv hp => ⟨(hr i v p hv hp).1, (hr i v p hv hp).2.mono hext⟩, fun _ => ⟨hfr0, rfl⟩, fun h => by have h : nx ≤ j := h; omega⟩
    · have hj' : H j = some r := by rw [← upd_ne H (some row') hjk]; exact hj
      obtain ⟨b₁, e₁, cs₁, fz₁, hb₁, hh₁, hs₁, hr₁, hf₁, hB₁⟩ := hE.heap.ob j r hj'
      have hne : b₁ ≠ b := fun e => hjk (hE.heap.inj j k b₁ hb₁ (by rw [e]; exact hb))
      exact ⟨b₁, e₁, cs₁, fz₁, hb₁, by show w'.heap[b₁]? = _; rw [ho b₁ hne (hE.heap.be_lt hb₁).2.1]; exact hh₁, hs₁, fun i v p hv hp => ⟨(hr₁ i v p hv hp).1, (hr₁ i v p hv hp).2.mono hext⟩, hf₁, fun h => by
        have h : nx ≤ j := h
        have : H j = none := hE.heap.nxH j h
        rw [hj'] at this; cases this⟩
  · by_cases hjk : j = k
    · subst hjk
      have hj : upd H j (some row') j = none := hj
      simp at hj
    · exact hE.heap.bn j (by show H j = none; rw [← upd_ne H (some row') hjk]; exact hj)
  · have hjk : j ≠ k := fun e => by have hj : nx ≤ j := hj; omega
    show upd H k (some row') j = none
    rw [upd_ne _ _ hjk]; exact hE.heap.nxH j hj
  · have hne : b' ≠ b := by
      rintro rfl
      exact hT' k hb rfl
    exact ⟨ho b' hne hb', rfl⟩
  · by_cases hjk : j = k
    · subst hjk
      have hp' : row'.getD i undef = lin e' xs := by simpa [pcell] using hp
      exact absurd (getD_some hp' (lin_ne_undef _ _)) (hl i e' xs)
    · have hp' : pcell H j i = lin e' xs := by
        have : pcell (upd H k (some row')) j i = lin e' xs := hp
        simp only [pcell, upd_ne H (some row') hjk] at this
        exact this
      have hb0 : base = 0 := by
        rcases hob with h | ⟨h | h, _⟩
        · exact h
        · exact absurd h hjk
        · have h : nx ≤ j := h
          have := hE.heap.nxH j h
          have hH : H j = none := this
          simp [pcell, hH, undef, lin] at hp'
      subst hb0
      have hrc : rcell { G with w := w' } j i = rcell G j i := by
        simp only [rcell]
        cases hbj : G.be j with
        | none => rfl
        | some b₁ =>
          have hne : b₁ ≠ b := fun e => hjk (hE.heap.inj j k b₁ hbj (by rw [e]; exact hb))
          simp only
          rw [World.cell?_of_block (a := ⟨b₁, i, none⟩) (ho b₁ hne (hE.heap.be_lt hbj).2.1)]
      rw [hrc]
      exact (hE.ctok j i e' xs hp').turn hturn (fun _ hg => hg)
  · exact upd_ne _ _ hT'
/-! the sort -/
abbrev SpnB : Type := { s : Spn // 0 ≤ s.f ∧ s.f < 1152921504606846976 }
instance : Inhabited SpnB := ⟨⟨⟨0, 0⟩, by decide⟩⟩
def encB (x : SpnB) : List Value := x.1.cells
def fx (x : SpnB) : Int := x.1.f
def cfB (x y : SpnB) : Int := fx x - fx y
theorem ltB (x y : SpnB) : Go.Proofs.ltOf cfB x y = decide (fx x < fx y) := by
  unfold Go.Proofs.ltOf cfB
  generalize fx x = u
  generalize fx y = v
  by_cases h : u < v
  · simp [h]; omega
  · simp [h]; omega
theorem swoB : SWO (Go.Proofs.ltOf cfB) where
  irrefl x := by rw [ltB]; simp
  trans x y z h1 h2 := by
    rw [ltB] at *
    generalize fx x = u at *
    generalize fx y = v at *
    generalize fx z = w at *
    simp at *; omega
  ntrans x y z h1 h2 := by
    rw [ltB] at *
    generalize fx x = u at *
    generalize fx y = v at *
    generalize fx z = w at *
    simp at *; omega
def SortOK (P : Program) (f g : Nat) : Prop := ∀ (l : List Spn) (k : Nat) (H : Nat → Option (List Value)) (nx : Nat), (∀ s ∈ l, 0 ≤ s.f ∧ s.f < 1152921504606846976) → l.length < 4611686018427387904 → H k = some (l.flatMap Spn.cells) →
    PCalls P f [slc k 0 l.length l.length, clo g [] []] H nx (fun j => j = k) (fun p H' nx' => p = tup [] ∧ nx' = nx ∧ ∃ l' : List Spn, l'.Perm l ∧ l'.Pairwise (fun a b => a.f ≤ b.f) ∧ H' = upd H k (some (l'.flatMap Spn.cells)))
theorem row_spn (l : List Spn) (t : Nat) (h : t < l.length * 2) : (l.flatMap Spn.cells)[t]? = some (if t % 2 = 0 then .int .i64 (l[t / 2]'(by omega)).f else .int .i64 (l[t / 2]'(by omega)).t) := by
  have := fl_get Spn.cells 2 Spn.len [] (l := l) (i := t / 2) (o := t % 2) (by omega) (by omega)
  rw [List.append_nil, show t / 2 * 2 + t % 2 = t by omega] at this
  rw [this]
  have h2 : t % 2 = 0 ∨ t % 2 = 1 := by omega
  rcases h2 with h2 | h2 <;> rw [h2] <;> rfl
theorem arr_get! {α : Type} [Inhabited α] (l : List α) (i : Nat) (h : i < l.length) : l.toArray[i]! = l[i] := by
  rw [getElem!_pos l.toArray i (by simpa using h)]; simp
theorem flat_get (l : List SpnB) (t : Nat) (h : t < l.length * 2) : ((l.map (·.1)).flatMap Spn.cells)[t]? = some ((Go.Sort.flatK encB 2 l.toArray)[t]!) := by
  rw [Go.Sort.get_flatK encB 2 l.toArray t (by simpa using h), row_spn _ _ (by simpa using h), arr_get! l (t / 2) (by omega)]
  have h2 : t % 2 = 0 ∨ t % 2 = 1 := by omega
  rcases h2 with h2 | h2 <;> rw [h2] <;> simp [encB, Spn.cells]
theorem sort_pc {P : Program} {ρ : Go.Shelf.Ren} {g : Nat} (L : Go.Proofs.SlLaysF0.n6 P ρ) (aE : ∀ w, (isAgg (ρ.t 24)).run P w = .ok true w) (zE : ∀ w, (Go.sizeOf (ρ.t 24)).run P w = .ok 2 w) (eg : ∀ args w, (callFunc g args).run P w = .ok (.enter g args) w)
    (hcmp : ∀ (x y : Spn) (W : World), Calls P g #[.agg x.cells.toArray, .agg y.cells.toArray] W fun e w' => e = .returned (.int .i64 (IntKind.i64.wrap (x.f - y.f))) ∧ ∃ q os', w' = Go.Sort.grow (W.drewN q) os') : SortOK P (ρ.f 6) g := by
  intro l k H nx hb hlen hk G own vs hE hvl hrd
  match vs, hvl with
  | [v1, v2], _ =>
    have h1 := hrd 0 v1 _ rfl rfl
    have h2 := hrd 1 v2 _ rfl rfl
    obtain ⟨b, rfl, hnc, hkn, hbe⟩ := slc_rd h1
    obtain ⟨us, ws, rfl, hu, hw, _, _⟩ := clo_rd h2
    obtain rfl : us = [] := List.length_eq_zero_iff.1 hu
    obtain rfl : ws = [] := List.length_eq_zero_iff.1 hw
    obtain ⟨b', e', cs, fz, hb', hh, hsize, hcells, hW, hBB⟩ := hE.heap.ob k _ hk
    obtain ⟨hfr, rfl⟩ := hW (.inl rfl)
    have hbb : b' = b := by
      rcases hbe with hbe | hbe
      · rw [hb'] at hbe; exact Option.some.inj hbe
      · rw [hb'] at hbe; cases hbe
    subst hbb
    obtain ⟨d, hd⟩ : ∃ d : List SpnB, d = l.pmap Subtype.mk hb := ⟨_, rfl⟩
    have hdl : d.map (·.1) = l := by rw [hd]; simp [List.map_pmap]
    have hdn : d.length = l.length := by rw [hd]; simp
    have hcs : ∀ t, t < d.length * 2 → cs[t]? = some ((Go.Sort.flatK encB 2 d.toArray)[t]!) := fun t ht => by
      have h3 := flat_get d t ht
      rw [hdl] at h3
      have hlt : t < cs.size := by
        have := (List.getElem?_eq_some_iff.1 h3).1
        rw [hsize]; exact this
      have h4 := hcells t cs[t] _ (Array.getElem?_eq_getElem hlt) h3
      have hpl : plain ((Go.Sort.flatK encB 2 d.toArray)[t]!) = true := by
        rw [Go.Sort.get_flatK encB 2 d.toArray t (by simpa using ht), arr_get! d (t / 2) (by omega)]
        have h2 : t % 2 = 0 ∨ t % 2 = 1 := by omega
        rcases h2 with h2 | h2 <;> rw [h2] <;> rfl
      rw [Array.getElem?_eq_getElem hlt, plain_eq h4.2 hpl]
    have hsz2 : cs.size = d.length * 2 := by rw [hsize, fl_len Spn.cells 2 Spn.len, hdn]
    have hH : Go.Sort.HoldsK encB 2 G.w b' 0 d.toArray := by
      intro j hj
      have hj' : j < d.length * 2 := by simpa using hj
      constructor
      · rw [Nat.zero_add, cell_of_row _ _ _ _ _ _ hh]
        exact hcs j hj'
      · unfold World.frozen?
        simp [hh]
    have hcon := Go.Proofs.AnyQ.slices_SortFunc L 2 aE zE encB (fun x => Spn.len x.1) (fun x v hv => by simp [encB, Spn.cells] at hv; rcases hv with rfl | rfl <;> rfl) cfB swoB g #[] b' 0 l.length d.toArray G.w eg
      (fun m os dk _ x y => (hcmp x.1 y.1 _).mono fun e w' he => by
        obtain ⟨rfl, q, os', rfl⟩ := he
        refine ⟨?_, q, os', rfl⟩
        have hx := x.2; have hy := y.2
        show Ending.returned _ = Ending.returned _
        rw [w64 (x := x.1.f - y.1.f) (by omega) (by omega)]; rfl) hH (by have := (hE.heap.be_lt hb').2.1; exact this) (by simpa [hdn] using hlen)
    rw [show d.toArray.size = l.length by simp [hdn]] at hcon
    refine hcon.mono fun e w' hp => ?_
    obtain ⟨rfl, d', n, os, hperm, hsort, rfl⟩ := hp
    obtain ⟨hps, _, hpp⟩ := hperm
    have hds : d'.size = l.length := by rw [hps]; simp [hdn]
    rw [show l.length = d'.size from hds.symm, Array.extract_size] at hpp
    rw [show d'.size = d.toArray.size by simp [hdn, hds], Array.extract_size] at hpp
    have hdt : d'.toList.length = l.length := by simp [hds]
    have hpl : (d'.toList.map (·.1)).Perm l := by
      have := hpp.map (·.1)
      rw [show (d.toArray.toList.map (·.1)) = l from hdl] at this
      exact this
    have hsrt : (d'.toList.map (·.1)).Pairwise (fun a b => a.f ≤ b.f) := by
      rw [List.pairwise_map, List.pairwise_iff_getElem]
      intro i j hi hj hij
      have h5 := hsort i j (Nat.zero_le _) hij (by rw [← hdt]; exact hj)
      rw [ltB, getElem!_pos d' i (by simpa using hi), getElem!_pos d' j (by simpa using hj)] at h5
      simp only [decide_eq_false_iff_not] at h5
      have h6 : ¬ fx d'.toList[j] < fx d'.toList[i] := by simpa using h5
      show fx _ ≤ fx _
      omega
    have hrow : ∀ t, t < l.length * 2 → ((d'.toList.map (·.1)).flatMap Spn.cells)[t]? = some ((Go.Sort.flatK encB 2 d')[t]!) := fun t ht => by
      have := flat_get d'.toList t (by rw [hdt]; exact ht)
      simpa using this
    have hpc : (Go.Sort.putCells id 0 (Go.Sort.flatK encB 2 d') cs).size = cs.size := by simp [Go.Sort.putCells]
    refine ⟨.tuple #[], tup [], { G with w := Go.Proofs.sortWorldK encB 2 G.w b' 0 n d' os }, own, upd H k (some ((d'.toList.map (·.1)).flatMap Spn.cells)), nx, rfl, rfl, left_row hE hk hb' hh (cs' := Go.Sort.putCells id 0 (Go.Sort.flatK encB 2 d') cs) ?_ ?_ ?_ rfl rfl rfl ?_ ?_ ?_, rfl, rfl, _, hpl, hsrt, rfl⟩
    · show ((G.w.heap.modify b' _) ++ os)[b']? = _
      rw [Array.getElem?_append_left (by simpa using (hE.heap.be_lt hb').2.1), Array.getElem?_modify, if_pos rfl, hh]
      rfl
    · intro c hne hlt
      show ((G.w.heap.modify b' _) ++ os)[c]? = _
      rw [Array.getElem?_append_left (by simpa using hlt), Array.getElem?_modify, if_neg (Ne.symm hne)]
    · show _ ≤ ((G.w.heap.modify b' _) ++ os).size
      simp
    · rw [hpc, hsz2, hdn, fl_len Spn.cells 2 Spn.len]; simp [hds]
    · intro i v p hv hp
      have hi : i < l.length * 2 := by
        have := (Array.getElem?_eq_some_iff.1 hv).1
        rw [hpc, hsz2, hdn] at this; exact this
      rw [hrow i hi] at hp
      obtain rfl := Option.some.inj hp
      have hv2 : v = (Go.Sort.flatK encB 2 d')[i]! := by
        unfold Go.Sort.putCells at hv
        rw [Array.getElem?_mapIdx] at hv
        obtain ⟨x, _, hx⟩ := Option.map_eq_some_iff.1 hv
        rw [if_pos ⟨Nat.zero_le _, by rw [Go.Sort.size_flatK, hds]; omega⟩] at hx
        rw [← hx]; rfl
      rw [hv2]
      have hsc : PE.scal ((Go.Sort.flatK encB 2 d')[i]!) = true ∧ ((Go.Sort.flatK encB 2 d')[i]!).oneCell' = true := by
        rw [Go.Sort.get_flatK encB 2 d' i (by rw [hds]; exact hi), getElem!_pos d' (i / 2) (by rw [hds]; omega)]
        have h2 : i % 2 = 0 ∨ i % 2 = 1 := by omega
        rcases h2 with h2 | h2 <;> rw [h2] <;> exact ⟨rfl, rfl⟩
      exact ⟨hsc.2, .scal _ hsc.1⟩
    · intro i e2 xs hp
      have hi : i < l.length * 2 := by
        have := (List.getElem?_eq_some_iff.1 hp).1
        rw [fl_len Spn.cells 2 Spn.len] at this
        simpa [hds] using this
      rw [hrow i hi, Go.Sort.get_flatK encB 2 d' i (by rw [hds]; exact hi), getElem!_pos d' (i / 2) (by rw [hds]; omega)] at hp
      have h2 : i % 2 = 0 ∨ i % 2 = 1 := by omega
      rcases h2 with h2 | h2 <;> rw [h2] at hp <;> simp [encB, Spn.cells, lin] at hp
end Go.PE
namespace Go.PE
open Go
theorem rowNoLin_dg {row : List Value} (h : row.map dg1 = row) : rowNoLin row := fun i e xs he => by
  have hi : (row.map dg1).getD i undef = lin e xs := by rw [h]; exact he
  rw [List.getD_eq_getElem?_getD, List.getElem?_map] at hi
  cases hr : row[i]? with
  | none => rw [hr] at hi; simp [undef, lin] at hi
  | some v => rw [hr] at hi; exact dg1_ne_lin v e xs (by simpa using hi)
theorem wAppB_base {T : Nat → Prop} {n0 n1 : Nat} {v : Value} {src : Option (Nat × List Value)} {size bytes : Nat} {zero : List Value} {d : Option Nat} {s : PS} {K : PS → Prop} (h : n0 ≤ n1) (hw : wAppB T n1 v src size bytes zero d s K) : wAppB T n0 v src size bytes zero d s K := by
  obtain ⟨m, cells, e, hw⟩ := hw
  refine ⟨m, cells, e, hw.imp id ?_⟩
  rintro ⟨k, off, n, cap, row, a1, a2, a3, a4, a5, a6⟩
  exact ⟨k, off, n, cap, row, a1, a2, a3, a4, a5.imp id (fun h5 => by omega), a6⟩
def okS (l : List Spn) : Prop := ∀ s ∈ l, 0 ≤ s.f ∧ s.f ≤ s.t ∧ s.t < 1152921504606846976
def MergedOK (P : Program) (f : Nat) : Prop := ∀ (l : List Spn), okS l → l.length ≤ 1000000 → ∀ (H : Nat → Option (List Value)) (nx : Nat),
    PCalls P f [deep (l.map Spn.v)] H nx (fun _ => False) (fun r H' nx' => ∃ l' : List Spn, canon (-1) l' ∧ (∀ k, inS l' k ↔ inS l k) ∧ l'.length ≤ l.length ∧ Bx spEl nx H H' nx' r l')
theorem spn_cut (l : List Spn) (rest : List Value) {i : Nat} (hi : i < l.length) : ((l.flatMap Spn.cells ++ rest).drop (i * 2)).take 2 = l[i].cells := by
  have := fl_cut Spn.cells 2 Spn.len rest (i := i) (o := 0) (n := 2) hi (by omega)
  simpa using this
theorem mrg_ix {out : List Spn} {o : List Spn} {x : Spn} (h : out = o ++ [x]) (rest : List Value) : (out.flatMap Spn.cells ++ rest)[(out.length - 1) * 2 + 1]? = some (.int .i64 x.t) := by
  subst h
  have := fl_get Spn.cells 2 Spn.len rest (l := o ++ [x]) (i := (o ++ [x]).length - 1) (o := 1) (by simp) (by omega)
  rw [this]
  simp
section
variable {P : Program} {tS n0 : Nat}
/-- one step of the loop -/
theorem mrg_j1 {T : Nat → Value} {H Hs : Nat → Option (List Value)} {nx n1 k i : Nat} {l out : List Spn} {v : Value} {Q : Ex → PS → Prop} (h0 : n0 ≤ n1) (hk : k < n1) (hi : i < l.length) (hlen : l.length ≤ 1000000) (hok : okS l) (hsort : l.Pairwise (fun a b => a.f ≤ b.f))
    (e4 : T 4 = v) (e16 : T 16 = slc k 0 l.length l.length) (e18 : T 18 = .int .i64 i) (hHk : Hs k = some (l.flatMap Spn.cells)) (hB : Bx spEl n1 Hs H nx v out) (hM : Mrg (-1) (l.take i) out) (hol : out.length ≤ i)
    (hK : ∀ t' H' n' v' out', (∀ u, u ∈ [16, 17] → t' u = T u) → t' 4 = v' → t' 18 = .int .i64 (i + 1 : Nat) → Bx spEl n1 Hs H' n' v' out' → Mrg (-1) (l.take (i + 1)) out' → out'.length ≤ i + 1 → Q .nrm ⟨t', H', n'⟩) :
    wpc (PCalls P) P (fun _ => False) n0 (authority_merged_BC_j1 tS) Q ⟨T, H, nx⟩ := by
  have hmx : (maxLen : Int) = 9223372036854775807 := rfl
  have hn1 := hB.le
  have hHk2 : H k = some (l.flatMap Spn.cells) := (hB.own k hk).trans hHk
  have hcut := spn_cut l [] hi
  rw [List.append_nil] at hcut
  have hfl := fl_len Spn.cells 2 Spn.len (l := l)
  have hsok := hok l[i] (List.getElem_mem hi)
  have htk : l.take (i + 1) = l.take i ++ [l[i]] := List.take_succ_eq_append_getElem hi
  have hle : ∀ z ∈ l.take i, z.f ≤ l[i].f := fun z hz => by
    obtain ⟨j, hj, rfl⟩ := List.getElem_of_mem hz
    rw [List.getElem_take]
    have hj' : j < i := by simp at hj; omega
    exact List.pairwise_iff_getElem.1 hsort j i (by omega) hi hj'
  generalize l[i] = s at hcut hsok htk hle
  have k1 : ¬ k = nx := by omega
  have hlv := hB.len
  have hw1 := w64 (x := (i : Int) + 1) (by omega) (by omega)
  have hel : elemV (slc k 0 l.length l.length) (i : Int) 2 = some (ptr k (i * 2)) := by simp [elemV, hi]
  have hdg : List.map dg1 (l.flatMap Spn.cells) = l.flatMap Spn.cells := El.dgs (E := spEl) l
  have hmin : min 2 (l.length * 2 - i * 2) = 2 := by omega
  have hown2 : Own n1 Hs (upd H nx (some s.cells)) := by rw [own_upd hn1]; exact hB.own
  have hB2 : Bx spEl n1 Hs (upd H nx (some s.cells)) (nx + 1) v out := by
    obtain ⟨b1, b2, b3⟩ := hB
    refine ⟨hown2, by omega, b3.imp id ?_⟩
    rintro ⟨k2, cap, rest, a1, a2, a3, a4⟩
    exact ⟨k2, cap, rest, a1, a2, by omega, by rw [upd_ne _ _ (by omega)]; exact a4⟩
  rcases List.eq_nil_or_concat out with rfl | ⟨o, x, hox⟩
  · simp [authority_merged_BC_j1, e4, e16, e18, hi, hHk2, hfl, hcut, show i * 2 + 2 ≤ l.length * 2 by omega, k1, show n0 ≤ nx by omega, hlv, Spn.ag, hmin, hdg]
    refine wAppB_base h0 (Bx.app (E := spEl) (bytes := 16) (zero := [.int .i64 0, .int .i64 0]) (l := [s]) (m := []) hB2 rfl rfl (by simp [maxLen]) (by simp) fun v' H3 nx3 hB3 => ?_)
    simp [e18, hw1]
    exact hK _ _ _ v' [s] (fun u hu => by simp at hu; rcases hu with rfl | rfl <;> rfl) (by simp) (by simp) (by simpa using hB3) (by
      have h3 : l.take i = [] := by
        cases hl : l.take i with
        | nil => rfl
        | cons z r =>
          have := (hM.s z.f).2 (by rw [hl]; exact ⟨z, by simp, Int.le_refl _, (hok z (List.mem_of_mem_take (by rw [hl]; simp : z ∈ l.take i))).2.1⟩)
          exact absurd this (inS_nil _)
      rw [htk, h3]; exact Mrg.one (by omega) hsok.2.1) (by simp)
  · rw [List.concat_eq_append] at hox
    have hpos : 0 < out.length := by rw [hox]; simp
    obtain ⟨k2, cap, rest, rfl, a2, a3, a4, a5, a6, a7⟩ := hB2.at hpos
    have hix := mrg_ix hox rest
    have a4' : H k2 = some (out.flatMap Spn.cells ++ rest) := by
      by_cases e : k2 = nx
      · exfalso
        obtain ⟨k3, cap3, rest3, b1, b2, b3, b4, _⟩ := hB.at hpos
        have : k2 = k3 := by
          have := congrArg asSlc b1
          simp at this
          exact this.1
        omega
      · rw [upd_ne _ _ e] at a4; exact a4
    have k2n : ¬ k2 = nx := by
      intro e
      obtain ⟨k3, cap3, rest3, b1, b2, b3, b4, _⟩ := hB.at hpos
      have : k2 = k3 := by
        have := congrArg asSlc b1
        simp at this
        exact this.1
      omega
    have hwl := w64 (x := (out.length : Int) - 1) (by omega) (by omega)
    have hnat : ((out.length : Int) - 1).toNat = out.length - 1 := by omega
    have hxt : 0 ≤ x.t ∧ x.t < 1152921504606846976 := by
      have hc := canon_mem hM.c (show x ∈ out by rw [hox]; simp)
      obtain ⟨z, hz, hz1, hz2⟩ := (hM.s x.t).1 ⟨x, by rw [hox]; simp, hc.2, Int.le_refl _⟩
      have := hok z (List.mem_of_mem_take hz)
      omega
    have hwt := w64 (x := x.t + 1) (by omega) (by omega)
    have hp1 : (1 : Int) ≤ out.length := by omega
    have hp2 : (out.length : Int) - 1 < out.length := by omega
    have hel2 : elemV (slc k2 0 out.length cap) ((out.length : Int) - 1) 2 = some (ptr k2 ((out.length - 1) * 2)) := by
      have : (out.length : Int) - 1 = ((out.length - 1 : Nat) : Int) := by omega
      rw [this]; simp [elemV]; omega
    have hfl2 := fl_len Spn.cells 2 Spn.len (l := out)
    have hm1 : ∀ u v : Int, (if u < v then v else u) = max u v := fun u v => by split <;> omega
    have hrl : (out.length - 1) * 2 + 1 < (out.flatMap Spn.cells ++ rest).length := by rw [List.length_append, hfl2]; omega
    by_cases hc : s.f ≤ x.t + 1
    · simp [authority_merged_BC_j1, e4, e16, e18, hi, hHk2, hfl, hcut, show i * 2 + 2 ≤ l.length * 2 by omega, k1, show n0 ≤ nx by omega, hlv, Spn.ag, hmin, hdg, hpos, hp1, hp2, hwl, k2n, a4', hix, hwt, hc, hm1, hfl2, -List.length_flatMap]
      refine ⟨by rw [List.length_append, hfl2] at hrl; omega, by omega, ?_⟩
      have hbs := Bx.set (E := spEl) (n0 := n1) (H0 := Hs) (m := out) (k := k2) (cap := cap) (i := out.length - 1) (o := 1) (rest := rest) (vs := [.int .i64 (max x.t s.t)]) (a := ⟨x.f, max x.t s.t⟩) hown2 a2 a3 a5 a6 a7 (by omega) (by simp [spEl]) (by
        have : out[out.length - 1] = x := by simp [hox]
        rw [this]; rfl) rfl
      simp [e18, hw1]
      have hset : out.set (out.length - 1) ⟨x.f, max x.t s.t⟩ = o ++ [⟨x.f, max x.t s.t⟩] := by
        rw [hox]
        rw [List.set_append_right _ _ (by simp)]
        simp
      rw [hset] at hbs
      have hlo : (o ++ [(⟨x.f, max x.t s.t⟩ : Spn)]).length = out.length := by rw [hox]; simp
      refine hK _ _ _ (slc k2 0 out.length cap) (o ++ [⟨x.f, max x.t s.t⟩]) (fun u hu => by simp at hu; rcases hu with rfl | rfl <;> rfl) (by simp [e4]) (by simp) ?_ (by
        rw [htk]
        rw [hox] at hM
        exact hM.ext hsok.2.1 hle hc) (by rw [hlo]; omega)
      have h9 := hbs
      simp [spEl] at h9
      exact h9
    · simp [authority_merged_BC_j1, e4, e16, e18, hi, hHk2, hfl, hcut, show i * 2 + 2 ≤ l.length * 2 by omega, k1, show n0 ≤ nx by omega, hlv, Spn.ag, hmin, hdg, hpos, hp1, hp2, hwl, k2n, a4', hix, hwt, hc]
      refine wAppB_base h0 (Bx.app (E := spEl) (bytes := 16) (zero := [.int .i64 0, .int .i64 0]) (l := [s]) (m := out) hB2 rfl rfl (by simp [maxLen]; omega) (by simp; omega) fun v' H3 nx3 hB3 => ?_)
      simp [e18, hw1]
      exact hK _ _ _ v' (out ++ [s]) (fun u hu => by simp at hu; rcases hu with rfl | rfl <;> rfl) (by simp) (by simp) (by simpa using hB3) (by
        rw [htk, hox]
        rw [hox] at hM
        exact hM.new hsok.2.1 hle (by omega)) (by simp; omega)
end
theorem okS_perm {l l' : List Spn} (h : okS l) (hp : l'.Perm l) : okS l' := fun s hs => h s (hp.mem_iff.1 hs)
theorem inS_perm {l l' : List Spn} (hp : l'.Perm l) (k : Int) : inS l' k ↔ inS l k := by
  constructor
  · rintro ⟨s, hs, h⟩; exact ⟨s, hp.mem_iff.1 hs, h⟩
  · rintro ⟨s, hs, h⟩; exact ⟨s, hp.mem_iff.2 hs, h⟩
theorem merged_ok {P : Program} {f so g tS : Nat} (hc : compFnX P [tS] f = some (58, authority_merged_BC so g tS, [.t 2])) (hso : SortOK P so g) : MergedOK P f := by
  intro l hok hlen H nx
  refine PCalls_ofX hc (by simp) fun hw => ?_
  have hmx : (maxLen : Int) = 9223372036854775807 := rfl
  have hfl := fl_len Spn.cells 2 Spn.len (l := l)
  have hrl : ((List.replicate l.length ([.int .i64 0, .int .i64 0] : List Value)).flatten).length = l.length * 2 := by rw [flat_rep_len]; rfl
  simp [authority_merged_BC]
  refine ⟨by unfold maxLen; omega, by omega, ?_⟩
  have hsrc : ∀ H : Nat → Option (List Value), srcV H (deep (l.map Spn.v)) 2 = some (l.length, l.flatMap Spn.cells) := fun H => El.src (E := spEl) H l
  generalize (List.replicate l.length ([.int .i64 0, .int .i64 0] : List Value)).flatten = z at hrl
  rw [hsrc]
  refine wCpy_of (upd_same _ _ _) (by omega) (.inr (by omega)) ?_
  rw [Nat.min_self]
  have hrow : z.take 0 ++ (l.flatMap Spn.cells).take (l.length * 2) ++ z.drop (0 + l.length * 2) = l.flatMap Spn.cells := by
    rw [List.take_zero, List.nil_append, List.take_of_length_le (by omega), List.drop_of_length_le (by omega), List.append_nil]
  rw [hrow]
  simp
  refine wCallB_of (wCall_leT (hso l nx _ _ (fun s hs => by have := hok s hs; omega) (by omega) (by simp)) (fun j hj => .inl (by omega)) (fun j row hj hr' => ?_) fun p H' nx' hR hn' => ?_)
  · subst hj
    simp at hr'
    subst hr'
    exact rowNoLin_dg (El.dgs (E := spEl) l)
  · obtain ⟨rfl, rfl, l', hp, hsrt, rfl⟩ := hR
    have hll : l'.length = l.length := hp.length_eq
    have hok' := okS_perm hok hp
    simp
    refine wpc_loop _ _ _ _ _ _ (fun s => s.t 16 = slc nx 0 l'.length l'.length ∧ s.t 17 = .int .i64 l'.length ∧ ∃ (i : Nat), i ≤ l'.length ∧ s.t 18 = .int .i64 i ∧ ∃ out : List Spn, Bx spEl (nx + 1) (upd H nx (some (l'.flatMap Spn.cells))) s.H s.nx (s.t 4) out ∧ Mrg (-1) (l'.take i) out ∧ out.length ≤ i)
      (fun s => match s.t 18 with | .int _ i => (l'.length - i).toNat | _ => 0) _ ⟨by simp [hll], by simp [hll], 0, by omega, by simp, [], ?_, Mrg.nil _, by simp⟩ ?_
    · refine Bx.nil (fun k hk => ?_) (by simp)
      simp
    rintro ⟨T, H', nx'⟩ ⟨e16, e17, i, hi, e18, out, hB, hM, hol⟩
    simp only at e16 e17 e18 hB
    simp [e17, e18]
    refine wB_of (fun hlt => ?_) (fun hlt => ?_)
    · simp at hlt
      refine mrg_j1 (Hs := upd H nx (some (l'.flatMap Spn.cells))) (n1 := nx + 1) (k := nx) (i := i) (l := l') (out := out) (v := T 4) (by omega) (by omega) hlt (by omega) hok' hsrt (by simp) (by simp [e16]) (by simp [e18]) (by simp) hB hM hol fun t' H2 n2 v' out' h1 h2 h3 h4 h5 h6 => ?_
      refine kLoop_nrm _ _ _ _ (Sub_refl _ _) ⟨(h1 16 (by simp)).trans (by simp [e16]), (h1 17 (by simp)).trans (by simp [e17]), i + 1, by omega, by simp [h3], out', by show Bx _ _ _ _ _ (t' 4) _; rw [h2]; exact h4, h5, h6⟩ (by simp [h3]; omega)
    · simp at hlt
      have hil : i = l'.length := by omega
      subst hil
      rw [List.take_length] at hM
      have hB2 : Bx spEl nx H H' nx' (T 4) out := hB.rebase (by omega) (fun k hk => by rw [hB.own k (by omega), upd_ne _ _ (by omega)])
      have hB3 : Bx spEl nx H H' nx' (dgT (T 4)) out := by
        obtain ⟨b1, b2, ⟨b3, b4⟩ | ⟨k2, cap, rest, b3, b4⟩⟩ := hB2
        · rw [b3]; exact ⟨b1, b2, .inl ⟨rfl, b4⟩⟩
        · rw [b3]; exact ⟨b1, b2, .inr ⟨k2, cap, rest, rfl, b4⟩⟩
      have hfin : ∃ l'_1, canon (-1) l'_1 ∧ (∀ k, inS l'_1 k ↔ inS l k) ∧ l'_1.length ≤ l.length ∧ Bx spEl nx H H' nx' (T 4) l'_1 := ⟨out, hM.c, fun k => (hM.s k).trans (inS_perm hp k), by omega, hB2⟩
      exact wF_of hfin
end Go.PE
namespace Go.PE
open Go
theorem canon_len : ∀ {l : List Spn} {b n : Int}, canon b l → b ≤ n → (∀ s ∈ l, s.t < n) → b + l.length ≤ n
  | [], b, n, _, hb, _ => by simpa using hb
  | s :: r, b, n, h, hb, hs => by
    have h1 := hs s (by simp)
    have := canon_len (l := r) (b := s.t + 1) (n := n) h.2.2 (by omega) fun x hx => hs x (by simp [hx])
    have := h.1; have := h.2.1
    simp only [List.length_cons]; omega
theorem canon_day {l : List Spn} (h : canon (-1) l) (hk : ∀ k, inS l k → k < 1440) : l.length ≤ 1441 ∧ okS l := by
  have ht : ∀ s ∈ l, s.t < 1440 := fun s hs => hk s.t ⟨s, hs, (canon_mem h hs).2, Int.le_refl _⟩
  have := canon_len h (n := 1440) (by omega) ht
  refine ⟨by omega, fun s hs => ?_⟩
  have := canon_mem h hs; have := ht s hs; omega
theorem OfI.dlen {l : List Pred} {a : Aut} (h : OfI l a) : a.daily.length ≤ 1441 ∧ okS a.daily := canon_day h.c fun k hk => ((h.k k).1 hk).2.1
def FullOK (P : Program) (f : Nat) : Prop := ∀ (H : Nat → Option (List Value)) (nx : Nat), PCalls P f [] H nx (fun _ => False) (fun r H' _ => r = fullA.v ∧ H' = H)
theorem full_ok {P : Program} {f tS : Nat} (hc : compFn P f = some (4, authority_FullC tS, [.cA 0 8])) : FullOK P f := by
  intro H nx
  refine PCalls_of hc (by simp) fun hw => ?_
  simp [authority_FullC]
  exact wF_own hw (by simp) ⟨rfl, rfl⟩
def NoneOK (P : Program) (f : Nat) : Prop := ∀ (H : Nat → Option (List Value)) (nx : Nat), PCalls P f [] H nx (fun _ => False) (fun r H' _ => r = noneA.v ∧ H' = H)
theorem none_ok {P : Program} {f tS : Nat} (hc : compFn P f = some (2, authority_noneC tS, [.cA 0 8])) : NoneOK P f := by
  intro H nx
  refine PCalls_of hc (by simp) fun hw => ?_
  simp [authority_noneC]
  exact wF_own hw (by simp) ⟨rfl, rfl⟩
def DailyOK (P : Program) (f : Nat) : Prop := ∀ (fr to : Int), 0 ≤ fr → fr < 1440 → 0 ≤ to → to < 1440 → ∀ (H : Nat → Option (List Value)) (nx : Nat),
    PCalls P f [.int .i64 fr, .int .i64 to] H nx (fun _ => False) (fun r H' _ => (∃ dl : List Spn, dg r = deep (dl.map Spn.v) ∧ canon (-1) dl ∧ (∀ k, inS dl k ↔ 0 ≤ k ∧ k < 1440 ∧ dayB fr to k)) ∧ H' = H)
theorem adaily_ok {P : Program} {f tS me : Nat} (hc : compFn P f = some (18, authority_dailyC tS me, [.t 4])) (hme : MergedOK P me) : DailyOK P f := by
  intro fr to h0 h1 h2 h3 H nx
  refine PCalls_of hc (by simp) fun hw => ?_
  have hmx : (maxLen : Int) = 9223372036854775807 := rfl
  by_cases h : fr ≤ to
  · simp [authority_dailyC, h, Spn.mk_v]
    refine wF_own hw (by simp) ⟨⟨[⟨fr, to⟩], rfl, ⟨by show (-1 : Int) < fr; omega, h, trivial⟩, fun k => ?_⟩, rfl⟩
    rw [inS_cons]
    unfold dayB
    rw [if_pos h]
    have := inS_nil k
    simp only
    constructor
    · rintro (h | h)
      · omega
      · exact absurd h this
    · intro h; left; omega
  · simp [authority_dailyC, authority_dailyC_j1, h, Spn.mk_v]
    have hok : okS [⟨0, to⟩, ⟨fr, 1439⟩] := fun s hs => by
      simp at hs
      rcases hs with rfl | rfl <;> simp <;> omega
    refine wCall_le (hme [⟨0, to⟩, ⟨fr, 1439⟩] hok (by simp) _ _) fun r H1 n1 hR hn1 hown => ?_
    obtain ⟨dl, d1, d2, d3, hB⟩ := hR
    simp
    have hset : ∀ k, inS dl k ↔ 0 ≤ k ∧ k < 1440 ∧ dayB fr to k := fun k => by
      rw [d2, inS_cons, inS_cons]
      unfold dayB
      rw [if_neg h]
      have := inS_nil k
      simp only
      constructor
      · rintro (h | h | h)
        · omega
        · omega
        · exact absurd h this
      · rintro ⟨a, b, c⟩
        rcases c with c | c
        · left; omega
        · right; left; omega
    refine Bx.fin1 hB hw fun v' hv' => ⟨⟨dl, ?_, d1, hset⟩, rfl⟩
    rcases hv' with ⟨_, rfl⟩ | rfl
    · exact absurd ((hset 0).2 ⟨by omega, by omega, by unfold dayB; rw [if_neg h]; left; omega⟩) (inS_nil _)
    · rfl
@[simp] theorem Pred.get0 (x : Pred) : x.cells[0]? = some (.int .i64 x.kind) := _root_.id rfl
@[simp] theorem Pred.get1 (x : Pred) : x.cells[1]? = some (.int .u64 x.mask) := _root_.id rfl
@[simp] theorem Pred.get2 (x : Pred) : x.cells[2]? = some (.int .i64 x.fr) := _root_.id rfl
@[simp] theorem Pred.get3 (x : Pred) : x.cells[3]? = some (.int .i64 x.to) := _root_.id rfl
@[simp] theorem Pred.get4 (x : Pred) : x.cells[4]? = some (.string x.name) := _root_.id rfl
@[simp] theorem Pred.cellsOfv9 (x : Pred) : PE.cellsOf x.v = some x.cells := _root_.id rfl
@[simp] theorem Pred.lenc (x : Pred) : x.cells.length = 6 := _root_.id rfl
@[simp] theorem Pred.getE0 (x : Pred) (h : 0 < x.cells.length) : x.cells[0] = .int .i64 x.kind := _root_.id rfl
@[simp] theorem Pred.getE1 (x : Pred) (h : 1 < x.cells.length) : x.cells[1] = .int .u64 x.mask := _root_.id rfl
@[simp] theorem Pred.getE2 (x : Pred) (h : 2 < x.cells.length) : x.cells[2] = .int .i64 x.fr := _root_.id rfl
@[simp] theorem Pred.getE3 (x : Pred) (h : 3 < x.cells.length) : x.cells[3] = .int .i64 x.to := _root_.id rfl
@[simp] theorem Pred.getE4 (x : Pred) (h : 4 < x.cells.length) : x.cells[4] = .string x.name := _root_.id rfl
@[simp] theorem Pred.getE5 (x : Pred) (h : 5 < x.cells.length) : x.cells[5] = .int .i64 x.num := _root_.id rfl
@[simp] theorem Pred.dgv9 (x : Pred) : dg x.v = x.v := _root_.id rfl
@[simp] theorem Pred.dg1v9 (x : Pred) : dg1 x.v = x.v := _root_.id rfl
@[simp] theorem Pred.dgTv9 (x : Pred) : dgT x.v = x.v := _root_.id rfl
@[simp] theorem Pred.lcv9 (x : Pred) : lc x.v = x.cells := _root_.id rfl
@[simp] theorem Pred.asAgv9 (x : Pred) : asAg x.v = some x.cells := _root_.id rfl
@[simp] theorem Pred.drop6 (x : Pred) : x.cells.drop 6 = [] := _root_.id rfl
theorem Aut.set6 (a : Aut) (l : List Spn) : a.cells.set 6 (deep (l.map Spn.v)) = { a with daily := l : Aut }.cells := rfl
theorem Aut.set6l (a : Aut) (e : Nat) (l : List Spn) : (a.cells.set 6 (lin e (l.map Spn.v))).map dg1 = { a with daily := l : Aut }.cells := rfl
@[simp] theorem Aut.take8' (x : Aut) (i : Nat) (v : Value) : (x.cells.set i v).take 8 = x.cells.set i v := List.take_of_length_le (by simp)
def RestrOK (P : Program) (f : Nat) : Prop := ∀ (l : List Pred) (a : Aut) (p : Pred), OfI l a → p.valid = true → p.wf → named l → ∀ (H : Nat → Option (List Value)) (nx : Nat),
    PCalls P f [a.v, p.v] H nx (fun _ => False) (fun r H' _ => (∃ a', r = a'.v ∧ OfI (l ++ [p]) a') ∧ H' = H)
theorem noName_iff (b : ByteArray) : b.toList = [] ↔ b = noName := by
  have e : ∀ b : ByteArray, b.toList = b.data.toList := fun b => by simp [ByteArray.toList_eq]
  rw [e]
  constructor
  · intro h; exact ByteArray.ext (by simpa [noName] using h)
  · intro h; rw [h]; rfl
theorem valid_kinds {p : Pred} (h : p.valid = true) : (p.kind = 4 → 0 ≤ p.fr ∧ p.fr ≤ p.to ∧ p.to ≤ 67108864) ∧ (p.kind = 5 → 0 ≤ p.fr ∧ p.fr < 1440 ∧ 0 ≤ p.to ∧ p.to < 1440) ∧ (p.kind = 6 → p.name ≠ noName) ∧ 1 ≤ p.kind ∧ p.kind ≤ 7 := by
  have hk := Pred.valid_kind h
  refine ⟨fun e => ?_, fun e => ?_, fun e en => ?_, hk.1, hk.2⟩
  · simp [Pred.valid, e] at h; omega
  · simp [Pred.valid, e] at h; omega
  · simp only [Pred.valid, e] at h
    rw [en] at h
    simp [nameV, noName] at h
set_option maxHeartbeats 2000000 in
theorem restr_ok {P : Program} {f tS da co : Nat} (hc : compFn P f = some (73, authority_restrictC tS da co, [.cA 4 8])) (hda : DailyOK P da) (hco : CommonOK P co tS) : RestrOK P f := by
  intro l a p ha hv hwf hnm H nx
  refine PCalls_of hc (by simp) fun hw => ?_
  have hmx : (maxLen : Int) = 9223372036854775807 := rfl
  have a1 : ¬ nx = nx + 1 + 1 := by omega
  have a2 : ¬ nx + 1 = nx + 1 + 1 := by omega
  have a3 : ¬ nx = nx + 1 := by omega
  have a4 : nx ≤ nx + 1 + 1 := by omega
  have a5 : nx ≤ nx + 1 := by omega
  have a6 : ¬ nx + 1 = nx := by omega
  have a7 : ¬ nx + 1 + 1 = nx := by omega
  obtain ⟨v4, v5, v6, v0, v7⟩ := valid_kinds hv
  have hmu : isU64 p.mask := ⟨hwf.2.1, hwf.2.2⟩
  by_cases h1 : p.kind = 1
  · simp [authority_restrictC, a1, a2, a3, a4, a5, a6, a7, h1, Aut.ag]
    exact wF_own hw (by simp [a4, a5]) ⟨⟨_, rfl, ha.zone h1 hmu⟩, rfl⟩
  by_cases h2 : p.kind = 2
  · simp [authority_restrictC, a1, a2, a3, a4, a5, a6, a7, h2, Aut.ag]
    exact wF_own hw (by simp [a4, a5]) ⟨⟨_, rfl, ha.line h2 hmu⟩, rfl⟩
  by_cases h3 : p.kind = 3
  · simp [authority_restrictC, a1, a2, a3, a4, a5, a6, a7, h3, Aut.ag]
    exact wF_own hw (by simp [a4, a5]) ⟨⟨_, rfl, ha.dayw h3 hmu⟩, rfl⟩
  have b1 : (p.kind == 1) = false := by simp [h1]
  have b2 : (p.kind == 2) = false := by simp [h2]
  have b3 : (p.kind == 3) = false := by simp [h3]
  have hm1 : ∀ u v : Int, (if u < v then v else u) = max u v := fun u v => by split <;> omega
  have hm2 : ∀ u v : Int, (if v < u then v else u) = min u v := fun u v => by split <;> omega
  by_cases h4 : p.kind = 4
  · obtain ⟨q1, q2, q3⟩ := v4 h4
    simp [authority_restrictC, a1, a2, a3, a4, a5, a6, a7, h4, Aut.ag, hm1, hm2]
    exact wF_own hw (by simp [a4, a5]) ⟨⟨_, rfl, ha.time h4 q1 q2 q3⟩, rfl⟩
  have b4 : (p.kind == 4) = false := by simp [h4]
  by_cases h5 : p.kind = 5
  · obtain ⟨q1, q2, q3, q4⟩ := v5 h5
    obtain ⟨hdl, hds⟩ := ha.dlen
    have fin5 : ∀ (dl : List Spn), canon (-1) dl → (∀ k, inS dl k ↔ 0 ≤ k ∧ k < 1440 ∧ dayB p.fr p.to k) → OfI (l ++ [p]) { a with daily := commonL a.daily dl : Aut } := fun dl d1 d2 => ha.dayly h5 d1 d2
    simp [authority_restrictC, a1, a2, a3, a4, a5, a6, a7, h5]
    repeat' first
      | refine And.intro ?_ ?_
      | (refine wCall_eq (Q := fun r => ∃ dl : List Spn, dg r = deep (dl.map Spn.v) ∧ canon (-1) dl ∧ (∀ k, inS dl k ↔ 0 ≤ k ∧ k < 1440 ∧ dayB p.fr p.to k)) (hda p.fr p.to q1 q2 q3 q4 _ _) fun r n1 hr hn1 => ?_
         obtain ⟨dl, d0, d1, d2⟩ := hr
         have hdl2 := (canon_day d1 fun k hk => ((d2 k).1 hk).2.1).1
         simp at hn1
         simp [a1, a2, a3, a4, a5, a6, a7, d0])
      | (refine wCall_eq (Q := fun r => r = lin tS ((commonL a.daily dl).map Spn.v)) (hco a.daily dl (by omega) (by omega) _ _) fun r n2 hr hn2 => ?_
         subst hr
         simp at hn2
         simp [a1, a2, a3, a4, a5, a6, a7])
    all_goals
      refine sts_of (k := nx) (off := 6) (e := tS) (xs := (commonL a.daily dl).map Spn.v) (row := a.cells) (by simp) (by simp [a1, a2, a3]) (by simp) (.inr (by omega)) (by simp) ?_
      simp [a1, a2, a3, a4, a5, a6, a7, Aut.set6, Aut.set6l, Aut.ag]
      exact wF_own hw (by simp [a4, a5]) ⟨⟨_, rfl, fin5 dl d1 d2⟩, rfl⟩
  have b5 : (p.kind == 5) = false := by simp [h5]
  by_cases h6 : p.kind = 6
  · have hz : ∀ z, z = (if a.holder ≠ noName ∧ a.holder ≠ p.name then 0 else a.zones) → OfI (l ++ [p]) { a with zones := z, holder := p.name : Aut } := fun z hz => ha.holder h6 hnm hz
    by_cases g1 : a.holder = noName
    · have g1'' : a.holder.toList = [] := (noName_iff _).2 g1
      have g1' : a.holder.toList.isEmpty = true := by rw [g1'']; rfl
      simp [authority_restrictC, a1, a2, a3, a4, a5, a6, a7, h6, g1', g1'', Aut.ag]
      exact wF_own hw (by simp [a4, a5]) ⟨⟨_, rfl, hz a.zones (by rw [if_neg (by simp [g1])])⟩, rfl⟩
    · have g1'' : ¬ a.holder.toList = [] := fun e => g1 ((noName_iff _).1 e)
      have g1' : a.holder.toList.isEmpty = false := by simpa using g1''
      by_cases g2 : a.holder = p.name
      · simp [authority_restrictC, a1, a2, a3, a4, a5, a6, a7, h6, g1', g1'', show (a.holder == p.name) = true by simp [g2], Aut.ag]
        exact wF_own hw (by simp [a4, a5]) ⟨⟨_, rfl, hz a.zones (by rw [if_neg (by simp [g2])])⟩, rfl⟩
      · have g2' : (a.holder == p.name) = false := by simpa using g2
        simp [authority_restrictC, a1, a2, a3, a4, a5, a6, a7, h6, g1', g1'', g2', Aut.ag]
        exact wF_own hw (by simp [a4, a5]) ⟨⟨_, rfl, hz 0 (by rw [if_pos ⟨g1, g2⟩])⟩, rfl⟩
  · have h7 : p.kind = 7 := by omega
    simp [authority_restrictC, a1, a2, a3, a4, a5, a6, a7, h7, Aut.ag]
    exact wF_own hw (by simp [a4, a5]) ⟨⟨_, rfl, ha.rides h7⟩, rfl⟩
end Go.PE
namespace Go.PE
open Go
/-- what may be closed -/
structure WfI (a : Aut) : Prop where
  zu : isU64 a.zones
  lu : isU64 a.lines
  du : isU64 a.days
  fb : 0 ≤ a.fr ∧ a.fr ≤ 67108864 ∧ 0 ≤ a.to ∧ a.to ≤ 67108864
  c : canon (-1) a.daily
  k : ∀ k, inS a.daily k → k < 1440
theorem OfI.wf {l : List Pred} {a : Aut} (h : OfI l a) : WfI a := ⟨h.zu, h.lu, h.du, h.fb, h.c, fun k hk => ((h.k k).1 hk).2.1⟩
/-- the minutes on the days that have been looked at -/
def SV (n : Int) (a : Aut) (d m : Int) : Prop := a.S m ∧ near n (a.fr / 1440) (a.to / 1440) (m / 1440) ∧ m / 1440 < d
theorem SV_0 (n : Int) (a : Aut) (m : Int) : ¬ SV n a (a.fr / 1440) m := fun h => by
  have := h.2.1.1; have := h.2.2; omega
theorem CloO.congr {S S' : Int → Prop} {fr to days f0 : Int} {l : List Spn} (h : CloO S fr to days l f0) (e : ∀ m, S m ↔ S' m) : CloO S' fr to days l f0 := by
  have : S = S' := funext fun m => propext (e m)
  subst this; exact h
theorem SV_skip {n : Int} {a : Aut} {d : Int} (h1 : a.fr / 1440 + n < d) (h2 : d < a.to / 1440 - n) (m : Int) : SV n a d m ↔ SV n a (a.to / 1440 - n) m := by
  unfold SV near
  constructor
  · rintro ⟨a1, a2, a3⟩; exact ⟨a1, a2, by omega⟩
  · rintro ⟨a1, a2, a3⟩; exact ⟨a1, a2, by omega⟩
theorem clo_same {n : Int} {a : Aut} {d fr to days f0 : Int} {l : List Spn} (hw : WfI a) (h : CloO (SV n a d) fr to days l f0) (hld : dayL a d = []) : CloO (SV n a (d + 1)) fr to days l f0 := by
  refine h.congr fun m => ?_
  unfold SV
  constructor
  · rintro ⟨a1, a2, a3⟩; exact ⟨a1, a2, by omega⟩
  · rintro ⟨a1, a2, a3⟩
    refine ⟨a1, a2, ?_⟩
    apply Classical.byContradiction
    intro hn
    have hd : m / 1440 = d := by omega
    have := (dayL_inS (a := a) (d := d) (k := m % 1440) (fun j hj => ⟨by have := canon_lt hw.c hj; omega, hw.k j hj⟩)).2 ⟨by rw [show d * 1440 + m % 1440 = m by omega]; exact a1, by omega, by omega⟩
    rw [hld] at this
    exact inS_nil _ this
theorem clo_step {n : Int} {a : Aut} {d fr to days lo hi : Int} {l l' : List Spn} (hw : WfI a) (h : CloO (SV n a d) fr to days l 67108865) (h0 : 0 ≤ d) (hnear : near n (a.fr / 1440) (a.to / 1440) d)
    (hlo : inS (dayL a d) lo) (hmin : ∀ k, inS (dayL a d) k → lo ≤ k) (hhi : inS (dayL a d) hi) (hmax : ∀ k, inS (dayL a d) k → k ≤ hi) (hc : canon (-1) l') (hl' : ∀ k, inS l' k ↔ inS l k ∨ inS (dayL a d) k) :
    CloO (SV n a (d + 1)) (min fr (d * 1440 + lo)) (max to (d * 1440 + hi)) (bitsV .or .u64 days (2 ^ (d % 7).toNat)) l' 67108865 := by
  have hin := fun k => dayL_inS (a := a) (d := d) (k := k) (fun j hj => ⟨by have := canon_lt hw.c hj; omega, hw.k j hj⟩)
  have hS0 : ∀ m, a.S m → 0 ≤ m ∧ m ≤ 67108864 := fun m hm => by have := hm.1; have := hm.2.1; have := hw.fb; omega
  right
  refine (h.day (X := fun m => a.S m ∧ m / 1440 = d) (ld := dayL a d) (lo := lo) (hi := hi) h0 (fun m hm => hm.2.2) (fun m hm => hm.2) (fun k => ?_) hlo hmin hhi hmax ?_ hc hl' (fun m hm => (hS0 m hm.1).1)).congr fun m => ?_
  · rw [hin]
    constructor
    · rintro ⟨a1, a2, a3⟩; exact ⟨⟨a1, by omega⟩, a2, a3⟩
    · rintro ⟨⟨a1, _⟩, a2, a3⟩; exact ⟨a1, a2, a3⟩
  · have := hS0 _ ((hin lo).1 hlo).1; omega
  · unfold SV
    constructor
    · rintro (⟨a1, a2, a3⟩ | ⟨a1, a2⟩)
      · exact ⟨a1, a2, by omega⟩
      · exact ⟨a1, by rw [a2]; exact hnear, by omega⟩
    · rintro ⟨a1, a2, a3⟩
      by_cases hd : m / 1440 = d
      · exact .inr ⟨a1, hd⟩
      · exact .inl ⟨a1, a2, by omega⟩
theorem clo_end {n : Int} {a : Aut} {d fr to days f0 : Int} {l : List Spn} (hn : 8 ≤ n) (h : CloO (SV n a d) fr to days l f0) (hd : a.to / 1440 < d) : (to = -1 ∧ ∀ m, ¬ a.S m) ∨ Clo a.S fr to days l := by
  have e : ∀ m, SV n a d m ↔ Tm a.fr a.to (tb a.days) (inS a.daily) m ∧ near n (a.fr / 1440) (a.to / 1440) (m / 1440) := fun m => by
    unfold SV
    constructor
    · rintro ⟨a1, a2, _⟩; exact ⟨a1, a2⟩
    · rintro ⟨a1, a2⟩; exact ⟨a1, a2, by have := a2.2.1; omega⟩
  rcases h with ⟨_, h1, _, _, h2⟩ | h
  · exact .inl ⟨h1, near_none hn fun m hm => h2 m ((e m).2 hm)⟩
  · exact .inr (near_all hn (h.congr e))
end Go.PE
namespace Go.PE
open Go
/-- a call that takes a list of one's own away, and hands back whatever it says -/
theorem Bx.giveR {α : Type} {E : El α} {P : Program} {n0 n1 f : Nat} {H0 : Nat → Option (List Value)} {T : Nat → Prop} {d : Option Nat} {s : PS} {K : PS → Prop} {v : Value} {m : List α} {as_ : List Value} {R : (Nat → Option (List Value)) → Post} (h0 : n0 ≤ n1)
    (h : Bx E n1 H0 s.H s.nx v m) (hpos : 0 < m.length) (hc : ∀ H1, PCalls P f (deep (m.map E.g) :: as_) H1 s.nx (fun _ => False) (R H1))
    (hK : ∀ k H1 p H' n', n1 ≤ k → H1 = upd s.H k none → R H1 p H' n' → s.nx ≤ n' → (∀ j, j < s.nx → H' j = H1 j) → K ⟨(s.putO d p).t, H', n'⟩) : wCallB (PCalls P) T n0 f (dg v :: as_) d s K := by
  obtain ⟨k, cap, rest, rfl, a2, a3, a4, a5, a6, a7⟩ := h.at hpos
  refine ⟨upd s.H k none, deep (m.map E.g) :: as_, fun j => ?_, ⟨rfl, fun i a b ha hb => ?_⟩, .inl ⟨fun _ => False, fun _ h => h.elim, fun _ _ h => h.elim, (hc _).more.mono ?_⟩⟩
  · by_cases e : j = k
    · subst e; exact .inr ⟨by omega, upd_same _ _ _⟩
    · exact .inl (upd_ne _ _ e)
  · cases i with
    | zero =>
      simp at ha hb; subst ha; subst hb
      exact .inl (Cv1_list E.f E.g E.hg E.size E.hf E.hd a4 (upd_same _ _ _) (by omega) a7)
    | succ i =>
      simp at ha hb; rw [ha] at hb
      exact .inl (.inl (Option.some.inj hb).symm)
  · rintro p H' nx' ⟨hp, hn, ho⟩
    have := hK k _ p H' nx' a2 rfl hp hn (fun j hj => ho j hj (fun h => h.elim))
    cases d <;> exact this
/-- the row of a summary that is being put together -/
def outRow (a : Aut) (d fr to : Int) (v : Value) : List Value := [.bool false, .int .u64 a.zones, .int .u64 a.lines, .int .u64 d, .int .i64 fr, .int .i64 to, v, .string a.holder]
@[simp] theorem outRow_len (a : Aut) (d fr to : Int) (v : Value) : (outRow a d fr to v).length = 8 := _root_.id rfl
@[simp] theorem outRow_1 (a : Aut) (d fr to : Int) (v : Value) : (outRow a d fr to v)[1]? = some (.int .u64 a.zones) := _root_.id rfl
@[simp] theorem outRow_2 (a : Aut) (d fr to : Int) (v : Value) : (outRow a d fr to v)[2]? = some (.int .u64 a.lines) := _root_.id rfl
@[simp] theorem outRow_3 (a : Aut) (d fr to : Int) (v : Value) : (outRow a d fr to v)[3]? = some (.int .u64 d) := _root_.id rfl
@[simp] theorem outRow_4 (a : Aut) (d fr to : Int) (v : Value) : (outRow a d fr to v)[4]? = some (.int .i64 fr) := _root_.id rfl
@[simp] theorem outRow_5 (a : Aut) (d fr to : Int) (v : Value) : (outRow a d fr to v)[5]? = some (.int .i64 to) := _root_.id rfl
@[simp] theorem outRow_6 (a : Aut) (d fr to : Int) (v : Value) : (outRow a d fr to v)[6]? = some v := _root_.id rfl
theorem outRow_s6 (a : Aut) (d fr to : Int) (v v' : Value) : (outRow a d fr to v).set 6 v' = outRow a d fr to v' := rfl
section
variable {P : Program} {me n0 tS : Nat} (hme : MergedOK P me)
include hme
/-- a day is taken in -/
theorem cl_j1 {T : Nat → Value} {H : Nat → Option (List Value)} {nx n1 ko : Nat} {a : Aut} {day d fr to : Int} {v : Value} {l ld : List Spn} {x y : Spn} {Q : Ex → PS → Prop} (h0 : n0 ≤ ko) (hk : ko < n1) (hd0 : 0 ≤ day) (hd1 : day ≤ 100000) (hdu : isU64 d)
    (hfr : -1000000000000 ≤ fr ∧ fr ≤ 1000000000000) (hto : -1000000000000 ≤ to ∧ to ≤ 1000000000000) (hl : okS (l ++ ld)) (hll : (l ++ ld).length ≤ 10000)
    (hx : ld.head? = some x) (hy : ld.getLast? = some y) (hx1 : 0 ≤ x.f ∧ x.f < 1440) (hy1 : 0 ≤ y.t ∧ y.t < 1440)
    (e5 : T 5 = ptr ko 0) (e6 : T 6 = .int .i64 day) (e7 : T 7 = lin tS (ld.map Spn.v)) (hHk : H ko = some (outRow a d fr to v)) (hB : Bx spEl n1 H H nx v l)
    (hK : ∀ t' H' n' v' l', (∀ u, u < 7 → t' u = T u) → canon (-1) l' → (∀ k, inS l' k ↔ inS l k ∨ inS ld k) →
      H' ko = some (outRow a (bitsV .or .u64 d (2 ^ (day % 7).toNat)) (min fr (day * 1440 + x.f)) (max to (day * 1440 + y.t)) v') → (∀ j, j < n1 → j ≠ ko → H' j = H j) → n1 ≤ n' → Bx spEl n1 H' H' n' v' l' → Q .nrm ⟨t', H', n'⟩) :
    wpc (PCalls P) P (fun _ => False) n0 (authority_closed_BC_j1 me) Q ⟨T, H, nx⟩ := by
  have hmx : (maxLen : Int) = 9223372036854775807 := rfl
  have hn1 := hB.le
  have q3 : day.tmod 7 = day % 7 := Int.tmod_eq_emod_of_nonneg hd0
  have q4 : min (day % 7).toNat 64 = (day % 7).toNat := by omega
  have q6 : IntKind.u64.bits = 64 := rfl
  have hwp : IntKind.u64.wrap (2 ^ (day % 7).toNat) = 2 ^ (day % 7).toNat := by
    have h7 : (day % 7).toNat < 7 := by omega
    generalize (day % 7).toNat = n at h7
    have : n = 0 ∨ n = 1 ∨ n = 2 ∨ n = 3 ∨ n = 4 ∨ n = 5 ∨ n = 6 := by omega
    rcases this with rfl | rfl | rfl | rfl | rfl | rfl | rfl <;> rfl
  have w1 := w64 (x := day * 1440) (by omega) (by omega)
  have w2 := w64 (x := day * 1440 + x.f) (by omega) (by omega)
  have w3 := w64 (x := day * 1440 + y.t) (by omega) (by omega)
  have hpos : 0 < ld.length := by
    cases ld with
    | nil => simp at hx
    | cons _ _ => simp
  have w4 := w64 (x := (ld.length : Int) - 1) (by omega) (by simp at hll; omega)
  have hx0 : elemAt (ld.map Spn.v) 0 2 = some (dptr 0 x.cells) := by
    have := elem_spn (l := ld) (n := 0) (by omega) (by simpa using hpos)
    have hx2 : ld[0] = x := by
      rw [List.head?_eq_getElem?, List.getElem?_eq_getElem hpos] at hx
      exact Option.some.inj hx
    simp [hx2] at this
    exact this
  have hy0 : elemAt (ld.map Spn.v) ((ld.length : Int) - 1) 2 = some (dptr 0 y.cells) := by
    have hlt : ((ld.length : Int) - 1).toNat < ld.length := by omega
    have := elem_spn (l := ld) (n := (ld.length : Int) - 1) (by omega) hlt
    have hy2 : ld[((ld.length : Int) - 1).toNat] = y := by
      rw [List.getLast?_eq_getElem?, show ld.length - 1 = ((ld.length : Int) - 1).toNat by omega, List.getElem?_eq_getElem hlt] at hy
      exact Option.some.inj hy
    rw [hy2] at this
    exact this
  have hm1 : ∀ u v : Int, (if u < v then v else u) = max u v := fun u v => by split <;> omega
  have hm2 : ∀ u v : Int, (if v < u then v else u) = min u v := fun u v => by split <;> omega
  unfold outRow at hHk
  simp [authority_closed_BC_j1, e5, e6, e7, hHk, q3, show 0 ≤ day % 7 by omega, q4, q6, hwp, w1, w2, w3, w4, hx0, hy0, hm1, hm2, h0]
  refine wLdT_ptr (row := outRow a (bitsV .or .u64 d (2 ^ (day % 7).toNat)) (min fr (day * 1440 + x.f)) (max to (day * 1440 + y.t)) v) (c := v) (by simp [outRow]) rfl (.inr h0) ?_
  simp [e5, e7, outRow_s6]
  generalize bitsV .or .u64 d (2 ^ (day % 7).toNat) = d2 at *
  generalize min fr (day * 1440 + x.f) = fr2 at *
  generalize max to (day * 1440 + y.t) = to2 at *
  have hB2 : Bx spEl n1 (upd H ko (some (outRow a d2 fr2 to2 (dg1 v)))) (upd H ko (some (outRow a d2 fr2 to2 (dg1 v)))) nx v l := by
    obtain ⟨b1, b2, b3⟩ := hB
    refine ⟨fun _ _ => rfl, b2, b3.imp id ?_⟩
    rintro ⟨k2, cap, rest, a1, a2, a3, a4⟩
    exact ⟨k2, cap, rest, a1, a2, a3, by rw [upd_ne _ _ (by omega)]; exact a4⟩
  refine wAppB_base (n1 := n1) (by omega) (Bx.app (E := spEl) (bytes := 16) (zero := [.int .i64 0, .int .i64 0]) (l := ld) (m := l) hB2 rfl rfl (by simp at hll; simp [maxLen]; omega) (by simp at hll; omega) fun v2 H3 nx3 hB3 => ?_)
  simp
  refine Bx.giveR (n1 := n1) (by omega) hB3 (by simp; omega) (fun H1 => hme (l ++ ld) hl (by omega) H1 nx3) fun k H1 p H' n' hk1 hH1 hR hn' hoth => ?_
  obtain ⟨l', c1, c2, c3, hB4⟩ := hR
  have hn3 := hB3.le
  have hko : H' ko = some (outRow a d2 fr2 to2 (dg1 v)) := by
    rw [hoth ko (by show ko < nx3; omega), hH1, upd_ne _ _ (by omega)]
    show H3 ko = _
    rw [hB3.own ko (by omega), upd_same]
  have hp1 : ∀ ps, p ≠ .tuple ps := by
    rcases hB4.2.2 with ⟨rfl, _⟩ | ⟨k, cap, rest, rfl, _⟩ <;> intro ps h <;> simp [ns, slc] at h
  have hp2 : ∀ ps, p ≠ .agg ps := by
    rcases hB4.2.2 with ⟨rfl, _⟩ | ⟨k, cap, rest, rfl, _⟩ <;> intro ps h <;> simp [ns, slc] at h
  simp [e5]
  refine ⟨ko, 6, outRow a d2 fr2 to2 (dg1 v), by simp, hko, by simp, .inr h0, by simpa using hp1, by simpa using hp2, ?_⟩
  simp [outRow_s6]
  refine hK _ _ _ p l' (fun u hu => ?_) c1 (fun k => by rw [c2, inS_append]) (upd_same _ _ _) (fun j hj hjk => ?_) (by have : nx3 ≤ n' := hn'; omega) ?_
  · have h7 : u = 0 ∨ u = 1 ∨ u = 2 ∨ u = 3 ∨ u = 4 ∨ u = 5 ∨ u = 6 := by omega
    rcases h7 with rfl | rfl | rfl | rfl | rfl | rfl | rfl <;> rfl
  · rw [upd_ne _ _ hjk, hoth j (by show j < nx3; omega), hH1, upd_ne _ _ (by omega)]
    show H3 j = _
    rw [hB3.own j hj, upd_ne _ _ hjk]
  · obtain ⟨b1, b2, b3⟩ := hB4
    refine ⟨fun _ _ => rfl, by omega, b3.imp id ?_⟩
    rintro ⟨k2, cap, rest, a1, a2, a3, a4, a5⟩
    exact ⟨k2, cap, rest, a1, by omega, a3, by rw [upd_ne _ _ (by omega)]; exact a4, a5⟩
end
end Go.PE
namespace Go.PE
open Go
def ClosedOK (P : Program) (f : Nat) : Prop := ∀ (a : Aut), WfI a → ∀ (H : Nat → Option (List Value)) (nx : Nat), PCalls P f [a.v] H nx (fun _ => False) (fun r H' _ => (∃ r', r = r'.v ∧ IsClosed a r') ∧ H' = H)
/-- a summary whose list lies in a box of one's own: it is frozen -/
theorem wF_out {n0 n1 nx : Nat} {H0 H : Nat → Option (List Value)} {R : Post} {v : Value} {l : List Spn} {a : Aut} {d fr to : Int} (hw : ∀ k, n0 ≤ k → H0 k = none) (ho : Own n0 H0 H) (hn : n0 ≤ n1) (hB : Bx spEl n1 H H nx v l) (hl : l ≠ []) (hR : R (Aut.mk false a.zones a.lines d fr to l a.holder).v H0 nx) :
    wF (some [ag (outRow a d fr to v)]) n0 R H nx := by
  obtain ⟨k, cap, rest, rfl, a2, a3, a4, a5, a6, a7⟩ := hB.at (List.length_pos_iff.2 hl)
  refine ⟨_, rfl, H0, [(Aut.mk false a.zones a.lines d fr to l a.holder).v], ho.sub hw, ⟨rfl, fun i x y hx hy => ?_⟩, hR⟩
  cases i with
  | succ i => simp at hx
  | zero =>
    simp at hx hy; subst hx; subst hy
    refine .inr ⟨_, _, rfl, rfl, rfl, fun i x y hx hy => ?_⟩
    match i with
    | 6 =>
      have hx : slc k 0 l.length cap = x := Option.some.inj hx
      have hy : deep (l.map Spn.v) = y := Option.some.inj hy
      subst hx; subst hy
      exact Cv1_list spEl.f spEl.g spEl.hg spEl.size spEl.hf spEl.hd a4 (hw k (by omega)) (by omega) a7
    | 0 | 1 | 2 | 3 | 4 | 5 | 7 => exact .inl (Option.some.inj (hx.symm.trans hy)).symm
    | i + 8 => simp [outRow] at hx
/-- before a day -/
structure CInv (a : Aut) (nx : Nat) (H : Nat → Option (List Value)) (day : Int) (s : PS) : Prop where
  t1 : s.t 1 = ptr nx 0
  t2 : s.t 2 = ptr (nx + 1) 0
  t3 : s.t 3 = .int .i64 (a.fr / 1440)
  t4 : s.t 4 = .int .i64 (a.to / 1440)
  t5 : s.t 5 = ptr (nx + 1 + 1) 0
  ha : s.H nx = some a.cells
  own : Own nx H s.H
  h2 : ∃ c, s.H (nx + 1) = some c ∧ c.length = 8
  o : ∃ d fr to v l, s.H (nx + 1 + 1) = some (outRow a d fr to v) ∧ Bx spEl (nx + 1 + 1 + 1) s.H s.H s.nx v l ∧ CloO (SV 8 a day) fr to d l 67108865
theorem CloO.bounds {a : Aut} {n day d fr to : Int} {l : List Spn} (ha : WfI a) (h : CloO (SV n a day) fr to d l 67108865) : (0 ≤ fr ∧ fr ≤ 67108865) ∧ (-1 ≤ to ∧ to ≤ 67108864) ∧ isU64 d ∧ canon (-1) l ∧ ∀ k, inS l k → k < 1440 := by
  have hfb := ha.fb
  rcases h with ⟨rfl, rfl, rfl, rfl, _⟩ | h
  · exact ⟨by omega, by omega, ⟨by omega, by omega⟩, trivial, fun k hk => absurd hk (inS_nil _)⟩
  · have h1 := h.fr.1.1; have h2 := h.to.1.1
    exact ⟨⟨by have := h1.1; omega, by have := h1.2.1; omega⟩, ⟨by have := h2.1; omega, by have := h2.2.1; omega⟩, h.u, h.c, fun k hk => by
      obtain ⟨m, _, e⟩ := (h.l k).1 hk; omega⟩
section
variable {P : Program} {tS da me no : Nat} (hda : DayOK P da tS) (hme : MergedOK P me)
include hda hme
theorem cl_j2 {a : Aut} {nx : Nat} {H : Nat → Option (List Value)} {day : Int} {s : PS} {Q : Ex → PS → Prop} (ha : WfI a) (h : CInv a nx H day s) (h6 : s.t 6 = .int .i64 day) (hn : near 8 (a.fr / 1440) (a.to / 1440) day) (hnx : nx + 1 + 1 + 1 ≤ s.nx)
    (hK : ∀ ex s', (ex = Ex.nrm ∨ ex = Ex.ext 1) → CInv a nx H (day + 1) s' → s'.t 6 = .int .i64 day → nx + 1 + 1 + 1 ≤ s'.nx → Q ex s') :
    wpc (PCalls P) P (fun _ => False) nx (authority_closed_BC_j2 da me) Q s := by
  obtain ⟨T, H', nx'⟩ := s
  obtain ⟨e1, e2, e3, e4, e5, hha, hown, ⟨c, hc2, hcl⟩, d, fr, to, v, l, hout, hB, hcl8⟩ := h
  simp only at e1 e2 e3 e4 e5 hha hown hc2 hout hB h6 hnx
  have hmx : (maxLen : Int) = 9223372036854775807 := rfl
  have hfb := ha.fb
  obtain ⟨n1, n2, n3⟩ := hn
  obtain ⟨hdl, hds⟩ := canon_day ha.c ha.k
  simp [authority_closed_BC_j2, e1, h6, hha, Aut.ag]
  refine wCallB_of (wCall_eq (Q := fun r => r = lin tS ((dayL a day).map Spn.v)) (hda a day (by omega) ha.du hfb.1 hfb.2.1 hfb.2.2.1 hfb.2.2.2 (by omega) (by omega) _ _) fun r m1 hr hm1 => ?_)
  subst hr
  simp at hm1
  obtain ⟨hfrb, htob, hdu, hcl1, hk1⟩ := hcl8.bounds ha
  have hcd := dayL_canon (a := a) (d := day) ha.c
  have hin := fun k => dayL_inS (a := a) (d := day) (k := k) (fun j hj => ⟨by have := canon_lt ha.c hj; omega, ha.k j hj⟩)
  have hk2 : ∀ k, inS (dayL a day) k → 0 ≤ k ∧ k < 1440 := fun k hk => ((hin k).1 hk).2
  obtain ⟨hl1, hl2⟩ := canon_day hcl1 hk1
  obtain ⟨hl3, hl4⟩ := canon_day hcd (fun k hk => (hk2 k hk).2)
  by_cases hne : dayL a day = []
  · simp [hne]
    refine hK _ _ (.inr rfl) ⟨by simp [e1], by simp [e2], by simp [e3], by simp [e4], by simp [e5], hha, hown, ⟨c, hc2, hcl⟩, d, fr, to, v, l, hout, hB.mo hm1, clo_same ha hcl8 hne⟩ (by simp [h6]) (by show nx + 1 + 1 + 1 ≤ m1; omega)
  · obtain ⟨x, r, hx⟩ := List.exists_cons_of_ne_nil hne
    obtain ⟨o, y, hy⟩ : ∃ o y, dayL a day = o ++ [y] := by
      rcases List.eq_nil_or_concat (dayL a day) with h | ⟨o, y, h⟩
      · exact absurd h hne
      · exact ⟨o, y, by simpa using h⟩
    have hlen0 : ((dayL a day).length : Int) ≠ 0 := by rw [hx]; simp; omega
    have hlen1 : (((dayL a day).length : Int) == 0) = false := by simpa using hlen0
    have hxm : inS (dayL a day) x.f := ⟨x, by rw [hx]; simp, Int.le_refl _, (canon_mem hcd (by rw [hx]; simp)).2⟩
    have hym : inS (dayL a day) y.t := ⟨y, by rw [hy]; simp, (canon_mem hcd (by rw [hy]; simp)).2, Int.le_refl _⟩
    simp [hlen1, hne]
    refine cl_j1 (tS := tS) (n1 := nx + 1 + 1 + 1) (ko := nx + 1 + 1) (a := a) (day := day) (d := d) (fr := fr) (to := to) (v := v) (l := l) (ld := dayL a day) (x := x) (y := y) hme (by omega) (by omega) (by omega) (by omega) hdu (by omega) (by omega) (fun s hs => ?_) (by simp; omega) (by rw [hx]; rfl) (by rw [hy]; simp) (hk2 _ hxm) (hk2 _ hym) (by simp [e5]) (by simp [h6]) (by simp) hout (hB.mo hm1) fun t' H2 n' v' l' p1 p2 p3 p4 p5 p6 p7 => ?_
    · rcases List.mem_append.1 hs with hs | hs
      · exact hl2 s hs
      · exact hl4 s hs
    · have hkeep : ∀ u, u < 7 → t' u = T u := fun u hu => (p1 u hu).trans (by
        have : u = 0 ∨ u = 1 ∨ u = 2 ∨ u = 3 ∨ u = 4 ∨ u = 5 ∨ u = 6 := by omega
        rcases this with rfl | rfl | rfl | rfl | rfl | rfl | rfl <;> rfl)
      refine hK _ _ (.inl rfl) ⟨(hkeep 1 (by omega)).trans e1, (hkeep 2 (by omega)).trans e2, (hkeep 3 (by omega)).trans e3, (hkeep 4 (by omega)).trans e4, (hkeep 5 (by omega)).trans e5, ?_, fun j hj => ?_, ⟨c, ?_, hcl⟩, _, _, _, v', l', p4, p7, ?_⟩ ((hkeep 6 (by omega)).trans h6) p6
      · show H2 nx = _
        rw [p5 nx (by omega) (by omega)]; exact hha
      · show H2 j = _
        rw [p5 j (by omega) (by omega)]; exact hown j hj
      · show H2 (nx + 1) = _
        rw [p5 (nx + 1) (by omega) (by omega)]; exact hc2
      · exact clo_step ha hcl8 (by omega) ⟨n1, n2, n3⟩ hxm (fun k hk => by rw [hx] at hk hcd; exact canon_head hcd hk) hym (fun k hk => by rw [hy] at hk hcd; exact canon_last hcd hk) p2 p3
end
theorem closed_ok {P : Program} {f tS da me no : Nat} (hc : compFnX P [tS, 1000000] f = some (98, authority_closed_BC da me no, [.cA 2 8])) (hda : DayOK P da tS) (hme : MergedOK P me) (hno : NoneOK P no) : ClosedOK P f := by
  intro a ha H nx
  refine PCalls_ofX hc (by simp) fun hw => ?_
  have hmx : (maxLen : Int) = 9223372036854775807 := rfl
  have hfb := ha.fb
  have a1 : ¬ nx = nx + 1 + 1 := by omega
  have a2 : ¬ nx + 1 = nx + 1 + 1 := by omega
  have a3 : ¬ nx = nx + 1 := by omega
  have a4 : nx ≤ nx + 1 + 1 := by omega
  have a5 : nx ≤ nx + 1 := by omega
  have a6 : ¬ nx + 1 = nx := by omega
  have a7 : ¬ nx + 1 + 1 = nx := by omega
  have a8 : ¬ nx + 1 + 1 = nx + 1 := by omega
  obtain ⟨hdl, hds⟩ := canon_day ha.c ha.k
  have q1 : a.fr.tdiv 1440 = a.fr / 1440 := Int.tdiv_eq_ediv_of_nonneg hfb.1
  have q2 : a.to.tdiv 1440 = a.to / 1440 := Int.tdiv_eq_ediv_of_nonneg hfb.2.2.1
  have hw1 := w64 (x := a.fr / 1440) (by omega) (by omega)
  have hw2 := w64 (x := a.to / 1440) (by omega) (by omega)
  have hw3 := w64 (x := a.fr / 1440 + 8) (by omega) (by omega)
  have hw4 := w64 (x := a.to / 1440 - 8) (by omega) (by omega)
  simp [authority_closed_BC, a1, a2, a3, a4, a5, a6, a7, a8, q1, q2, hw1, hw2]
  obtain ⟨I, hI⟩ : ∃ I : PS → Prop, ∀ s, I s ↔ ∃ day : Int, CInv a nx H day s ∧ s.t 6 = .int .i64 day ∧ a.fr / 1440 ≤ day ∧ day ≤ 50000 ∧ nx + 1 + 1 + 1 ≤ s.nx := ⟨_, fun _ => Iff.rfl⟩
  refine wpc_loop _ _ _ _ _ _ I (fun s => match s.t 6 with | .int _ d => (a.to / 1440 + 1 - d).toNat | _ => 0) _ ((hI _).2 ⟨a.fr / 1440, ⟨by simp, by simp, by simp, by simp, by simp, by simp [a1, a2, a3], by simp [a4, a5], ⟨_, by simp [a2, a6]; rfl, rfl⟩, 0, 67108865, -1, ns [], [], by simp [outRow], Bx.nil (fun _ _ => rfl) (by simp), .inl ⟨rfl, rfl, rfl, rfl, SV_0 8 a⟩⟩, by simp, by omega, by omega, by simp⟩) ?_
  intro s hs
  obtain ⟨day, hC, h6, hd0, hd1, hnx⟩ := (hI _).1 hs
  obtain ⟨T, H', nx'⟩ := s
  have e3 : T 3 = .int .i64 (a.fr / 1440) := hC.t3
  have e4 : T 4 = .int .i64 (a.to / 1440) := hC.t4
  have h6 : T 6 = .int .i64 day := h6
  simp [e4, h6]
  refine wB_of (fun hlt => ?_) (fun hlt => ?_)
  · simp at hlt
    have body : ∀ (day' : Int) (s' : PS), CInv a nx H day' s' → s'.t 6 = .int .i64 day' → day ≤ day' → day' ≤ a.to / 1440 → near 8 (a.fr / 1440) (a.to / 1440) day' → nx + 1 + 1 + 1 ≤ s'.nx →
        wpc (PCalls P) P (fun _ => False) nx (authority_closed_BC_j2 da me) (kBlock 1 (kSeq (PCalls P) P (fun _ => False) nx (PC.reg [(some 25, none, PI.mv (Operand.tmp 6)), (some 26, none, PI.bi BinOp.add (Operand.tmp 25) (Operand.const (Value.int IntKind.i64 1))), (some 6, none, PI.mv (Operand.tmp 26))])
          (kLoop nx I (fun s => match s.t 6 with | .int _ d => (a.to / 1440 + 1 - d).toNat | _ => 0) ((a.to / 1440 + 1 - day).toNat) (kBlock 0 (kSeq (PCalls P) P (fun _ => False) nx (authority_closed_BC_j4 no) (fin nx [RV.cA 2 8] fun r H' x => (∃ r', r = r'.v ∧ IsClosed a r') ∧ H' = H)))))) s' := by
      intro day' s' hC' h6' hle hle2 hn hnx'
      refine cl_j2 hda hme ha hC' h6' hn hnx' fun ex s2 hex hC2 h62 hnx2 => ?_
      have hwd := w64 (x := day' + 1) (by omega) (by omega)
      have fin1 : kSeq (PCalls P) P (fun _ => False) nx (PC.reg [(some 25, none, PI.mv (Operand.tmp 6)), (some 26, none, PI.bi BinOp.add (Operand.tmp 25) (Operand.const (Value.int IntKind.i64 1))), (some 6, none, PI.mv (Operand.tmp 26))])
          (kLoop nx I (fun s => match s.t 6 with | .int _ d => (a.to / 1440 + 1 - d).toNat | _ => 0) ((a.to / 1440 + 1 - day).toNat) (kBlock 0 (kSeq (PCalls P) P (fun _ => False) nx (authority_closed_BC_j4 no) (fin nx [RV.cA 2 8] fun r H' x => (∃ r', r = r'.v ∧ IsClosed a r') ∧ H' = H)))) Ex.nrm s2 := by
        obtain ⟨T2, H2, n2⟩ := s2
        have h62 : T2 6 = .int .i64 day' := h62
        simp [h62, hwd]
        refine kLoop_nrm _ _ _ _ (Sub_refl _ _) ((hI _).2 ⟨day' + 1, ⟨hC2.t1, hC2.t2, hC2.t3, hC2.t4, hC2.t5, hC2.ha, hC2.own, hC2.h2, hC2.o⟩, by simp, by omega, by omega, hnx2⟩) (by simp; omega)
      rcases hex with rfl | rfl
      · simpa using fin1
      · simpa using fin1
    by_cases hsk : a.fr / 1440 + 8 < day ∧ day < a.to / 1440 - 8
    · simp [authority_closed_BC_j3, e3, e4, h6, hw3, hw4, hsk.1, hsk.2]
      have hC2 : ∀ s2 : PS, s2.H = H' → s2.nx = nx' → (∀ u, u < 6 → s2.t u = T u) → CInv a nx H (a.to / 1440 - 8) s2 := fun s2 h1 h2 h3 => by
        obtain ⟨T2, H2, n2⟩ := s2
        simp only at h1 h2 h3
        subst h1; subst h2
        obtain ⟨d, fr, to, v, l, o1, o2, o3⟩ := hC.o
        exact ⟨(h3 1 (by omega)).trans hC.t1, (h3 2 (by omega)).trans hC.t2, (h3 3 (by omega)).trans hC.t3, (h3 4 (by omega)).trans hC.t4, (h3 5 (by omega)).trans hC.t5, hC.ha, hC.own, hC.h2, d, fr, to, v, l, o1, o2, o3.congr (SV_skip hsk.1 hsk.2)⟩
      exact body (a.to / 1440 - 8) _ (hC2 _ rfl rfl (fun u hu => by
        have : u = 0 ∨ u = 1 ∨ u = 2 ∨ u = 3 ∨ u = 4 ∨ u = 5 := by omega
        rcases this with rfl | rfl | rfl | rfl | rfl | rfl <;> rfl)) (by simp) (by omega) (by omega) ⟨by omega, by omega, by omega⟩ hnx
    · have hC2 : ∀ s2 : PS, s2.H = H' → s2.nx = nx' → (∀ u, u < 6 → s2.t u = T u) → CInv a nx H day s2 := fun s2 h1 h2 h3 => by
        obtain ⟨T2, H2, n2⟩ := s2
        simp only at h1 h2 h3
        subst h1; subst h2
        exact ⟨(h3 1 (by omega)).trans hC.t1, (h3 2 (by omega)).trans hC.t2, (h3 3 (by omega)).trans hC.t3, (h3 4 (by omega)).trans hC.t4, (h3 5 (by omega)).trans hC.t5, hC.ha, hC.own, hC.h2, hC.o⟩
      have hnear : near 8 (a.fr / 1440) (a.to / 1440) day := ⟨by omega, by omega, by omega⟩
      by_cases hs1 : a.fr / 1440 + 8 < day
      · have hs2 : ¬ day < a.to / 1440 - 8 := fun h => hsk ⟨hs1, h⟩
        simp [authority_closed_BC_j3, e3, e4, h6, hw3, hw4, hs1, hs2]
        exact body day _ (hC2 _ rfl rfl (fun u hu => by
          have : u = 0 ∨ u = 1 ∨ u = 2 ∨ u = 3 ∨ u = 4 ∨ u = 5 := by omega
          rcases this with rfl | rfl | rfl | rfl | rfl | rfl <;> rfl)) (by simp [h6]) (by omega) (by omega) hnear hnx
      · simp [authority_closed_BC_j3, e3, e4, h6, hw3, hw4, hs1]
        exact body day _ (hC2 _ rfl rfl (fun u hu => by
          have : u = 0 ∨ u = 1 ∨ u = 2 ∨ u = 3 ∨ u = 4 ∨ u = 5 := by omega
          rcases this with rfl | rfl | rfl | rfl | rfl | rfl <;> rfl)) (by simp [h6]) (by omega) (by omega) hnear hnx
  · simp at hlt
    obtain ⟨d, fr, to, v, l, o1, o2, o3⟩ := hC.o
    have e2 : T 2 = ptr (nx + 1) 0 := hC.t2
    have e5 : T 5 = ptr (nx + 1 + 1) 0 := hC.t5
    obtain ⟨c, hc2, hcl⟩ := hC.h2
    have hown : Own nx H H' := hC.own
    simp only at o1 hc2
    have o1' := o1
    unfold outRow at o1'
    have hnone : (a.zones = 0 ∨ a.lines = 0 ∨ ∀ m, ¬ a.S m) → ∀ (T2 : Nat → Value), T2 2 = ptr (nx + 1) 0 →
        wpc (PCalls P) P (fun _ => False) nx ((PC.reg [(some 96, none, PI.callB no []), (none, none, PI.st 8 (Operand.tmp 2) (Operand.tmp 96))]).seq PC.ret) (fin nx [RV.cA 2 8] fun r H' x => (∃ r', r = r'.v ∧ IsClosed a r') ∧ H' = H) ⟨T2, H', nx'⟩ := by
      intro hz T2 f2
      simp
      refine wCallB_of (wCall_eq (Q := fun r => r = noneA.v) (hno _ _) fun r m1 hr hm1 => ?_)
      subst hr
      simp [f2, hc2, hcl]
      rw [List.drop_of_length_le (by omega)]
      simp
      exact wF_own hw (by rw [own_upd (by omega)]; exact hown) ⟨⟨noneA, rfl, .inl ⟨hz, rfl⟩⟩, rfl⟩
    obtain ⟨_, htob, _⟩ := o3.bounds ha
    rcases clo_end (by omega) o3 (by omega) with ⟨rfl, hno2⟩ | hclo
    · simp [authority_closed_BC_j4, e5, o1']
      have := hnone (.inr (.inr hno2))
      simp at this
      exact this _ (by simp [e2])
    · have hto0 : ¬ to < 0 := by have := hclo.to.1.1; omega
      by_cases hz : a.zones = 0
      · simp [authority_closed_BC_j4, e5, o1', hto0, hz]
        have := hnone (.inl hz)
        simp at this
        exact this _ (by simp [e2])
      by_cases hz2 : a.lines = 0
      · have hzb : (a.zones == 0) = false := by simpa using hz
        simp [authority_closed_BC_j4, e5, o1', hto0, hzb, hz2]
        have := hnone (.inr (.inl hz2))
        simp at this
        exact this _ (by simp [e2])
      have hzb : (a.zones == 0) = false := by simpa using hz
      have hzb2 : (a.lines == 0) = false := by simpa using hz2
      simp [authority_closed_BC_j4, e2, e5, o1', hto0, hzb, hzb2, hc2, hcl]
      have hlne : l ≠ [] := fun e => by
        have := (hclo.l _).2 ⟨_, hclo.fr.1, rfl⟩
        rw [e] at this; exact inS_nil _ this
      have hv : dg1 (dg1 v) = v := by
        obtain ⟨k, cap, rest, rfl, _⟩ := o2.at (List.length_pos_iff.2 hlne)
        rfl
      rw [hv]
      refine wF_out (n1 := nx + 1 + 1 + 1) (l := l) hw (by rw [own_upd (by omega)]; exact hown) (by omega) ?_ hlne ⟨⟨_, rfl, .inr ⟨hz, hz2, fr, to, d, l, hclo, rfl⟩⟩, rfl⟩
      obtain ⟨b1, b2, b3⟩ := o2
      refine ⟨fun _ _ => rfl, b2, b3.imp id ?_⟩
      rintro ⟨k2, cap, rest, a1, a2, a3, a4⟩
      exact ⟨k2, cap, rest, a1, a2, a3, by rw [upd_ne _ _ (by omega)]; exact a4⟩
end Go.PE
namespace Go.PE
open Go
def zeroA : Aut := ⟨false, 0, 0, 0, 0, 0, [], noName⟩
def ofR (l : List Pred) (v : Value) : Prop := (64 < l.length ∧ v = tup [zeroA.v, .int .i64 2]) ∨ (l.length ≤ 64 ∧ (∃ p ∈ l, p.valid = false) ∧ v = tup [zeroA.v, .int .i64 5]) ∨ (l.length ≤ 64 ∧ (∀ p ∈ l, p.valid = true) ∧ ∃ r : Aut, IsOf l r ∧ v = tup [r.v, .int .i64 0])
theorem elem_prd {l : List Pred} {n : Int} (h0 : 0 ≤ n) (hn : n.toNat < l.length) : elemAt (l.map Pred.v) n 6 = some (dptr 0 l[n.toNat].cells) := elemAt_map h0 hn rfl (by simp)
def AOfOK (P : Program) (f g : Nat) : Prop := ∀ (l : List Pred), (∀ p ∈ l, p.wf) → l.length ≤ maxLen → ∀ (H : Nat → Option (List Value)) (nx : Nat), H g = some bitsRow → g < nx → PCalls P f [deep (l.map Pred.v)] H nx (fun _ => False) (fun r H' _ => ofR l r ∧ H' = H)
theorem valid_named {l : List Pred} (h : ∀ p ∈ l, p.valid = true) : named l := fun p hp h6 => (valid_kinds (h p hp)).2.2.1 h6
theorem aof_ok {P : Program} {f g tS fu pv re cl : Nat} (hc : compFn P f = some (28, authority_OfC tS fu pv re cl, [.cA 2 8, .t 3])) (hfu : FullOK P fu) (hpv : PValidOK P pv g) (hre : RestrOK P re) (hcl : ClosedOK P cl) : AOfOK P f g := by
  intro l hl hlen H nx hg hgn
  refine PCalls_of hc (by simp) fun hw => ?_
  have hmx : (maxLen : Int) = 9223372036854775807 := rfl
  by_cases h64 : l.length ≤ 64
  case neg =>
    simp [authority_OfC, show (64 : Int) < l.length by omega]
    exact wF_own hw (by simp) ⟨.inl ⟨by omega, rfl⟩, rfl⟩
  simp [authority_OfC, authority_OfC_j2, show ¬ (64 : Int) < l.length by omega]
  refine wCall_eq (Q := fun r => r = fullA.v) (hfu _ _) fun r n1 hr hn1 => ?_
  subst hr
  simp at hn1
  have a1 : ¬ nx = n1 := by omega
  simp [show nx ≤ n1 by omega]
  refine wpc_loop _ _ _ _ _ _ (fun s => s.t 2 = ptr nx 0 ∧ s.t 4 = ptr n1 0 ∧ s.t 12 = deep (l.map Pred.v) ∧ s.t 13 = .int .i64 l.length ∧ Own nx H s.H ∧ n1 < s.nx ∧ (∃ c, s.H nx = some c ∧ c.length = 8) ∧ ∃ i : Nat, i ≤ l.length ∧ s.t 14 = .int .i64 i ∧ (∀ p ∈ l.take i, p.valid = true) ∧ ∃ a : Aut, s.H n1 = some a.cells ∧ OfI (l.take i) a)
    (fun s => match s.t 14 with | .int _ i => (l.length - i).toNat | _ => 0) _ ⟨by simp, by simp, by simp, by simp, by simp [show nx ≤ n1 by omega], by simp, ⟨_, by simp [a1]; rfl, rfl⟩, 0, by omega, by simp, by simp, fullA, by simp, OfI.nil⟩ ?_
  rintro ⟨T, H', nx'⟩ ⟨e2, e4, e12, e13, hown, hnx, ⟨c, hc1, hc2⟩, i, hi, e14, hval, a, ha1, ha2⟩
  simp only at e2 e4 e12 e13 hown hnx hc1 e14 ha1
  simp [e13, e14]
  refine wB_of (fun hlt => ?_) (fun hlt => ?_)
  · simp at hlt
    have he := elem_prd (l := l) (n := (i : Int)) (by omega) (by simpa using hlt)
    simp at he
    have hw1 := w64 (x := (i : Int) + 1) (by omega) (by omega)
    have hwf := hl _ (List.getElem_mem hlt)
    have htk : l.take (i + 1) = l.take i ++ [l[i]] := List.take_succ_eq_append_getElem hlt
    have hmem := List.getElem_mem hlt
    generalize l[i] = p at he hwf htk hmem
    have b1 : ¬ n1 = nx' := by omega
    have b2 : ¬ nx = nx' := by omega
    have b3 : ¬ nx' = n1 := by omega
    have hg' : H' g = some bitsRow := (hown g hgn).trans hg
    simp [authority_OfC_j1, e2, e4, e12, e14, he, show nx ≤ nx' by omega, Pred.ag]
    refine wCall_eq (Q := fun r => r = .bool p.valid) (hpv p hwf.1 _ _ (by simp [show ¬ g = nx' by omega, hg']) (by show g < nx' + 1; omega)) fun r n2 hr hn2 => ?_
    subst hr
    simp at hn2
    cases hp : p.valid with
    | false =>
      simp [e2, hc1, hc2, b2]
      rw [List.drop_of_length_le (by omega)]
      exact wF_own hw (by simp [hown, show nx ≤ nx' by omega]) ⟨.inr (.inl ⟨h64, ⟨p, hmem, hp⟩, rfl⟩), rfl⟩
    | true =>
      simp [e4, ha1, b1, Aut.ag, Pred.ag]
      refine wCall_eq (Q := fun r => ∃ a', r = a'.v ∧ OfI (l.take i ++ [p]) a') (hre (l.take i) a p ha2 hp hwf (valid_named hval) _ _) fun r n3 hr hn3 => ?_
      obtain ⟨a', rfl, ha'⟩ := hr
      simp at hn3
      simp [e4, e14, ha1, b1, hw1, show nx ≤ n1 by omega]
      refine kLoop_nrm _ _ _ _ (Sub_refl _ _) ⟨by simp [e2], by simp [e4], by simp [e12], by simp [e13], by simp [hown, show nx ≤ nx' by omega, show nx ≤ n1 by omega], by show n1 < n3; omega, ⟨c, by simp [b2, a1, hc1], hc2⟩, i + 1, by omega, by simp, fun q hq => ?_, a', by simp, by rw [htk]; exact ha'⟩ (by simp; omega)
      rw [htk] at hq
      rcases List.mem_append.1 hq with hq | hq
      · exact hval q hq
      · simp at hq; subst hq; exact hp
  · simp at hlt
    have hil : i = l.length := by omega
    subst hil
    rw [List.take_length] at hval ha2
    simp [e4, ha1, Aut.ag]
    refine wCall_eq (Q := fun r => ∃ r', r = r'.v ∧ IsClosed a r') (hcl a ha2.wf _ _) fun r n3 hr hn3 => ?_
    obtain ⟨r', rfl, hr'⟩ := hr
    simp at hn3
    simp [e2, hc1, hc2]
    rw [List.drop_of_length_le (by omega)]
    simp
    exact wF_own hw (by simp [hown]) ⟨.inr (.inr ⟨h64, hval, r', ⟨a, ha2, hr'⟩, rfl⟩), rfl⟩
end Go.PE
namespace Go.PE
open Go
def ref06_OfC_j1 : PC :=
 (.seq (.block 4 (.ord (.one (some 89, none, .mv (.tmp 5)) (.one (some 90, none, .mv (.tmp 9)) (.one (some 91, none, .mv (.tmp 5)) (.one (some 92, none, .mv (.tmp 9)) (.one (some 93, none, .nilc (.tmp 91)) (.one (some 94, none, .fa 3 (.tmp 93)) (.one (some 95, none, .ixP 1440 1 (.tmp 94) (.tmp 92)) (.one (some 96, none, .ld false (.tmp 95)) (.one (some 97, none, .mv (.tmp 96)) (.one (some 98, some (97, true), .fa 2 (.tmp 8)) (.one (some 99, some (97, true), .ld false (.tmp 98)) (.one (some 100, some (97, true), .fa 3 (.tmp 8)) (.one (some 101, some (97, true), .ld false (.tmp 100)) (.one (some 102, some (97, true), .bi .leq (.tmp 99) (.tmp 101)) (.one (some 103, some (97, true), .mv (.tmp 102)) (.one (some 104, some (103, true), .mv (.tmp 9)) (.one (some 105, some (103, true), .fa 2 (.tmp 8)) (.one (some 106, some (103, true), .ld false (.tmp 105)) (.one (some 107, some (103, true), .bi .geq (.tmp 104) (.tmp 106)) (.one (some 108, some (97, true), .pick (.tmp 103) (.tmp 107) (.const (.bool false))) (.one (some 109, some (97, true), .mv (.tmp 108)) (.one (some 110, some (109, true), .mv (.tmp 9)) (.one (some 111, some (109, true), .fa 3 (.tmp 8)) (.one (some 112, some (109, true), .ld false (.tmp 111)) (.one (some 113, some (109, true), .bi .leq (.tmp 110) (.tmp 112)) (.one (some 114, some (97, true), .pick (.tmp 109) (.tmp 113) (.const (.bool false))) (.one (some 115, some (97, true), .mv (.tmp 114)) (.one (some 116, some (115, false), .fa 2 (.tmp 8))
 (.one (some 117, some (115, false), .ld false (.tmp 116)) (.one (some 118, some (115, false), .fa 3 (.tmp 8)) (.one (some 119, some (115, false), .ld false (.tmp 118)) (.one (some 120, some (115, false), .bi .gtr (.tmp 117) (.tmp 119)) (.one (some 121, some (115, false), .mv (.tmp 120)) (.one (some 122, some (121, true), .mv (.tmp 9)) (.one (some 123, some (121, true), .fa 2 (.tmp 8)) (.one (some 124, some (121, true), .ld false (.tmp 123)) (.one (some 125, some (121, true), .bi .geq (.tmp 122) (.tmp 124)) (.one (some 126, some (121, true), .mv (.tmp 125)) (.one (some 127, some (126, false), .mv (.tmp 9)) (.one (some 128, some (126, false), .fa 3 (.tmp 8)) (.one (some 129, some (126, false), .ld false (.tmp 128)) (.one (some 130, some (126, false), .bi .leq (.tmp 127) (.tmp 129)) (.one (some 131, some (121, true), .pick (.tmp 126) (.const (.bool true)) (.tmp 130)) (.one (some 132, some (115, false), .pick (.tmp 121) (.tmp 131) (.const (.bool false))) (.one (some 133, some (97, true), .pick (.tmp 115) (.const (.bool true)) (.tmp 132)) (.one (some 134, none, .pick (.tmp 97) (.tmp 133) (.const (.bool false))) (.one (some 135, none, .nilc (.tmp 89)) (.one (some 136, none, .fa 3 (.tmp 135)) (.one (some 137, none, .ixP 1440 1 (.tmp 136) (.tmp 90)) (.one (none, none, .st 1 (.tmp 137) (.tmp 134)) .done)))))))))))))))))))))))))))))))))))))))))))))))))))) (.reg [(some 87, none, .mv (.tmp 9)), (some 88, none, .bi .add (.tmp 87) (.const (.int .i64 1))), (some 9, none, .mv (.tmp 88))]))
def ref06_OfC_j2 : PC :=
 (.seq (.reg [(some 31, none, .fa 0 (.tmp 8)), (some 32, none, .ld false (.tmp 31))]) (.block 2 (.seq (.reg [(some 34, none, .bi .eql (.tmp 32) (.const (.int .i64 1))), (some 33, none, .mv (.tmp 34))]) (.cond (.tmp 33) (.reg [(some 35, none, .fa 1 (.tmp 4)), (some 36, none, .ld false (.tmp 35)), (some 37, none, .fa 1 (.tmp 8)), (some 38, none, .ld false (.tmp 37)), (some 39, none, .bi .and (.tmp 36) (.tmp 38)), (some 40, none, .fa 1 (.tmp 4)), (none, none, .st 1 (.tmp 40) (.tmp 39))]) (.seq (.reg [(some 42, none, .bi .eql (.tmp 32) (.const (.int .i64 2))), (some 41, none, .mv (.tmp 42))]) (.cond (.tmp 41) (.reg [(some 43, none, .fa 2 (.tmp 4)), (some 44, none, .ld false (.tmp 43)), (some 45, none, .fa 1 (.tmp 8)), (some 46, none, .ld false (.tmp 45)), (some 47, none, .bi .and (.tmp 44) (.tmp 46)), (some 48, none, .fa 2 (.tmp 4)), (none, none, .st 1 (.tmp 48) (.tmp 47))]) (.seq (.reg [(some 50, none, .bi .eql (.tmp 32) (.const (.int .i64 3))), (some 49, none, .mv (.tmp 50))]) (.cond (.tmp 49) (.ord (.one (some 51, none, .mv (.tmp 5)) (.one (some 52, none, .mv (.tmp 5)) (.one (some 53, none, .nilc (.tmp 52)) (.one (some 54, none, .fa 2 (.tmp 53)) (.one (some 55, none, .ld false (.tmp 54)) (.one (some 56, none, .fa 1 (.tmp 8)) (.one (some 57, none, .ld false (.tmp 56)) (.one (some 58, none, .bi .and (.tmp 55) (.tmp 57)) (.one (some 59, none, .nilc (.tmp 51)) (.one (some 60, none, .fa 2 (.tmp 59)) (.one (none, none, .st 1 (.tmp 60) (.tmp 58)) .done))))))))))))
 (.seq (.reg [(some 62, none, .bi .eql (.tmp 32) (.const (.int .i64 4))), (some 61, none, .mv (.tmp 62))]) (.cond (.tmp 61) (.ord (.one (some 63, none, .mv (.tmp 5)) (.one (some 64, none, .mv (.tmp 5)) (.one (some 65, none, .mv (.tmp 5)) (.one (some 66, none, .nilc (.tmp 65)) (.one (some 67, none, .fa 0 (.tmp 66)) (.one (some 68, none, .ld false (.tmp 67)) (.one (some 69, none, .fa 2 (.tmp 8)) (.one (some 70, none, .ld false (.tmp 69)) (.one (some 71, none, .mm true (.tmp 68) (.tmp 70)) (.one (some 72, none, .mv (.tmp 5)) (.one (some 73, none, .nilc (.tmp 72)) (.one (some 74, none, .fa 1 (.tmp 73)) (.one (some 75, none, .ld false (.tmp 74)) (.one (some 76, none, .fa 3 (.tmp 8)) (.one (some 79, none, .nilc (.tmp 63)) (.one (some 80, none, .fa 0 (.tmp 79)) (.alt (.one (some 77, none, .ld false (.tmp 76)) (.one (some 78, none, .mm false (.tmp 75) (.tmp 77)) (.one (none, none, .st 1 (.tmp 80) (.tmp 71)) (.one (some 81, none, .nilc (.tmp 64)) (.one (some 82, none, .fa 1 (.tmp 81)) (.one (none, none, .st 1 (.tmp 82) (.tmp 78)) .done)))))) (.one (none, none, .st 1 (.tmp 80) (.tmp 71)) (.one (some 77, none, .ld false (.tmp 76)) (.one (some 78, none, .mm false (.tmp 75) (.tmp 77)) (.one (some 81, none, .nilc (.tmp 64)) (.one (some 82, none, .fa 1 (.tmp 81)) (.one (none, none, .st 1 (.tmp 82) (.tmp 78)) .done)))))))))))))))))))))))) (.seq (.reg [(some 84, none, .bi .eql (.tmp 32) (.const (.int .i64 5))), (some 83, none, .mv (.tmp 84))]) (.cond (.tmp 83)
 (.seq (.reg [(some 9, none, .mv (.const (.int .i64 0)))]) (.block 3 (.loop (.seq (.seq (.reg [(some 85, none, .mv (.tmp 9)), (some 86, none, .bi .lss (.tmp 85) (.const (.int .i64 1440)))]) (.cond (.tmp 86) .skip (.exit 3))) ref06_OfC_j1)))) (.seq (.reg [(some 139, none, .bi .eql (.tmp 32) (.const (.int .i64 6))), (some 138, none, .mv (.tmp 139))]) (.cond (.tmp 138) (.seq (.reg [(some 140, none, .mv (.tmp 6)), (some 141, none, .mv (.tmp 140)), (some 142, some (141, false), .fa 7 (.tmp 4)), (some 143, some (141, false), .ld false (.tmp 142)), (some 144, some (141, false), .bi .neq (.tmp 143) (.const (.string ⟨#[]⟩))), (some 145, some (141, false), .mv (.tmp 144)), (some 146, some (145, true), .fa 7 (.tmp 4)), (some 147, some (145, true), .ld false (.tmp 146)), (some 148, some (145, true), .fa 4 (.tmp 8)), (some 149, some (145, true), .ld false (.tmp 148)), (some 150, some (145, true), .bi .neq (.tmp 147) (.tmp 149)), (some 151, some (141, false), .pick (.tmp 145) (.tmp 150) (.const (.bool false))), (some 152, none, .pick (.tmp 141) (.const (.bool true)) (.tmp 151)), (some 6, none, .mv (.tmp 152))]) (.reg [(some 153, none, .fa 4 (.tmp 8)), (some 154, none, .ld false (.tmp 153)), (some 155, none, .fa 7 (.tmp 4)), (none, none, .st 1 (.tmp 155) (.tmp 154))])) .skip))))))))))))))
def ref06_OfC_j3 (f_ref06_Valid : Nat) : PC :=
 (.seq (.block 1 (.seq (.reg [(some 23, none, .mv (.tmp 0)), (some 24, none, .mv (.tmp 7)), (some 25, none, .ixS 6 (.tmp 23) (.tmp 24)), (some 26, none, .ldA 6 (.tmp 25)), (some 8, none, .alloc [(.int .i64 0), (.int .u64 0), (.int .i64 0), (.int .i64 0), (.string ⟨#[]⟩), (.int .i64 0)]), (none, none, .st 6 (.tmp 8) (.tmp 26))]) (.seq (.seq (.reg [(some 27, none, .ldA 6 (.tmp 8)), (some 28, none, .call f_ref06_Valid [(.tmp 27)]), (some 29, none, .un .not (.tmp 28))]) (.cond (.tmp 29) (.seq (.reg [(some 30, none, .build [(.inl [(.bool false)]), (.inl [(.int .u64 0)]), (.inl [(.int .u64 0)]), (.inl [(.int .u64 0)]), (.inl [(.int .i64 0)]), (.inl [(.int .i64 0)]), (.inl [(deep [])]), (.inl [(.string ⟨#[]⟩)])]), (none, none, .st 8 (.tmp 2) (.tmp 30)), (some 3, none, .mv (.const (.int .i64 5)))]) .ret) .skip)) ref06_OfC_j2))) (.reg [(some 21, none, .mv (.tmp 7)), (some 22, none, .bi .add (.tmp 21) (.const (.int .i64 1))), (some 7, none, .mv (.tmp 22))]))
def ref06_OfC_j4 (f_ref06_closed : Nat) : PC :=
 (.seq (.seq (.drw [(some 156, none, .mv (.tmp 6)), (some 157, none, .mv (.tmp 156)), (some 158, some (157, false), .fa 1 (.tmp 4)), (some 159, some (157, false), .ld false (.tmp 158)), (some 160, some (157, false), .bi .eql (.tmp 159) (.const (.int .u64 0))), (some 161, none, .pick (.tmp 157) (.const (.bool true)) (.tmp 160)), (some 162, none, .mv (.tmp 161)), (some 163, some (162, false), .fa 2 (.tmp 4)), (some 164, some (162, false), .ld false (.tmp 163)), (some 165, some (162, false), .bi .eql (.tmp 164) (.const (.int .u64 0))), (some 166, none, .pick (.tmp 162) (.const (.bool true)) (.tmp 165)), (some 167, none, .mv (.tmp 166)), (some 168, some (167, false), .mv (.tmp 5)), (some 169, some (167, false), .nilc (.tmp 168)), (some 170, some (167, false), .fa 0 (.tmp 169)), (some 171, some (167, false), .ld false (.tmp 170)), (some 172, some (167, false), .mv (.tmp 5)), (some 173, some (167, false), .nilc (.tmp 172)), (some 174, some (167, false), .fa 1 (.tmp 173)), (some 175, some (167, false), .ld false (.tmp 174)), (some 176, some (167, false), .bi .gtr (.tmp 171) (.tmp 175)), (some 177, none, .pick (.tmp 167) (.const (.bool true)) (.tmp 176))]) (.cond (.tmp 177) (.seq (.reg [(some 178, none, .build [(.inr ((.const (.bool true)), 1)), (.inl [(.int .u64 0)]), (.inl [(.int .u64 0)]), (.inl [(.int .u64 0)]), (.inl [(.int .i64 0)]), (.inl [(.int .i64 0)]), (.inl [(deep [])]), (.inl [(.string ⟨#[]⟩)])]), (none, none, .st 8 (.tmp 2) (.tmp 178)),
 (some 3, none, .mv (.const (.int .i64 0)))]) .ret) .skip)) (.seq (.reg [(some 179, none, .ldA 8 (.tmp 4)), (some 180, none, .mv (.tmp 5)), (some 181, none, .call f_ref06_closed [(.tmp 179), (.tmp 180)]), (none, none, .st 8 (.tmp 2) (.tmp 181)), (some 3, none, .mv (.const (.int .i64 0)))]) .ret))
def ref06_OfC_j5 (t_api_Span : Nat) (f_ref06_Full : Nat) (f_ref06_times : Nat) (f_ref06_Valid : Nat) (f_ref06_closed : Nat) : PC :=
 (.seq (.reg [(some 14, none, .call f_ref06_Full []), (some 4, none, .alloc [(.bool false), (.int .u64 0), (.int .u64 0), (.int .u64 0), (.int .i64 0), (.int .i64 0), (lin t_api_Span []), (.string ⟨#[]⟩)]), (none, none, .st 8 (.tmp 4) (.tmp 14))]) (.seq (.reg [(some 15, none, .ldA 8 (.tmp 4)), (some 16, none, .call f_ref06_times [(.tmp 15)]), (some 5, none, .mv (.tmp 16))]) (.seq (.reg [(some 6, none, .mv (.const (.bool false)))]) (.seq (.seq (.reg [(some 7, none, .mv (.const (.int .i64 0)))]) (.block 0 (.loop (.seq (.seq (.reg [(some 17, none, .mv (.tmp 7)), (some 18, none, .mv (.tmp 0)), (some 19, none, .len (.tmp 18)), (some 20, none, .bi .lss (.tmp 17) (.tmp 19))]) (.cond (.tmp 20) .skip (.exit 0))) (ref06_OfC_j3 f_ref06_Valid))))) (ref06_OfC_j4 f_ref06_closed)))))
def ref06_OfC (t_api_Span : Nat) (f_ref06_Full : Nat) (f_ref06_times : Nat) (f_ref06_Valid : Nat) (f_ref06_closed : Nat) : PC :=
 (.seq (.reg [(some 2, none, .alloc [(.bool false), (.int .u64 0), (.int .u64 0), (.int .u64 0), (.int .i64 0), (.int .i64 0), (lin t_api_Span []), (.string ⟨#[]⟩)]), (some 3, none, .mv (.const (.int .i64 0)))]) (.seq (.seq (.reg [(some 10, none, .mv (.tmp 0)), (some 11, none, .len (.tmp 10)), (some 12, none, .bi .gtr (.tmp 11) (.const (.int .i64 64)))]) (.cond (.tmp 12) (.seq (.reg [(some 13, none, .build [(.inl [(.bool false)]), (.inl [(.int .u64 0)]), (.inl [(.int .u64 0)]), (.inl [(.int .u64 0)]), (.inl [(.int .i64 0)]), (.inl [(.int .i64 0)]), (.inl [(deep [])]), (.inl [(.string ⟨#[]⟩)])]), (none, none, .st 8 (.tmp 2) (.tmp 13)), (some 3, none, .mv (.const (.int .i64 2)))]) .ret) .skip)) (ref06_OfC_j5 t_api_Span f_ref06_Full f_ref06_times f_ref06_Valid f_ref06_closed)))
def ref06_SameAuthorityC_j1 : PC :=
 (.seq (.block 1 (.seq (.drw [(some 69, none, .fa 6 (.tmp 2)), (some 70, none, .ld false (.tmp 69)), (some 71, none, .mv (.tmp 5)), (some 72, none, .ixS 2 (.tmp 70) (.tmp 71)), (some 73, none, .ldA 2 (.tmp 72)), (some 74, none, .fa 6 (.tmp 3)), (some 75, none, .ld false (.tmp 74)), (some 76, none, .mv (.tmp 5)), (some 77, none, .ixS 2 (.tmp 75) (.tmp 76)), (some 78, none, .ldA 2 (.tmp 77)), (some 79, none, .eqA true [(.int .i64), (.int .i64)] (.tmp 73) (.tmp 78))]) (.cond (.tmp 79) (.seq (.reg [(some 4, none, .mv (.const (.bool false)))]) .ret) .skip))) (.reg [(some 67, none, .mv (.tmp 5)), (some 68, none, .bi .add (.tmp 67) (.const (.int .i64 1))), (some 5, none, .mv (.tmp 68))]))
def ref06_SameAuthorityC_j2 : PC :=
 (.seq (.seq (.reg [(some 5, none, .mv (.const (.int .i64 0)))]) (.block 0 (.loop (.seq (.seq (.reg [(some 62, none, .mv (.tmp 5)), (some 63, none, .fa 6 (.tmp 2)), (some 64, none, .ld false (.tmp 63)), (some 65, none, .len (.tmp 64)), (some 66, none, .bi .lss (.tmp 62) (.tmp 65))]) (.cond (.tmp 66) .skip (.exit 0))) ref06_SameAuthorityC_j1)))) (.seq (.reg [(some 4, none, .mv (.const (.bool true)))]) .ret))
def ref06_SameAuthorityC : PC :=
 (.seq (.reg [(some 2, none, .box 8 (.tmp 0)), (some 3, none, .box 8 (.tmp 1)), (some 4, none, .mv (.const (.bool false)))]) (.seq (.seq (.reg [(some 6, none, .fa 0 (.tmp 2)), (some 7, none, .ld false (.tmp 6)), (some 8, none, .fa 0 (.tmp 3)), (some 9, none, .ld false (.tmp 8)), (some 10, none, .bb true (.tmp 7) (.tmp 9)), (some 11, none, .mv (.tmp 10)), (some 12, some (11, false), .fa 1 (.tmp 2)), (some 13, some (11, false), .ld false (.tmp 12)), (some 14, some (11, false), .fa 1 (.tmp 3)), (some 15, some (11, false), .ld false (.tmp 14)), (some 16, some (11, false), .bi .neq (.tmp 13) (.tmp 15)), (some 17, none, .pick (.tmp 11) (.const (.bool true)) (.tmp 16)), (some 18, none, .mv (.tmp 17)), (some 19, some (18, false), .fa 2 (.tmp 2)), (some 20, some (18, false), .ld false (.tmp 19)), (some 21, some (18, false), .fa 2 (.tmp 3)), (some 22, some (18, false), .ld false (.tmp 21)), (some 23, some (18, false), .bi .neq (.tmp 20) (.tmp 22)), (some 24, none, .pick (.tmp 18) (.const (.bool true)) (.tmp 23)), (some 25, none, .mv (.tmp 24)), (some 26, some (25, false), .fa 3 (.tmp 2)), (some 27, some (25, false), .ld false (.tmp 26)), (some 28, some (25, false), .fa 3 (.tmp 3)), (some 29, some (25, false), .ld false (.tmp 28)), (some 30, some (25, false), .bi .neq (.tmp 27) (.tmp 29)), (some 31, none, .pick (.tmp 25) (.const (.bool true)) (.tmp 30)), (some 32, none, .mv (.tmp 31)), (some 33, some (32, false), .fa 4 (.tmp 2)), (some 34, some (32, false), .ld false (.tmp 33)),
 (some 35, some (32, false), .fa 4 (.tmp 3)), (some 36, some (32, false), .ld false (.tmp 35)), (some 37, some (32, false), .bi .neq (.tmp 34) (.tmp 36)), (some 38, none, .pick (.tmp 32) (.const (.bool true)) (.tmp 37)), (some 39, none, .mv (.tmp 38)), (some 40, some (39, false), .fa 5 (.tmp 2)), (some 41, some (39, false), .ld false (.tmp 40)), (some 42, some (39, false), .fa 5 (.tmp 3)), (some 43, some (39, false), .ld false (.tmp 42)), (some 44, some (39, false), .bi .neq (.tmp 41) (.tmp 43)), (some 45, none, .pick (.tmp 39) (.const (.bool true)) (.tmp 44)), (some 46, none, .mv (.tmp 45)), (some 47, some (46, false), .fa 7 (.tmp 2)), (some 48, some (46, false), .ld false (.tmp 47)), (some 49, some (46, false), .fa 7 (.tmp 3)), (some 50, some (46, false), .ld false (.tmp 49)), (some 51, some (46, false), .bi .neq (.tmp 48) (.tmp 50)), (some 52, none, .pick (.tmp 46) (.const (.bool true)) (.tmp 51)), (some 53, none, .mv (.tmp 52)), (some 54, some (53, false), .fa 6 (.tmp 2)), (some 55, some (53, false), .ld false (.tmp 54)), (some 56, some (53, false), .len (.tmp 55)), (some 57, some (53, false), .fa 6 (.tmp 3)), (some 58, some (53, false), .ld false (.tmp 57)), (some 59, some (53, false), .len (.tmp 58)), (some 60, some (53, false), .bi .neq (.tmp 56) (.tmp 59)), (some 61, none, .pick (.tmp 53) (.const (.bool true)) (.tmp 60))]) (.cond (.tmp 61) (.seq (.reg [(some 4, none, .mv (.const (.bool false)))]) .ret) .skip)) ref06_SameAuthorityC_j2))
def ref06_FullC (t_api_Span : Nat) : PC :=
 (.seq (.reg [(some 0, none, .alloc [(.bool false), (.int .u64 0), (.int .u64 0), (.int .u64 0), (.int .i64 0), (.int .i64 0), (lin t_api_Span []), (.string ⟨#[]⟩)])]) (.seq (.reg [(some 1, none, .build [(.inr ((.const (.int .i64 0)), 1)), (.inr ((.const (.int .i64 1439)), 1))]), (some 2, none, .mks t_api_Span 2 false [(.tmp 1)]), (some 3, none, .build [(.inl [(.bool false)]), (.inr ((.const (.int .u64 18446744073709551615)), 1)), (.inr ((.const (.int .u64 4294967295)), 1)), (.inr ((.const (.int .u64 127)), 1)), (.inr ((.const (.int .i64 0)), 1)), (.inr ((.const (.int .i64 67108864)), 1)), (.inr ((.tmp 2), 1)), (.inl [(.string ⟨#[]⟩)])]), (none, none, .st 8 (.tmp 0) (.tmp 3))]) .ret))
def ref06_timesC_j1 : PC :=
 (.seq (.block 3 (.reg [(some 37, none, .mv (.tmp 3)), (some 38, none, .mv (.tmp 5)), (some 39, none, .nilc (.tmp 37)), (some 40, none, .fa 3 (.tmp 39)), (some 41, none, .ixP 1440 1 (.tmp 40) (.tmp 38)), (none, none, .st 1 (.tmp 41) (.const (.bool true)))])) (.reg [(some 35, none, .mv (.tmp 5)), (some 36, none, .bi .add (.tmp 35) (.const (.int .i64 1))), (some 5, none, .mv (.tmp 36))]))
def ref06_timesC_j2 : PC :=
 (.seq (.block 1 (.seq (.reg [(some 21, none, .fa 6 (.tmp 1)), (some 22, none, .ld false (.tmp 21)), (some 23, none, .mv (.tmp 4)), (some 24, none, .ixS 2 (.tmp 22) (.tmp 23)), (some 25, none, .fa 0 (.tmp 24)), (some 26, none, .ld false (.tmp 25)), (some 5, none, .mv (.tmp 26))]) (.block 2 (.loop (.seq (.seq (.reg [(some 27, none, .mv (.tmp 5)), (some 28, none, .fa 6 (.tmp 1)), (some 29, none, .ld false (.tmp 28)), (some 30, none, .mv (.tmp 4)), (some 31, none, .ixS 2 (.tmp 29) (.tmp 30)), (some 32, none, .fa 1 (.tmp 31)), (some 33, none, .ld false (.tmp 32)), (some 34, none, .bi .leq (.tmp 27) (.tmp 33))]) (.cond (.tmp 34) .skip (.exit 2))) ref06_timesC_j1))))) (.reg [(some 19, none, .mv (.tmp 4)), (some 20, none, .bi .add (.tmp 19) (.const (.int .i64 1))), (some 4, none, .mv (.tmp 20))]))
def ref06_timesC : PC :=
 (.seq (.reg [(some 1, none, .box 8 (.tmp 0)), (some 2, none, .mv (.const (.pointer none)))]) (.seq (.reg [(some 6, none, .fa 4 (.tmp 1)), (some 7, none, .ld false (.tmp 6)), (some 8, none, .fa 5 (.tmp 1)), (some 9, none, .ld false (.tmp 8)), (some 10, none, .fa 3 (.tmp 1)), (some 11, none, .ld false (.tmp 10)), (some 12, none, .build [(.inr ((.tmp 7), 1)), (.inr ((.tmp 9), 1)), (.inr ((.tmp 11), 1)), (.inl (List.replicate 1440 (.bool false)))]), (some 13, none, .box 1443 (.tmp 12)), (some 3, none, .mv (.tmp 13))]) (.seq (.seq (.reg [(some 4, none, .mv (.const (.int .i64 0)))]) (.block 0 (.loop (.seq (.seq (.reg [(some 14, none, .mv (.tmp 4)), (some 15, none, .fa 6 (.tmp 1)), (some 16, none, .ld false (.tmp 15)), (some 17, none, .len (.tmp 16)), (some 18, none, .bi .lss (.tmp 14) (.tmp 17))]) (.cond (.tmp 18) .skip (.exit 0))) ref06_timesC_j2)))) (.seq (.reg [(some 42, none, .mv (.tmp 3)), (some 2, none, .mv (.tmp 42))]) .ret))))
def ref06_closed_BC_j1 : PC :=
 (.reg [(some 92, none, .mv (.tmp 8)), (some 93, none, .bi .mul (.tmp 92) (.const (.int .i64 1440))), (some 94, none, .mv (.tmp 9)), (some 95, none, .bi .add (.tmp 93) (.tmp 94)), (some 96, none, .fa 5 (.tmp 2)), (none, none, .st 1 (.tmp 96) (.tmp 95))])
def ref06_closed_BC_j2 : PC :=
 (.seq (.reg [(some 74, none, .mv (.tmp 9)), (some 75, none, .ixP 1440 1 (.tmp 7) (.tmp 74)), (none, none, .st 1 (.tmp 75) (.const (.bool true)))]) (.seq (.reg [(some 76, none, .fa 3 (.tmp 2)), (some 77, none, .ld false (.tmp 76)), (some 78, none, .mv (.tmp 8)), (some 79, none, .bi .rem (.tmp 78) (.const (.int .i64 7))), (some 80, none, .cv .u64 (.tmp 79)), (some 81, none, .bi .shl (.const (.int .u64 1)) (.tmp 80)), (some 82, none, .bi .or (.tmp 77) (.tmp 81)), (some 83, none, .fa 3 (.tmp 2)), (none, none, .st 1 (.tmp 83) (.tmp 82))]) (.seq (.seq (.reg [(some 84, none, .fa 4 (.tmp 2)), (some 85, none, .ld false (.tmp 84)), (some 86, none, .bi .lss (.tmp 85) (.const (.int .i64 0)))]) (.cond (.tmp 86) (.reg [(some 87, none, .mv (.tmp 8)), (some 88, none, .bi .mul (.tmp 87) (.const (.int .i64 1440))), (some 89, none, .mv (.tmp 9)), (some 90, none, .bi .add (.tmp 88) (.tmp 89)), (some 91, none, .fa 4 (.tmp 2)), (none, none, .st 1 (.tmp 91) (.tmp 90))]) .skip)) ref06_closed_BC_j1)))
def ref06_closed_BC_j3 (f_ref06_Times_has : Nat) : PC :=
 (.seq (.block 3 (.seq (.seq (.reg [(some 58, none, .mv (.tmp 1)), (some 59, none, .mv (.tmp 9)), (some 60, none, .nilc (.tmp 58)), (some 61, none, .fa 3 (.tmp 60)), (some 62, none, .ixP 1440 1 (.tmp 61) (.tmp 59)), (some 63, none, .ld false (.tmp 62)), (some 64, none, .un .not (.tmp 63)), (some 65, none, .mv (.tmp 64)), (some 66, some (65, false), .mv (.tmp 1)), (some 67, some (65, false), .mv (.tmp 8)), (some 68, some (65, false), .bi .mul (.tmp 67) (.const (.int .i64 1440))), (some 69, some (65, false), .mv (.tmp 9)), (some 70, some (65, false), .bi .add (.tmp 68) (.tmp 69)), (some 71, some (65, false), .callB f_ref06_Times_has [(.tmp 66), (.tmp 70)]), (some 72, some (65, false), .un .not (.tmp 71)), (some 73, none, .pick (.tmp 65) (.const (.bool true)) (.tmp 72))]) (.cond (.tmp 73) (.exit 3) .skip)) ref06_closed_BC_j2)) (.reg [(some 56, none, .mv (.tmp 9)), (some 57, none, .bi .add (.tmp 56) (.const (.int .i64 1))), (some 9, none, .mv (.tmp 57))]))
def ref06_closed_BC_j4 (f_ref06_Times_has : Nat) : PC :=
 (.seq (.reg [(some 9, none, .mv (.const (.int .i64 0)))]) (.block 2 (.loop (.seq (.seq (.reg [(some 54, none, .mv (.tmp 9)), (some 55, none, .bi .lss (.tmp 54) (.const (.int .i64 1440)))]) (.cond (.tmp 55) .skip (.exit 2))) (ref06_closed_BC_j3 f_ref06_Times_has)))))
def ref06_closed_BC_j5 (f_ref06_Times_has : Nat) : PC :=
 (.seq (.seq (.reg [(some 44, none, .mv (.tmp 1)), (some 45, none, .nilc (.tmp 44)), (some 46, none, .fa 2 (.tmp 45)), (some 47, none, .ld false (.tmp 46)), (some 48, none, .mv (.tmp 8)), (some 49, none, .bi .rem (.tmp 48) (.const (.int .i64 7))), (some 50, none, .cv .u64 (.tmp 49)), (some 51, none, .bi .shr (.tmp 47) (.tmp 50)), (some 52, none, .bi .rem (.tmp 51) (.const (.int .u64 2))), (some 53, none, .bi .eql (.tmp 52) (.const (.int .u64 0)))]) (.cond (.tmp 53) (.exit 1) .skip)) (ref06_closed_BC_j4 f_ref06_Times_has))
def ref06_closed_BC_j6 (f_ref06_Times_has : Nat) : PC :=
 (.seq (.block 1 (.seq (.seq (.reg [(some 32, none, .mv (.tmp 8)), (some 33, none, .mv (.tmp 5)), (some 34, none, .bi .add (.tmp 33) (.const (.int .i64 9))), (some 35, none, .bi .gtr (.tmp 32) (.tmp 34)), (some 36, none, .mv (.tmp 35)), (some 37, some (36, true), .mv (.tmp 8)), (some 38, some (36, true), .mv (.tmp 6)), (some 39, some (36, true), .bi .sub (.tmp 38) (.const (.int .i64 9))), (some 40, some (36, true), .bi .lss (.tmp 37) (.tmp 39)), (some 41, none, .pick (.tmp 36) (.tmp 40) (.const (.bool false)))]) (.cond (.tmp 41) (.reg [(some 42, none, .mv (.tmp 6)), (some 43, none, .bi .sub (.tmp 42) (.const (.int .i64 9))), (some 8, none, .mv (.tmp 43))]) .skip)) (ref06_closed_BC_j5 f_ref06_Times_has))) (.reg [(some 30, none, .mv (.tmp 8)), (some 31, none, .bi .add (.tmp 30) (.const (.int .i64 1))), (some 8, none, .mv (.tmp 31))]))
def ref06_closed_BC_j7 (t_api_Span : Nat) : PC :=
 (.seq (.reg [(some 109, none, .fa 6 (.tmp 2)), (some 110, none, .ld false (.tmp 109)), (some 111, none, .lenB (.tmp 110)), (some 11, none, .mv (.tmp 111))]) (.seq (.reg [(some 112, none, .mv (.tmp 11)), (some 113, none, .bi .gtr (.tmp 112) (.const (.int .i64 0))), (some 114, none, .mv (.tmp 113)), (some 115, some (114, true), .fa 6 (.tmp 2)), (some 116, some (114, true), .ld false (.tmp 115)), (some 117, some (114, true), .mv (.tmp 11)), (some 118, some (114, true), .bi .sub (.tmp 117) (.const (.int .i64 1))), (some 119, some (114, true), .ixB 2 (.tmp 116) (.tmp 118)), (some 120, some (114, true), .fa 1 (.tmp 119)), (some 121, some (114, true), .ld false (.tmp 120)), (some 122, some (114, true), .mv (.tmp 10)), (some 123, some (114, true), .bi .sub (.tmp 122) (.const (.int .i64 1))), (some 124, some (114, true), .bi .eql (.tmp 121) (.tmp 123)), (some 125, none, .pick (.tmp 114) (.tmp 124) (.const (.bool false)))]) (.cond (.tmp 125) (.reg [(some 126, none, .fa 6 (.tmp 2)), (some 127, none, .ld false (.tmp 126)), (some 128, none, .mv (.tmp 11)), (some 129, none, .bi .sub (.tmp 128) (.const (.int .i64 1))), (some 130, none, .mv (.tmp 10)), (some 131, none, .ixB 2 (.tmp 127) (.tmp 129)), (some 132, none, .fa 1 (.tmp 131)), (none, none, .st 1 (.tmp 132) (.tmp 130))]) (.reg [(some 133, none, .fa 6 (.tmp 2)), (some 134, none, .ld true (.tmp 133)), (some 135, none, .mv (.tmp 10)), (some 136, none, .mv (.tmp 10)), (some 137, none, .build [(.inr ((.tmp 135), 1)), (.inr ((.tmp 136),
 1))]), (some 138, none, .mks t_api_Span 2 false [(.tmp 137)]), (some 139, none, .appB 2 16 [(.int .i64 0), (.int .i64 0)] 134 (.tmp 138)), (some 140, none, .fa 6 (.tmp 2)), (none, none, .sts (.tmp 140) 139)]))))
def ref06_closed_BC_j8 (t_api_Span : Nat) : PC :=
 (.seq (.block 5 (.seq (.seq (.reg [(some 105, none, .mv (.tmp 10)), (some 106, none, .ixP 1440 1 (.tmp 7) (.tmp 105)), (some 107, none, .ld false (.tmp 106)), (some 108, none, .un .not (.tmp 107))]) (.cond (.tmp 108) (.exit 5) .skip)) (ref06_closed_BC_j7 t_api_Span))) (.reg [(some 103, none, .mv (.tmp 10)), (some 104, none, .bi .add (.tmp 103) (.const (.int .i64 1))), (some 10, none, .mv (.tmp 104))]))
def ref06_closed_BC_j9 (t_api_Span : Nat) : PC :=
 (.seq (.seq (.reg [(some 10, none, .mv (.const (.int .i64 0)))]) (.block 4 (.loop (.seq (.seq (.reg [(some 101, none, .mv (.tmp 10)), (some 102, none, .bi .lss (.tmp 101) (.const (.int .i64 1440)))]) (.cond (.tmp 102) .skip (.exit 4))) (ref06_closed_BC_j8 t_api_Span))))) (.seq (.reg [(some 141, none, .ldA 8 (.tmp 2)), (none, none, .st 8 (.tmp 4) (.tmp 141))]) .ret))
def ref06_closed_BC_j10 (t_api_Span : Nat) : PC :=
 (.seq (.seq (.reg [(some 97, none, .fa 4 (.tmp 2)), (some 98, none, .ld false (.tmp 97)), (some 99, none, .bi .lss (.tmp 98) (.const (.int .i64 0)))]) (.cond (.tmp 99) (.seq (.reg [(some 100, none, .build [(.inr ((.const (.bool true)), 1)), (.inl [(.int .u64 0)]), (.inl [(.int .u64 0)]), (.inl [(.int .u64 0)]), (.inl [(.int .i64 0)]), (.inl [(.int .i64 0)]), (.inl [(deep [])]), (.inl [(.string ⟨#[]⟩)])]), (none, none, .st 8 (.tmp 4) (.tmp 100))]) .ret) .skip)) (ref06_closed_BC_j9 t_api_Span))
def ref06_closed_BC (f_ref06_Times_has : Nat) (t_api_Span : Nat) : PC :=
 (.seq (.reg [(some 2, none, .box 8 (.tmp 0)), (some 4, none, .alloc [(.bool false), (.int .u64 0), (.int .u64 0), (.int .u64 0), (.int .i64 0), (.int .i64 0), (ns []), (.string ⟨#[]⟩)])]) (.seq (.drw [(some 12, none, .mv (.tmp 1)), (some 13, none, .nilc (.tmp 12)), (some 14, none, .fa 0 (.tmp 13)), (some 15, none, .ld false (.tmp 14)), (some 16, none, .bi .quo (.tmp 15) (.const (.int .i64 1440))), (some 17, none, .mv (.tmp 1)), (some 18, none, .nilc (.tmp 17)), (some 19, none, .fa 1 (.tmp 18)), (some 20, none, .ld false (.tmp 19)), (some 21, none, .bi .quo (.tmp 20) (.const (.int .i64 1440))), (some 5, none, .mv (.tmp 16)), (some 6, none, .mv (.tmp 21))]) (.seq (.reg [(some 7, none, .alloc (List.replicate 1440 (.bool false)))]) (.seq (.reg [(some 22, none, .fa 3 (.tmp 2)), (none, none, .st 1 (.tmp 22) (.const (.int .u64 0))), (some 23, none, .fa 4 (.tmp 2)), (none, none, .st 1 (.tmp 23) (.const (.int .i64 (-1)))), (some 24, none, .fa 5 (.tmp 2)), (none, none, .st 1 (.tmp 24) (.const (.int .i64 (-1)))), (some 25, none, .fa 6 (.tmp 2)), (none, none, .stN (.tmp 25))]) (.seq (.seq (.reg [(some 26, none, .mv (.tmp 5)), (some 8, none, .mv (.tmp 26))]) (.block 0 (.loop (.seq (.seq (.reg [(some 27, none, .mv (.tmp 8)), (some 28, none, .mv (.tmp 6)), (some 29, none, .bi .leq (.tmp 27) (.tmp 28))]) (.cond (.tmp 29) .skip (.exit 0))) (ref06_closed_BC_j6 f_ref06_Times_has))))) (ref06_closed_BC_j10 t_api_Span))))))
def ref06_Times_hasC : PC :=
 (.seq (.reg [(some 4, none, .mv (.const (.bool false)))]) (.seq (.reg [(some 5, none, .mv (.tmp 1)), (some 6, none, .mv (.tmp 0)), (some 7, none, .nilc (.tmp 6)), (some 8, none, .fa 0 (.tmp 7)), (some 9, none, .ld false (.tmp 8)), (some 10, none, .bi .geq (.tmp 5) (.tmp 9)), (some 11, none, .mv (.tmp 10)), (some 12, some (11, true), .mv (.tmp 1)), (some 13, some (11, true), .mv (.tmp 0)), (some 14, some (11, true), .nilc (.tmp 13)), (some 15, some (11, true), .fa 1 (.tmp 14)), (some 16, some (11, true), .ld false (.tmp 15)), (some 17, some (11, true), .bi .leq (.tmp 12) (.tmp 16)), (some 18, none, .pick (.tmp 11) (.tmp 17) (.const (.bool false))), (some 19, none, .mv (.tmp 18)), (some 20, some (19, true), .mv (.tmp 0)), (some 21, some (19, true), .nilc (.tmp 20)), (some 22, some (19, true), .fa 2 (.tmp 21)), (some 23, some (19, true), .ld false (.tmp 22)), (some 24, some (19, true), .mv (.tmp 1)), (some 25, some (19, true), .bi .quo (.tmp 24) (.const (.int .i64 1440))), (some 26, some (19, true), .bi .rem (.tmp 25) (.const (.int .i64 7))), (some 27, some (19, true), .cv .u64 (.tmp 26)), (some 28, some (19, true), .bi .shr (.tmp 23) (.tmp 27)), (some 29, some (19, true), .bi .rem (.tmp 28) (.const (.int .u64 2))), (some 30, some (19, true), .bi .eql (.tmp 29) (.const (.int .u64 1))), (some 31, none, .pick (.tmp 19) (.tmp 30) (.const (.bool false))), (some 32, none, .mv (.tmp 31)), (some 33, some (32, true), .mv (.tmp 0)), (some 34, some (32, true), .mv (.tmp 1)),
 (some 35, some (32, true), .bi .rem (.tmp 34) (.const (.int .i64 1440))), (some 36, some (32, true), .nilc (.tmp 33)), (some 37, some (32, true), .fa 3 (.tmp 36)), (some 38, some (32, true), .ixP 1440 1 (.tmp 37) (.tmp 35)), (some 39, some (32, true), .ld false (.tmp 38)), (some 40, none, .pick (.tmp 32) (.tmp 39) (.const (.bool false))), (some 4, none, .mv (.tmp 40))]) .ret))
end Go.PE
namespace Go.PE
open Go
/-- the row of the minutes of a day -/
def tmR (m : Nat → Bool) : List Value := (List.range 1440).map fun k => Value.bool (m k)
@[simp] theorem tmR_len (m : Nat → Bool) : (tmR m).length = 1440 := by simp [tmR]
theorem tmR_get (m : Nat → Bool) {k : Nat} (h : k < 1440) : (tmR m)[k]? = some (.bool (m k)) := by
  unfold tmR
  rw [List.getElem?_map, List.getElem?_range h]; rfl
@[simp] theorem tmR_dg (m : Nat → Bool) : (tmR m).map dg1 = tmR m := by
  unfold tmR
  rw [List.map_map]; rfl
theorem tmR_ext {l : List Value} {m : Nat → Bool} (hl : l.length = 1440) (h : ∀ k, k < 1440 → l[k]? = some (.bool (m k))) : l = tmR m := by
  refine List.ext_getElem? fun i => ?_
  by_cases hi : i < 1440
  · rw [h i hi, tmR_get m hi]
  · rw [List.getElem?_eq_none (by omega), List.getElem?_eq_none (by simp; omega)]
theorem tmR_rep : List.replicate 1440 (Value.bool false) = tmR fun _ => false := tmR_ext (List.length_replicate ..) fun k hk => by rw [List.getElem?_replicate, if_pos hk]
theorem tmR_set (m : Nat → Bool) {k : Nat} (b : Bool) (h : k < 1440) : (tmR m).take k ++ Value.bool b :: (tmR m).drop (k + 1) = tmR (upd m k b) := by
  refine tmR_ext (by simp; omega) fun j hj => ?_
  rcases Nat.lt_trichotomy j k with hlt | heq | hgt
  · rw [List.getElem?_append_left (by simp; omega), List.getElem?_take, if_pos hlt, tmR_get m hj, upd_ne _ _ (by omega)]
  · subst heq
    rw [List.getElem?_append_right (by simp; omega)]
    simp [show min j 1440 = j by omega]
  · rw [List.getElem?_append_right (by simp; omega), List.length_take, tmR_len, show min k 1440 = k by omega]
    obtain ⟨c, hc⟩ : ∃ c, j - k = c + 1 := ⟨j - k - 1, by omega⟩
    rw [hc, List.getElem?_cons_succ, List.getElem?_drop, show k + 1 + c = j by omega, tmR_get m hj, upd_ne _ _ (by omega)]
structure Tms where
  fr : Int
  to : Int
  days : Int
  m : Nat → Bool
def Tms.cells (t : Tms) : List Value := .int .i64 t.fr :: .int .i64 t.to :: .int .u64 t.days :: tmR t.m
@[simp] theorem Tms.len (t : Tms) : t.cells.length = 1443 := by simp [Tms.cells]
@[simp] theorem Tms.dg1s (t : Tms) : t.cells.map dg1 = t.cells := by simp [Tms.cells]
@[simp] theorem Tms.get0 (x : Tms) : x.cells[0]? = some (.int .i64 x.fr) := _root_.id rfl
@[simp] theorem Tms.get1 (x : Tms) : x.cells[1]? = some (.int .i64 x.to) := _root_.id rfl
@[simp] theorem Tms.get2 (x : Tms) : x.cells[2]? = some (.int .u64 x.days) := _root_.id rfl
@[simp] theorem Tms.getE0 (x : Tms) (h : 0 < x.cells.length) : x.cells[0] = .int .i64 x.fr := _root_.id rfl
@[simp] theorem Tms.getE1 (x : Tms) (h : 1 < x.cells.length) : x.cells[1] = .int .i64 x.to := _root_.id rfl
@[simp] theorem Tms.getE2 (x : Tms) (h : 2 < x.cells.length) : x.cells[2] = .int .u64 x.days := _root_.id rfl
theorem Tms.get3 (x : Tms) {k : Nat} (h : k < 1440) : x.cells[3 + k]? = some (.bool (x.m k)) := by
  unfold Tms.cells
  rw [show 3 + k = k + 1 + 1 + 1 by omega, List.getElem?_cons_succ, List.getElem?_cons_succ, List.getElem?_cons_succ, tmR_get _ h]
theorem Tms.set3 (x : Tms) {k : Nat} (b : Bool) (h : k < 1440) : x.cells.take (3 + k) ++ Value.bool b :: x.cells.drop (3 + k + 1) = { x with m := upd x.m k b : Tms }.cells := by
  unfold Tms.cells
  rw [show 3 + k = k + 1 + 1 + 1 by omega]
  simp [tmR_set _ b h]
/-- the set of minutes -/
def Tms.S (t : Tms) (m : Int) : Prop := Tm t.fr t.to (tb t.days) (fun k => t.m k.toNat = true) m
def Tms.has (t : Tms) (m : Int) : Bool := decide (t.fr ≤ m) && decide (m ≤ t.to) && tb t.days (wk m) && t.m (m % 1440).toNat
theorem Tms.has_iff (t : Tms) (m : Int) : t.has m = true ↔ t.S m := by
  simp [Tms.has, Tms.S, Tm, and_assoc]
def HasOK (P : Program) (f : Nat) : Prop := ∀ (t : Tms) (m : Int) (kt : Nat), isU64 t.days → 0 ≤ m → m ≤ 1000000000 → ∀ (H : Nat → Option (List Value)) (nx : Nat), H kt = some t.cells → kt < nx →
    PCalls P f [ptr kt 0, .int .i64 m] H nx (fun _ => False) (fun r H' _ => r = .bool (t.has m) ∧ H' = H)
theorem has_ok {P : Program} {f : Nat} (hc : compFn P f = some (41, ref06_Times_hasC, [.t 4])) : HasOK P f := by
  intro t m kt hdu h0 h1 H nx hkt hkn
  refine PCalls_of hc (by simp) fun hw => ?_
  have hmx : (maxLen : Int) = 9223372036854775807 := rfl
  have q1 : m.tdiv 1440 = m / 1440 := Int.tdiv_eq_ediv_of_nonneg h0
  have q2 : m.tmod 1440 = m % 1440 := Int.tmod_eq_emod_of_nonneg h0
  have q3 : (m / 1440).tmod 7 = m / 1440 % 7 := Int.tmod_eq_emod_of_nonneg (by omega)
  have hw1 := w64 (x := m / 1440) (by omega) (by omega)
  have hwu : IntKind.u64.wrap (m / 1440 % 7) = m / 1440 % 7 := by rw [IntKind.wrap_u64]; omega
  have q4 : min (m / 1440 % 7).toNat 64 = (m / 1440 % 7).toNat := by omega
  have q5 := shr_mod2 hdu (m / 1440 % 7).toNat
  have q6 : IntKind.u64.bits = 64 := rfl
  have hwk : wk m = (m / 1440 % 7).toNat := rfl
  have hg := t.get3 (k := (m % 1440).toNat) (by omega)
  by_cases g1 : t.fr ≤ m
  case neg =>
    simp [ref06_Times_hasC, hkt, g1]
    exact wF_own hw (by simp) ⟨by simp [Tms.has, g1], rfl⟩
  by_cases g2 : m ≤ t.to
  case neg =>
    simp [ref06_Times_hasC, hkt, g1, g2]
    exact wF_own hw (by simp) ⟨by simp [Tms.has, g2], rfl⟩
  cases hb : tb t.days (m / 1440 % 7).toNat with
  | false =>
    rw [hb] at q5
    simp [ref06_Times_hasC, hkt, g1, g2, q1, q2, q3, hw1, hwu, q4, q5, q6, show 0 ≤ m / 1440 % 7 by omega]
    exact wF_own hw (by simp) ⟨by simp [Tms.has, hwk, hb], rfl⟩
  | true =>
    rw [hb] at q5
    simp [ref06_Times_hasC, hkt, g1, g2, q1, q2, q3, hw1, hwu, q4, q5, q6, show 0 ≤ m / 1440 % 7 by omega, show 0 ≤ m % 1440 by omega, show m % 1440 < 1440 by omega, hg]
    exact wF_own hw (by simp) ⟨by simp [Tms.has, hwk, hb, g1, g2], rfl⟩
theorem rfull_ok {P : Program} {f tS : Nat} (hc : compFn P f = some (4, ref06_FullC tS, [.cA 0 8])) : FullOK P f := by
  intro H nx
  refine PCalls_of hc (by simp) fun hw => ?_
  simp [ref06_FullC]
  exact wF_own hw (by simp) ⟨rfl, rfl⟩
end Go.PE
namespace Go.PE
open Go
def TimesOK (P : Program) (f : Nat) : Prop := ∀ (a : Aut), (∀ s ∈ a.daily, 0 ≤ s.f ∧ s.t < 1440) → a.daily.length ≤ 1000000 → ∀ (H : Nat → Option (List Value)) (nx : Nat),
    PCalls P f [a.v] H nx (fun _ => False) (fun r H' nx' => nx' = nx + 1 + 1 ∧ r = ptr (nx + 1) 0 ∧ ∃ m : Nat → Bool, (∀ k : Nat, k < 1440 → (m k = true ↔ inS a.daily k)) ∧ H' = upd H (nx + 1) (some (Tms.mk a.fr a.to a.days m).cells))
theorem times_ok {P : Program} {f : Nat} (hc : compFn P f = some (43, ref06_timesC, [.t 2])) : TimesOK P f := by
  intro a hok hlen H nx
  refine PCalls_of hc (by simp) fun hw => ?_
  have hmx : (maxLen : Int) = 9223372036854775807 := rfl
  have a1 : ¬ nx = nx + 1 := by omega
  have a2 : nx ≤ nx + 1 := by omega
  have a3 : ¬ nx + 1 = nx := by omega
  have hcl : ∀ (u v d : Int) (m : Nat → Bool), (.int .i64 u :: .int .i64 v :: .int .u64 d :: tmR m : List Value) = (Tms.mk u v d m).cells := fun _ _ _ _ => rfl
  simp [ref06_timesC, tmR_rep, -List.reduceReplicate, hcl, a1, a2, a3]
  refine wpc_loop _ _ _ _ _ _ (fun s => s.t 1 = ptr nx 0 ∧ s.t 3 = ptr (nx + 1) 0 ∧ s.nx = nx + 1 + 1 ∧ s.H nx = some a.cells ∧ (∀ j, j ≠ nx → j ≠ nx + 1 → s.H j = H j) ∧ ∃ i : Nat, i ≤ a.daily.length ∧ s.t 4 = .int .i64 i ∧ ∃ m : Nat → Bool, (∀ k : Nat, k < 1440 → (m k = true ↔ inS (a.daily.take i) k)) ∧ s.H (nx + 1) = some (Tms.mk a.fr a.to a.days m).cells)
    (fun s => match s.t 4 with | .int _ i => (a.daily.length - i).toNat | _ => 0) _ ⟨by simp, by simp, by simp, by simp [a1], fun j h1 h2 => by simp [h1, h2], 0, by omega, by simp, fun _ => false, fun k _ => by simp [inS_nil], by simp⟩ ?_
  rintro ⟨T, H', nx'⟩ ⟨e1, e3, hnx, hha, hoth, i, hi, e4, m, hm, hHm⟩
  simp only at e1 e3 hnx hha hoth e4 hHm
  subst hnx
  simp [e1, e4, hha]
  refine wB_of (fun hlt => ?_) (fun hlt => ?_)
  · simp at hlt
    have he := elem_spn (l := a.daily) (n := (i : Int)) (by omega) (by simpa using hlt)
    simp at he
    have hw1 := w64 (x := (i : Int) + 1) (by omega) (by omega)
    have hs := hok _ (List.getElem_mem hlt)
    have htk : a.daily.take (i + 1) = a.daily.take i ++ [a.daily[i]] := List.take_succ_eq_append_getElem hlt
    generalize a.daily[i] = s at he hs htk
    simp [ref06_timesC_j2, e1, e3, e4, hha, he]
    refine wpc_loop _ _ _ _ _ _ (fun z => z.t 1 = ptr nx 0 ∧ z.t 3 = ptr (nx + 1) 0 ∧ z.t 4 = .int .i64 i ∧ z.nx = nx + 1 + 1 ∧ z.H nx = some a.cells ∧ (∀ j, j ≠ nx → j ≠ nx + 1 → z.H j = H j) ∧ ∃ k : Int, s.f ≤ k ∧ z.t 5 = .int .i64 k ∧ (k ≤ s.t + 1 ∨ k = s.f) ∧ ∃ m : Nat → Bool, (∀ j : Nat, j < 1440 → (m j = true ↔ inS (a.daily.take i) j ∨ (s.f ≤ j ∧ (j : Int) < k))) ∧ z.H (nx + 1) = some (Tms.mk a.fr a.to a.days m).cells)
      (fun z => match z.t 5 with | .int _ k => (s.t + 1 - k).toNat | _ => 0) _ ⟨by simp [e1], by simp [e3], by simp [e4], by simp, hha, hoth, s.f, Int.le_refl _, by simp, .inr rfl, m, fun j hj => by rw [hm j hj]; constructor <;> intro h <;> first | exact .inl h | (rcases h with h | h; exact h; omega), hHm⟩ ?_
    rintro ⟨T2, H2, n2⟩ ⟨f1, f3, f4, hn2, hha2, hoth2, k, hk1, f5, hk2, m2, hm2, hHm2⟩
    simp only at f1 f3 f4 hn2 hha2 hoth2 f5 hHm2
    subst hn2
    simp [f1, f4, f5, hha2, he]
    refine wB_of (fun hle => ?_) (fun hle => ?_)
    · simp at hle
      obtain ⟨kn, rfl⟩ := Int.eq_ofNat_of_zero_le (show 0 ≤ k by omega)
      have hk3 : kn < 1440 := by omega
      have hw2 := w64 (x := (kn : Int) + 1) (by omega) (by omega)
      have hset := (Tms.mk a.fr a.to a.days m2).set3 true hk3
      simp [ref06_timesC_j1, f3, f5, hHm2, hk3, show (kn : Int) < 1440 by omega, hw2, show 3 + kn + 1 ≤ 1443 by omega, a2, hset]
      refine kLoop_nrm _ _ _ _ (Sub_refl _ _) ⟨by simp [f1], by simp [f3], by simp [f4], by simp, by simp [a1, hha2], fun j h1 h2 => by simp [h2, hoth2 j h1 h2], (kn : Int) + 1, by omega, by simp, by omega, upd m2 kn true, fun j hj => ?_, by simp⟩ (by simp; omega)
      by_cases hjk : j = kn
      · subst hjk; simp; right; omega
      · rw [upd_ne _ _ hjk, hm2 j hj]
        constructor
        · rintro (h | h)
          · exact .inl h
          · exact .inr (by omega)
        · rintro (h | h)
          · exact .inl h
          · exact .inr (by omega)
    · simp at hle
      simp [f4, hw1]
      refine kLoop_nrm _ _ _ _ (Sub_refl _ _) ⟨by simp [f1], by simp [f3], by simp, hha2, hoth2, i + 1, by omega, by simp, m2, fun j hj => ?_, hHm2⟩ (by simp; omega)
      rw [hm2 j hj, htk, inS_append, inS_cons]
      have := inS_nil (j : Int)
      constructor
      · rintro (h | h)
        · exact .inl h
        · exact .inr (.inl (by omega))
      · rintro (h | h | h)
        · exact .inl h
        · exact .inr (by omega)
        · exact absurd h this
  · simp at hlt
    have hil : i = a.daily.length := by omega
    subst hil
    rw [List.take_length] at hm
    simp [e3]
    refine wF_sub (H1 := upd H (nx + 1) (some (Tms.mk a.fr a.to a.days m).cells)) (fun j => ?_) ⟨rfl, rfl, m, hm, rfl⟩
    by_cases j1 : j = nx + 1
    · subst j1; exact .inl (by simp [hHm])
    · by_cases j2 : j = nx
      · subst j2; exact .inr ⟨Nat.le_refl _, by rw [upd_ne _ _ j1]; exact hw _ (Nat.le_refl _)⟩
      · exact .inl (by rw [upd_ne _ _ j1, hoth j j2 j1])
end Go.PE
namespace Go.PE
open Go
structure WfT (t : Tms) : Prop where
  du : isU64 t.days
  fb : 0 ≤ t.fr ∧ t.fr ≤ 67108864 ∧ 0 ≤ t.to ∧ t.to ≤ 67108864
/-- the minutes that have been looked at -/
def SK (t : Tms) (day k m : Int) : Prop := t.S m ∧ near 9 (t.fr / 1440) (t.to / 1440) (m / 1440) ∧ (m / 1440 < day ∨ (m / 1440 = day ∧ m % 1440 < k))
def MM (mm : Nat → Bool) (k : Int) : Prop := 0 ≤ k ∧ k < 1440 ∧ mm k.toNat = true
theorem SK_0 (t : Tms) (m : Int) : ¬ SK t (t.fr / 1440) 0 m := fun h => by
  have := h.2.1.1; have := h.2.2; omega
theorem Tms.S_rng {t : Tms} (h : WfT t) {m : Int} (hm : t.S m) : 0 ≤ m ∧ m ≤ 67108864 := by
  have := hm.1; have := hm.2.1; have := h.fb; omega
theorem SK_skip {t : Tms} {d : Int} (h1 : t.fr / 1440 + 9 < d) (h2 : d < t.to / 1440 - 9) (m : Int) : SK t (t.to / 1440 - 9) 0 m ↔ SK t d 0 m := by
  unfold SK near
  constructor
  · rintro ⟨a1, a2, a3⟩; exact ⟨a1, a2, by omega⟩
  · rintro ⟨a1, a2, a3⟩; exact ⟨a1, a2, by omega⟩
theorem SK_next (t : Tms) (d m : Int) : SK t (d + 1) 0 m ↔ SK t d 1440 m := by
  unfold SK
  constructor
  · rintro ⟨a1, a2, a3⟩; exact ⟨a1, a2, by omega⟩
  · rintro ⟨a1, a2, a3⟩; exact ⟨a1, a2, by omega⟩
theorem SK_noday {t : Tms} {d : Int} (hb : tb t.days (d % 7).toNat = false) (m : Int) : SK t (d + 1) 0 m ↔ SK t d 0 m := by
  unfold SK
  constructor
  · rintro ⟨a1, a2, a3⟩
    refine ⟨a1, a2, ?_⟩
    apply Classical.byContradiction
    intro hn
    have hd : m / 1440 = d := by omega
    have := a1.2.2.1
    unfold wk at this
    rw [hd, hb] at this; cases this
  · rintro ⟨a1, a2, a3⟩; exact ⟨a1, a2, by omega⟩
theorem SK_no {t : Tms} {d k : Int} (h0 : 0 ≤ k) (h1 : k < 1440) (hn : ¬ t.S (d * 1440 + k)) (m : Int) : SK t d (k + 1) m ↔ SK t d k m := by
  unfold SK
  constructor
  · rintro ⟨a1, a2, a3⟩
    refine ⟨a1, a2, ?_⟩
    apply Classical.byContradiction
    intro hh
    exact hn (by rw [show d * 1440 + k = m by omega]; exact a1)
  · rintro ⟨a1, a2, a3⟩; exact ⟨a1, a2, by omega⟩
theorem SK_yes {t : Tms} {d k : Int} (h0 : 0 ≤ k) (h1 : k < 1440) (hn : t.S (d * 1440 + k)) (hnear : near 9 (t.fr / 1440) (t.to / 1440) d) (m : Int) : SK t d (k + 1) m ↔ SK t d k m ∨ m = d * 1440 + k := by
  unfold SK
  constructor
  · rintro ⟨a1, a2, a3⟩
    by_cases e : m = d * 1440 + k
    · exact .inr e
    · exact .inl ⟨a1, a2, by omega⟩
  · rintro (⟨a1, a2, a3⟩ | rfl)
    · exact ⟨a1, a2, by omega⟩
    · exact ⟨hn, by rw [show (d * 1440 + k) / 1440 = d by omega]; exact hnear, by omega⟩
theorem clo_min {t : Tms} {d k fr to days : Int} {mm : Nat → Bool} (ht : WfT t) (h : CloMO (SK t d k) fr to days (MM mm)) (hd : 0 ≤ d) (h0 : 0 ≤ k) (h1 : k < 1440) (hn : t.S (d * 1440 + k)) (hnear : near 9 (t.fr / 1440) (t.to / 1440) d) :
    CloMO (SK t d (k + 1)) (if fr < 0 then d * 1440 + k else fr) (d * 1440 + k) (bitsV .or .u64 days (2 ^ (d % 7).toNat)) (MM (upd mm k.toNat true)) := by
  have hwk : wk (d * 1440 + k) = (d % 7).toNat := by unfold wk; congr 2; omega
  rw [← hwk]
  refine .inr (h.add (by omega) (fun m hm => ?_) (fun m hm => (Tms.S_rng ht hm.1).1) (SK_yes h0 h1 hn hnear) fun j => ?_)
  · have := hm.2.2; omega
  · rw [show (d * 1440 + k) % 1440 = k by omega]
    unfold MM
    by_cases e : j = k
    · subst e; simp [h0, h1]
    · constructor
      · rintro ⟨a1, a2, a3⟩
        rw [upd_ne _ _ (by omega)] at a3
        exact .inl ⟨a1, a2, a3⟩
      · rintro (⟨a1, a2, a3⟩ | a)
        · exact ⟨a1, a2, by rw [upd_ne _ _ (by omega)]; exact a3⟩
        · exact absurd a e
/-- the row of the argument, as it is turned -/
def rRow (a : Aut) (d fr to : Int) (v : Value) : List Value := [.bool a.none, .int .u64 a.zones, .int .u64 a.lines, .int .u64 d, .int .i64 fr, .int .i64 to, v, .string a.holder]
structure RInv (a : Aut) (t : Tms) (kt nx : Nat) (H : Nat → Option (List Value)) (day k : Int) (s : PS) : Prop where
  t1 : s.t 1 = ptr kt 0
  t2 : s.t 2 = ptr nx 0
  t4 : s.t 4 = ptr (nx + 1) 0
  t5 : s.t 5 = .int .i64 (t.fr / 1440)
  t6 : s.t 6 = .int .i64 (t.to / 1440)
  t7 : s.t 7 = ptr (nx + 1 + 1) 0
  own : Own nx H s.H
  h2 : ∃ c, s.H (nx + 1) = some c ∧ c.length = 8
  o : ∃ d fr to mm, s.H nx = some (rRow a d fr to (ns [])) ∧ s.H (nx + 1 + 1) = some (tmR mm) ∧ CloMO (SK t day k) fr to d (MM mm)
  n : nx + 1 + 1 + 1 ≤ s.nx
theorem CloMO.bounds {t : Tms} {day k d fr to : Int} {M : Int → Prop} (ht : WfT t) (h : CloMO (SK t day k) fr to d M) : (-1 ≤ fr ∧ fr ≤ 67108864) ∧ (-1 ≤ to ∧ to ≤ 67108864) ∧ isU64 d := by
  rcases h with ⟨rfl, rfl, rfl, _⟩ | h
  · exact ⟨by omega, by omega, ⟨by omega, by omega⟩⟩
  · have h1 := Tms.S_rng ht h.fr.1.1; have h2 := Tms.S_rng ht h.to.1.1
    exact ⟨by omega, by omega, h.u⟩
section
variable {P : Program} {has : Nat} (hhas : HasOK P has)
include hhas
theorem rc_j3 {a : Aut} {t : Tms} {kt nx : Nat} {H : Nat → Option (List Value)} {day : Int} {k : Nat} {s : PS} {Q : Ex → PS → Prop} (ht : WfT t) (hkt : H kt = some t.cells) (hkn : kt < nx) (h : RInv a t kt nx H day k s) (hk : k < 1440) (h8 : s.t 8 = .int .i64 day) (h9 : s.t 9 = .int .i64 k) (hn : near 9 (t.fr / 1440) (t.to / 1440) day)
    (hK : ∀ s', RInv a t kt nx H day (k + 1 : Nat) s' → s'.t 8 = .int .i64 day → s'.t 9 = .int .i64 (k + 1 : Nat) → Q .nrm s') :
    wpc (PCalls P) P (fun _ => False) nx (ref06_closed_BC_j3 has) Q s := by
  obtain ⟨T, H', nx'⟩ := s
  obtain ⟨e1, e2, e4, e5, e6, e7, hown, ⟨c, hc2, hcl⟩, ⟨d, fr, to, mm, hrow, hmm, hclo⟩, hnx⟩ := h
  simp only at e1 e2 e4 e5 e6 e7 hown hc2 hrow hmm h8 h9 hnx
  have hmx : (maxLen : Int) = 9223372036854775807 := rfl
  have hfb := ht.fb
  obtain ⟨n1, n2, n3⟩ := hn
  have hkt' : H' kt = some t.cells := (hown kt hkn).trans hkt
  have hg := t.get3 hk
  have w1 := w64 (x := day * 1440) (by omega) (by omega)
  have w2 := w64 (x := day * 1440 + k) (by omega) (by omega)
  have w3 := w64 (x := (k : Int) + 1) (by omega) (by omega)
  have hmod : ((day * 1440 + (k : Int)) % 1440).toNat = k := by omega
  have same : ∀ {s2 : PS}, s2.H = H' → nx' ≤ s2.nx → (∀ u, u < 9 → s2.t u = T u) → ¬ t.S (day * 1440 + k) → RInv a t kt nx H day (k + 1 : Nat) s2 := fun {s2} h1 h2 h3 hns => by
    obtain ⟨T2, H2, m2⟩ := s2
    simp only at h1 h2 h3
    subst h1
    exact ⟨(h3 1 (by omega)).trans e1, (h3 2 (by omega)).trans e2, (h3 4 (by omega)).trans e4, (h3 5 (by omega)).trans e5, (h3 6 (by omega)).trans e6, (h3 7 (by omega)).trans e7, hown, ⟨c, hc2, hcl⟩, ⟨d, fr, to, mm, hrow, hmm, hclo.keep (SK_no (by omega) (by omega) hns)⟩, by show _ ≤ m2; omega⟩
  have kp : ∀ {t2 : Nat → Value}, t2 0 = T 0 → t2 1 = T 1 → t2 2 = T 2 → t2 3 = T 3 → t2 4 = T 4 → t2 5 = T 5 → t2 6 = T 6 → t2 7 = T 7 → t2 8 = T 8 → ∀ u, u < 9 → t2 u = T u := fun b0 b1 b2 b3 b4 b5 b6 b7 b8 u hu => by
    have : u = 0 ∨ u = 1 ∨ u = 2 ∨ u = 3 ∨ u = 4 ∨ u = 5 ∨ u = 6 ∨ u = 7 ∨ u = 8 := by omega
    rcases this with rfl | rfl | rfl | rfl | rfl | rfl | rfl | rfl | rfl <;> assumption
  cases hb : t.m k with
  | false =>
    have hns : ¬ t.S (day * 1440 + k) := fun hS => by
      have := hS.2.2.2
      simp only [hmod, hb] at this
      cases this
    simp [ref06_closed_BC_j3, e1, h9, hkt', hk, show (k : Int) < 1440 by omega, hg, hb, w3]
    exact hK _ (same rfl (Nat.le_refl _) (kp rfl rfl rfl rfl rfl rfl rfl rfl rfl) hns) (by simp [h8]) (by simp)
  | true =>
    simp [ref06_closed_BC_j3, e1, h8, h9, hkt', hk, show (k : Int) < 1440 by omega, hg, hb, w1, w2, w3]
    refine wCallB_of (wCall_eq (Q := fun r => r = .bool (t.has (day * 1440 + k))) (hhas t (day * 1440 + k) kt ht.du (by omega) (by omega) _ _ hkt' (by show kt < nx'; omega)) fun r m1 hr hm1 => ?_)
    subst hr
    simp at hm1
    cases hh : t.has (day * 1440 + k) with
    | false =>
      have hns : ¬ t.S (day * 1440 + k) := fun hS => by
        rw [(t.has_iff _).2 hS] at hh; cases hh
      simp [h9, w3]
      exact hK _ (same rfl hm1 (kp rfl rfl rfl rfl rfl rfl rfl rfl rfl) hns) (by simp [h8]) (by simp)
    | true =>
      have hS := (t.has_iff _).1 hh
      have hnew := clo_min ht hclo (by omega) (by omega) (by omega) hS ⟨n1, n2, n3⟩
      have q3 : day.tmod 7 = day % 7 := Int.tmod_eq_emod_of_nonneg (by omega)
      have q4 : min (day % 7).toNat 64 = (day % 7).toNat := by omega
      have q6 : IntKind.u64.bits = 64 := rfl
      have hwu : IntKind.u64.wrap (day % 7) = day % 7 := by rw [IntKind.wrap_u64]; omega
      have hwp : IntKind.u64.wrap (2 ^ (day % 7).toNat) = 2 ^ (day % 7).toNat := by
        have h7 : (day % 7).toNat < 7 := by omega
        generalize (day % 7).toNat = n at h7
        have : n = 0 ∨ n = 1 ∨ n = 2 ∨ n = 3 ∨ n = 4 ∨ n = 5 ∨ n = 6 := by omega
        rcases this with rfl | rfl | rfl | rfl | rfl | rfl | rfl <;> rfl
      have hset := tmR_set mm true hk
      unfold rRow at hrow
      have b1 : ¬ nx = nx + 1 + 1 := by omega
      have b2 : ¬ nx + 1 + 1 = nx := by omega
      have b3 : nx ≤ nx + 1 + 1 := by omega
      by_cases hfr : fr < 0
      · simp [ref06_closed_BC_j2, ref06_closed_BC_j1, e2, e7, h8, h9, hmm, hk, show (k : Int) < 1440 by omega, hset, hrow, b1, b2, b3, q3, q4, q6, hwu, hwp, show 0 ≤ day % 7 by omega, hfr, w1, w2, w3, show k + 1 ≤ 1440 by omega]
        rw [if_pos hfr] at hnew
        refine hK _ ⟨by simp [e1], by simp [e2], by simp [e4], by simp [e5], by simp [e6], by simp [e7], by simp [hown, b3], ⟨c, by simp [hc2], hcl⟩, ⟨_, _, _, _, by simp [b1, b2]; rfl, by simp [b1, b2], hnew⟩, by show _ ≤ m1; omega⟩ (by simp [h8]) (by simp)
      · simp [ref06_closed_BC_j2, ref06_closed_BC_j1, e2, e7, h8, h9, hmm, hk, show (k : Int) < 1440 by omega, hset, hrow, b1, b2, b3, q3, q4, q6, hwu, hwp, show 0 ≤ day % 7 by omega, hfr, w1, w2, w3, show k + 1 ≤ 1440 by omega]
        rw [if_neg hfr] at hnew
        refine hK _ ⟨by simp [e1], by simp [e2], by simp [e4], by simp [e5], by simp [e6], by simp [e7], by simp [hown, b3], ⟨c, by simp [hc2], hcl⟩, ⟨_, _, _, _, by simp [b1, b2]; rfl, by simp [b1, b2], hnew⟩, by show _ ≤ m1; omega⟩ (by simp [h8]) (by simp)
end
end Go.PE
namespace Go.PE
open Go
theorem RInv.turn {a : Aut} {t : Tms} {kt nx : Nat} {H : Nat → Option (List Value)} {day k day' k' : Int} {s s' : PS} (h : RInv a t kt nx H day k s) (hH : s'.H = s.H) (hn : s.nx ≤ s'.nx) (ht : ∀ u, u < 8 → s'.t u = s.t u) (hS : ∀ m, SK t day' k' m ↔ SK t day k m) : RInv a t kt nx H day' k' s' := by
  obtain ⟨e1, e2, e4, e5, e6, e7, hown, h2, ⟨d, fr, to, mm, hrow, hmm, hclo⟩, hnx⟩ := h
  exact ⟨(ht 1 (by omega)).trans e1, (ht 2 (by omega)).trans e2, (ht 4 (by omega)).trans e4, (ht 5 (by omega)).trans e5, (ht 6 (by omega)).trans e6, (ht 7 (by omega)).trans e7, by rw [hH]; exact hown, by rw [hH]; exact h2, ⟨d, fr, to, mm, by rw [hH]; exact hrow, by rw [hH]; exact hmm, hclo.keep hS⟩, by omega⟩
theorem kp8 {t2 T : Nat → Value} (b0 : t2 0 = T 0) (b1 : t2 1 = T 1) (b2 : t2 2 = T 2) (b3 : t2 3 = T 3) (b4 : t2 4 = T 4) (b5 : t2 5 = T 5) (b6 : t2 6 = T 6) (b7 : t2 7 = T 7) : ∀ u, u < 8 → t2 u = T u := fun u hu => by
  have : u = 0 ∨ u = 1 ∨ u = 2 ∨ u = 3 ∨ u = 4 ∨ u = 5 ∨ u = 6 ∨ u = 7 := by omega
  rcases this with rfl | rfl | rfl | rfl | rfl | rfl | rfl | rfl <;> assumption
section
variable {P : Program} {has : Nat} (hhas : HasOK P has)
include hhas
theorem rc_j5 {a : Aut} {t : Tms} {kt nx : Nat} {H : Nat → Option (List Value)} {day : Int} {s : PS} {Q : Ex → PS → Prop} (ht : WfT t) (hkt : H kt = some t.cells) (hkn : kt < nx) (h : RInv a t kt nx H day 0 s) (h8 : s.t 8 = .int .i64 day) (hn : near 9 (t.fr / 1440) (t.to / 1440) day)
    (hK : ∀ ex s', (ex = Ex.nrm ∨ ex = Ex.ext 1) → RInv a t kt nx H (day + 1) 0 s' → s'.t 8 = .int .i64 day → Q ex s') :
    wpc (PCalls P) P (fun _ => False) nx (ref06_closed_BC_j5 has) Q s := by
  obtain ⟨T, H', nx'⟩ := s
  have hmx : (maxLen : Int) = 9223372036854775807 := rfl
  have hfb := ht.fb
  have e1 : T 1 = ptr kt 0 := h.t1
  have h8 : T 8 = .int .i64 day := h8
  have hkt' : H' kt = some t.cells := (h.own kt hkn).trans hkt
  have hday0 : 0 ≤ day := by have := hn.1; omega
  have q3 : day.tmod 7 = day % 7 := Int.tmod_eq_emod_of_nonneg hday0
  have q4 : min (day % 7).toNat 64 = (day % 7).toNat := by omega
  have q5 := shr_mod2 ht.du (day % 7).toNat
  have q6 : IntKind.u64.bits = 64 := rfl
  have hwu : IntKind.u64.wrap (day % 7) = day % 7 := by rw [IntKind.wrap_u64]; omega
  cases hb : tb t.days (day % 7).toNat with
  | false =>
    rw [hb] at q5
    simp [ref06_closed_BC_j5, e1, h8, hkt', q3, q4, q5, q6, hwu, show 0 ≤ day % 7 by omega]
    exact hK _ _ (.inr rfl) (h.turn rfl (Nat.le_refl _) (kp8 rfl rfl rfl rfl rfl rfl rfl rfl) (SK_noday hb)) (by simp [h8])
  | true =>
    rw [hb] at q5
    simp [ref06_closed_BC_j5, ref06_closed_BC_j4, e1, h8, hkt', q3, q4, q5, q6, hwu, show 0 ≤ day % 7 by omega]
    obtain ⟨I, hI⟩ : ∃ I : PS → Prop, ∀ s, I s ↔ ∃ k : Nat, k ≤ 1440 ∧ RInv a t kt nx H day k s ∧ s.t 8 = .int .i64 day ∧ s.t 9 = .int .i64 k := ⟨_, fun _ => Iff.rfl⟩
    refine wpc_loop _ _ _ _ _ _ I (fun s => match s.t 9 with | .int _ k => (1440 - k).toNat | _ => 0) _ ((hI _).2 ⟨0, by omega, h.turn rfl (Nat.le_refl _) (kp8 rfl rfl rfl rfl rfl rfl rfl rfl) (fun _ => Iff.rfl), by simp [h8], by simp⟩) ?_
    intro s hs
    obtain ⟨k, hk, hR, f8, f9⟩ := (hI _).1 hs
    obtain ⟨T2, H2, n2⟩ := s
    have f8 : T2 8 = .int .i64 day := f8
    have f9 : T2 9 = .int .i64 k := f9
    simp [f9]
    refine wB_of (fun hlt => ?_) (fun hlt => ?_)
    · simp at hlt
      refine rc_j3 (k := k) hhas ht hkt hkn (hR.turn rfl (Nat.le_refl _) (kp8 rfl rfl rfl rfl rfl rfl rfl rfl) (fun _ => Iff.rfl)) (by omega) (by simp [f8]) (by simp [f9]) hn fun s3 hR3 g8 g9 => ?_
      obtain ⟨T3, H3, n3⟩ := s3
      have g9 : T3 9 = .int .i64 (k + 1 : Nat) := g9
      exact kLoop_nrm _ _ _ _ (Sub_refl _ _) ((hI _).2 ⟨k + 1, by omega, hR3, g8, g9⟩) (by simp [g9]; omega)
    · simp at hlt
      have hk2 : k = 1440 := by omega
      subst hk2
      exact hK _ _ (.inl rfl) (hR.turn rfl (Nat.le_refl _) (kp8 rfl rfl rfl rfl rfl rfl rfl rfl) (SK_next t day)) (by simp [f8])
end
end Go.PE
namespace Go.PE
open Go
structure UInv (a : Aut) (d fr to : Int) (mm : Nat → Bool) (nx : Nat) (H : Nat → Option (List Value)) (k : Nat) (s : PS) : Prop where
  t2 : s.t 2 = ptr nx 0
  t4 : s.t 4 = ptr (nx + 1) 0
  t7 : s.t 7 = ptr (nx + 1 + 1) 0
  own : Own nx H s.H
  h2 : ∃ c, s.H (nx + 1) = some c ∧ c.length = 8
  hm : s.H (nx + 1 + 1) = some (tmR mm)
  o : ∃ v out, s.H nx = some (rRow a d fr to v) ∧ Bx spEl (nx + 1 + 1 + 1) s.H s.H s.nx v out ∧ Run (MM mm) k out ∧ out.length ≤ k
theorem run_ix {out : List Spn} {o : List Spn} {x : Spn} (h : out = o ++ [x]) (rest : List Value) : (out.flatMap Spn.cells ++ rest)[(out.length - 1) * 2 + 1]? = some (.int .i64 x.t) := mrg_ix h rest
/-- a run begins -/
def runApp (t_api_Span : Nat) : PC :=
  (.reg [((some 133), (none, (.fa 6 (.tmp 2)))),
         ((some 134), (none, (.ld true (.tmp 133)))),
         ((some 135), (none, (.mv (.tmp 10)))),
         ((some 136), (none, (.mv (.tmp 10)))),
         ((some 137), (none, (.build [(.inr ((.tmp 135), 1)), (.inr ((.tmp 136), 1))]))),
         ((some 138), (none, (.mks t_api_Span 2 false [(.tmp 137)]))),
         ((some 139), (none, (.appB 2 16 [(.int .i64 0), (.int .i64 0)] 134 (.tmp 138)))),
         ((some 140), (none, (.fa 6 (.tmp 2)))),
         (none, (none, (.sts (.tmp 140) 139)))])
theorem rc_j7_eq (t_api_Span : Nat) : ref06_closed_BC_j7 t_api_Span =
  (.seq (.reg [((some 109), (none, (.fa 6 (.tmp 2)))),
       ((some 110), (none, (.ld false (.tmp 109)))),
       ((some 111), (none, (.lenB (.tmp 110)))),
       ((some 11), (none, (.mv (.tmp 111))))])
  (.seq (.reg [((some 112), (none, (.mv (.tmp 11)))),
       ((some 113), (none, (.bi .gtr (.tmp 112) (.const (.int .i64 0))))),
       ((some 114), (none, (.mv (.tmp 113)))),
       ((some 115), ((some (114, true)), (.fa 6 (.tmp 2)))),
       ((some 116), ((some (114, true)), (.ld false (.tmp 115)))),
       ((some 117), ((some (114, true)), (.mv (.tmp 11)))),
       ((some 118), ((some (114, true)), (.bi .sub (.tmp 117) (.const (.int .i64 1))))),
       ((some 119), ((some (114, true)), (.ixB 2 (.tmp 116) (.tmp 118)))),
       ((some 120), ((some (114, true)), (.fa 1 (.tmp 119)))),
       ((some 121), ((some (114, true)), (.ld false (.tmp 120)))),
       ((some 122), ((some (114, true)), (.mv (.tmp 10)))),
       ((some 123), ((some (114, true)), (.bi .sub (.tmp 122) (.const (.int .i64 1))))),
       ((some 124), ((some (114, true)), (.bi .eql (.tmp 121) (.tmp 123)))),
       ((some 125), (none, (.pick (.tmp 114) (.tmp 124) (.const (.bool false)))))])
  (.cond (.tmp 125)
       (.reg [((some 126), (none, (.fa 6 (.tmp 2)))),
         ((some 127), (none, (.ld false (.tmp 126)))),
         ((some 128), (none, (.mv (.tmp 11)))),
         ((some 129), (none, (.bi .sub (.tmp 128) (.const (.int .i64 1))))),
         ((some 130), (none, (.mv (.tmp 10)))),
         ((some 131), (none, (.ixB 2 (.tmp 127) (.tmp 129)))),
         ((some 132), (none, (.fa 1 (.tmp 131)))),
         (none, (none, (.st 1 (.tmp 132) (.tmp 130))))])
       (runApp t_api_Span)))) := rfl
section
variable {P : Program} {tS : Nat}
theorem rc_j7 {a : Aut} {d fr to : Int} {mm : Nat → Bool} {nx : Nat} {H : Nat → Option (List Value)} {k : Nat} {s : PS} {Q : Ex → PS → Prop} (h : UInv a d fr to mm nx H k s) (hk : k < 1440) (hmk : mm k = true) (h10 : s.t 10 = .int .i64 k)
    (hK : ∀ s', UInv a d fr to mm nx H (k + 1) s' → s'.t 10 = .int .i64 k → Q .nrm s') :
    wpc (PCalls P) P (fun _ => False) nx (ref06_closed_BC_j7 tS) Q s := by
  obtain ⟨T, H', nx'⟩ := s
  obtain ⟨e2, e4, e7, hown, ⟨c, hc2, hcl⟩, hmr, v, out, hrow, hB, hR, hol⟩ := h
  simp only at e2 e4 e7 hown hc2 hmr hrow hB h10
  have hmx : (maxLen : Int) = 9223372036854775807 := rfl
  have hn3 := hB.le
  have w1 := w64 (x := (k : Int) - 1) (by omega) (by omega)
  have hM : MM mm k := ⟨by omega, by omega, by simpa using hmk⟩
  unfold rRow at hrow
  have hsets : ∀ w : Value, ([.bool a.none, .int .u64 a.zones, .int .u64 a.lines, .int .u64 d, .int .i64 fr, .int .i64 to, w, .string a.holder] : List Value) = rRow a d fr to w := fun _ => rfl
  have app : ∀ (T2 : Nat → Value), T2 2 = ptr nx 0 → T2 4 = ptr (nx + 1) 0 → T2 7 = ptr (nx + 1 + 1) 0 → T2 10 = .int .i64 k → (∀ o x, out = o ++ [x] → x.t ≠ (k : Int) - 1) →
      wpc (PCalls P) P (fun _ => False) nx (runApp tS) Q ⟨T2, H', nx'⟩ := by
    intro T2 f2 f4 f7 f10 hnl
    simp [runApp, f2]
    refine wLdT_ptr (row := rRow a d fr to v) (c := v) (by simp [hrow]; rfl) rfl (.inr (Nat.le_refl _)) ?_
    simp [f2, f10, Spn.mk_v]
    have hB2 : Bx spEl (nx + 1 + 1 + 1) (upd H' nx (some ((rRow a d fr to v).set 6 (dg1 v)))) (upd H' nx (some ((rRow a d fr to v).set 6 (dg1 v)))) nx' v out := by
      obtain ⟨b1, b2, b3⟩ := hB
      refine ⟨fun _ _ => rfl, b2, b3.imp id ?_⟩
      rintro ⟨k2, cap, rest, a1, a2, a3, a4⟩
      exact ⟨k2, cap, rest, a1, a2, a3, by rw [upd_ne _ _ (by omega)]; exact a4⟩
    refine wAppB_base (n1 := nx + 1 + 1 + 1) (by omega) (Bx.app (E := spEl) (bytes := 16) (zero := [.int .i64 0, .int .i64 0]) (l := [⟨k, k⟩]) (m := out) hB2 rfl rfl (by simp [maxLen]; omega) (by simp; omega) fun v2 H3 nx3 hB3 => ?_)
    simp [f2]
    have h3 : H3 nx = some ((rRow a d fr to v).set 6 (dg1 v)) := by rw [hB3.own nx (by omega), upd_same]
    have hp1 : ∀ ps, v2 ≠ .tuple ps := by
      rcases hB3.2.2 with ⟨rfl, _⟩ | ⟨k, cap, rest, rfl, _⟩ <;> intro ps h <;> simp [ns, slc] at h
    have hp2 : ∀ ps, v2 ≠ .agg ps := by
      rcases hB3.2.2 with ⟨rfl, _⟩ | ⟨k, cap, rest, rfl, _⟩ <;> intro ps h <;> simp [ns, slc] at h
    refine ⟨nx, 6, (rRow a d fr to v).set 6 (dg1 v), by simp, h3, by simp [rRow], .inr (Nat.le_refl _), by simpa using hp1, by simpa using hp2, ?_⟩
    simp
    have hset6 : ((rRow a d fr to v).set 6 v2) = rRow a d fr to v2 := rfl
    rw [hset6]
    refine hK _ ⟨by simp [f2], by simp [f4], by simp [f7], fun j hj => ?_, ⟨c, ?_, hcl⟩, ?_, v2, out ++ [⟨k, k⟩], upd_same _ _ _, ?_, by have := hR.new (by omega) hM hnl; simpa using this, by simp; omega⟩ (by simp [f10])
    · show upd H3 nx _ j = _
      rw [upd_ne _ _ (by omega), hB3.own j (by omega), upd_ne _ _ (by omega)]; exact hown j hj
    · show upd H3 nx _ (nx + 1) = _
      rw [upd_ne _ _ (by omega), hB3.own (nx + 1) (by omega), upd_ne _ _ (by omega)]; exact hc2
    · show upd H3 nx _ (nx + 1 + 1) = _
      rw [upd_ne _ _ (by omega), hB3.own (nx + 1 + 1) (by omega), upd_ne _ _ (by omega)]; exact hmr
    · obtain ⟨b1, b2, b3⟩ := hB3
      refine ⟨fun _ _ => rfl, b2, b3.imp id ?_⟩
      rintro ⟨k2, cap, rest, a1, a2, a3, a4, a5⟩
      exact ⟨k2, cap, rest, a1, a2, a3, by show upd H3 nx _ k2 = _; rw [upd_ne _ _ (by omega)]; exact a4, a5⟩
  rw [rc_j7_eq]
  rcases List.eq_nil_or_concat out with rfl | ⟨o, x, hox⟩
  · have hlv : lenV (dg (dg1 v)) = some 0 := by
      rcases hB.2.2 with ⟨rfl, _⟩ | ⟨k, cap, rest, rfl, _⟩ <;> rfl
    simp [e2, hrow, hlv]
    exact app _ (by simp [e2]) (by simp [e4]) (by simp [e7]) (by simp [h10]) (fun o x h => by simp at h)
  · rw [List.concat_eq_append] at hox
    have hpos : 0 < out.length := by rw [hox]; simp
    obtain ⟨k2, cap, rest, rfl, a2, a3, a4, a5, a6, a7⟩ := hB.at hpos
    have hix := run_ix hox rest
    have wl := w64 (x := (out.length : Int) - 1) (by omega) (by omega)
    have hp1 : (1 : Int) ≤ out.length := by omega
    have hp2 : (out.length : Int) - 1 < out.length := by omega
    have hnat : ((out.length : Int) - 1).toNat = out.length - 1 := by omega
    have hfl2 := fl_len Spn.cells 2 Spn.len (l := out)
    have hrl : (out.length - 1) * 2 + 1 < (out.flatMap Spn.cells ++ rest).length := by rw [List.length_append, hfl2]; omega
    replace a4 : H' k2 = some (out.flatMap Spn.cells ++ rest) := a4
    have k2n : ¬ nx = k2 := by omega
    by_cases hx : x.t = (k : Int) - 1
    · simp [e2, h10, hrow, hpos, wl, w1, hp1, hp2, hnat, a4, hix, hx, hfl2, -List.length_flatMap]
      refine ⟨by rw [List.length_append, hfl2] at hrl; omega, by omega, ?_⟩
      have hset : out.set (out.length - 1) ⟨x.f, k⟩ = o ++ [⟨x.f, k⟩] := by
        rw [hox, List.set_append_right _ _ (by simp)]
        simp
      have hlo : (o ++ [(⟨x.f, k⟩ : Spn)]).length = out.length := by rw [hox]; simp
      have hbs := Bx.set (E := spEl) (n0 := nx + 1 + 1 + 1) (H0 := H') (H := H') (nx := nx') (m := out) (k := k2) (cap := cap) (i := out.length - 1) (o := 1) (rest := rest) (vs := [.int .i64 k]) (a := ⟨x.f, k⟩) (fun _ _ => rfl) a2 a3 a5 a6 a7 (by omega) (by simp [spEl]) (by
        have : out[out.length - 1] = x := by simp [hox]
        rw [this]; rfl) rfl
      rw [hset] at hbs
      simp [spEl] at hbs
      have hR' := hR
      rw [hox] at hR'
      have hnew := hR'.ext hM (by omega)
      refine hK _ ⟨by simp [e2], by simp [e4], by simp [e7], ?_, ⟨c, ?_, hcl⟩, ?_, slc k2 0 out.length cap, o ++ [⟨x.f, k⟩], ?_, ?_, by simpa using hnew, by rw [hlo]; omega⟩ (by simp [h10])
      · show Own nx H (upd H' k2 _)
        rw [own_upd (by omega)]; exact hown
      · show upd H' k2 _ (nx + 1) = _
        rw [upd_ne _ _ (by omega)]; exact hc2
      · show upd H' k2 _ (nx + 1 + 1) = _
        rw [upd_ne _ _ (by omega)]; exact hmr
      · show upd H' k2 _ nx = _
        rw [upd_ne _ _ (by omega)]; exact hrow
      · obtain ⟨b1, b2, b3⟩ := hbs
        exact ⟨fun _ _ => rfl, b2, b3⟩
    · have hx' : (x.t == (k : Int) - 1) = false := by simpa using hx
      simp [e2, h10, hrow, hpos, wl, w1, hp1, hp2, hnat, a4, hix, hx']
      refine app _ (by simp [e2]) (by simp [e4]) (by simp [e7]) (by simp [h10]) (fun o' x' h => ?_)
      rw [hox] at h
      have : x' = x := by
        have := (List.append_inj' h rfl).2
        simpa using this.symm
      rw [this]; exact hx
end
end Go.PE
namespace Go.PE
open Go
section
variable {P : Program} {has : Nat} (hhas : HasOK P has)
include hhas
theorem rc_j6 {a : Aut} {t : Tms} {kt nx : Nat} {H : Nat → Option (List Value)} {day : Int} {s : PS} {Q : Ex → PS → Prop} (ht : WfT t) (hkt : H kt = some t.cells) (hkn : kt < nx) (h : RInv a t kt nx H day 0 s) (h8 : s.t 8 = .int .i64 day) (h0 : t.fr / 1440 ≤ day) (h1 : day ≤ t.to / 1440)
    (hK : ∀ s' (day' : Int), RInv a t kt nx H day' 0 s' → s'.t 8 = .int .i64 day' → day < day' → day' ≤ t.to / 1440 + 1 → Q .nrm s') :
    wpc (PCalls P) P (fun _ => False) nx (ref06_closed_BC_j6 has) Q s := by
  have hfb := ht.fb
  have hw3 := w64 (x := t.fr / 1440 + 9) (by omega) (by omega)
  have hw4 := w64 (x := t.to / 1440 - 9) (by omega) (by omega)
  have fin1 : ∀ (day' : Int) (s' : PS), day ≤ day' → day' ≤ t.to / 1440 → RInv a t kt nx H (day' + 1) 0 s' → s'.t 8 = .int .i64 day' →
      kSeq (PCalls P) P (fun _ => False) nx (PC.reg [(some 30, none, PI.mv (Operand.tmp 8)), (some 31, none, PI.bi BinOp.add (Operand.tmp 30) (Operand.const (Value.int IntKind.i64 1))), (some 8, none, PI.mv (Operand.tmp 31))]) Q Ex.nrm s' := by
    intro day' s' g1 g2 hR g8
    have hwd := w64 (x := day' + 1) (by omega) (by omega)
    obtain ⟨T2, H2, n2⟩ := s'
    have g8 : T2 8 = .int .i64 day' := g8
    simp [g8, hwd]
    exact hK _ (day' + 1) (hR.turn rfl (Nat.le_refl _) (kp8 rfl rfl rfl rfl rfl rfl rfl rfl) fun _ => Iff.rfl) (by simp) (by omega) (by omega)
  have body : ∀ (day' : Int) (s' : PS), RInv a t kt nx H day' 0 s' → s'.t 8 = .int .i64 day' → day ≤ day' → day' ≤ t.to / 1440 → near 9 (t.fr / 1440) (t.to / 1440) day' →
      wpc (PCalls P) P (fun _ => False) nx (ref06_closed_BC_j5 has) (kBlock 1 (kSeq (PCalls P) P (fun _ => False) nx (PC.reg [(some 30, none, PI.mv (Operand.tmp 8)), (some 31, none, PI.bi BinOp.add (Operand.tmp 30) (Operand.const (Value.int IntKind.i64 1))), (some 8, none, PI.mv (Operand.tmp 31))]) Q)) s' := by
    intro day' s' hR' h8' hle hle2 hn
    refine rc_j5 hhas ht hkt hkn hR' h8' hn fun ex s2 hex hR2 h82 => ?_
    have := fin1 day' s2 hle hle2 hR2 h82
    rcases hex with rfl | rfl
    · simpa using this
    · simpa using this
  obtain ⟨T, H', nx'⟩ := s
  have e5 : T 5 = .int .i64 (t.fr / 1440) := h.t5
  have e6 : T 6 = .int .i64 (t.to / 1440) := h.t6
  have h8 : T 8 = .int .i64 day := h8
  by_cases hsk : t.fr / 1440 + 9 < day ∧ day < t.to / 1440 - 9
  · simp [ref06_closed_BC_j6, e5, e6, h8, hw3, hw4, hsk.1, hsk.2]
    exact body (t.to / 1440 - 9) _ (h.turn rfl (Nat.le_refl _) (kp8 rfl rfl rfl rfl rfl rfl rfl rfl) (SK_skip hsk.1 hsk.2)) (by simp) (by omega) (by omega) ⟨by omega, by omega, by omega⟩
  · have hnear : near 9 (t.fr / 1440) (t.to / 1440) day := ⟨by omega, by omega, by omega⟩
    by_cases hs1 : t.fr / 1440 + 9 < day
    · have hs2 : ¬ day < t.to / 1440 - 9 := fun h => hsk ⟨hs1, h⟩
      simp [ref06_closed_BC_j6, e5, e6, h8, hw3, hw4, hs1, hs2]
      exact body day _ (h.turn rfl (Nat.le_refl _) (kp8 rfl rfl rfl rfl rfl rfl rfl rfl) (fun _ => Iff.rfl)) (by simp [h8]) (by omega) (by omega) hnear
    · simp [ref06_closed_BC_j6, e5, e6, h8, hw3, hw4, hs1]
      exact body day _ (h.turn rfl (Nat.le_refl _) (kp8 rfl rfl rfl rfl rfl rfl rfl rfl) (fun _ => Iff.rfl)) (by simp [h8]) (by omega) (by omega) hnear
end
theorem UInv.turn {a : Aut} {d fr to : Int} {mm : Nat → Bool} {nx : Nat} {H : Nat → Option (List Value)} {k : Nat} {s s' : PS} (h : UInv a d fr to mm nx H k s) (hH : s'.H = s.H) (hn : s'.nx = s.nx) (ht : ∀ u, u < 8 → s'.t u = s.t u) : UInv a d fr to mm nx H k s' := by
  obtain ⟨e2, e4, e7, hown, h2, hm, ho⟩ := h
  exact ⟨(ht 2 (by omega)).trans e2, (ht 4 (by omega)).trans e4, (ht 7 (by omega)).trans e7, by rw [hH]; exact hown, by rw [hH]; exact h2, by rw [hH]; exact hm, by rw [hH, hn]; exact ho⟩
theorem UInv.skip {a : Aut} {d fr to : Int} {mm : Nat → Bool} {nx : Nat} {H : Nat → Option (List Value)} {k : Nat} {s : PS} (h : UInv a d fr to mm nx H k s) (hk : mm k = false) : UInv a d fr to mm nx H (k + 1) s := by
  obtain ⟨e2, e4, e7, hown, h2, hm, v, out, hrow, hB, hR, hol⟩ := h
  exact ⟨e2, e4, e7, hown, h2, hm, v, out, hrow, hB, by have := hR.skip (fun h => by have := h.2.2; simp [hk] at this); simpa using this, by omega⟩
section
variable {P : Program} {tS : Nat}
theorem rc_j8 {a : Aut} {d fr to : Int} {mm : Nat → Bool} {nx : Nat} {H : Nat → Option (List Value)} {k : Nat} {s : PS} {Q : Ex → PS → Prop} (h : UInv a d fr to mm nx H k s) (hk : k < 1440) (h10 : s.t 10 = .int .i64 k)
    (hK : ∀ s', UInv a d fr to mm nx H (k + 1) s' → s'.t 10 = .int .i64 (k + 1 : Nat) → Q .nrm s') :
    wpc (PCalls P) P (fun _ => False) nx (ref06_closed_BC_j8 tS) Q s := by
  have hw := w64 (x := (k : Int) + 1) (by omega) (by omega)
  have fin1 : ∀ (s' : PS), UInv a d fr to mm nx H (k + 1) s' → s'.t 10 = .int .i64 k →
      kSeq (PCalls P) P (fun _ => False) nx (PC.reg [(some 103, none, PI.mv (Operand.tmp 10)), (some 104, none, PI.bi BinOp.add (Operand.tmp 103) (Operand.const (Value.int IntKind.i64 1))), (some 10, none, PI.mv (Operand.tmp 104))]) Q Ex.nrm s' := by
    intro s' hU g
    obtain ⟨T2, H2, n2⟩ := s'
    have g : T2 10 = .int .i64 k := g
    simp [g, hw]
    exact hK _ (hU.turn rfl rfl (kp8 rfl rfl rfl rfl rfl rfl rfl rfl)) (by simp)
  obtain ⟨T, H', nx'⟩ := s
  have e7 : T 7 = ptr (nx + 1 + 1) 0 := h.t7
  have hm : H' (nx + 1 + 1) = some (tmR mm) := h.hm
  have h10 : T 10 = .int .i64 k := h10
  have hg : (tmR mm)[k]'(by simp; omega) = .bool (mm k) := by
    have := tmR_get mm hk
    rw [List.getElem?_eq_getElem (by simp; omega)] at this
    exact Option.some.inj this
  cases hmk : mm k with
  | false =>
    simp [ref06_closed_BC_j8, e7, h10, hm, hk, show (k : Int) < 1440 by omega, hg, hmk, hw]
    exact hK _ ((h.skip hmk).turn rfl rfl (kp8 rfl rfl rfl rfl rfl rfl rfl rfl)) (by simp)
  | true =>
    simp [ref06_closed_BC_j8, e7, h10, hm, hk, show (k : Int) < 1440 by omega, hg, hmk]
    refine rc_j7 (h.turn rfl rfl (kp8 rfl rfl rfl rfl rfl rfl rfl rfl)) hk hmk (by simp [h10]) fun s' hU g => ?_
    have := fin1 s' hU g
    simpa using this
end
end Go.PE
namespace Go.PE
open Go
/-- the summary of t, with the zones, the lines and the holder of a -/
def RClosed (a : Aut) (t : Tms) (r : Aut) : Prop := ((∀ m, ¬ t.S m) ∧ r = noneA) ∨ ∃ f u d l, Clo t.S f u d l ∧ r = ⟨false, a.zones, a.lines, d, f, u, l, a.holder⟩
def RClosedOK (P : Program) (f : Nat) : Prop := ∀ (a : Aut) (t : Tms) (kt : Nat), a.none = false → WfT t → ∀ (H : Nat → Option (List Value)) (nx : Nat), H kt = some t.cells → kt < nx →
    PCalls P f [a.v, ptr kt 0] H nx (fun _ => False) (fun r H' _ => (∃ r', r = r'.v ∧ RClosed a t r') ∧ H' = H)
theorem rc_end {t : Tms} {d fr to days : Int} {M : Int → Prop} (h : CloMO (SK t d 0) fr to days M) (hd : t.to / 1440 < d) : (fr = -1 ∧ ∀ m, ¬ t.S m) ∨ (0 ≤ fr ∨ True) ∧ CloM (SK t d 0) fr to days M ∧ ∀ l, Clo (SK t d 0) fr to days l → Clo t.S fr to days l := by
  have e : ∀ m, SK t d 0 m ↔ Tm t.fr t.to (tb t.days) (fun k => t.m k.toNat = true) m ∧ near 9 (t.fr / 1440) (t.to / 1440) (m / 1440) := fun m => by
    unfold SK
    constructor
    · rintro ⟨a1, a2, _⟩; exact ⟨a1, a2⟩
    · rintro ⟨a1, a2⟩; exact ⟨a1, a2, by have := a2.2.1; omega⟩
  rcases h with ⟨h1, _, _, _, h2⟩ | h
  · exact .inl ⟨h1, near_none (n := 9) (by omega) fun m hm => h2 m ((e m).2 hm)⟩
  · exact .inr ⟨.inr trivial, h, fun l hl => near_all (n := 9) (by omega) (hl.congr e)⟩
section
variable {P : Program} {tS : Nat}
theorem rc_j9 {a : Aut} {t : Tms} {nx : Nat} {H : Nat → Option (List Value)} {d fr to : Int} {mm : Nat → Bool} {s : PS} (hw : ∀ k, nx ≤ k → H k = none) (hn : a.none = false) (h : UInv a d fr to mm nx H 0 s) (hne : ∃ k, MM mm k)
    (hcl : ∀ l, canon (-1) l → (∀ k, inS l k ↔ MM mm k) → Clo t.S fr to d l) :
    wpc (PCalls P) P (fun _ => False) nx (ref06_closed_BC_j9 tS) (fin nx [RV.cA 4 8] fun r H' _ => (∃ r', r = r'.v ∧ RClosed a t r') ∧ H' = H) s := by
  obtain ⟨T, H', nx'⟩ := s
  simp [ref06_closed_BC_j9]
  obtain ⟨I, hI⟩ : ∃ I : PS → Prop, ∀ s, I s ↔ ∃ k : Nat, k ≤ 1440 ∧ UInv a d fr to mm nx H k s ∧ s.t 10 = .int .i64 k := ⟨_, fun _ => Iff.rfl⟩
  refine wpc_loop _ _ _ _ _ _ I (fun s => match s.t 10 with | .int _ k => (1440 - k).toNat | _ => 0) _ ((hI _).2 ⟨0, by omega, h.turn rfl rfl (kp8 rfl rfl rfl rfl rfl rfl rfl rfl), by simp⟩) ?_
  intro s hs
  obtain ⟨k, hk, hU, f10⟩ := (hI _).1 hs
  obtain ⟨T2, H2, n2⟩ := s
  have f10 : T2 10 = .int .i64 k := f10
  simp [f10]
  refine wB_of (fun hlt => ?_) (fun hlt => ?_)
  · have hlt : k < 1440 := by simp at hlt; omega
    refine rc_j8 (hU.turn rfl rfl (kp8 rfl rfl rfl rfl rfl rfl rfl rfl)) hlt (by simp [f10]) fun s3 hU3 g10 => ?_
    obtain ⟨T3, H3, n3⟩ := s3
    have g10 : T3 10 = .int .i64 (k + 1 : Nat) := g10
    exact kLoop_nrm _ _ _ _ (Sub_refl _ _) ((hI _).2 ⟨k + 1, by omega, hU3, g10⟩) (by simp [g10]; omega)
  · simp at hlt
    have hk2 : k = 1440 := by omega
    subst hk2
    obtain ⟨e2, e4, e7, hown, ⟨c, hc2, hcl2⟩, hm, v, l, hrow, hB, hR, hol⟩ := hU
    simp only at e2 e4 e7 hown hc2 hm hrow hB
    have hin : ∀ k, inS l k ↔ MM mm k := fun k => by
      rw [hR.s]
      constructor
      · rintro ⟨a, _, _⟩; exact a
      · intro a; exact ⟨a, a.1, a.2.1⟩
    have hlne : l ≠ [] := fun e => by
      obtain ⟨k, hk⟩ := hne
      have := (hin k).2 hk
      rw [e] at this; exact inS_nil _ this
    have hrow' : H2 nx = some (outRow a d fr to v) := by rw [hrow]; unfold rRow outRow; rw [hn]
    have hrow2 := hrow'
    unfold outRow at hrow2
    simp [e2, e4, hrow2, hc2, hcl2]
    rw [List.drop_of_length_le (by omega)]
    have hv : dg1 (dg1 v) = v := by
      obtain ⟨k, cap, rest, rfl, _⟩ := hB.at (List.length_pos_iff.2 hlne)
      rfl
    simp [hv]
    refine wF_out (n1 := nx + 1 + 1 + 1) (l := l) hw (by rw [own_upd (by omega)]; exact hown) (by omega) ?_ hlne ⟨⟨_, rfl, .inr ⟨fr, to, d, l, hcl l hR.c hin, rfl⟩⟩, rfl⟩
    obtain ⟨b1, b2, b3⟩ := hB
    refine ⟨fun _ _ => rfl, b2, b3.imp id ?_⟩
    rintro ⟨k2, cap, rest, a1, a2, a3, a4⟩
    exact ⟨k2, cap, rest, a1, a2, a3, by rw [upd_ne _ _ (by omega)]; exact a4⟩
end
theorem rclosed_ok {P : Program} {f tS has : Nat} (hc : compFnX P [tS] f = some (142, ref06_closed_BC has tS, [.cA 4 8])) (hhas : HasOK P has) : RClosedOK P f := by
  intro a t kt hn ht H nx hkt hkn
  refine PCalls_ofX hc (by simp) fun hw => ?_
  have hmx : (maxLen : Int) = 9223372036854775807 := rfl
  have hfb := ht.fb
  have a1 : ¬ nx = nx + 1 + 1 := by omega
  have a2 : ¬ nx + 1 = nx + 1 + 1 := by omega
  have a3 : ¬ nx = nx + 1 := by omega
  have a4 : nx ≤ nx + 1 + 1 := by omega
  have a5 : nx ≤ nx + 1 := by omega
  have a6 : ¬ nx + 1 = nx := by omega
  have a7 : ¬ nx + 1 + 1 = nx := by omega
  have a8 : ¬ nx + 1 + 1 = nx + 1 := by omega
  have k1 : ¬ kt = nx := by omega
  have k2 : ¬ kt = nx + 1 := by omega
  have k3 : ¬ kt = nx + 1 + 1 := by omega
  have q1 : t.fr.tdiv 1440 = t.fr / 1440 := Int.tdiv_eq_ediv_of_nonneg hfb.1
  have q2 : t.to.tdiv 1440 = t.to / 1440 := Int.tdiv_eq_ediv_of_nonneg hfb.2.2.1
  have hw1 := w64 (x := t.fr / 1440) (by omega) (by omega)
  have hw2 := w64 (x := t.to / 1440) (by omega) (by omega)
  simp [ref06_closed_BC, tmR_rep, -List.reduceReplicate, a1, a2, a3, a4, a5, a6, a7, a8, k1, k2, k3, hkt, q1, q2, hw1, hw2]
  refine ⟨nx, 6, [.bool a.none, .int .u64 a.zones, .int .u64 a.lines, .int .u64 0, .int .i64 (-1), .int .i64 (-1), deep (a.daily.map Spn.v), .string a.holder], rfl, by simp [Aut.cells, a1], by simp, .inr (Nat.le_refl _), ?_⟩
  simp
  obtain ⟨I, hI⟩ : ∃ I : PS → Prop, ∀ s, I s ↔ ∃ day : Int, RInv a t kt nx H day 0 s ∧ s.t 8 = .int .i64 day ∧ t.fr / 1440 ≤ day ∧ day ≤ 50000 := ⟨_, fun _ => Iff.rfl⟩
  refine wpc_loop _ _ _ _ _ _ I (fun s => match s.t 8 with | .int _ d => (t.to / 1440 + 1 - d).toNat | _ => 0) _ ((hI _).2 ⟨t.fr / 1440, ⟨by simp, by simp, by simp, by simp, by simp, by simp, ?_, ⟨_, by simp [a2, a6]; rfl, rfl⟩, ⟨0, -1, -1, fun _ => false, by simp [rRow], by simp [a7, a8], .inl ⟨rfl, rfl, rfl, fun k hk => by simp [MM] at hk, SK_0 t⟩⟩, by simp⟩, by simp, by omega, by omega⟩) ?_
  · simp [a4, a5]
  intro s hs
  obtain ⟨day, hC, h8, hd0, hd1⟩ := (hI _).1 hs
  obtain ⟨T, H', nx'⟩ := s
  have e6 : T 6 = .int .i64 (t.to / 1440) := hC.t6
  have h8 : T 8 = .int .i64 day := h8
  simp [e6, h8]
  refine wB_of (fun hlt => ?_) (fun hlt => ?_)
  · simp at hlt
    refine rc_j6 hhas ht hkt hkn (hC.turn rfl (Nat.le_refl _) (kp8 rfl rfl rfl rfl rfl rfl rfl rfl) fun _ => Iff.rfl) (by simp [h8]) hd0 hlt fun s3 day' hR3 g8 g1 g2 => ?_
    obtain ⟨T3, H3, n3⟩ := s3
    have g8 : T3 8 = .int .i64 day' := g8
    exact kLoop_nrm _ _ _ _ (Sub_refl _ _) ((hI _).2 ⟨day', hR3, g8, by omega, by omega⟩) (by simp [g8]; omega)
  · simp at hlt
    obtain ⟨e1, e2, e4, e5, _, e7, hown, ⟨c, hc2, hcl⟩, ⟨d, fr, to, mm, hrow, hmm, hclo⟩, hnx⟩ := hC
    simp only at e1 e2 e4 e5 e7 hown hc2 hrow hmm hnx
    have hrow2 := hrow
    unfold rRow at hrow2
    rcases rc_end hclo (by omega) with ⟨rfl, hno⟩ | ⟨_, hcm, hcl9⟩
    · simp [ref06_closed_BC_j10, e2, e4, hrow2, hc2, hcl]
      rw [List.drop_of_length_le (by omega)]
      exact wF_own hw (by rw [own_upd (by omega)]; exact hown) ⟨⟨noneA, rfl, .inl ⟨hno, rfl⟩⟩, rfl⟩
    · have hfr0 : ¬ fr < 0 := by have := (Tms.S_rng ht hcm.fr.1.1).1; omega
      have hfrr : 0 ≤ fr % 1440 := by omega
      simp [ref06_closed_BC_j10, e2, hrow2, hfr0]
      refine rc_j9 (d := d) (fr := fr) (to := to) (mm := mm) hw hn ⟨by simp [e2], by simp [e4], by simp [e7], hown, ⟨c, hc2, hcl⟩, hmm, ns [], [], hrow, Bx.nil (fun _ _ => rfl) (by simp; omega), Run.nil _, by simp⟩ ⟨fr % 1440, (hcm.M _).2 ⟨fr, hcm.fr.1, rfl⟩⟩ fun l hc hl => hcl9 l (hcm.clo hc hl)
end Go.PE
namespace Go.PE
open Go
instance (fr to k : Int) : Decidable (dayB fr to k) := by unfold dayB; exact inferInstance
def oA (a : Aut) (t : Tms) (none : Bool) (dl : List Spn) : Aut := ⟨false, if none then 0 else a.zones, a.lines, t.days, t.fr, t.to, dl, a.holder⟩
structure OInv (l : List Pred) (a : Aut) (t : Tms) (none : Bool) : Prop where
  an : a.none = false
  ex : ∃ dl, OfI l (oA a t none dl) ∧ ∀ k : Nat, k < 1440 → (t.m k = true ↔ inS dl k)
theorem day_list (fr to : Int) : ∃ dl : List Spn, canon (-1) dl ∧ ∀ k, inS dl k ↔ 0 ≤ k ∧ k < 1440 ∧ dayB fr to k := by
  obtain ⟨dl, h⟩ := Run.ex (dayB fr to) 1440
  refine ⟨dl, h.c, fun k => (h.s k).trans ?_⟩
  constructor
  · rintro ⟨a, b, c⟩; exact ⟨b, by omega, a⟩
  · rintro ⟨a, b, c⟩; exact ⟨c, a, by omega⟩
section
variable {l : List Pred} {a : Aut} {t : Tms} {none : Bool} {p : Pred} (h : OInv l a t none)
include h
theorem OInv.zone (hp : p.kind = 1) (hm : isU64 p.mask) : OInv (l ++ [p]) { a with zones := bitsV .and .u64 a.zones p.mask : Aut } t none := by
  obtain ⟨an, dl, ho, hd⟩ := h
  refine ⟨an, dl, ?_, hd⟩
  have := ho.zone hp hm
  cases none
  · exact this
  · have e : bitsV .and .u64 0 p.mask = 0 := by
      have h0 : isU64 0 := ⟨by omega, by omega⟩
      exact tb_ext (and_isU64 h0 hm) h0 fun j _ => by rw [tb_and h0 hm, tb_0]; rfl
    simp only [oA, if_true, e] at this
    exact this
theorem OInv.line (hp : p.kind = 2) (hm : isU64 p.mask) : OInv (l ++ [p]) { a with lines := bitsV .and .u64 a.lines p.mask : Aut } t none := by
  obtain ⟨an, dl, ho, hd⟩ := h
  exact ⟨an, dl, ho.line hp hm, hd⟩
theorem OInv.dayw (hp : p.kind = 3) (hm : isU64 p.mask) : OInv (l ++ [p]) a { t with days := bitsV .and .u64 t.days p.mask : Tms } none := by
  obtain ⟨an, dl, ho, hd⟩ := h
  exact ⟨an, dl, ho.dayw hp hm, hd⟩
theorem OInv.time (hp : p.kind = 4) (h0 : 0 ≤ p.fr) (h1 : p.fr ≤ p.to) (h2 : p.to ≤ 67108864) : OInv (l ++ [p]) a { t with fr := max t.fr p.fr, to := min t.to p.to : Tms } none := by
  obtain ⟨an, dl, ho, hd⟩ := h
  exact ⟨an, dl, ho.time hp h0 h1 h2, hd⟩
theorem OInv.dayly (hp : p.kind = 5) : OInv (l ++ [p]) a { t with m := fun j => t.m j && decide (dayB p.fr p.to j) : Tms } none := by
  obtain ⟨an, dl, ho, hd⟩ := h
  obtain ⟨d2, c2, s2⟩ := day_list p.fr p.to
  refine ⟨an, commonL dl d2, ho.dayly hp c2 s2, fun k hk => ?_⟩
  rw [inS_common, s2, ← hd k hk]
  simp
  intros; omega
theorem OInv.rides (hp : p.kind = 7) : OInv (l ++ [p]) a t none := by
  obtain ⟨an, dl, ho, hd⟩ := h
  exact ⟨an, dl, ho.rides hp, hd⟩
theorem OInv.holder (hp : p.kind = 6) (hn : named l) {n2 : Bool} (hz : n2 = (none || (decide (a.holder ≠ noName) && decide (a.holder ≠ p.name)))) : OInv (l ++ [p]) { a with holder := p.name : Aut } t n2 := by
  obtain ⟨an, dl, ho, hd⟩ := h
  refine ⟨an, dl, ho.holder hp hn ?_, hd⟩
  subst hz
  show _ = if a.holder ≠ noName ∧ a.holder ≠ p.name then (0 : Int) else if none then 0 else a.zones
  cases none
  · by_cases h1 : a.holder = noName <;> by_cases h2 : a.holder = p.name <;> simp [h1, h2]
  · simp
theorem OInv.wft : WfT t := by
  obtain ⟨an, dl, ho, hd⟩ := h
  exact ⟨ho.du, ho.fb⟩
theorem OInv.none_ok (hc : none = true ∨ a.zones = 0 ∨ a.lines = 0 ∨ t.to < t.fr) : IsOf l noneA := by
  obtain ⟨an, dl, ho, hd⟩ := h
  refine ⟨_, ho, .inl ⟨?_, rfl⟩⟩
  rcases hc with hc | hc | hc | hc
  · left; simp [oA, hc]
  · left; simp [oA, hc]
  · right; left; exact hc
  · right; right
    intro m hm
    have h1 : t.fr ≤ m := hm.1
    have h2 : m ≤ t.to := hm.2.1
    omega
theorem OInv.closed {r : Aut} (hn : none = false) (hz : a.zones ≠ 0) (hl : a.lines ≠ 0) (hr : RClosed a t r) : IsOf l r := by
  obtain ⟨an, dl, ho, hd⟩ := h
  have hS : ∀ m, t.S m ↔ (oA a t none dl).S m := fun m => by
    have h1 := hd (m % 1440).toNat (by omega)
    rw [show (((m % 1440).toNat : Nat) : Int) = m % 1440 by omega] at h1
    show (t.fr ≤ m ∧ m ≤ t.to ∧ tb t.days (wk m) = true ∧ t.m (m % 1440).toNat = true) ↔ (t.fr ≤ m ∧ m ≤ t.to ∧ tb t.days (wk m) = true ∧ inS dl (m % 1440))
    rw [h1]
  refine ⟨_, ho, ?_⟩
  have e : t.S = (oA a t none dl).S := funext fun m => propext (hS m)
  rcases hr with ⟨h1, rfl⟩ | ⟨f, u, d, l2, h1, rfl⟩
  · exact .inl ⟨.inr (.inr fun m hm => h1 m ((hS m).2 hm)), rfl⟩
  · refine .inr ⟨by simp [oA, hn, hz], hl, f, u, d, l2, e ▸ h1, ?_⟩
    simp [oA, hn]
end
end Go.PE
