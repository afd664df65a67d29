/- The engine, part 24: a list of like things that a function keeps in a box of its own. Pure code, printed by a program: predicates, what holds for a ride, the deck. Pure code, printed by a program: the statements about layer 7. Predicates and contexts as plain data; what predicate.Valid and its kin compute. predicate.Valid, and the references' Valid. The references' Valid: it is the same. contexts: valid ones; rides what holds for a ride: the methods the references' Holds; All The deck: predicates. The deck: lists of predicates; layer 7's sanity check. Predicates and contexts among the arguments. Spans of minutes: lists in order, of which no two overlap or are adjacent; what they have in common; what they are together. Bits of masks. The summary of a set of minutes: its first and last one, its days of the week, its minutes of the day. Summaries of sets of minutes, minute by minute; authorities as plain data. -/
import Derived.Test.YtmcfkmdhjihgmaaDoorPartC
import Init
set_option linter.all false
namespace Go.PE
open Go
@[simp] theorem dg_dg (v : Value) : dg (dg v) = dg v := by
  cases v
  case tuple vs => simp [dg, Function.comp_def, dg1_dg1]
  case func fn a b =>
    have e : dg (dg1 (.func fn a b)) = dg1 (dg1 (.func fn a b)) := by
      generalize hw : dg1 (.func fn a b) = w
      unfold dg1 at hw; split at hw <;> subst hw <;> rfl
    exact e.trans (dg1_dg1 _)
  all_goals rfl
structure El (α : Type) where
  f : α → List Value
  g : α → Value
  size : Nat
  hg : ∀ a, lc (g a) = f a
  hf : ∀ a, (f a).length = size
  hd : ∀ a, (f a).map dg1 = f a
section
variable {α : Type} (E : El α)
/-- v holds the list m: in a box of its own, or as a slice without room -/
def Bx (n0 : Nat) (H0 H : Nat → Option (List Value)) (nx : Nat) (v : Value) (m : List α) : Prop :=
  Own n0 H0 H ∧ n0 ≤ nx ∧ ((v = ns [] ∧ m = []) ∨ ∃ k cap rest, v = slc k 0 m.length cap ∧ n0 ≤ k ∧ k < nx ∧ H k = some (m.flatMap E.f ++ rest) ∧ m.length * E.size + rest.length = cap * E.size ∧ m.length ≤ cap ∧ cap ≤ maxLen)
variable {E}
variable {n0 : Nat} {H0 H : Nat → Option (List Value)} {nx : Nat} {v : Value} {m : List α}
theorem El.dgs (l : List α) : (l.flatMap E.f).map dg1 = l.flatMap E.f := by
  induction l with
  | nil => rfl
  | cons a l ih => rw [List.flatMap_cons, List.map_append, ih, E.hd]
theorem El.lcs (l : List α) : (l.map E.g).flatMap lc = l.flatMap E.f := by
  induction l with
  | nil => rfl
  | cons a l ih => rw [List.map_cons, List.flatMap_cons, List.flatMap_cons, ih, E.hg]
theorem El.src (H : Nat → Option (List Value)) (l : List α) : srcV H (deep (l.map E.g)) E.size = some (l.length, l.flatMap E.f) := by
  rw [srcV_deep H (fun x hx => by obtain ⟨a, _, rfl⟩ := List.mem_map.1 hx; rw [E.hg, E.hf]), E.lcs, E.dgs, List.length_map]
theorem El.len (l : List α) : (l.flatMap E.f).length = l.length * E.size := fl_len E.f E.size E.hf l
theorem flat_rep_len (n : Nat) (zero : List Value) : (List.replicate n zero).flatten.length = n * zero.length := by
  induction n with
  | zero => simp
  | succ n ih => rw [List.replicate_succ, List.flatten_cons, List.length_append, ih, Nat.succ_mul]; omega
theorem Bx.own (h : Bx E n0 H0 H nx v m) : Own n0 H0 H := h.1
theorem Bx.le (h : Bx E n0 H0 H nx v m) : n0 ≤ nx := h.2.1
theorem Bx.nil (h1 : Own n0 H0 H) (h2 : n0 ≤ nx) : Bx E n0 H0 H nx (ns []) [] := ⟨h1, h2, .inl ⟨rfl, rfl⟩⟩
theorem Bx.mo (h : Bx E n0 H0 H nx v m) {nx' : Nat} (hn : nx ≤ nx') : Bx E n0 H0 H nx' v m := by
  obtain ⟨h1, h2, h3⟩ := h
  refine ⟨h1, by omega, h3.imp id ?_⟩
  rintro ⟨k, cap, rest, a1, a2, a3, a4⟩
  exact ⟨k, cap, rest, a1, a2, by omega, a4⟩
theorem Bx.at (h : Bx E n0 H0 H nx v m) (hm : 0 < m.length) : ∃ k cap rest, v = slc k 0 m.length cap ∧ n0 ≤ k ∧ k < nx ∧ H k = some (m.flatMap E.f ++ rest) ∧ m.length * E.size + rest.length = cap * E.size ∧ m.length ≤ cap ∧ cap ≤ maxLen := by
  rcases h.2.2 with ⟨_, h2⟩ | h
  · subst h2; simp at hm
  · exact h
theorem Bx.len (h : Bx E n0 H0 H nx v m) : lenV (dg v) = some m.length := by
  rcases h.2.2 with ⟨rfl, rfl⟩ | ⟨k, cap, rest, rfl, _⟩
  · simp
  · simp
theorem Bx.set {k cap i o : Nat} {rest vs : List Value} {a : α} (h1 : Own n0 H0 H) (h2 : n0 ≤ k) (h3 : k < nx) (h4 : m.length * E.size + rest.length = cap * E.size) (h5 : m.length ≤ cap) (h6 : cap ≤ maxLen)
    (hi : i < m.length) (ho : o + vs.length ≤ E.size) (ha : E.f a = (E.f m[i]).take o ++ vs ++ (E.f m[i]).drop (o + vs.length)) {row : List Value}
    (hr : row = (m.flatMap E.f ++ rest).take (i * E.size + o) ++ vs ++ (m.flatMap E.f ++ rest).drop (i * E.size + o + vs.length)) : Bx E n0 H0 (upd H k (some row)) nx (slc k 0 m.length cap) (m.set i a) := by
  refine ⟨by rw [own_upd h2]; exact h1, by omega, .inr ⟨k, cap, rest, by simp, h2, h3, ?_, by simpa using h4, by simpa using h5, h6⟩⟩
  rw [upd_same, hr, fl_set E.f E.size E.hf rest hi ho ha]
variable {C : Known} {P : Program} {T : Nat → Prop} {f : Nat} {d : Option Nat} {s : PS} {K : PS → Prop}
theorem Bx.app {l : List α} {size bytes : Nat} {zero : List Value} (h : Bx E n0 H0 s.H s.nx v m) (hsz : size = E.size) (hz : zero.length = E.size) (hm : m.length + l.length ≤ maxLen) (hb : (m.length + l.length) * bytes ≤ 140737488355328)
    (hK : ∀ v' H' nx', Bx E n0 H0 H' nx' v' (m ++ l) → K ⟨(s.putO d v').t, H', nx'⟩) : wAppB T n0 v (srcV s.H (deep (l.map E.g)) size) size bytes zero d s K := by
  subst hsz
  rw [El.src]
  obtain ⟨h1, h2, ⟨rfl, rfl⟩ | ⟨k, cap, rest, rfl, a2, a3, a4, a5, a6, a7⟩⟩ := h
  · refine wAppB_ns (by simp) (by simpa using hm) (by simpa using hb) (fun h0 => ?_) (fun h0 cap hc1 hc2 => ?_)
    · have : l = [] := List.length_eq_zero_iff.1 h0
      subst this
      exact hK _ _ _ ⟨h1, h2, .inl ⟨rfl, rfl⟩⟩
    · refine hK _ _ _ ⟨by rw [own_upd h2]; exact h1, by omega, .inr ⟨s.nx, cap, (List.replicate (cap - l.length) zero).flatten, by simp, h2, by omega, ?_, ?_, by simpa using hc1, hc2⟩⟩
      · rw [upd_same]; simp
      · rw [flat_rep_len, hz]
        simp only [List.length_nil, Nat.zero_add] at hc1
        rw [List.nil_append, ← Nat.add_mul]; congr 1; omega
  · have hl := El.len (E := E) m
    have hl2 := El.len (E := E) l
    refine wAppB_slc a4 (by rw [List.length_append, hl]; omega) a6 (.inr a2) hm hb (fun hc => ?_) (fun hc cap' hc1 hc2 => ?_)
    · refine hK _ _ _ ⟨by rw [own_upd a2]; exact h1, h2, .inr ⟨k, cap, rest.drop (l.length * E.size), by simp, a2, a3, ?_, ?_, by simpa using hc, a7⟩⟩
      · rw [upd_same, Nat.zero_add, Nat.zero_add, Nat.add_mul, ← hl, List.take_left', List.flatMap_append, List.drop_append, List.drop_of_length_le (by omega), List.nil_append, Nat.add_sub_cancel_left]
        rfl
      · rw [List.length_drop, List.length_append, Nat.add_mul]
        have : (m.length + l.length) * E.size ≤ cap * E.size := Nat.mul_le_mul_right _ hc
        rw [Nat.add_mul] at this; omega
    · refine hK _ _ _ ⟨by rw [own_upd h2]; exact h1, by omega, .inr ⟨s.nx, cap', (List.replicate (cap' - (m.length + l.length)) zero).flatten, by simp, h2, by omega, ?_, ?_, by simpa using hc1, hc2⟩⟩
      · rw [upd_same, List.drop_zero, ← hl, List.take_left', El.dgs, List.flatMap_append]
        rfl
      · rw [flat_rep_len, hz, List.length_append, ← Nat.add_mul]; congr 1; omega
theorem Bx.cpy {k cap : Nat} {l : List α} {size : Nat} {zero : List Value} (hsz : size = E.size) (hz : zero.length = E.size) (h1 : Own n0 H0 s.H) (h2 : n0 ≤ k) (h3 : k < s.nx) (hk : s.H k = some (List.replicate cap zero).flatten) (hc : l.length ≤ cap) (hc' : cap ≤ maxLen)
    (hK : ∀ H', Bx E n0 H0 H' s.nx (slc k 0 l.length cap) l → K ⟨(s.putO d (.int .i64 l.length)).t, H', s.nx⟩) : wCpy T n0 (slc k 0 l.length cap) (srcV s.H (deep (l.map E.g)) size) size d s K := by
  subst hsz
  rw [El.src]
  have hl := El.len (E := E) l
  have hle : l.length * E.size ≤ cap * E.size := Nat.mul_le_mul_right _ hc
  refine wCpy_of hk (by rw [flat_rep_len, hz]; omega) (.inr h2) ?_
  rw [Nat.min_self]
  refine hK _ ⟨by rw [own_upd h2]; exact h1, by omega, .inr ⟨k, cap, (List.replicate cap zero).flatten.drop (l.length * E.size), rfl, h2, h3, ?_, ?_, hc, hc'⟩⟩
  · rw [upd_same, List.take_zero, List.nil_append, Nat.zero_add, List.take_of_length_le (by omega)]
  · rw [List.length_drop, flat_rep_len, hz]; omega
/-- a call that borrows it -/
theorem Bx.call {as : List Value} {w : Value} (h : Bx E n0 H0 s.H s.nx v m) (hm : m.length ≤ maxLen) (hw : plain w = true)
    (hc : ∀ H1, PCalls P f (deep (m.map E.g) :: as) H1 s.nx (fun _ => False) (fun p _ _ => p = w)) (hK : K (s.putO d w)) : wCallB (PCalls P) T n0 f (dg v :: as) d s K := by
  obtain ⟨h1, h2, ⟨rfl, rfl⟩ | ⟨k, cap, rest, rfl, a2, a3, a4, a5, a6, a7⟩⟩ := h
  · exact ⟨s.H, _, Sub_refl _ _, Cvs_refl _ _ _ _, .inr ⟨w, hw, hc s.H, hK⟩⟩
  · refine ⟨upd s.H k none, deep (m.map E.g) :: as, fun j => ?_, ⟨rfl, fun i a b ha hb => ?_⟩, .inr ⟨w, hw, hc _, hK⟩⟩
    · by_cases e : j = k
      · subst e; exact .inr ⟨a2, upd_same _ _ _⟩
      · exact .inl (upd_ne _ _ e)
    · cases i with
      | zero =>
        simp at ha hb; subst ha; subst hb
        exact .inl (Cv1_list E.f E.g E.hg E.size E.hf E.hd a4 (upd_same _ _ _) a2 a7)
      | succ i =>
        simp at ha hb; rw [ha] at hb
        exact .inl (.inl (Option.some.inj hb).symm)
/-- the end: it is frozen -/
theorem Bx.fin {w : Value} {R : Post} (h : Bx E n0 H0 H nx v m) (hw : ∀ k, n0 ≤ k → H0 k = none) (hR : ∀ v', (v' = ns [] ∧ m = [] ∨ v' = deep (m.map E.g)) → R (tup [v', w]) H0 nx) : wF (some [v, w]) n0 R H nx := by
  obtain ⟨h1, h2, ⟨rfl, rfl⟩ | ⟨k, cap, rest, rfl, a2, a3, a4, a5, a6, a7⟩⟩ := h
  · exact wF_own hw h1 (hR _ (.inl ⟨rfl, rfl⟩))
  · refine ⟨_, rfl, H0, [deep (m.map E.g), w], h1.sub hw, ⟨rfl, fun i a b ha hb => ?_⟩, hR _ (.inr rfl)⟩
    cases i with
    | zero =>
      simp at ha hb; subst ha; subst hb
      exact .inl (Cv1_list E.f E.g E.hg E.size E.hf E.hd a4 (hw k a2) a2 a7)
    | succ i =>
      simp at ha hb; rw [ha] at hb
      exact .inl (.inl (Option.some.inj hb).symm)
theorem Bx.rebase {n1 : Nat} {H1 : Nat → Option (List Value)} (h : Bx E n0 H0 H nx v m) (hn : n1 ≤ n0) (ho : Own n1 H1 H) : Bx E n1 H1 H nx v m := by
  obtain ⟨h1, h2, h3⟩ := h
  refine ⟨ho, by omega, h3.imp id ?_⟩
  rintro ⟨k, cap, rest, a1, a2, a3, a4⟩
  exact ⟨k, cap, rest, a1, by omega, a3, a4⟩
theorem Bx.fin1 {R : Post} (h : Bx E n0 H0 H nx v m) (hw : ∀ k, n0 ≤ k → H0 k = none) (hR : ∀ v', (v' = ns [] ∧ m = [] ∨ v' = deep (m.map E.g)) → R v' H0 nx) : wF (some [v]) n0 R H nx := by
  obtain ⟨h1, h2, ⟨rfl, rfl⟩ | ⟨k, cap, rest, rfl, a2, a3, a4, a5, a6, a7⟩⟩ := h
  · exact wF_own hw h1 (hR _ (.inl ⟨rfl, rfl⟩))
  · refine ⟨_, rfl, H0, [deep (m.map E.g)], h1.sub hw, ⟨rfl, fun i a b ha hb => ?_⟩, hR _ (.inr rfl)⟩
    cases i with
    | zero =>
      simp at ha hb; subst ha; subst hb
      exact .inl (Cv1_list E.f E.g E.hg E.size E.hf E.hd a4 (hw k a2) a2 a7)
    | succ i => simp at ha
end
theorem sts_of {C : Known} {P : Program} {T : Nat → Prop} {n0 : Nat} {x : Operand} {t k off e : Nat} {row xs : List Value} {s : PS} {K : PS → Prop} (hx : s.ev x = ptr k off) (hk : s.H k = some row) (ho : off < row.length) (hT : T k ∨ n0 ≤ k) (ht : s.t t = lin e xs)
    (h : K ⟨upd s.t t (deep xs), upd s.H k (some (row.set off (lin e xs))), s.nx⟩) : PE.step C P T n0 none (.sts x t) s K := by
  refine ⟨k, off, row, hx, hk, ho, hT, fun ps h => ?_, fun ps h => ?_, ?_⟩
  · rw [ht] at h; cases h
  · rw [ht] at h; cases h
  · rw [ht]; exact h
end Go.PE
namespace Go.PE
open Go
def made_NewC : PC :=
 (.seq (.reg [(some 2, none, .mv (.const (.pointer none)))]) (.seq (.reg [(some 3, none, .mv (.tmp 0)), (some 4, none, .build [(.inr ((.tmp 3), 1)), (.inl [(.int .i64 0)])]), (some 5, none, .box 2 (.tmp 4)), (some 2, none, .mv (.tmp 5))]) .ret))
def made_WithinC : PC :=
 (.seq (.reg [(some 4, none, .mv (.const (.int .i64 0)))]) (.seq (.reg [(some 5, none, .mv (.tmp 0)), (some 6, none, .mv (.tmp 1)), (some 7, none, .bi .rem (.tmp 5) (.tmp 6)), (some 8, none, .mv (.tmp 1)), (some 9, none, .bi .add (.tmp 7) (.tmp 8)), (some 10, none, .mv (.tmp 1)), (some 11, none, .bi .rem (.tmp 9) (.tmp 10)), (some 4, none, .mv (.tmp 11))]) .ret))
def made_Deck_PredicateC (f_made_Deck_Range : Nat) (f_made_Deck_mask : Nat) (f_made_Deck_Minute : Nat) (f_made_Deck_Next : Nat) (f_made_Deck_Name : Nat) (f_made_Deck_Upto : Nat) : PC :=
 (.seq (.reg [(some 4, none, .alloc [(.int .i64 0), (.int .u64 0), (.int .i64 0), (.int .i64 0), (.string ⟨#[]⟩), (.int .i64 0)])]) (.seq (.reg [(some 8, none, .mv (.tmp 0)), (some 9, none, .call f_made_Deck_Range [(.tmp 8), (.const (.int .i64 1)), (.const (.int .i64 7))]), (some 10, none, .build [(.inr ((.tmp 9), 1)), (.inl [(.int .u64 0)]), (.inl [(.int .i64 0)]), (.inl [(.int .i64 0)]), (.inl [(.string ⟨#[]⟩)]), (.inl [(.int .i64 0)])]), (some 5, none, .alloc [(.int .i64 0), (.int .u64 0), (.int .i64 0), (.int .i64 0), (.string ⟨#[]⟩), (.int .i64 0)]), (none, none, .st 6 (.tmp 5) (.tmp 10))]) (.seq (.seq (.reg [(some 11, none, .fa 0 (.tmp 5)), (some 12, none, .ld false (.tmp 11)), (some 13, none, .bi .eql (.tmp 12) (.const (.int .i64 7))), (some 14, none, .mv (.tmp 13)), (some 15, some (14, true), .mv (.tmp 1)), (some 16, some (14, true), .un .not (.tmp 15)), (some 17, none, .pick (.tmp 14) (.tmp 16) (.const (.bool false)))]) (.cond (.tmp 17) (.reg [(some 18, none, .fa 0 (.tmp 5)), (none, none, .st 1 (.tmp 18) (.const (.int .i64 4)))]) .skip)) (.seq (.seq (.reg [(some 19, none, .fa 0 (.tmp 5)), (some 20, none, .ld false (.tmp 19))]) (.block 0 (.seq (.reg [(some 22, none, .bi .eql (.tmp 20) (.const (.int .i64 1))), (some 21, none, .mv (.tmp 22))]) (.cond (.tmp 21) (.reg [(some 23, none, .mv (.tmp 0)), (some 24, none, .call f_made_Deck_mask [(.tmp 23), (.const (.int .i64 64))]), (some 25, none, .fa 1 (.tmp 5)), (none, none, .st 1 (.tmp 25) (.tmp 24))])
 (.seq (.reg [(some 27, none, .bi .eql (.tmp 20) (.const (.int .i64 2))), (some 26, none, .mv (.tmp 27))]) (.cond (.tmp 26) (.reg [(some 28, none, .mv (.tmp 0)), (some 29, none, .call f_made_Deck_mask [(.tmp 28), (.const (.int .i64 32))]), (some 30, none, .fa 1 (.tmp 5)), (none, none, .st 1 (.tmp 30) (.tmp 29))]) (.seq (.reg [(some 32, none, .bi .eql (.tmp 20) (.const (.int .i64 3))), (some 31, none, .mv (.tmp 32))]) (.cond (.tmp 31) (.reg [(some 33, none, .mv (.tmp 0)), (some 34, none, .call f_made_Deck_mask [(.tmp 33), (.const (.int .i64 7))]), (some 35, none, .fa 1 (.tmp 5)), (none, none, .st 1 (.tmp 35) (.tmp 34))]) (.seq (.reg [(some 37, none, .bi .eql (.tmp 20) (.const (.int .i64 4))), (some 36, none, .mv (.tmp 37))]) (.cond (.tmp 36) (.seq (.reg [(some 38, none, .mv (.tmp 0)), (some 39, none, .call f_made_Deck_Minute [(.tmp 38)]), (some 40, none, .mv (.tmp 0)), (some 41, none, .call f_made_Deck_Minute [(.tmp 40)]), (some 6, none, .mv (.tmp 39)), (some 7, none, .mv (.tmp 41))]) (.reg [(some 42, none, .mv (.tmp 6)), (some 43, none, .mv (.tmp 7)), (some 44, none, .mm false (.tmp 42) (.tmp 43)), (some 45, none, .mv (.tmp 6)), (some 46, none, .mv (.tmp 7)), (some 47, none, .mm true (.tmp 45) (.tmp 46)), (some 48, none, .fa 2 (.tmp 5)), (none, none, .st 1 (.tmp 48) (.tmp 44)), (some 49, none, .fa 3 (.tmp 5)), (none, none, .st 1 (.tmp 49) (.tmp 47))])) (.seq (.reg [(some 51, none, .bi .eql (.tmp 20) (.const (.int .i64 5))), (some 50, none, .mv (.tmp 51))]) (.cond (.tmp 50)
 (.seq (.reg [(some 52, none, .mv (.tmp 0)), (some 53, none, .call f_made_Deck_Next [(.tmp 52), (.const (.int .i64 1440))]), (some 54, none, .mv (.tmp 0)), (some 55, none, .call f_made_Deck_Next [(.tmp 54), (.const (.int .i64 1440))]), (some 56, none, .fa 2 (.tmp 5)), (none, none, .st 1 (.tmp 56) (.tmp 53)), (some 57, none, .fa 3 (.tmp 5)), (none, none, .st 1 (.tmp 57) (.tmp 55))]) (.seq (.reg [(some 58, none, .mv (.tmp 0)), (some 59, none, .call f_made_Deck_Next [(.tmp 58), (.const (.int .i64 3))]), (some 60, none, .bi .eql (.tmp 59) (.const (.int .i64 0)))]) (.cond (.tmp 60) (.ord (.one (some 61, none, .fa 2 (.tmp 5)) (.one (some 63, none, .mv (.tmp 0)) (.alt (.one (some 62, none, .ld false (.tmp 61)) (.one (some 64, none, .call f_made_Deck_Next [(.tmp 63), (.const (.int .i64 3))]) (.one (some 65, none, .bi .add (.tmp 62) (.tmp 64)) (.one (some 66, none, .bi .add (.tmp 65) (.const (.int .i64 1440))) (.one (some 67, none, .bi .sub (.tmp 66) (.const (.int .i64 1))) (.one (some 68, none, .bi .rem (.tmp 67) (.const (.int .i64 1440))) (.one (some 69, none, .fa 3 (.tmp 5)) (.one (none, none, .st 1 (.tmp 69) (.tmp 68)) .done)))))))) (.one (some 64, none, .call f_made_Deck_Next [(.tmp 63), (.const (.int .i64 3))]) (.one (some 62, none, .ld false (.tmp 61)) (.one (some 65, none, .bi .add (.tmp 62) (.tmp 64)) (.one (some 66, none, .bi .add (.tmp 65) (.const (.int .i64 1440))) (.one (some 67, none, .bi .sub (.tmp 66) (.const (.int .i64 1))) (.one (some 68, none, .bi .rem (.tmp 67)
 (.const (.int .i64 1440))) (.one (some 69, none, .fa 3 (.tmp 5)) (.one (none, none, .st 1 (.tmp 69) (.tmp 68)) .done)))))))))))) .skip))) (.seq (.reg [(some 71, none, .bi .eql (.tmp 20) (.const (.int .i64 6))), (some 70, none, .mv (.tmp 71))]) (.cond (.tmp 70) (.reg [(some 72, none, .mv (.tmp 0)), (some 73, none, .call f_made_Deck_Name [(.tmp 72)]), (some 74, none, .fa 4 (.tmp 5)), (none, none, .st 1 (.tmp 74) (.tmp 73))]) (.seq (.reg [(some 76, none, .bi .eql (.tmp 20) (.const (.int .i64 7))), (some 75, none, .mv (.tmp 76))]) (.cond (.tmp 75) (.reg [(some 77, none, .mv (.tmp 0)), (some 78, none, .call f_made_Deck_Upto [(.tmp 77), (.const (.int .i64 1000000))]), (some 79, none, .fa 5 (.tmp 5)), (none, none, .st 1 (.tmp 79) (.tmp 78))]) .skip)))))))))))))))) (.seq (.reg [(some 80, none, .ldA 6 (.tmp 5)), (none, none, .st 6 (.tmp 4) (.tmp 80))]) .ret)))))
def made_Deck_PredicatesC (t_api_Predicate : Nat) (f_made_Deck_Next : Nat) (f_made_Deck_Predicate : Nat) : PC :=
 (.seq (.reg [(some 6, none, .cnil t_api_Predicate)]) (.seq (.reg [(some 7, none, .cnil t_api_Predicate)]) (.seq (.seq (.reg [(some 9, none, .mv (.tmp 0)), (some 10, none, .mv (.tmp 1)), (some 11, none, .bi .add (.tmp 10) (.const (.int .i64 1))), (some 12, none, .call f_made_Deck_Next [(.tmp 9), (.tmp 11)]), (some 8, none, .mv (.tmp 12))]) (.block 0 (.loop (.seq (.seq (.reg [(some 13, none, .mv (.tmp 8)), (some 14, none, .bi .gtr (.tmp 13) (.const (.int .i64 0)))]) (.cond (.tmp 14) .skip (.exit 0))) (.seq (.block 1 (.reg [(some 17, none, .steal 7), (some 18, none, .mv (.tmp 0)), (some 19, none, .mv (.tmp 2)), (some 20, none, .call f_made_Deck_Predicate [(.tmp 18), (.tmp 19)]), (some 21, none, .mks t_api_Predicate 6 false [(.tmp 20)]), (some 22, none, .app t_api_Predicate 6 56 17 (.tmp 21)), (some 7, none, .steal 22)])) (.reg [(some 15, none, .mv (.tmp 8)), (some 16, none, .bi .sub (.tmp 15) (.const (.int .i64 1))), (some 8, none, .mv (.tmp 16))])))))) (.seq (.reg [(some 23, none, .steal 7), (some 6, none, .steal 23)]) .ret))))
def made_Deck_NextC (f_made_Within : Nat) : PC :=
 (.seq (.reg [(some 4, none, .mv (.const (.int .i64 0)))]) (.seq (.seq (.drw [(some 5, none, .mv (.tmp 0)), (some 6, none, .nilc (.tmp 5)), (some 7, none, .fa 1 (.tmp 6)), (some 8, none, .ld false (.tmp 7)), (some 9, none, .mv (.tmp 0)), (some 10, none, .nilc (.tmp 9)), (some 11, none, .fa 0 (.tmp 10)), (some 12, none, .ld false (.tmp 11)), (some 13, none, .len (.tmp 12)), (some 14, none, .bi .geq (.tmp 8) (.tmp 13))]) (.cond (.tmp 14) (.seq (.reg [(some 4, none, .mv (.const (.int .i64 0)))]) .ret) .skip)) (.seq (.reg [(some 15, none, .mv (.tmp 0)), (some 16, none, .nilc (.tmp 15)), (some 17, none, .fa 1 (.tmp 16)), (some 18, none, .ld false (.tmp 17)), (some 19, none, .bi .add (.tmp 18) (.const (.int .i64 1))), (some 20, none, .nilc (.tmp 15)), (some 21, none, .fa 1 (.tmp 20)), (none, none, .st 1 (.tmp 21) (.tmp 19))]) (.seq (.drw [(some 22, none, .mv (.tmp 0)), (some 23, none, .nilc (.tmp 22)), (some 24, none, .fa 0 (.tmp 23)), (some 25, none, .ld false (.tmp 24)), (some 26, none, .mv (.tmp 0)), (some 27, none, .nilc (.tmp 26)), (some 28, none, .fa 1 (.tmp 27)), (some 29, none, .ld false (.tmp 28)), (some 30, none, .bi .sub (.tmp 29) (.const (.int .i64 1))), (some 31, none, .ixS 1 (.tmp 25) (.tmp 30)), (some 32, none, .ld false (.tmp 31)), (some 33, none, .mv (.tmp 1)), (some 34, none, .call f_made_Within [(.tmp 32), (.tmp 33)]), (some 4, none, .mv (.tmp 34))]) .ret))))
def made_Deck_RangeC (f_made_Deck_Next : Nat) : PC :=
 (.seq (.reg [(some 6, none, .mv (.const (.int .i64 0)))]) (.seq (.reg [(some 7, none, .mv (.tmp 1)), (some 8, none, .mv (.tmp 0)), (some 9, none, .mv (.tmp 2)), (some 10, none, .mv (.tmp 1)), (some 11, none, .bi .sub (.tmp 9) (.tmp 10)), (some 12, none, .bi .add (.tmp 11) (.const (.int .i64 1))), (some 13, none, .call f_made_Deck_Next [(.tmp 8), (.tmp 12)]), (some 14, none, .bi .add (.tmp 7) (.tmp 13)), (some 6, none, .mv (.tmp 14))]) .ret))
def made_Deck_MinuteC (f_made_Deck_Next : Nat) : PC :=
 (.seq (.reg [(some 2, none, .mv (.const (.int .i64 0)))]) (.seq (.seq (.reg [(some 3, none, .mv (.tmp 0)), (some 4, none, .call f_made_Deck_Next [(.tmp 3), (.const (.int .i64 4))])]) (.block 0 (.seq (.reg [(some 6, none, .bi .eql (.tmp 4) (.const (.int .i64 0))), (some 5, none, .mv (.tmp 6))]) (.cond (.tmp 5) (.seq (.reg [(some 7, none, .mv (.tmp 0)), (some 8, none, .call f_made_Deck_Next [(.tmp 7), (.const (.int .i64 4320))]), (some 2, none, .mv (.tmp 8))]) .ret) (.seq (.reg [(some 10, none, .bi .eql (.tmp 4) (.const (.int .i64 1))), (some 9, none, .mv (.tmp 10))]) (.cond (.tmp 9) (.seq (.reg [(some 11, none, .mv (.tmp 0)), (some 12, none, .call f_made_Deck_Next [(.tmp 11), (.const (.int .i64 60))]), (some 13, none, .bi .mul (.tmp 12) (.const (.int .i64 1440))), (some 14, none, .mv (.tmp 0)), (some 15, none, .call f_made_Deck_Next [(.tmp 14), (.const (.int .i64 3))]), (some 16, none, .bi .add (.tmp 13) (.tmp 15)), (some 17, none, .mm false (.tmp 16) (.const (.int .i64 67108864))), (some 2, none, .mv (.tmp 17))]) .ret) (.seq (.reg [(some 19, none, .bi .eql (.tmp 4) (.const (.int .i64 2))), (some 18, none, .mv (.tmp 19))]) (.cond (.tmp 18) (.seq (.reg [(some 20, none, .mv (.tmp 0)), (some 21, none, .call f_made_Deck_Next [(.tmp 20), (.const (.int .i64 4320))]), (some 22, none, .bi .sub (.const (.int .i64 67108864)) (.tmp 21)), (some 2, none, .mv (.tmp 22))]) .ret) .skip)))))))) (.seq (.reg [(some 23, none, .mv (.tmp 0)), (some 24, none, .call f_made_Deck_Next [(.tmp 23),
 (.const (.int .i64 67108865))]), (some 2, none, .mv (.tmp 24))]) .ret)))
def made_Deck_NameC (t_string : Nat) (f_made_Deck_Next : Nat) : PC :=
 (.seq (.reg [(some 2, none, .mv (.const (.string ⟨#[]⟩)))]) (.seq (.reg [(some 3, none, .mks t_string 1 false [(.const (.string ⟨#[97]⟩)), (.const (.string ⟨#[98]⟩)), (.const (.string ⟨#[97, 110, 110]⟩)), (.const (.string ⟨#[98, 111, 98]⟩)), (.const (.string ⟨#[99, 105, 100]⟩)), (.const (.string ⟨#[122, 111, 101]⟩)), (.const (.string ⟨#[97, 97]⟩)), (.const (.string ⟨#[97, 98, 99, 100, 101, 102, 103, 104, 105, 106, 107, 108, 109, 110, 111, 112]⟩))]), (some 4, none, .mv (.tmp 0)), (some 5, none, .call f_made_Deck_Next [(.tmp 4), (.const (.int .i64 8))]), (some 6, none, .ixS 1 (.tmp 3) (.tmp 5)), (some 7, none, .ld false (.tmp 6)), (some 2, none, .mv (.tmp 7))]) .ret))
def predicate_ValidC (g_predicate_bits : Nat) (f_predicate_mask : Nat) (f_predicate_name : Nat) : PC :=
 (.seq (.reg [(some 1, none, .box 6 (.tmp 0)), (some 2, none, .mv (.const (.bool false)))]) (.seq (.reg [(some 4, none, .fa 0 (.tmp 1)), (some 5, none, .ld false (.tmp 4)), (some 6, none, .build [(.inr ((.tmp 5), 1)), (.inl [(.int .u64 0)]), (.inl [(.int .i64 0)]), (.inl [(.int .i64 0)]), (.inl [(.string ⟨#[]⟩)]), (.inl [(.int .i64 0)])]), (some 3, none, .alloc [(.int .i64 0), (.int .u64 0), (.int .i64 0), (.int .i64 0), (.string ⟨#[]⟩), (.int .i64 0)]), (none, none, .st 6 (.tmp 3) (.tmp 6))]) (.seq (.seq (.reg [(some 7, none, .fa 0 (.tmp 1)), (some 8, none, .ld false (.tmp 7))]) (.block 0 (.seq (.seq (.reg [(some 10, none, .bi .eql (.tmp 8) (.const (.int .i64 1))), (some 9, none, .mv (.tmp 10))]) (.cond (.tmp 9) .skip (.seq (.reg [(some 11, none, .bi .eql (.tmp 8) (.const (.int .i64 2))), (some 9, none, .mv (.tmp 11))]) (.cond (.tmp 9) .skip (.reg [(some 12, none, .bi .eql (.tmp 8) (.const (.int .i64 3))), (some 9, none, .mv (.tmp 12))]))))) (.cond (.tmp 9) (.seq (.reg [(some 13, none, .fa 1 (.tmp 1)), (some 14, none, .ld false (.tmp 13)), (some 15, none, .fa 1 (.tmp 3)), (none, none, .st 1 (.tmp 15) (.tmp 14))]) (.seq (.drw [(some 16, none, .fa 1 (.tmp 1)), (some 17, none, .ld false (.tmp 16)), (some 18, none, .fa 0 (.tmp 1)), (some 19, none, .ld false (.tmp 18)), (some 20, none, .ixP 8 1 (.global g_predicate_bits) (.tmp 19)), (some 21, none, .ld false (.tmp 20)), (some 22, none, .call f_predicate_mask [(.tmp 17), (.tmp 21)]), (some 23, none, .mv (.tmp 22)),
 (some 24, some (23, true), .ldA 6 (.tmp 1)), (some 25, some (23, true), .ldA 6 (.tmp 3)), (some 26, some (23, true), .eqA false [(.int .i64), (.int .u64), (.int .i64), (.int .i64), .string, (.int .i64)] (.tmp 24) (.tmp 25)), (some 27, none, .pick (.tmp 23) (.tmp 26) (.const (.bool false))), (some 2, none, .mv (.tmp 27))]) .ret)) (.seq (.reg [(some 29, none, .bi .eql (.tmp 8) (.const (.int .i64 4))), (some 28, none, .mv (.tmp 29))]) (.cond (.tmp 28) (.seq (.ord (.one (some 30, none, .fa 2 (.tmp 1)) (.one (some 31, none, .ld false (.tmp 30)) (.one (some 32, none, .fa 3 (.tmp 1)) (.one (some 34, none, .fa 2 (.tmp 3)) (.alt (.one (some 33, none, .ld false (.tmp 32)) (.one (none, none, .st 1 (.tmp 34) (.tmp 31)) (.one (some 35, none, .fa 3 (.tmp 3)) (.one (none, none, .st 1 (.tmp 35) (.tmp 33)) .done)))) (.one (none, none, .st 1 (.tmp 34) (.tmp 31)) (.one (some 33, none, .ld false (.tmp 32)) (.one (some 35, none, .fa 3 (.tmp 3)) (.one (none, none, .st 1 (.tmp 35) (.tmp 33)) .done)))))))))) (.seq (.reg [(some 36, none, .fa 2 (.tmp 1)), (some 37, none, .ld false (.tmp 36)), (some 38, none, .bi .geq (.tmp 37) (.const (.int .i64 0))), (some 39, none, .mv (.tmp 38)), (some 40, some (39, true), .fa 2 (.tmp 1)), (some 41, some (39, true), .ld false (.tmp 40)), (some 42, some (39, true), .fa 3 (.tmp 1)), (some 43, some (39, true), .ld false (.tmp 42)), (some 44, some (39, true), .bi .leq (.tmp 41) (.tmp 43)), (some 45, none, .pick (.tmp 39) (.tmp 44) (.const (.bool false))),
 (some 46, none, .mv (.tmp 45)), (some 47, some (46, true), .fa 3 (.tmp 1)), (some 48, some (46, true), .ld false (.tmp 47)), (some 49, some (46, true), .bi .leq (.tmp 48) (.const (.int .i64 67108864))), (some 50, none, .pick (.tmp 46) (.tmp 49) (.const (.bool false))), (some 51, none, .mv (.tmp 50)), (some 52, some (51, true), .ldA 6 (.tmp 1)), (some 53, some (51, true), .ldA 6 (.tmp 3)), (some 54, some (51, true), .eqA false [(.int .i64), (.int .u64), (.int .i64), (.int .i64), .string, (.int .i64)] (.tmp 52) (.tmp 53)), (some 55, none, .pick (.tmp 51) (.tmp 54) (.const (.bool false))), (some 2, none, .mv (.tmp 55))]) .ret)) (.seq (.reg [(some 57, none, .bi .eql (.tmp 8) (.const (.int .i64 5))), (some 56, none, .mv (.tmp 57))]) (.cond (.tmp 56) (.seq (.ord (.one (some 58, none, .fa 2 (.tmp 1)) (.one (some 59, none, .ld false (.tmp 58)) (.one (some 60, none, .fa 3 (.tmp 1)) (.one (some 62, none, .fa 2 (.tmp 3)) (.alt (.one (some 61, none, .ld false (.tmp 60)) (.one (none, none, .st 1 (.tmp 62) (.tmp 59)) (.one (some 63, none, .fa 3 (.tmp 3)) (.one (none, none, .st 1 (.tmp 63) (.tmp 61)) .done)))) (.one (none, none, .st 1 (.tmp 62) (.tmp 59)) (.one (some 61, none, .ld false (.tmp 60)) (.one (some 63, none, .fa 3 (.tmp 3)) (.one (none, none, .st 1 (.tmp 63) (.tmp 61)) .done)))))))))) (.seq (.reg [(some 64, none, .fa 2 (.tmp 1)), (some 65, none, .ld false (.tmp 64)), (some 66, none, .bi .geq (.tmp 65) (.const (.int .i64 0))), (some 67, none, .mv (.tmp 66)),
 (some 68, some (67, true), .fa 2 (.tmp 1)), (some 69, some (67, true), .ld false (.tmp 68)), (some 70, some (67, true), .bi .lss (.tmp 69) (.const (.int .i64 1440))), (some 71, none, .pick (.tmp 67) (.tmp 70) (.const (.bool false))), (some 72, none, .mv (.tmp 71)), (some 73, some (72, true), .fa 3 (.tmp 1)), (some 74, some (72, true), .ld false (.tmp 73)), (some 75, some (72, true), .bi .geq (.tmp 74) (.const (.int .i64 0))), (some 76, none, .pick (.tmp 72) (.tmp 75) (.const (.bool false))), (some 77, none, .mv (.tmp 76)), (some 78, some (77, true), .fa 3 (.tmp 1)), (some 79, some (77, true), .ld false (.tmp 78)), (some 80, some (77, true), .bi .lss (.tmp 79) (.const (.int .i64 1440))), (some 81, none, .pick (.tmp 77) (.tmp 80) (.const (.bool false))), (some 82, none, .mv (.tmp 81)), (some 83, some (82, true), .ldA 6 (.tmp 1)), (some 84, some (82, true), .ldA 6 (.tmp 3)), (some 85, some (82, true), .eqA false [(.int .i64), (.int .u64), (.int .i64), (.int .i64), .string, (.int .i64)] (.tmp 83) (.tmp 84)), (some 86, none, .pick (.tmp 82) (.tmp 85) (.const (.bool false))), (some 2, none, .mv (.tmp 86))]) .ret)) (.seq (.reg [(some 88, none, .bi .eql (.tmp 8) (.const (.int .i64 6))), (some 87, none, .mv (.tmp 88))]) (.cond (.tmp 87) (.seq (.reg [(some 89, none, .fa 4 (.tmp 1)), (some 90, none, .ld false (.tmp 89)), (some 91, none, .fa 4 (.tmp 3)), (none, none, .st 1 (.tmp 91) (.tmp 90))]) (.seq (.reg [(some 92, none, .fa 4 (.tmp 1)), (some 93, none, .ld false (.tmp 92)),
 (some 94, none, .call f_predicate_name [(.tmp 93)]), (some 95, none, .mv (.tmp 94)), (some 96, some (95, true), .ldA 6 (.tmp 1)), (some 97, some (95, true), .ldA 6 (.tmp 3)), (some 98, some (95, true), .eqA false [(.int .i64), (.int .u64), (.int .i64), (.int .i64), .string, (.int .i64)] (.tmp 96) (.tmp 97)), (some 99, none, .pick (.tmp 95) (.tmp 98) (.const (.bool false))), (some 2, none, .mv (.tmp 99))]) .ret)) (.seq (.reg [(some 101, none, .bi .eql (.tmp 8) (.const (.int .i64 7))), (some 100, none, .mv (.tmp 101))]) (.cond (.tmp 100) (.seq (.reg [(some 102, none, .fa 5 (.tmp 1)), (some 103, none, .ld false (.tmp 102)), (some 104, none, .fa 5 (.tmp 3)), (none, none, .st 1 (.tmp 104) (.tmp 103))]) (.seq (.reg [(some 105, none, .fa 5 (.tmp 1)), (some 106, none, .ld false (.tmp 105)), (some 107, none, .bi .geq (.tmp 106) (.const (.int .i64 0))), (some 108, none, .mv (.tmp 107)), (some 109, some (108, true), .fa 5 (.tmp 1)), (some 110, some (108, true), .ld false (.tmp 109)), (some 111, some (108, true), .bi .leq (.tmp 110) (.const (.int .i64 1000000))), (some 112, none, .pick (.tmp 108) (.tmp 111) (.const (.bool false))), (some 113, none, .mv (.tmp 112)), (some 114, some (113, true), .ldA 6 (.tmp 1)), (some 115, some (113, true), .ldA 6 (.tmp 3)), (some 116, some (113, true), .eqA false [(.int .i64), (.int .u64), (.int .i64), (.int .i64), .string, (.int .i64)] (.tmp 114) (.tmp 115)), (some 117, none, .pick (.tmp 113) (.tmp 116) (.const (.bool false))),
 (some 2, none, .mv (.tmp 117))]) .ret)) .skip)))))))))))) (.seq (.reg [(some 2, none, .mv (.const (.bool false)))]) .ret))))
def ref01_NameC : PC :=
 (.seq (.reg [(some 2, none, .mv (.const (.bool false)))]) (.seq (.seq (.reg [(some 4, none, .mv (.tmp 0)), (some 5, none, .slen (.tmp 4)), (some 6, none, .bi .lss (.tmp 5) (.const (.int .i64 1))), (some 7, none, .mv (.tmp 6)), (some 8, some (7, false), .mv (.tmp 0)), (some 9, some (7, false), .slen (.tmp 8)), (some 10, some (7, false), .bi .gtr (.tmp 9) (.const (.int .i64 16))), (some 11, none, .pick (.tmp 7) (.const (.bool true)) (.tmp 10))]) (.cond (.tmp 11) (.seq (.reg [(some 2, none, .mv (.const (.bool false)))]) .ret) .skip)) (.seq (.seq (.reg [(some 3, none, .mv (.const (.int .i64 0)))]) (.block 0 (.loop (.seq (.seq (.reg [(some 12, none, .mv (.tmp 3)), (some 13, none, .mv (.tmp 0)), (some 14, none, .slen (.tmp 13)), (some 15, none, .bi .lss (.tmp 12) (.tmp 14))]) (.cond (.tmp 15) .skip (.exit 0))) (.seq (.block 1 (.seq (.reg [(some 18, none, .mv (.tmp 0)), (some 19, none, .mv (.tmp 3)), (some 20, none, .six (.tmp 18) (.tmp 19)), (some 21, none, .bi .lss (.tmp 20) (.const (.int .u8 97))), (some 22, none, .mv (.tmp 21)), (some 23, some (22, false), .mv (.tmp 0)), (some 24, some (22, false), .mv (.tmp 3)), (some 25, some (22, false), .six (.tmp 23) (.tmp 24)), (some 26, some (22, false), .bi .gtr (.tmp 25) (.const (.int .u8 122))), (some 27, none, .pick (.tmp 22) (.const (.bool true)) (.tmp 26))]) (.cond (.tmp 27) (.seq (.reg [(some 2, none, .mv (.const (.bool false)))]) .ret) .skip))) (.reg [(some 16, none, .mv (.tmp 3)), (some 17, none, .bi .add (.tmp 16)
 (.const (.int .i64 1))), (some 3, none, .mv (.tmp 17))])))))) (.seq (.reg [(some 2, none, .mv (.const (.bool true)))]) .ret))))
def made_Deck_maskC (f_made_Deck_Next : Nat) : PC :=
 (.seq (.reg [(some 4, none, .mv (.const (.int .u64 0)))]) (.seq (.reg [(some 5, none, .mv (.const (.int .u64 0)))]) (.seq (.seq (.reg [(some 6, none, .mv (.tmp 0)), (some 7, none, .call f_made_Deck_Next [(.tmp 6), (.const (.int .i64 3))])]) (.block 0 (.seq (.reg [(some 9, none, .bi .eql (.tmp 7) (.const (.int .i64 0))), (some 8, none, .mv (.tmp 9))]) (.cond (.tmp 8) (.reg [(some 10, none, .mv (.tmp 0)), (some 11, none, .call f_made_Deck_Next [(.tmp 10), (.const (.int .i64 16))]), (some 12, none, .cv .u64 (.tmp 11)), (some 5, none, .mv (.tmp 12))]) (.seq (.reg [(some 14, none, .bi .eql (.tmp 7) (.const (.int .i64 1))), (some 13, none, .mv (.tmp 14))]) (.cond (.tmp 13) (.reg [(some 15, none, .mv (.tmp 0)), (some 16, none, .call f_made_Deck_Next [(.tmp 15), (.const (.int .i64 65536))]), (some 17, none, .cv .u64 (.tmp 16)), (some 18, none, .mv (.tmp 0)), (some 19, none, .call f_made_Deck_Next [(.tmp 18), (.const (.int .i64 65536))]), (some 20, none, .cv .u64 (.tmp 19)), (some 21, none, .bi .shl (.tmp 20) (.const (.int .u64 48))), (some 22, none, .bi .or (.tmp 17) (.tmp 21)), (some 5, none, .mv (.tmp 22))]) (.seq (.reg [(some 24, none, .bi .eql (.tmp 7) (.const (.int .i64 2))), (some 23, none, .mv (.tmp 24))]) (.cond (.tmp 23) (.reg [(some 25, none, .mv (.tmp 0)), (some 26, none, .call f_made_Deck_Next [(.tmp 25), (.const (.int .i64 65536))]), (some 27, none, .cv .u64 (.tmp 26)), (some 28, none, .un .xor (.tmp 27)), (some 5, none, .mv (.tmp 28))]) .skip))))))))
 (.seq (.seq (.reg [(some 29, none, .mv (.tmp 1)), (some 30, none, .bi .lss (.tmp 29) (.const (.int .i64 64)))]) (.cond (.tmp 30) (.reg [(some 31, none, .mv (.tmp 5)), (some 32, none, .mv (.tmp 1)), (some 33, none, .cv .u64 (.tmp 32)), (some 34, none, .bi .shl (.const (.int .u64 1)) (.tmp 33)), (some 35, none, .bi .sub (.tmp 34) (.const (.int .u64 1))), (some 36, none, .bi .and (.tmp 31) (.tmp 35)), (some 5, none, .mv (.tmp 36))]) .skip)) (.seq (.seq (.reg [(some 37, none, .mv (.tmp 5)), (some 38, none, .bi .eql (.tmp 37) (.const (.int .u64 0)))]) (.cond (.tmp 38) (.seq (.reg [(some 39, none, .mv (.tmp 0)), (some 40, none, .mv (.tmp 1)), (some 41, none, .call f_made_Deck_Next [(.tmp 39), (.tmp 40)]), (some 42, none, .cv .u64 (.tmp 41)), (some 43, none, .bi .shl (.const (.int .u64 1)) (.tmp 42)), (some 4, none, .mv (.tmp 43))]) .ret) .skip)) (.seq (.reg [(some 44, none, .mv (.tmp 5)), (some 4, none, .mv (.tmp 44))]) .ret))))))
def made_Deck_UptoC (f_made_Deck_Next : Nat) : PC :=
 (.seq (.reg [(some 4, none, .mv (.const (.int .i64 0)))]) (.seq (.seq (.reg [(some 5, none, .mv (.tmp 0)), (some 6, none, .call f_made_Deck_Next [(.tmp 5), (.const (.int .i64 4))])]) (.block 0 (.seq (.reg [(some 8, none, .bi .eql (.tmp 6) (.const (.int .i64 0))), (some 7, none, .mv (.tmp 8))]) (.cond (.tmp 7) (.seq (.reg [(some 9, none, .mv (.tmp 0)), (some 10, none, .call f_made_Deck_Next [(.tmp 9), (.const (.int .i64 4))]), (some 11, none, .mv (.tmp 1)), (some 12, none, .mm false (.tmp 10) (.tmp 11)), (some 4, none, .mv (.tmp 12))]) .ret) (.seq (.reg [(some 14, none, .bi .eql (.tmp 6) (.const (.int .i64 1))), (some 13, none, .mv (.tmp 14))]) (.cond (.tmp 13) (.seq (.reg [(some 15, none, .mv (.tmp 0)), (some 16, none, .call f_made_Deck_Next [(.tmp 15), (.const (.int .i64 300))]), (some 17, none, .mv (.tmp 1)), (some 18, none, .mm false (.tmp 16) (.tmp 17)), (some 4, none, .mv (.tmp 18))]) .ret) (.seq (.reg [(some 20, none, .bi .eql (.tmp 6) (.const (.int .i64 2))), (some 19, none, .mv (.tmp 20))]) (.cond (.tmp 19) (.seq (.reg [(some 21, none, .mv (.tmp 1)), (some 22, none, .mv (.tmp 0)), (some 23, none, .mv (.tmp 1)), (some 24, none, .bi .add (.tmp 23) (.const (.int .i64 1))), (some 25, none, .mm false (.const (.int .i64 3)) (.tmp 24)), (some 26, none, .call f_made_Deck_Next [(.tmp 22), (.tmp 25)]), (some 27, none, .bi .sub (.tmp 21) (.tmp 26)), (some 4, none, .mv (.tmp 27))]) .ret) .skip)))))))) (.seq (.reg [(some 28, none, .mv (.tmp 0)), (some 29, none, .mv (.tmp 1)),
 (some 30, none, .bi .add (.tmp 29) (.const (.int .i64 1))), (some 31, none, .call f_made_Deck_Next [(.tmp 28), (.tmp 30)]), (some 4, none, .mv (.tmp 31))]) .ret)))
def ref06_ValidC (f_ref01_Name : Nat) : PC :=
 (.seq (.reg [(some 1, none, .box 6 (.tmp 0)), (some 2, none, .mv (.const (.bool false)))]) (.seq (.reg [(some 5, none, .fa 0 (.tmp 1)), (some 6, none, .ld false (.tmp 5)), (some 7, none, .build [(.inr ((.tmp 6), 1)), (.inl [(.int .u64 0)]), (.inl [(.int .i64 0)]), (.inl [(.int .i64 0)]), (.inl [(.string ⟨#[]⟩)]), (.inl [(.int .i64 0)])]), (some 3, none, .alloc [(.int .i64 0), (.int .u64 0), (.int .i64 0), (.int .i64 0), (.string ⟨#[]⟩), (.int .i64 0)]), (none, none, .st 6 (.tmp 3) (.tmp 7))]) (.seq (.reg [(some 4, none, .mv (.const (.bool false)))]) (.seq (.seq (.reg [(some 8, none, .fa 0 (.tmp 1)), (some 9, none, .ld false (.tmp 8))]) (.block 0 (.seq (.reg [(some 11, none, .bi .eql (.tmp 9) (.const (.int .i64 1))), (some 10, none, .mv (.tmp 11))]) (.cond (.tmp 10) (.ord (.one (some 12, none, .fa 1 (.tmp 1)) (.one (some 13, none, .ld false (.tmp 12)) (.one (some 14, none, .fa 1 (.tmp 1)) (.one (some 17, none, .fa 1 (.tmp 3)) (.alt (.one (some 15, none, .ld false (.tmp 14)) (.one (some 16, none, .bi .neq (.tmp 15) (.const (.int .u64 0))) (.one (none, none, .st 1 (.tmp 17) (.tmp 13)) (.one (some 4, none, .mv (.tmp 16)) .done)))) (.one (none, none, .st 1 (.tmp 17) (.tmp 13)) (.one (some 15, none, .ld false (.tmp 14)) (.one (some 16, none, .bi .neq (.tmp 15) (.const (.int .u64 0))) (.one (some 4, none, .mv (.tmp 16)) .done)))))))))) (.seq (.reg [(some 19, none, .bi .eql (.tmp 9) (.const (.int .i64 2))), (some 18, none, .mv (.tmp 19))]) (.cond (.tmp 18)
 (.ord (.one (some 20, none, .fa 1 (.tmp 1)) (.one (some 21, none, .ld false (.tmp 20)) (.one (some 22, none, .fa 1 (.tmp 1)) (.one (some 30, none, .fa 1 (.tmp 3)) (.one (some 23, none, .ld false (.tmp 22)) (.one (some 24, none, .bi .neq (.tmp 23) (.const (.int .u64 0))) (.one (some 25, none, .mv (.tmp 24)) (.one (some 26, some (25, true), .fa 1 (.tmp 1)) (.alt (.one (some 27, some (25, true), .ld false (.tmp 26)) (.one (some 28, some (25, true), .bi .lss (.tmp 27) (.const (.int .u64 4294967296))) (.one (some 29, none, .pick (.tmp 25) (.tmp 28) (.const (.bool false))) (.one (none, none, .st 1 (.tmp 30) (.tmp 21)) (.one (some 4, none, .mv (.tmp 29)) .done))))) (.one (none, none, .st 1 (.tmp 30) (.tmp 21)) (.one (some 27, some (25, true), .ld false (.tmp 26)) (.one (some 28, some (25, true), .bi .lss (.tmp 27) (.const (.int .u64 4294967296))) (.one (some 29, none, .pick (.tmp 25) (.tmp 28) (.const (.bool false))) (.one (some 4, none, .mv (.tmp 29)) .done))))))))))))))) (.seq (.reg [(some 32, none, .bi .eql (.tmp 9) (.const (.int .i64 3))), (some 31, none, .mv (.tmp 32))]) (.cond (.tmp 31) (.ord (.one (some 33, none, .fa 1 (.tmp 1)) (.one (some 34, none, .ld false (.tmp 33)) (.one (some 35, none, .fa 1 (.tmp 1)) (.one (some 43, none, .fa 1 (.tmp 3)) (.one (some 36, none, .ld false (.tmp 35)) (.one (some 37, none, .bi .neq (.tmp 36) (.const (.int .u64 0))) (.one (some 38, none, .mv (.tmp 37)) (.one (some 39, some (38, true), .fa 1 (.tmp 1)) (.alt (.one (some 40, some (38, true),
 .ld false (.tmp 39)) (.one (some 41, some (38, true), .bi .lss (.tmp 40) (.const (.int .u64 128))) (.one (some 42, none, .pick (.tmp 38) (.tmp 41) (.const (.bool false))) (.one (none, none, .st 1 (.tmp 43) (.tmp 34)) (.one (some 4, none, .mv (.tmp 42)) .done))))) (.one (none, none, .st 1 (.tmp 43) (.tmp 34)) (.one (some 40, some (38, true), .ld false (.tmp 39)) (.one (some 41, some (38, true), .bi .lss (.tmp 40) (.const (.int .u64 128))) (.one (some 42, none, .pick (.tmp 38) (.tmp 41) (.const (.bool false))) (.one (some 4, none, .mv (.tmp 42)) .done))))))))))))))) (.seq (.reg [(some 45, none, .bi .eql (.tmp 9) (.const (.int .i64 4))), (some 44, none, .mv (.tmp 45))]) (.cond (.tmp 44) (.ord (.one (some 46, none, .fa 2 (.tmp 1)) (.one (some 47, none, .ld false (.tmp 46)) (.one (some 48, none, .fa 3 (.tmp 1)) (.one (some 50, none, .fa 2 (.tmp 1)) (.one (some 65, none, .fa 2 (.tmp 3)) (.alt (.one (some 49, none, .ld false (.tmp 48)) (.one (some 51, none, .ld false (.tmp 50)) (.one (some 52, none, .bi .geq (.tmp 51) (.const (.int .i64 0))) (.one (some 53, none, .mv (.tmp 52)) (.one (some 54, some (53, true), .fa 2 (.tmp 1)) (.one (some 56, some (53, true), .fa 3 (.tmp 1)) (.alt (.one (some 55, some (53, true), .ld false (.tmp 54)) (.one (some 57, some (53, true), .ld false (.tmp 56)) (.one (some 58, some (53, true), .bi .leq (.tmp 55) (.tmp 57)) (.one (some 59, none, .pick (.tmp 53) (.tmp 58) (.const (.bool false))) (.one (some 60, none, .mv (.tmp 59))
 (.one (some 61, some (60, true), .fa 3 (.tmp 1)) (.alt (.one (some 62, some (60, true), .ld false (.tmp 61)) (.one (some 63, some (60, true), .bi .leq (.tmp 62) (.const (.int .i64 67108864))) (.one (some 64, none, .pick (.tmp 60) (.tmp 63) (.const (.bool false))) (.one (none, none, .st 1 (.tmp 65) (.tmp 47)) (.one (some 66, none, .fa 3 (.tmp 3)) (.one (none, none, .st 1 (.tmp 66) (.tmp 49)) (.one (some 4, none, .mv (.tmp 64)) .done))))))) (.one (none, none, .st 1 (.tmp 65) (.tmp 47)) (.one (some 66, none, .fa 3 (.tmp 3)) (.alt (.one (some 62, some (60, true), .ld false (.tmp 61)) (.one (some 63, some (60, true), .bi .leq (.tmp 62) (.const (.int .i64 67108864))) (.one (some 64, none, .pick (.tmp 60) (.tmp 63) (.const (.bool false))) (.one (none, none, .st 1 (.tmp 66) (.tmp 49)) (.one (some 4, none, .mv (.tmp 64)) .done))))) (.one (none, none, .st 1 (.tmp 66) (.tmp 49)) (.one (some 62, some (60, true), .ld false (.tmp 61)) (.one (some 63, some (60, true), .bi .leq (.tmp 62) (.const (.int .i64 67108864))) (.one (some 64, none, .pick (.tmp 60) (.tmp 63) (.const (.bool false))) (.one (some 4, none, .mv (.tmp 64)) .done))))))))))))))) (.one (some 57, some (53, true), .ld false (.tmp 56)) (.one (some 55, some (53, true), .ld false (.tmp 54)) (.one (some 58, some (53, true), .bi .leq (.tmp 55) (.tmp 57)) (.one (some 59, none, .pick (.tmp 53) (.tmp 58) (.const (.bool false))) (.one (some 60, none, .mv (.tmp 59)) (.one (some 61, some (60, true), .fa 3 (.tmp 1))
 (.alt (.one (some 62, some (60, true), .ld false (.tmp 61)) (.one (some 63, some (60, true), .bi .leq (.tmp 62) (.const (.int .i64 67108864))) (.one (some 64, none, .pick (.tmp 60) (.tmp 63) (.const (.bool false))) (.one (none, none, .st 1 (.tmp 65) (.tmp 47)) (.one (some 66, none, .fa 3 (.tmp 3)) (.one (none, none, .st 1 (.tmp 66) (.tmp 49)) (.one (some 4, none, .mv (.tmp 64)) .done))))))) (.one (none, none, .st 1 (.tmp 65) (.tmp 47)) (.one (some 66, none, .fa 3 (.tmp 3)) (.alt (.one (some 62, some (60, true), .ld false (.tmp 61)) (.one (some 63, some (60, true), .bi .leq (.tmp 62) (.const (.int .i64 67108864))) (.one (some 64, none, .pick (.tmp 60) (.tmp 63) (.const (.bool false))) (.one (none, none, .st 1 (.tmp 66) (.tmp 49)) (.one (some 4, none, .mv (.tmp 64)) .done))))) (.one (none, none, .st 1 (.tmp 66) (.tmp 49)) (.one (some 62, some (60, true), .ld false (.tmp 61)) (.one (some 63, some (60, true), .bi .leq (.tmp 62) (.const (.int .i64 67108864))) (.one (some 64, none, .pick (.tmp 60) (.tmp 63) (.const (.bool false))) (.one (some 4, none, .mv (.tmp 64)) .done)))))))))))))))))))))) (.one (some 51, none, .ld false (.tmp 50)) (.one (some 52, none, .bi .geq (.tmp 51) (.const (.int .i64 0))) (.one (some 53, none, .mv (.tmp 52)) (.one (some 54, some (53, true), .fa 2 (.tmp 1)) (.one (some 56, some (53, true), .fa 3 (.tmp 1)) (.alt (.one (some 49, none, .ld false (.tmp 48)) (.alt (.one (some 55, some (53, true), .ld false (.tmp 54)) (.one (some 57, some (53, true),
 .ld false (.tmp 56)) (.one (some 58, some (53, true), .bi .leq (.tmp 55) (.tmp 57)) (.one (some 59, none, .pick (.tmp 53) (.tmp 58) (.const (.bool false))) (.one (some 60, none, .mv (.tmp 59)) (.one (some 61, some (60, true), .fa 3 (.tmp 1)) (.alt (.one (some 62, some (60, true), .ld false (.tmp 61)) (.one (some 63, some (60, true), .bi .leq (.tmp 62) (.const (.int .i64 67108864))) (.one (some 64, none, .pick (.tmp 60) (.tmp 63) (.const (.bool false))) (.one (none, none, .st 1 (.tmp 65) (.tmp 47)) (.one (some 66, none, .fa 3 (.tmp 3)) (.one (none, none, .st 1 (.tmp 66) (.tmp 49)) (.one (some 4, none, .mv (.tmp 64)) .done))))))) (.one (none, none, .st 1 (.tmp 65) (.tmp 47)) (.one (some 66, none, .fa 3 (.tmp 3)) (.alt (.one (some 62, some (60, true), .ld false (.tmp 61)) (.one (some 63, some (60, true), .bi .leq (.tmp 62) (.const (.int .i64 67108864))) (.one (some 64, none, .pick (.tmp 60) (.tmp 63) (.const (.bool false))) (.one (none, none, .st 1 (.tmp 66) (.tmp 49)) (.one (some 4, none, .mv (.tmp 64)) .done))))) (.one (none, none, .st 1 (.tmp 66) (.tmp 49)) (.one (some 62, some (60, true), .ld false (.tmp 61)) (.one (some 63, some (60, true), .bi .leq (.tmp 62) (.const (.int .i64 67108864))) (.one (some 64, none, .pick (.tmp 60) (.tmp 63) (.const (.bool false))) (.one (some 4, none, .mv (.tmp 64)) .done))))))))))))))) (.one (some 57, some (53, true), .ld false (.tmp 56)) (.one (some 55, some (53, true), .ld false (.tmp 54)) (.one (some 58, some (53, true), .bi .leq (.tmp 55)
 (.tmp 57)) (.one (some 59, none, .pick (.tmp 53) (.tmp 58) (.const (.bool false))) (.one (some 60, none, .mv (.tmp 59)) (.one (some 61, some (60, true), .fa 3 (.tmp 1)) (.alt (.one (some 62, some (60, true), .ld false (.tmp 61)) (.one (some 63, some (60, true), .bi .leq (.tmp 62) (.const (.int .i64 67108864))) (.one (some 64, none, .pick (.tmp 60) (.tmp 63) (.const (.bool false))) (.one (none, none, .st 1 (.tmp 65) (.tmp 47)) (.one (some 66, none, .fa 3 (.tmp 3)) (.one (none, none, .st 1 (.tmp 66) (.tmp 49)) (.one (some 4, none, .mv (.tmp 64)) .done))))))) (.one (none, none, .st 1 (.tmp 65) (.tmp 47)) (.one (some 66, none, .fa 3 (.tmp 3)) (.alt (.one (some 62, some (60, true), .ld false (.tmp 61)) (.one (some 63, some (60, true), .bi .leq (.tmp 62) (.const (.int .i64 67108864))) (.one (some 64, none, .pick (.tmp 60) (.tmp 63) (.const (.bool false))) (.one (none, none, .st 1 (.tmp 66) (.tmp 49)) (.one (some 4, none, .mv (.tmp 64)) .done))))) (.one (none, none, .st 1 (.tmp 66) (.tmp 49)) (.one (some 62, some (60, true), .ld false (.tmp 61)) (.one (some 63, some (60, true), .bi .leq (.tmp 62) (.const (.int .i64 67108864))) (.one (some 64, none, .pick (.tmp 60) (.tmp 63) (.const (.bool false))) (.one (some 4, none, .mv (.tmp 64)) .done))))))))))))))))) (.alt (.one (some 55, some (53, true), .ld false (.tmp 54)) (.alt (.one (some 49, none, .ld false (.tmp 48)) (.one (some 57, some (53, true), .ld false (.tmp 56)) (.one (some 58, some (53, true), .bi .leq (.tmp 55) (.tmp 57))
 (.one (some 59, none, .pick (.tmp 53) (.tmp 58) (.const (.bool false))) (.one (some 60, none, .mv (.tmp 59)) (.one (some 61, some (60, true), .fa 3 (.tmp 1)) (.alt (.one (some 62, some (60, true), .ld false (.tmp 61)) (.one (some 63, some (60, true), .bi .leq (.tmp 62) (.const (.int .i64 67108864))) (.one (some 64, none, .pick (.tmp 60) (.tmp 63) (.const (.bool false))) (.one (none, none, .st 1 (.tmp 65) (.tmp 47)) (.one (some 66, none, .fa 3 (.tmp 3)) (.one (none, none, .st 1 (.tmp 66) (.tmp 49)) (.one (some 4, none, .mv (.tmp 64)) .done))))))) (.one (none, none, .st 1 (.tmp 65) (.tmp 47)) (.one (some 66, none, .fa 3 (.tmp 3)) (.alt (.one (some 62, some (60, true), .ld false (.tmp 61)) (.one (some 63, some (60, true), .bi .leq (.tmp 62) (.const (.int .i64 67108864))) (.one (some 64, none, .pick (.tmp 60) (.tmp 63) (.const (.bool false))) (.one (none, none, .st 1 (.tmp 66) (.tmp 49)) (.one (some 4, none, .mv (.tmp 64)) .done))))) (.one (none, none, .st 1 (.tmp 66) (.tmp 49)) (.one (some 62, some (60, true), .ld false (.tmp 61)) (.one (some 63, some (60, true), .bi .leq (.tmp 62) (.const (.int .i64 67108864))) (.one (some 64, none, .pick (.tmp 60) (.tmp 63) (.const (.bool false))) (.one (some 4, none, .mv (.tmp 64)) .done))))))))))))))) (.one (some 57, some (53, true), .ld false (.tmp 56)) (.one (some 58, some (53, true), .bi .leq (.tmp 55) (.tmp 57)) (.one (some 59, none, .pick (.tmp 53) (.tmp 58) (.const (.bool false))) (.one (some 60, none, .mv (.tmp 59))
 (.one (some 61, some (60, true), .fa 3 (.tmp 1)) (.alt (.one (some 49, none, .ld false (.tmp 48)) (.alt (.one (some 62, some (60, true), .ld false (.tmp 61)) (.one (some 63, some (60, true), .bi .leq (.tmp 62) (.const (.int .i64 67108864))) (.one (some 64, none, .pick (.tmp 60) (.tmp 63) (.const (.bool false))) (.one (none, none, .st 1 (.tmp 65) (.tmp 47)) (.one (some 66, none, .fa 3 (.tmp 3)) (.one (none, none, .st 1 (.tmp 66) (.tmp 49)) (.one (some 4, none, .mv (.tmp 64)) .done))))))) (.one (none, none, .st 1 (.tmp 65) (.tmp 47)) (.one (some 66, none, .fa 3 (.tmp 3)) (.alt (.one (some 62, some (60, true), .ld false (.tmp 61)) (.one (some 63, some (60, true), .bi .leq (.tmp 62) (.const (.int .i64 67108864))) (.one (some 64, none, .pick (.tmp 60) (.tmp 63) (.const (.bool false))) (.one (none, none, .st 1 (.tmp 66) (.tmp 49)) (.one (some 4, none, .mv (.tmp 64)) .done))))) (.one (none, none, .st 1 (.tmp 66) (.tmp 49)) (.one (some 62, some (60, true), .ld false (.tmp 61)) (.one (some 63, some (60, true), .bi .leq (.tmp 62) (.const (.int .i64 67108864))) (.one (some 64, none, .pick (.tmp 60) (.tmp 63) (.const (.bool false))) (.one (some 4, none, .mv (.tmp 64)) .done)))))))))) (.alt (.one (some 62, some (60, true), .ld false (.tmp 61)) (.one (some 63, some (60, true), .bi .leq (.tmp 62) (.const (.int .i64 67108864))) (.one (some 64, none, .pick (.tmp 60) (.tmp 63) (.const (.bool false))) (.alt (.one (some 49, none, .ld false (.tmp 48)) (.one (none, none, .st 1 (.tmp 65) (.tmp 47))
 (.one (some 66, none, .fa 3 (.tmp 3)) (.one (none, none, .st 1 (.tmp 66) (.tmp 49)) (.one (some 4, none, .mv (.tmp 64)) .done))))) (.one (none, none, .st 1 (.tmp 65) (.tmp 47)) (.one (some 49, none, .ld false (.tmp 48)) (.one (some 66, none, .fa 3 (.tmp 3)) (.one (none, none, .st 1 (.tmp 66) (.tmp 49)) (.one (some 4, none, .mv (.tmp 64)) .done))))))))) (.one (none, none, .st 1 (.tmp 65) (.tmp 47)) (.one (some 49, none, .ld false (.tmp 48)) (.one (some 66, none, .fa 3 (.tmp 3)) (.alt (.one (some 62, some (60, true), .ld false (.tmp 61)) (.one (some 63, some (60, true), .bi .leq (.tmp 62) (.const (.int .i64 67108864))) (.one (some 64, none, .pick (.tmp 60) (.tmp 63) (.const (.bool false))) (.one (none, none, .st 1 (.tmp 66) (.tmp 49)) (.one (some 4, none, .mv (.tmp 64)) .done))))) (.one (none, none, .st 1 (.tmp 66) (.tmp 49)) (.one (some 62, some (60, true), .ld false (.tmp 61)) (.one (some 63, some (60, true), .bi .leq (.tmp 62) (.const (.int .i64 67108864))) (.one (some 64, none, .pick (.tmp 60) (.tmp 63) (.const (.bool false))) (.one (some 4, none, .mv (.tmp 64)) .done)))))))))))))))))) (.one (some 57, some (53, true), .ld false (.tmp 56)) (.alt (.one (some 49, none, .ld false (.tmp 48)) (.one (some 55, some (53, true), .ld false (.tmp 54)) (.one (some 58, some (53, true), .bi .leq (.tmp 55) (.tmp 57)) (.one (some 59, none, .pick (.tmp 53) (.tmp 58) (.const (.bool false))) (.one (some 60, none, .mv (.tmp 59)) (.one (some 61, some (60, true), .fa 3 (.tmp 1))
 (.alt (.one (some 62, some (60, true), .ld false (.tmp 61)) (.one (some 63, some (60, true), .bi .leq (.tmp 62) (.const (.int .i64 67108864))) (.one (some 64, none, .pick (.tmp 60) (.tmp 63) (.const (.bool false))) (.one (none, none, .st 1 (.tmp 65) (.tmp 47)) (.one (some 66, none, .fa 3 (.tmp 3)) (.one (none, none, .st 1 (.tmp 66) (.tmp 49)) (.one (some 4, none, .mv (.tmp 64)) .done))))))) (.one (none, none, .st 1 (.tmp 65) (.tmp 47)) (.one (some 66, none, .fa 3 (.tmp 3)) (.alt (.one (some 62, some (60, true), .ld false (.tmp 61)) (.one (some 63, some (60, true), .bi .leq (.tmp 62) (.const (.int .i64 67108864))) (.one (some 64, none, .pick (.tmp 60) (.tmp 63) (.const (.bool false))) (.one (none, none, .st 1 (.tmp 66) (.tmp 49)) (.one (some 4, none, .mv (.tmp 64)) .done))))) (.one (none, none, .st 1 (.tmp 66) (.tmp 49)) (.one (some 62, some (60, true), .ld false (.tmp 61)) (.one (some 63, some (60, true), .bi .leq (.tmp 62) (.const (.int .i64 67108864))) (.one (some 64, none, .pick (.tmp 60) (.tmp 63) (.const (.bool false))) (.one (some 4, none, .mv (.tmp 64)) .done))))))))))))))) (.one (some 55, some (53, true), .ld false (.tmp 54)) (.one (some 58, some (53, true), .bi .leq (.tmp 55) (.tmp 57)) (.one (some 59, none, .pick (.tmp 53) (.tmp 58) (.const (.bool false))) (.one (some 60, none, .mv (.tmp 59)) (.one (some 61, some (60, true), .fa 3 (.tmp 1)) (.alt (.one (some 49, none, .ld false (.tmp 48)) (.alt (.one (some 62, some (60, true), .ld false (.tmp 61))
 (.one (some 63, some (60, true), .bi .leq (.tmp 62) (.const (.int .i64 67108864))) (.one (some 64, none, .pick (.tmp 60) (.tmp 63) (.const (.bool false))) (.one (none, none, .st 1 (.tmp 65) (.tmp 47)) (.one (some 66, none, .fa 3 (.tmp 3)) (.one (none, none, .st 1 (.tmp 66) (.tmp 49)) (.one (some 4, none, .mv (.tmp 64)) .done))))))) (.one (none, none, .st 1 (.tmp 65) (.tmp 47)) (.one (some 66, none, .fa 3 (.tmp 3)) (.alt (.one (some 62, some (60, true), .ld false (.tmp 61)) (.one (some 63, some (60, true), .bi .leq (.tmp 62) (.const (.int .i64 67108864))) (.one (some 64, none, .pick (.tmp 60) (.tmp 63) (.const (.bool false))) (.one (none, none, .st 1 (.tmp 66) (.tmp 49)) (.one (some 4, none, .mv (.tmp 64)) .done))))) (.one (none, none, .st 1 (.tmp 66) (.tmp 49)) (.one (some 62, some (60, true), .ld false (.tmp 61)) (.one (some 63, some (60, true), .bi .leq (.tmp 62) (.const (.int .i64 67108864))) (.one (some 64, none, .pick (.tmp 60) (.tmp 63) (.const (.bool false))) (.one (some 4, none, .mv (.tmp 64)) .done)))))))))) (.alt (.one (some 62, some (60, true), .ld false (.tmp 61)) (.one (some 63, some (60, true), .bi .leq (.tmp 62) (.const (.int .i64 67108864))) (.one (some 64, none, .pick (.tmp 60) (.tmp 63) (.const (.bool false))) (.alt (.one (some 49, none, .ld false (.tmp 48)) (.one (none, none, .st 1 (.tmp 65) (.tmp 47)) (.one (some 66, none, .fa 3 (.tmp 3)) (.one (none, none, .st 1 (.tmp 66) (.tmp 49)) (.one (some 4, none, .mv (.tmp 64)) .done)))))
 (.one (none, none, .st 1 (.tmp 65) (.tmp 47)) (.one (some 49, none, .ld false (.tmp 48)) (.one (some 66, none, .fa 3 (.tmp 3)) (.one (none, none, .st 1 (.tmp 66) (.tmp 49)) (.one (some 4, none, .mv (.tmp 64)) .done))))))))) (.one (none, none, .st 1 (.tmp 65) (.tmp 47)) (.one (some 49, none, .ld false (.tmp 48)) (.one (some 66, none, .fa 3 (.tmp 3)) (.alt (.one (some 62, some (60, true), .ld false (.tmp 61)) (.one (some 63, some (60, true), .bi .leq (.tmp 62) (.const (.int .i64 67108864))) (.one (some 64, none, .pick (.tmp 60) (.tmp 63) (.const (.bool false))) (.one (none, none, .st 1 (.tmp 66) (.tmp 49)) (.one (some 4, none, .mv (.tmp 64)) .done))))) (.one (none, none, .st 1 (.tmp 66) (.tmp 49)) (.one (some 62, some (60, true), .ld false (.tmp 61)) (.one (some 63, some (60, true), .bi .leq (.tmp 62) (.const (.int .i64 67108864))) (.one (some 64, none, .pick (.tmp 60) (.tmp 63) (.const (.bool false))) (.one (some 4, none, .mv (.tmp 64)) .done)))))))))))))))))))))))))))))))) (.seq (.reg [(some 68, none, .bi .eql (.tmp 9) (.const (.int .i64 5))), (some 67, none, .mv (.tmp 68))]) (.cond (.tmp 67) (.ord (.one (some 69, none, .fa 2 (.tmp 1)) (.one (some 70, none, .ld false (.tmp 69)) (.one (some 71, none, .fa 3 (.tmp 1)) (.one (some 73, none, .fa 2 (.tmp 1)) (.one (some 91, none, .fa 2 (.tmp 3)) (.alt (.one (some 72, none, .ld false (.tmp 71)) (.one (some 74, none, .ld false (.tmp 73)) (.one (some 75, none, .bi .geq (.tmp 74) (.const (.int .i64 0)))
 (.one (some 76, none, .mv (.tmp 75)) (.one (some 77, some (76, true), .fa 2 (.tmp 1)) (.one (some 78, some (76, true), .ld false (.tmp 77)) (.one (some 79, some (76, true), .bi .lss (.tmp 78) (.const (.int .i64 1440))) (.one (some 80, none, .pick (.tmp 76) (.tmp 79) (.const (.bool false))) (.one (some 81, none, .mv (.tmp 80)) (.one (some 82, some (81, true), .fa 3 (.tmp 1)) (.one (some 83, some (81, true), .ld false (.tmp 82)) (.one (some 84, some (81, true), .bi .geq (.tmp 83) (.const (.int .i64 0))) (.one (some 85, none, .pick (.tmp 81) (.tmp 84) (.const (.bool false))) (.one (some 86, none, .mv (.tmp 85)) (.one (some 87, some (86, true), .fa 3 (.tmp 1)) (.alt (.one (some 88, some (86, true), .ld false (.tmp 87)) (.one (some 89, some (86, true), .bi .lss (.tmp 88) (.const (.int .i64 1440))) (.one (some 90, none, .pick (.tmp 86) (.tmp 89) (.const (.bool false))) (.one (none, none, .st 1 (.tmp 91) (.tmp 70)) (.one (some 92, none, .fa 3 (.tmp 3)) (.one (none, none, .st 1 (.tmp 92) (.tmp 72)) (.one (some 4, none, .mv (.tmp 90)) .done))))))) (.one (none, none, .st 1 (.tmp 91) (.tmp 70)) (.one (some 92, none, .fa 3 (.tmp 3)) (.alt (.one (some 88, some (86, true), .ld false (.tmp 87)) (.one (some 89, some (86, true), .bi .lss (.tmp 88) (.const (.int .i64 1440))) (.one (some 90, none, .pick (.tmp 86) (.tmp 89) (.const (.bool false))) (.one (none, none, .st 1 (.tmp 92) (.tmp 72)) (.one (some 4, none, .mv (.tmp 90)) .done))))) (.one (none, none, .st 1 (.tmp 92) (.tmp 72))
 (.one (some 88, some (86, true), .ld false (.tmp 87)) (.one (some 89, some (86, true), .bi .lss (.tmp 88) (.const (.int .i64 1440))) (.one (some 90, none, .pick (.tmp 86) (.tmp 89) (.const (.bool false))) (.one (some 4, none, .mv (.tmp 90)) .done)))))))))))))))))))))))) (.one (some 74, none, .ld false (.tmp 73)) (.one (some 75, none, .bi .geq (.tmp 74) (.const (.int .i64 0))) (.one (some 76, none, .mv (.tmp 75)) (.one (some 77, some (76, true), .fa 2 (.tmp 1)) (.alt (.one (some 72, none, .ld false (.tmp 71)) (.one (some 78, some (76, true), .ld false (.tmp 77)) (.one (some 79, some (76, true), .bi .lss (.tmp 78) (.const (.int .i64 1440))) (.one (some 80, none, .pick (.tmp 76) (.tmp 79) (.const (.bool false))) (.one (some 81, none, .mv (.tmp 80)) (.one (some 82, some (81, true), .fa 3 (.tmp 1)) (.one (some 83, some (81, true), .ld false (.tmp 82)) (.one (some 84, some (81, true), .bi .geq (.tmp 83) (.const (.int .i64 0))) (.one (some 85, none, .pick (.tmp 81) (.tmp 84) (.const (.bool false))) (.one (some 86, none, .mv (.tmp 85)) (.one (some 87, some (86, true), .fa 3 (.tmp 1)) (.alt (.one (some 88, some (86, true), .ld false (.tmp 87)) (.one (some 89, some (86, true), .bi .lss (.tmp 88) (.const (.int .i64 1440))) (.one (some 90, none, .pick (.tmp 86) (.tmp 89) (.const (.bool false))) (.one (none, none, .st 1 (.tmp 91) (.tmp 70)) (.one (some 92, none, .fa 3 (.tmp 3)) (.one (none, none, .st 1 (.tmp 92) (.tmp 72)) (.one (some 4, none, .mv (.tmp 90)) .done)))))))
 (.one (none, none, .st 1 (.tmp 91) (.tmp 70)) (.one (some 92, none, .fa 3 (.tmp 3)) (.alt (.one (some 88, some (86, true), .ld false (.tmp 87)) (.one (some 89, some (86, true), .bi .lss (.tmp 88) (.const (.int .i64 1440))) (.one (some 90, none, .pick (.tmp 86) (.tmp 89) (.const (.bool false))) (.one (none, none, .st 1 (.tmp 92) (.tmp 72)) (.one (some 4, none, .mv (.tmp 90)) .done))))) (.one (none, none, .st 1 (.tmp 92) (.tmp 72)) (.one (some 88, some (86, true), .ld false (.tmp 87)) (.one (some 89, some (86, true), .bi .lss (.tmp 88) (.const (.int .i64 1440))) (.one (some 90, none, .pick (.tmp 86) (.tmp 89) (.const (.bool false))) (.one (some 4, none, .mv (.tmp 90)) .done)))))))))))))))))))) (.one (some 78, some (76, true), .ld false (.tmp 77)) (.one (some 79, some (76, true), .bi .lss (.tmp 78) (.const (.int .i64 1440))) (.one (some 80, none, .pick (.tmp 76) (.tmp 79) (.const (.bool false))) (.one (some 81, none, .mv (.tmp 80)) (.one (some 82, some (81, true), .fa 3 (.tmp 1)) (.alt (.one (some 72, none, .ld false (.tmp 71)) (.one (some 83, some (81, true), .ld false (.tmp 82)) (.one (some 84, some (81, true), .bi .geq (.tmp 83) (.const (.int .i64 0))) (.one (some 85, none, .pick (.tmp 81) (.tmp 84) (.const (.bool false))) (.one (some 86, none, .mv (.tmp 85)) (.one (some 87, some (86, true), .fa 3 (.tmp 1)) (.alt (.one (some 88, some (86, true), .ld false (.tmp 87)) (.one (some 89, some (86, true), .bi .lss (.tmp 88) (.const (.int .i64 1440)))
 (.one (some 90, none, .pick (.tmp 86) (.tmp 89) (.const (.bool false))) (.one (none, none, .st 1 (.tmp 91) (.tmp 70)) (.one (some 92, none, .fa 3 (.tmp 3)) (.one (none, none, .st 1 (.tmp 92) (.tmp 72)) (.one (some 4, none, .mv (.tmp 90)) .done))))))) (.one (none, none, .st 1 (.tmp 91) (.tmp 70)) (.one (some 92, none, .fa 3 (.tmp 3)) (.alt (.one (some 88, some (86, true), .ld false (.tmp 87)) (.one (some 89, some (86, true), .bi .lss (.tmp 88) (.const (.int .i64 1440))) (.one (some 90, none, .pick (.tmp 86) (.tmp 89) (.const (.bool false))) (.one (none, none, .st 1 (.tmp 92) (.tmp 72)) (.one (some 4, none, .mv (.tmp 90)) .done))))) (.one (none, none, .st 1 (.tmp 92) (.tmp 72)) (.one (some 88, some (86, true), .ld false (.tmp 87)) (.one (some 89, some (86, true), .bi .lss (.tmp 88) (.const (.int .i64 1440))) (.one (some 90, none, .pick (.tmp 86) (.tmp 89) (.const (.bool false))) (.one (some 4, none, .mv (.tmp 90)) .done))))))))))))))) (.one (some 83, some (81, true), .ld false (.tmp 82)) (.one (some 84, some (81, true), .bi .geq (.tmp 83) (.const (.int .i64 0))) (.one (some 85, none, .pick (.tmp 81) (.tmp 84) (.const (.bool false))) (.one (some 86, none, .mv (.tmp 85)) (.one (some 87, some (86, true), .fa 3 (.tmp 1)) (.alt (.one (some 72, none, .ld false (.tmp 71)) (.alt (.one (some 88, some (86, true), .ld false (.tmp 87)) (.one (some 89, some (86, true), .bi .lss (.tmp 88) (.const (.int .i64 1440))) (.one (some 90, none, .pick (.tmp 86) (.tmp 89) (.const (.bool false)))
 (.one (none, none, .st 1 (.tmp 91) (.tmp 70)) (.one (some 92, none, .fa 3 (.tmp 3)) (.one (none, none, .st 1 (.tmp 92) (.tmp 72)) (.one (some 4, none, .mv (.tmp 90)) .done))))))) (.one (none, none, .st 1 (.tmp 91) (.tmp 70)) (.one (some 92, none, .fa 3 (.tmp 3)) (.alt (.one (some 88, some (86, true), .ld false (.tmp 87)) (.one (some 89, some (86, true), .bi .lss (.tmp 88) (.const (.int .i64 1440))) (.one (some 90, none, .pick (.tmp 86) (.tmp 89) (.const (.bool false))) (.one (none, none, .st 1 (.tmp 92) (.tmp 72)) (.one (some 4, none, .mv (.tmp 90)) .done))))) (.one (none, none, .st 1 (.tmp 92) (.tmp 72)) (.one (some 88, some (86, true), .ld false (.tmp 87)) (.one (some 89, some (86, true), .bi .lss (.tmp 88) (.const (.int .i64 1440))) (.one (some 90, none, .pick (.tmp 86) (.tmp 89) (.const (.bool false))) (.one (some 4, none, .mv (.tmp 90)) .done)))))))))) (.alt (.one (some 88, some (86, true), .ld false (.tmp 87)) (.one (some 89, some (86, true), .bi .lss (.tmp 88) (.const (.int .i64 1440))) (.one (some 90, none, .pick (.tmp 86) (.tmp 89) (.const (.bool false))) (.alt (.one (some 72, none, .ld false (.tmp 71)) (.one (none, none, .st 1 (.tmp 91) (.tmp 70)) (.one (some 92, none, .fa 3 (.tmp 3)) (.one (none, none, .st 1 (.tmp 92) (.tmp 72)) (.one (some 4, none, .mv (.tmp 90)) .done))))) (.one (none, none, .st 1 (.tmp 91) (.tmp 70)) (.one (some 72, none, .ld false (.tmp 71)) (.one (some 92, none, .fa 3 (.tmp 3)) (.one (none, none, .st 1 (.tmp 92) (.tmp 72))
 (.one (some 4, none, .mv (.tmp 90)) .done))))))))) (.one (none, none, .st 1 (.tmp 91) (.tmp 70)) (.one (some 72, none, .ld false (.tmp 71)) (.one (some 92, none, .fa 3 (.tmp 3)) (.alt (.one (some 88, some (86, true), .ld false (.tmp 87)) (.one (some 89, some (86, true), .bi .lss (.tmp 88) (.const (.int .i64 1440))) (.one (some 90, none, .pick (.tmp 86) (.tmp 89) (.const (.bool false))) (.one (none, none, .st 1 (.tmp 92) (.tmp 72)) (.one (some 4, none, .mv (.tmp 90)) .done))))) (.one (none, none, .st 1 (.tmp 92) (.tmp 72)) (.one (some 88, some (86, true), .ld false (.tmp 87)) (.one (some 89, some (86, true), .bi .lss (.tmp 88) (.const (.int .i64 1440))) (.one (some 90, none, .pick (.tmp 86) (.tmp 89) (.const (.bool false))) (.one (some 4, none, .mv (.tmp 90)) .done)))))))))))))))))))))))))))))))))) (.seq (.reg [(some 94, none, .bi .eql (.tmp 9) (.const (.int .i64 6))), (some 93, none, .mv (.tmp 94))]) (.cond (.tmp 93) (.ord (.one (some 95, none, .fa 4 (.tmp 1)) (.one (some 97, none, .fa 4 (.tmp 1)) (.alt (.one (some 96, none, .ld false (.tmp 95)) (.one (some 100, none, .fa 4 (.tmp 3)) (.one (some 98, none, .ld false (.tmp 97)) (.one (some 99, none, .call f_ref01_Name [(.tmp 98)]) (.one (none, none, .st 1 (.tmp 100) (.tmp 96)) (.one (some 4, none, .mv (.tmp 99)) .done)))))) (.one (some 98, none, .ld false (.tmp 97)) (.alt (.one (some 96, none, .ld false (.tmp 95)) (.one (some 100, none, .fa 4 (.tmp 3)) (.one (some 99, none, .call f_ref01_Name [(.tmp 98)])
 (.one (none, none, .st 1 (.tmp 100) (.tmp 96)) (.one (some 4, none, .mv (.tmp 99)) .done))))) (.one (some 99, none, .call f_ref01_Name [(.tmp 98)]) (.one (some 96, none, .ld false (.tmp 95)) (.one (some 100, none, .fa 4 (.tmp 3)) (.one (none, none, .st 1 (.tmp 100) (.tmp 96)) (.one (some 4, none, .mv (.tmp 99)) .done))))))))))) (.seq (.reg [(some 102, none, .bi .eql (.tmp 9) (.const (.int .i64 7))), (some 101, none, .mv (.tmp 102))]) (.cond (.tmp 101) (.ord (.one (some 103, none, .fa 5 (.tmp 1)) (.one (some 104, none, .ld false (.tmp 103)) (.one (some 105, none, .fa 5 (.tmp 1)) (.one (some 113, none, .fa 5 (.tmp 3)) (.one (some 106, none, .ld false (.tmp 105)) (.one (some 107, none, .bi .geq (.tmp 106) (.const (.int .i64 0))) (.one (some 108, none, .mv (.tmp 107)) (.one (some 109, some (108, true), .fa 5 (.tmp 1)) (.alt (.one (some 110, some (108, true), .ld false (.tmp 109)) (.one (some 111, some (108, true), .bi .leq (.tmp 110) (.const (.int .i64 1000000))) (.one (some 112, none, .pick (.tmp 108) (.tmp 111) (.const (.bool false))) (.one (none, none, .st 1 (.tmp 113) (.tmp 104)) (.one (some 4, none, .mv (.tmp 112)) .done))))) (.one (none, none, .st 1 (.tmp 113) (.tmp 104)) (.one (some 110, some (108, true), .ld false (.tmp 109)) (.one (some 111, some (108, true), .bi .leq (.tmp 110) (.const (.int .i64 1000000))) (.one (some 112, none, .pick (.tmp 108) (.tmp 111) (.const (.bool false))) (.one (some 4, none, .mv (.tmp 112)) .done))))))))))))))) .skip))))))))))))))))
 (.seq (.reg [(some 114, none, .mv (.tmp 4)), (some 115, none, .mv (.tmp 114)), (some 116, some (115, true), .ldA 6 (.tmp 1)), (some 117, some (115, true), .ldA 6 (.tmp 3)), (some 118, some (115, true), .eqA false [(.int .i64), (.int .u64), (.int .i64), (.int .i64), .string, (.int .i64)] (.tmp 116) (.tmp 117)), (some 119, none, .pick (.tmp 115) (.tmp 118) (.const (.bool false))), (some 2, none, .mv (.tmp 119))]) .ret)))))
def predicate_maskC : PC :=
 (.seq (.reg [(some 4, none, .mv (.const (.bool false)))]) (.seq (.reg [(some 5, none, .mv (.tmp 0)), (some 6, none, .bi .neq (.tmp 5) (.const (.int .u64 0))), (some 7, none, .mv (.tmp 6)), (some 8, some (7, true), .mv (.tmp 1)), (some 9, some (7, true), .bi .eql (.tmp 8) (.const (.int .i64 64))), (some 10, some (7, true), .mv (.tmp 9)), (some 11, some (10, false), .mv (.tmp 0)), (some 12, some (10, false), .mv (.tmp 1)), (some 13, some (10, false), .bi .shr (.tmp 11) (.tmp 12)), (some 14, some (10, false), .bi .eql (.tmp 13) (.const (.int .u64 0))), (some 15, some (7, true), .pick (.tmp 10) (.const (.bool true)) (.tmp 14)), (some 16, none, .pick (.tmp 7) (.tmp 15) (.const (.bool false))), (some 4, none, .mv (.tmp 16))]) .ret))
def predicate_nameC : PC :=
 (.seq (.reg [(some 2, none, .mv (.const (.bool false)))]) (.seq (.seq (.reg [(some 4, none, .mv (.tmp 0)), (some 5, none, .slen (.tmp 4)), (some 6, none, .bi .lss (.tmp 5) (.const (.int .i64 1))), (some 7, none, .mv (.tmp 6)), (some 8, some (7, false), .mv (.tmp 0)), (some 9, some (7, false), .slen (.tmp 8)), (some 10, some (7, false), .bi .gtr (.tmp 9) (.const (.int .i64 16))), (some 11, none, .pick (.tmp 7) (.const (.bool true)) (.tmp 10))]) (.cond (.tmp 11) (.seq (.reg [(some 2, none, .mv (.const (.bool false)))]) .ret) .skip)) (.seq (.seq (.reg [(some 12, none, .mv (.tmp 0)), (some 13, none, .slen (.tmp 12)), (some 14, none, .mv (.const (.int .i64 0)))]) (.block 0 (.loop (.seq (.reg [(some 15, none, .bi .lss (.tmp 14) (.tmp 13))]) (.seq (.cond (.tmp 15) .skip (.exit 0)) (.seq (.block 1 (.seq (.reg [(some 16, none, .mv (.tmp 14)), (some 3, none, .mv (.tmp 16))]) (.seq (.reg [(some 17, none, .mv (.tmp 0)), (some 18, none, .mv (.tmp 3)), (some 19, none, .six (.tmp 17) (.tmp 18)), (some 20, none, .bi .lss (.tmp 19) (.const (.int .u8 97))), (some 21, none, .mv (.tmp 20)), (some 22, some (21, false), .mv (.tmp 0)), (some 23, some (21, false), .mv (.tmp 3)), (some 24, some (21, false), .six (.tmp 22) (.tmp 23)), (some 25, some (21, false), .bi .gtr (.tmp 24) (.const (.int .u8 122))), (some 26, none, .pick (.tmp 21) (.const (.bool true)) (.tmp 25))]) (.cond (.tmp 26) (.seq (.reg [(some 2, none, .mv (.const (.bool false)))]) .ret) .skip))))
 (.reg [(some 27, none, .bi .add (.tmp 14) (.const (.int .i64 1))), (some 14, none, .mv (.tmp 27))]))))))) (.seq (.reg [(some 2, none, .mv (.const (.bool true)))]) .ret))))
end Go.PE
namespace Go.PE
open Go
end Go.PE
namespace Go.PE
open Go
structure Pred where
  kind : Int
  mask : Int
  fr : Int
  to : Int
  name : ByteArray
  num : Int
def Pred.cells (p : Pred) : List Value := [.int .i64 p.kind, .int .u64 p.mask, .int .i64 p.fr, .int .i64 p.to, .string p.name, .int .i64 p.num]
def Pred.v (p : Pred) : Value := ag p.cells
structure Ctx where
  zone : Int
  line : Int
  minute : Int
  holder : ByteArray
def Ctx.cells (c : Ctx) : List Value := [.int .i64 c.zone, .int .i64 c.line, .int .i64 c.minute, .string c.holder]
def Ctx.v (c : Ctx) : Value := ag c.cells
/-- the variable predicate.bits -/
def bitsRow : List Value := [.int .i64 0, .int .i64 64, .int .i64 32, .int .i64 7, .int .i64 0, .int .i64 0, .int .i64 0, .int .i64 0]

def maskV (m bits : Int) : Bool := m != 0 && (bits == 64 || (m.fdiv (2 ^ min bits.toNat 64) == 0))
def MaskOK (P : Program) (f : Nat) : Prop := ∀ (m bits : Int), 0 ≤ bits → ∀ (H : Nat → Option (List Value)) (nx : Nat),
    PCalls P f [.int .u64 m, .int .i64 bits] H nx (fun _ => False) (fun p H' _ => p = .bool (maskV m bits) ∧ H' = H)
theorem mask_ok {P : Program} {f : Nat} (hc : compFn P f = some (17, predicate_maskC, [.t 4])) : MaskOK P f := by
  intro m bits h0 H nx
  refine PCalls_of hc (by simp) fun hw => ?_
  by_cases hm : m = 0
  · simp [predicate_maskC, hm]
    refine wF_of ?_; simp [maskV]
  · have hm1 : (m != 0) = true := by simp [hm]
    by_cases hb : bits = 64
    · simp [predicate_maskC, hm1, hb]
      refine wF_of ?_; simp [maskV, hm]
    · have hb1 : (bits == 64) = false := by simp [hb]
      simp [predicate_maskC, hm1, hb1, h0]
      refine wF_of ?_; simp [maskV, hm1, hb1, IntKind.bits]

def letter (u : UInt8) : Bool := decide (97 ≤ u.toNat) && decide (u.toNat ≤ 122)
/-- is it a name? -/
def nameV (b : ByteArray) : Bool := decide (1 ≤ b.size) && decide (b.size ≤ 16) && (List.range b.size).all fun i => letter (b[i]?.getD 0)
def NameOK (P : Program) (f : Nat) : Prop := ∀ (b : ByteArray) (_ : (b.size : Int) ≤ 9223372036854775807) (H : Nat → Option (List Value)) (nx : Nat),
    PCalls P f [.string b] H nx (fun _ => False) (fun p H' _ => p = .bool (nameV b) ∧ H' = H)
theorem name_bad {b : ByteArray} {i : Nat} (hlt : i < b.size) (hn : ¬ (97 ≤ b[i].toNat ∧ b[i].toNat ≤ 122)) : nameV b = false := by
  have hu : b[i]? = some b[i] := by simp [hlt]
  have : ¬ letter b[i] = true := by simpa [letter] using hn
  rw [Bool.eq_false_iff]
  intro hv
  simp only [nameV, Bool.and_eq_true, List.all_eq_true, List.mem_range] at hv
  have := hv.2 i hlt
  rw [hu] at this
  contradiction
theorem name_good {b : ByteArray} (h1 : 1 ≤ b.size) (h2 : b.size ≤ 16) (hall : ∀ j, j < b.size → letter (b[j]?.getD 0) = true) : nameV b = true := by
  simp only [nameV, Bool.and_eq_true, List.all_eq_true, List.mem_range, decide_eq_true_eq]
  exact ⟨⟨by omega, by omega⟩, fun j hj => hall j (by omega)⟩
theorem name_ok {P : Program} {f : Nat} (hc : compFn P f = some (28, predicate_nameC, [.t 2])) : NameOK P f := by
  intro b hb H nx
  refine PCalls_of hc (by simp) fun hw => ?_
  by_cases h1 : (b.size : Int) < 1
  · simp [predicate_nameC, h1]
    refine wF_of ⟨?_, rfl⟩
    have : ¬ 1 ≤ b.size := by omega
    simp [nameV, this]
  · by_cases h2 : (b.size : Int) > 16
    · simp [predicate_nameC, h1, h2]
      refine wF_of ⟨?_, rfl⟩
      have : ¬ b.size ≤ 16 := by omega
      simp [nameV, this]
    · simp [predicate_nameC, h1, h2]
      refine wpc_loop _ _ _ _ _ _ (fun s => ∃ i : Int, 0 ≤ i ∧ i ≤ b.size ∧ s.t 0 = .string b ∧ s.t 13 = .int .i64 b.size ∧ s.t 14 = .int .i64 i ∧ s.H = H ∧ ∀ j, j < i.toNat → letter (b[j]?.getD 0) = true)
        (fun s => match s.t 14 with | .int _ i => (b.size - i).toNat | _ => 0) _ ⟨0, by omega, by omega, by simp, by simp, by simp, rfl, fun j hj => by simp at hj⟩ ?_
      rintro ⟨t, H', nx'⟩ ⟨i, hi0, hi1, e0, e13, e14, rfl, hall⟩
      simp only at e0 e13 e14
      simp [e0, e13, e14]
      refine wB_of (fun h => ?_) (fun h => ?_)
      · simp at h
        have hlt : i.toNat < b.size := by omega
        have hu : b[i.toNat]? = some b[i.toNat] := by simp [hlt]
        by_cases c1 : ((b[i.toNat].toNat : Int) < 97)
        · simp [hi0, hlt, c1, e0, e13, e14]
          refine wF_of ⟨?_, rfl⟩
          rw [name_bad hlt (by omega)]; rfl
        · by_cases c2 : ((b[i.toNat].toNat : Int) > 122)
          · simp [hi0, hlt, c1, c2, e0, e13, e14]
            refine wF_of ⟨?_, rfl⟩
            rw [name_bad hlt (by omega)]; rfl
          · simp [hi0, hlt, c1, c2, e0, e13, e14]
            rw [w64 (x := i + 1) (by omega) (by omega)]
            refine kLoop_nrm _ _ _ _ (Sub_refl _ _) ⟨i + 1, by omega, by omega, by simp [e0], by simp [e13], by simp, rfl, fun j hj => ?_⟩ (by simp; omega)
            by_cases hj' : j < i.toNat
            · exact hall j hj'
            · obtain rfl : j = i.toNat := by omega
              rw [hu]
              simp [letter]; omega
      · simp at h
        refine wF_of ⟨?_, rfl⟩
        obtain rfl : i = b.size := by omega
        rw [name_good (by omega) (by omega) (fun j hj => hall j (by omega))]; rfl
/-- the references' -/
theorem rname_ok {P : Program} {f : Nat} (hc : compFn P f = some (28, ref01_NameC, [.t 2])) : NameOK P f := by
  intro b hb H nx
  refine PCalls_of hc (by simp) fun hw => ?_
  by_cases h1 : (b.size : Int) < 1
  · simp [ref01_NameC, h1]
    refine wF_of ⟨?_, rfl⟩
    have : ¬ 1 ≤ b.size := by omega
    simp [nameV, this]
  · by_cases h2 : (b.size : Int) > 16
    · simp [ref01_NameC, h1, h2]
      refine wF_of ⟨?_, rfl⟩
      have : ¬ b.size ≤ 16 := by omega
      simp [nameV, this]
    · simp [ref01_NameC, h1, h2]
      refine wpc_loop _ _ _ _ _ _ (fun s => ∃ i : Int, 0 ≤ i ∧ i ≤ b.size ∧ s.t 0 = .string b ∧ s.t 3 = .int .i64 i ∧ s.H = H ∧ ∀ j, j < i.toNat → letter (b[j]?.getD 0) = true)
        (fun s => match s.t 3 with | .int _ i => (b.size - i).toNat | _ => 0) _ ⟨0, by omega, by omega, by simp, by simp, rfl, fun j hj => by simp at hj⟩ ?_
      rintro ⟨t, H', nx'⟩ ⟨i, hi0, hi1, e0, e14, rfl, hall⟩
      simp only at e0 e14
      simp [e0, e14]
      refine wB_of (fun h => ?_) (fun h => ?_)
      · simp at h
        have hlt : i.toNat < b.size := by omega
        have hu : b[i.toNat]? = some b[i.toNat] := by simp [hlt]
        by_cases c1 : ((b[i.toNat].toNat : Int) < 97)
        · simp [hi0, hlt, c1, e0, e14]
          refine wF_of ⟨?_, rfl⟩
          rw [name_bad hlt (by omega)]; rfl
        · by_cases c2 : ((b[i.toNat].toNat : Int) > 122)
          · simp [hi0, hlt, c1, c2, e0, e14]
            refine wF_of ⟨?_, rfl⟩
            rw [name_bad hlt (by omega)]; rfl
          · simp [hi0, hlt, c1, c2, e0, e14]
            rw [w64 (x := i + 1) (by omega) (by omega)]
            refine kLoop_nrm _ _ _ _ (Sub_refl _ _) ⟨i + 1, by omega, by omega, by simp [e0], by simp, rfl, fun j hj => ?_⟩ (by simp; omega)
            by_cases hj' : j < i.toNat
            · exact hall j hj'
            · obtain rfl : j = i.toNat := by omega
              rw [hu]
              simp [letter]; omega
      · simp at h
        refine wF_of ⟨?_, rfl⟩
        obtain rfl : i = b.size := by omega
        rw [name_good (by omega) (by omega) (fun j hj => hall j (by omega))]; rfl
end Go.PE
namespace Go.PE
open Go
def Pred.valid (p : Pred) : Bool :=
  if p.kind = 1 then maskV p.mask 64 && (p.fr == 0 && (p.to == 0 && (p.name == ⟨#[]⟩ && p.num == 0)))
  else if p.kind = 2 then maskV p.mask 32 && (p.fr == 0 && (p.to == 0 && (p.name == ⟨#[]⟩ && p.num == 0)))
  else if p.kind = 3 then maskV p.mask 7 && (p.fr == 0 && (p.to == 0 && (p.name == ⟨#[]⟩ && p.num == 0)))
  else if p.kind = 4 then (decide (0 ≤ p.fr) && decide (p.fr ≤ p.to) && decide (p.to ≤ 67108864)) && (p.mask == 0 && (p.name == ⟨#[]⟩ && p.num == 0))
  else if p.kind = 5 then (decide (0 ≤ p.fr) && decide (p.fr < 1440) && decide (0 ≤ p.to) && decide (p.to < 1440)) && (p.mask == 0 && (p.name == ⟨#[]⟩ && p.num == 0))
  else if p.kind = 6 then nameV p.name && (p.mask == 0 && (p.fr == 0 && (p.to == 0 && p.num == 0)))
  else if p.kind = 7 then (decide (0 ≤ p.num) && decide (p.num ≤ 1000000)) && (p.mask == 0 && (p.fr == 0 && (p.to == 0 && p.name == ⟨#[]⟩)))
  else false
def PValidOK (P : Program) (f g : Nat) : Prop := ∀ (p : Pred) (_ : (p.name.size : Int) ≤ 9223372036854775807) (H : Nat → Option (List Value)) (nx : Nat), H g = some bitsRow → g < nx →
    PCalls P f [p.v] H nx (fun _ => False) (fun r H' _ => r = .bool p.valid ∧ H' = H)
set_option maxHeartbeats 1000000 in
theorem pvalid_ok {P : Program} {f g m n : Nat} (hc : compFn P f = some (118, predicate_ValidC g m n, [.t 2])) (hm : MaskOK P m) (hn : NameOK P n) : PValidOK P f g := by
  intro p hs H nx hg hgn
  have hg1 : ¬ g = nx := by omega
  have hg2 : ¬ g = nx + 1 := by omega
  refine PCalls_of hc (by simp) fun hw => ?_
  obtain ⟨kind, mask, fr, to, name, num⟩ := p
  by_cases h1 : kind = 1
  · subst h1
    simp [predicate_ValidC, Pred.v, Pred.cells, hg, hg1, hg2, bitsRow]
    refine wqCall_of (hm mask 64 (by omega) _ _) rfl (fun _ _ _ h => h.1) ?_
    cases hb : maskV mask 64
    · simp [hb, hg, hg1, hg2, bitsRow]
      exact wF_own hw (by simp) (by simp [Pred.valid, hb])
    · simp [hb, hg, hg1, hg2, bitsRow]
      exact wF_own hw (by simp) (by simp [Pred.valid, hb])
  by_cases h2 : kind = 2
  · subst h2
    simp [predicate_ValidC, Pred.v, Pred.cells, hg, hg1, hg2, bitsRow]
    refine wqCall_of (hm mask 32 (by omega) _ _) rfl (fun _ _ _ h => h.1) ?_
    cases hb : maskV mask 32
    · simp [hb, hg, hg1, hg2, bitsRow]
      exact wF_own hw (by simp) (by simp [Pred.valid, hb])
    · simp [hb, hg, hg1, hg2, bitsRow]
      exact wF_own hw (by simp) (by simp [Pred.valid, hb])
  by_cases h3 : kind = 3
  · subst h3
    simp [predicate_ValidC, Pred.v, Pred.cells, hg, hg1, hg2, bitsRow]
    refine wqCall_of (hm mask 7 (by omega) _ _) rfl (fun _ _ _ h => h.1) ?_
    cases hb : maskV mask 7
    · simp [hb, hg, hg1, hg2, bitsRow]
      exact wF_own hw (by simp) (by simp [Pred.valid, hb])
    · simp [hb, hg, hg1, hg2, bitsRow]
      exact wF_own hw (by simp) (by simp [Pred.valid, hb])
  by_cases h4 : kind = 4
  · subst h4
    simp [predicate_ValidC, Pred.v, Pred.cells]
    by_cases c1 : 0 ≤ fr
    · by_cases c2 : fr ≤ to
      · by_cases c3 : to ≤ 67108864
        · simp [c1, c2, c3]
          exact wF_own hw (by simp) (by simp [Pred.valid, c1, c2, c3])
        · simp [c1, c2, c3]
          exact wF_own hw (by simp) (by simp [Pred.valid, c1, c2, c3])
      · simp [c1, c2]
        exact wF_own hw (by simp) (by simp [Pred.valid, c1, c2])
    · simp [c1]
      exact wF_own hw (by simp) (by simp [Pred.valid, c1])
  by_cases h5 : kind = 5
  · subst h5
    simp [predicate_ValidC, Pred.v, Pred.cells]
    by_cases c1 : 0 ≤ fr
    · by_cases c2 : fr < 1440
      · by_cases c3 : 0 ≤ to
        · by_cases c4 : to < 1440
          · simp [c1, c2, c3, c4]
            exact wF_own hw (by simp) (by simp [Pred.valid, c1, c2, c3, c4])
          · simp [c1, c2, c3, c4]
            exact wF_own hw (by simp) (by simp [Pred.valid, c1, c2, c3, c4])
        · simp [c1, c2, c3]
          exact wF_own hw (by simp) (by simp [Pred.valid, c1, c2, c3])
      · simp [c1, c2]
        exact wF_own hw (by simp) (by simp [Pred.valid, c1, c2])
    · simp [c1]
      exact wF_own hw (by simp) (by simp [Pred.valid, c1])
  by_cases h6 : kind = 6
  · subst h6
    simp [predicate_ValidC, Pred.v, Pred.cells]
    refine wCall_of (hn name hs _ _) fun r H' nx' ⟨hr, hH⟩ => ?_
    subst hr; subst hH
    cases hb : nameV name
    · simp [hb]
      exact wF_own hw (by simp) (by simp [Pred.valid, hb])
    · simp [hb]
      exact wF_own hw (by simp) (by simp [Pred.valid, hb])
  by_cases h7 : kind = 7
  · subst h7
    simp [predicate_ValidC, Pred.v, Pred.cells]
    by_cases c1 : 0 ≤ num
    · by_cases c2 : num ≤ 1000000
      · simp [c1, c2]
        exact wF_own hw (by simp) (by simp [Pred.valid, c1, c2])
      · simp [c1, c2]
        exact wF_own hw (by simp) (by simp [Pred.valid, c1, c2])
    · simp [c1]
      exact wF_own hw (by simp) (by simp [Pred.valid, c1])
  · have g1 : (kind == 1) = false := by simp [h1]
    have g2 : (kind == 2) = false := by simp [h2]
    have g3 : (kind == 3) = false := by simp [h3]
    have g4 : (kind == 4) = false := by simp [h4]
    have g5 : (kind == 5) = false := by simp [h5]
    have g6 : (kind == 6) = false := by simp [h6]
    have g7 : (kind == 7) = false := by simp [h7]
    simp [predicate_ValidC, Pred.v, Pred.cells, g1, g2, g3, g4, g5, g6, g7]
    exact wF_own hw (by simp) (by simp [Pred.valid, h1, h2, h3, h4, h5, h6, h7])
end Go.PE
namespace Go.PE
open Go
theorem maskV_lt {m : Int} {n : Nat} (h0 : 0 ≤ m) (hn : n < 64) : maskV m n = ((m != 0) && decide (m < 2 ^ n)) := by
  have hne : ((n : Int) == 64) = false := by simp; omega
  unfold maskV
  rw [hne]
  congr 1
  have hmin : min (n : Int).toNat 64 = n := by simp; omega
  rw [hmin]
  simp only [Bool.false_or]
  have hp : (0 : Int) < 2 ^ n := Int.pow_pos (by omega)
  rw [Int.fdiv_eq_ediv_of_nonneg _ (by omega)]
  by_cases h : m < 2 ^ n
  · simp [h, Int.ediv_eq_zero_of_lt h0 h]
  · simp only [h, decide_false, beq_eq_false_iff_ne, ne_eq]
    intro he
    have := Int.lt_ediv_add_one_mul_self m hp
    rw [he] at this
    omega
theorem maskV_64 (m : Int) : maskV m 64 = (m != 0) := by simp [maskV]
def RValidOK (P : Program) (f : Nat) : Prop := ∀ (p : Pred) (_ : (p.name.size : Int) ≤ 9223372036854775807) (_ : 0 ≤ p.mask) (H : Nat → Option (List Value)) (nx : Nat),
    PCalls P f [p.v] H nx (fun _ => False) (fun r H' _ => r = .bool p.valid ∧ H' = H)
theorem rvalid_ok {P : Program} {f n : Nat} (hc : compFn P f = some (120, ref06_ValidC n, [.t 2])) (hn : NameOK P n) : RValidOK P f := by
  intro p hs hm H nx
  refine PCalls_of hc (by simp) fun hw => ?_
  obtain ⟨kind, mask, fr, to, name, num⟩ := p
  simp only at hm hs
  by_cases h1 : kind = 1
  · subst h1
    by_cases hb : mask = 0
    · simp [ref06_ValidC, Pred.v, Pred.cells, hb]
      exact wF_own hw (by simp) (by simp [Pred.valid, maskV_64, hb])
    · have hb1 : (mask != 0) = true := by simp [hb]
      simp [ref06_ValidC, Pred.v, Pred.cells, hb1]
      exact wF_own hw (by simp) (by simp [Pred.valid, maskV_64, hb1])
  have e32 : (2 : Int) ^ 32 = 4294967296 := by decide
  have e7 : (2 : Int) ^ 7 = 128 := by decide
  by_cases h2 : kind = 2
  · subst h2
    have hv := maskV_lt (m := mask) (n := 32) hm (by omega)
    simp only [e32] at hv
    by_cases hb : mask = 0
    · simp [ref06_ValidC, Pred.v, Pred.cells, hb]
      exact wF_own hw (by simp) (by subst hb; simp [Pred.valid]; intro h; simp [maskV] at h)
    · have hb1 : (mask != 0) = true := by simp [hb]
      by_cases hc2 : mask < 4294967296
      · simp [ref06_ValidC, Pred.v, Pred.cells, hb1, hc2]
        exact wF_own hw (by simp) (by simp [Pred.valid, show maskV mask 32 = true by rw [show (32 : Int) = ((32 : Nat) : Int) from rfl, hv]; simp [hb1, hc2]])
      · simp [ref06_ValidC, Pred.v, Pred.cells, hb1, hc2]
        exact wF_own hw (by simp) (by simp [Pred.valid, show maskV mask 32 = false by rw [show (32 : Int) = ((32 : Nat) : Int) from rfl, hv]; simp [hc2]])
  by_cases h3 : kind = 3
  · subst h3
    have hv := maskV_lt (m := mask) (n := 7) hm (by omega)
    simp only [e7] at hv
    by_cases hb : mask = 0
    · simp [ref06_ValidC, Pred.v, Pred.cells, hb]
      exact wF_own hw (by simp) (by subst hb; simp [Pred.valid]; intro h; simp [maskV] at h)
    · have hb1 : (mask != 0) = true := by simp [hb]
      by_cases hc2 : mask < 128
      · simp [ref06_ValidC, Pred.v, Pred.cells, hb1, hc2]
        exact wF_own hw (by simp) (by simp [Pred.valid, show maskV mask 7 = true by rw [show (7 : Int) = ((7 : Nat) : Int) from rfl, hv]; simp [hb1, hc2]])
      · simp [ref06_ValidC, Pred.v, Pred.cells, hb1, hc2]
        exact wF_own hw (by simp) (by simp [Pred.valid, show maskV mask 7 = false by rw [show (7 : Int) = ((7 : Nat) : Int) from rfl, hv]; simp [hc2]])
  by_cases h4 : kind = 4
  · subst h4
    by_cases c1 : 0 ≤ fr
    · by_cases c2 : fr ≤ to
      · by_cases c3 : to ≤ 67108864
        · simp [ref06_ValidC, Pred.v, Pred.cells, c1, c2, c3]
          exact wF_own hw (by simp) (by simp [Pred.valid, c1, c2, c3])
        · simp [ref06_ValidC, Pred.v, Pred.cells, c1, c2, c3]
          exact wF_own hw (by simp) (by simp [Pred.valid, c1, c2, c3])
      · simp [ref06_ValidC, Pred.v, Pred.cells, c1, c2]
        exact wF_own hw (by simp) (by simp [Pred.valid, c1, c2])
    · simp [ref06_ValidC, Pred.v, Pred.cells, c1]
      exact wF_own hw (by simp) (by simp [Pred.valid, c1])
  by_cases h5 : kind = 5
  · subst h5
    by_cases c1 : 0 ≤ fr
    · by_cases c2 : fr < 1440
      · by_cases c3 : 0 ≤ to
        · by_cases c4 : to < 1440
          · simp [ref06_ValidC, Pred.v, Pred.cells, c1, c2, c3, c4]
            exact wF_own hw (by simp) (by simp [Pred.valid, c1, c2, c3, c4])
          · simp [ref06_ValidC, Pred.v, Pred.cells, c1, c2, c3, c4]
            exact wF_own hw (by simp) (by simp [Pred.valid, c1, c2, c3, c4])
        · simp [ref06_ValidC, Pred.v, Pred.cells, c1, c2, c3]
          exact wF_own hw (by simp) (by simp [Pred.valid, c1, c2, c3])
      · simp [ref06_ValidC, Pred.v, Pred.cells, c1, c2]
        exact wF_own hw (by simp) (by simp [Pred.valid, c1, c2])
    · simp [ref06_ValidC, Pred.v, Pred.cells, c1]
      exact wF_own hw (by simp) (by simp [Pred.valid, c1])
  by_cases h6 : kind = 6
  · subst h6
    simp [ref06_ValidC, Pred.v, Pred.cells]
    refine ⟨?_, ?_, ?_⟩ <;>
    · refine wCall_of (hn name hs _ _) fun r H' nx' ⟨hr, hH⟩ => ?_
      subst hr; subst hH
      cases hb : nameV name
      · simp [hb]
        exact wF_own hw (by simp) (by simp [Pred.valid, hb])
      · simp [hb]
        exact wF_own hw (by simp) (by simp [Pred.valid, hb])
  by_cases h7 : kind = 7
  · subst h7
    by_cases c1 : 0 ≤ num
    · by_cases c2 : num ≤ 1000000
      · simp [ref06_ValidC, Pred.v, Pred.cells, c1, c2]
        exact wF_own hw (by simp) (by simp [Pred.valid, c1, c2])
      · simp [ref06_ValidC, Pred.v, Pred.cells, c1, c2]
        exact wF_own hw (by simp) (by simp [Pred.valid, c1, c2])
    · simp [ref06_ValidC, Pred.v, Pred.cells, c1]
      exact wF_own hw (by simp) (by simp [Pred.valid, c1])
  · have g1 : (kind == 1) = false := by simp [h1]
    have g2 : (kind == 2) = false := by simp [h2]
    have g3 : (kind == 3) = false := by simp [h3]
    have g4 : (kind == 4) = false := by simp [h4]
    have g5 : (kind == 5) = false := by simp [h5]
    have g6 : (kind == 6) = false := by simp [h6]
    have g7 : (kind == 7) = false := by simp [h7]
    simp [ref06_ValidC, Pred.v, Pred.cells, g1, g2, g3, g4, g5, g6, g7]
    exact wF_own hw (by simp) (by simp [Pred.valid, h1, h2, h3, h4, h5, h6, h7])
end Go.PE
namespace Go.PE
open Go
def Ctx.valid (c : Ctx) : Bool := decide (0 ≤ c.zone) && decide (c.zone ≤ 63) && decide (0 ≤ c.line) && decide (c.line ≤ 31) && decide (0 ≤ c.minute) && decide (c.minute ≤ 67108864) && nameV c.holder
end Go.PE
namespace Go.PE
open Go
def Pred.wf (p : Pred) : Prop := (p.name.size : Int) ≤ 9223372036854775807 ∧ 0 ≤ p.mask ∧ p.mask < 18446744073709551616
def Ctx.wf (c : Ctx) : Prop := (c.holder.size : Int) ≤ 9223372036854775807
theorem Ctx.valid_iff (c : Ctx) : c.valid = true ↔ (0 ≤ c.zone ∧ c.zone ≤ 63 ∧ 0 ≤ c.line ∧ c.line ≤ 31 ∧ 0 ≤ c.minute ∧ c.minute ≤ 67108864 ∧ nameV c.holder = true) := by
  simp [Ctx.valid, and_assoc]
/-- bit n of a mask -/
def bit (m n : Int) : Bool := m / 2 ^ n.toNat % 2 == 1
def dailyV (m fr to : Int) : Bool := if fr ≤ to then decide (fr ≤ m % 1440) && decide (m % 1440 ≤ to) else decide (fr ≤ m % 1440) || decide (m % 1440 ≤ to)
/-- does a predicate of kind k hold? -/
def rideV (k : Int) (p : Pred) (c : Ctx) : Bool :=
  if k = 1 then bit p.mask c.zone else if k = 2 then bit p.mask c.line else if k = 3 then bit p.mask (c.minute / 1440 % 7)
  else if k = 4 then decide (p.fr ≤ c.minute) && decide (c.minute ≤ p.to) else if k = 5 then dailyV c.minute p.fr p.to else if k = 6 then p.name == c.holder else true
section
variable {P : Program} {f : Nat}
end
theorem Pred.valid_kind {p : Pred} (h : p.valid = true) : 1 ≤ p.kind ∧ p.kind ≤ 7 := by
  unfold Pred.valid at h
  repeat (split at h; · omega)
  cases h
end Go.PE
namespace Go.PE
open Go
@[simp] theorem Ctx.len (c : Ctx) : c.cells.length = 4 := _root_.id rfl
@[simp] theorem Pred.len (p : Pred) : p.cells.length = 6 := _root_.id rfl
@[simp] theorem Ctx.dg1s (c : Ctx) : c.cells.map dg1 = c.cells := _root_.id rfl
@[simp] theorem Pred.dg1s (p : Pred) : p.cells.map dg1 = p.cells := _root_.id rfl
@[simp] theorem Ctx.take4 (c : Ctx) : c.cells.take 4 = c.cells := _root_.id rfl
@[simp] theorem Pred.take6 (p : Pred) : p.cells.take 6 = p.cells := _root_.id rfl
theorem Ctx.ag (c : Ctx) : PE.ag c.cells = c.v := rfl
theorem Pred.ag (p : Pred) : PE.ag p.cells = p.v := rfl
end Go.PE
namespace Go.PE
open Go
/-- a predicate of the deck's -/
def isPred (rides : Bool) (v : Value) : Prop := ∃ q : Pred, v = q.v ∧ q.valid = true ∧ q.wf ∧ (rides = false → q.kind ≠ 7)
theorem names_good {b : ByteArray} (h : b ∈ names) : nameV b = true := by
  simp only [names, List.mem_cons, List.not_mem_nil, or_false] at h
  rcases h with rfl | rfl | rfl | rfl | rfl | rfl | rfl | rfl <;> decide +kernel
theorem names_size {b : ByteArray} (h : b ∈ names) : b.size ≤ 16 := by
  have := names_good h
  simp only [nameV, Bool.and_eq_true, decide_eq_true_eq] at this
  omega
theorem maskV_of {m : Int} {n : Nat} (h : 0 < m) (h1 : m < 2 ^ n) (hn : n ≤ 64) : maskV m n = true := by
  by_cases e : n = 64
  · subst e; rw [show ((64 : Nat) : Int) = 64 from rfl, maskV_64]; simp; omega
  · rw [maskV_lt (by omega) (by omega)]; simp [h1]; omega
theorem maskV_isMask {m n : Int} (h0 : 1 ≤ n) (hn : n ≤ 64) (h : 0 < m) (h1 : m < 2 ^ n.toNat) : maskV m n = true := by
  have := maskV_of (n := n.toNat) h h1 (by omega)
  rwa [show ((n.toNat : Nat) : Int) = n by omega] at this
theorem mask_lt64 {m n : Int} (hn : n ≤ 64) (h1 : m < 2 ^ n.toNat) : m < 18446744073709551616 := by
  have h2 : (2 : Nat) ^ n.toNat ≤ 2 ^ 64 := Nat.pow_le_pow_right (by omega) (by omega)
  have e2 : (2 : Int) ^ n.toNat = ((2 ^ n.toNat : Nat) : Int) := by simp
  rw [e2] at h1
  omega
theorem predicate_w {P : Program} {f r m mi nx_ n u : Nat} (hc : compFn P f = some (81, made_Deck_PredicateC r m mi nx_ n u, [.cA 4 6])) (hn : NextW P nx_)
    (hr : ∀ lo hi : Int, 0 ≤ lo → lo ≤ hi → hi < 4611686018427387904 → Draws P r [.int .i64 lo, .int .i64 hi] (isI lo hi)) (hm : ∀ n : Int, 1 ≤ n → n ≤ 64 → Draws P m [.int .i64 n] (isMask n))
    (hmi : Draws P mi [] (isI 0 67108864)) (hN : Draws P n [] isN) (hu : ∀ n : Int, 2 ≤ n → n < 4611686018427387903 → Draws P u [.int .i64 n] (isI 0 n)) (b : Bool) : Draws P f [.bool b] (isPred b) := by
  intro k l at_ ha hl H nx hk
  refine PCalls_of hc (by simp) fun hw => ?_
  have hkn : k < nx := by
    rcases Nat.lt_or_ge k nx with h | h
    · exact h
    · have := hw k h; rw [hk] at this; cases this
  have d1 : ¬ k = nx := by omega
  simp [made_Deck_PredicateC]
  refine wCall_drawL (hr 1 7 (by omega) (by omega) (by omega)) ha hl (by simp [hk, d1]) (.inr rfl) fun p1 at1 n1 hp1 ha1 hn1 => ?_
  obtain ⟨kind, rfl, hk1, hk7⟩ := hp1
  simp at hn1
  have d2 : ¬ k = n1 := by omega
  have d3 : ¬ nx = n1 := by omega
  have d4 : nx ≤ n1 := by omega
  have d5 : ¬ nx = k := by omega
  have d6 : ¬ n1 = k := by omega
  have d7 : ¬ n1 = nx := by omega
  have tail : ∀ (H' : Nat → Option (List Value)) (nx' : Nat) (at' : Int) (q : Pred), 0 ≤ at' → H' k = some (dk l at') → (∀ j, j < nx → j ≠ k → H' j = H j) → q.valid = true → q.wf → (b = false → q.kind ≠ 7) →
      wF (some [q.v]) nx (fun p H' _ => isPred b p ∧ Drew H k l H') H' nx' := by
    intro H' nx' at' q h0 ek hoth hv hwf hb
    exact wF_sub ((own_k (r := some (dk l at')) ek hoth).sub (none_k hw hkn)) ⟨⟨q, rfl, hv, hwf, hb⟩, at', h0, rfl⟩
  by_cases h1 : kind = 1
  · subst h1
    simp [d1, d2, d3, d4, d5, d6, d7]
    refine wCall_drawL (hm 64 (by omega) (by omega)) ha1 hl (by simp [d1, d2, d5, d6]) (.inr rfl) fun p2 at2 n2 hp2 ha2 hn2 => ?_
    obtain ⟨v, rfl, hv0, hv1⟩ := hp2
    simp [d1, d2, d3, d4, d5, d6, d7]
    refine tail _ _ at2 ⟨1, v, 0, 0, ⟨#[]⟩, 0⟩ ha2 (by simp [d1, d2, d5, d6]) (fun j hj hjk => ?_) (by simp [Pred.valid, maskV_isMask (n := 64) (by omega) (by omega) hv0 hv1]) ⟨by simp, Int.le_of_lt hv0, mask_lt64 (by omega) hv1⟩ (by simp)
    simp [show ¬ j = nx by omega, show ¬ j = n1 by omega, hjk]
  by_cases h2 : kind = 2
  · subst h2
    simp [d1, d2, d3, d4, d5, d6, d7]
    refine wCall_drawL (hm 32 (by omega) (by omega)) ha1 hl (by simp [d1, d2, d5, d6]) (.inr rfl) fun p2 at2 n2 hp2 ha2 hn2 => ?_
    obtain ⟨v, rfl, hv0, hv1⟩ := hp2
    simp [d1, d2, d3, d4, d5, d6, d7]
    refine tail _ _ at2 ⟨2, v, 0, 0, ⟨#[]⟩, 0⟩ ha2 (by simp [d1, d2, d5, d6]) (fun j hj hjk => ?_) (by simp [Pred.valid, maskV_isMask (n := 32) (by omega) (by omega) hv0 hv1]) ⟨by simp, Int.le_of_lt hv0, mask_lt64 (by omega) hv1⟩ (by simp)
    simp [show ¬ j = nx by omega, show ¬ j = n1 by omega, hjk]
  by_cases h3 : kind = 3
  · subst h3
    simp [d1, d2, d3, d4, d5, d6, d7]
    refine wCall_drawL (hm 7 (by omega) (by omega)) ha1 hl (by simp [d1, d2, d5, d6]) (.inr rfl) fun p2 at2 n2 hp2 ha2 hn2 => ?_
    obtain ⟨v, rfl, hv0, hv1⟩ := hp2
    simp [d1, d2, d3, d4, d5, d6, d7]
    refine tail _ _ at2 ⟨3, v, 0, 0, ⟨#[]⟩, 0⟩ ha2 (by simp [d1, d2, d5, d6]) (fun j hj hjk => ?_) (by simp [Pred.valid, maskV_isMask (n := 7) (by omega) (by omega) hv0 hv1]) ⟨by simp, Int.le_of_lt hv0, mask_lt64 (by omega) hv1⟩ (by simp)
    simp [show ¬ j = nx by omega, show ¬ j = n1 by omega, hjk]
  by_cases h4 : kind = 4
  · subst h4
    simp [d1, d2, d3, d4, d5, d6, d7]
    refine wCall_drawL hmi ha1 hl (by simp [d1, d2, d5, d6]) (.inr rfl) fun p2 at2 n2 hp2 ha2 hn2 => ?_
    obtain ⟨v, rfl, hv0, hv1⟩ := hp2
    simp [d1, d2, d3, d4, d5, d6, d7]
    refine wCall_drawL hmi ha2 hl (by simp [d1, d2, d5, d6]) (.inr rfl) fun p3 at3 n3 hp3 ha3 hn3 => ?_
    obtain ⟨w, rfl, hw0, hw1⟩ := hp3
    simp [d1, d2, d3, d4, d5, d6, d7]
    refine tail _ _ at3 ⟨4, 0, if w < v then w else v, if v < w then w else v, ⟨#[]⟩, 0⟩ ha3 (by simp [d1, d2, d5, d6]) (fun j hj hjk => ?_) ?_ ⟨by simp, by simp, by simp⟩ (by simp)
    · simp [show ¬ j = nx by omega, show ¬ j = n1 by omega, hjk]
    · simp [Pred.valid]; split <;> split <;> omega
  by_cases h5 : kind = 5
  · subst h5
    simp [d1, d2, d3, d4, d5, d6, d7]
    refine wCall_drawL (hn 1440 (by omega) (by omega)) ha1 hl (by simp [d1, d2, d5, d6]) (.inr rfl) fun p2 at2 n2 hp2 ha2 hn2 => ?_
    obtain ⟨v, rfl, hv0, hv1⟩ := hp2
    simp [d1, d2, d3, d4, d5, d6, d7]
    refine wCall_drawL (hn 1440 (by omega) (by omega)) ha2 hl (by simp [d1, d2, d5, d6]) (.inr rfl) fun p3 at3 n3 hp3 ha3 hn3 => ?_
    obtain ⟨w, rfl, hw0, hw1⟩ := hp3
    simp [d1, d2, d3, d4, d5, d6, d7]
    refine wCall_drawL (hn 3 (by omega) (by omega)) ha3 hl (by simp [d1, d2, d5, d6]) (.inr rfl) fun p4 at4 n4 hp4 ha4 hn4 => ?_
    obtain ⟨x, rfl, hx0, hx1⟩ := hp4
    simp [d1, d2, d3, d4, d5, d6, d7]
    refine wB_of (fun hx => ?_) (fun hx => ?_)
    · refine ⟨?_, ?_⟩
      all_goals
        refine wCall_drawL (hn 3 (by omega) (by omega)) ha4 hl (by simp [d1, d2, d5, d6]) (.inr rfl) fun p5 at5 n5 hp5 ha5 hn5 => ?_
        obtain ⟨y, rfl, hy0, hy1⟩ := hp5
        simp [d1, d2, d3, d4, d5, d6, d7]
        rw [w64 (x := v + y) (by omega) (by omega), w64 (x := v + y + 1440) (by omega) (by omega), w64 (x := v + y + 1440 - 1) (by omega) (by omega), Int.tmod_eq_emod_of_nonneg (by omega)]
        refine tail _ _ at5 ⟨5, 0, v, (v + y + 1440 - 1) % 1440, ⟨#[]⟩, 0⟩ ha5 (by simp [d1, d2, d5, d6]) (fun j hj hjk => ?_) ?_ ⟨by simp, by simp, by simp⟩ (by simp)
        · simp [show ¬ j = nx by omega, show ¬ j = n1 by omega, hjk]
        · simp [Pred.valid]; omega
    · refine tail _ _ at4 ⟨5, 0, v, w, ⟨#[]⟩, 0⟩ ha4 (by simp [d1, d2, d5, d6]) (fun j hj hjk => ?_) ?_ ⟨by simp, by simp, by simp⟩ (by simp)
      · simp [show ¬ j = nx by omega, show ¬ j = n1 by omega, hjk]
      · simp [Pred.valid]; omega
  by_cases h6 : kind = 6
  · subst h6
    simp [d1, d2, d3, d4, d5, d6, d7]
    refine wCall_drawL hN ha1 hl (by simp [d1, d2, d5, d6]) (.inr rfl) fun p2 at2 n2 hp2 ha2 hn2 => ?_
    obtain ⟨v, hv, rfl⟩ := hp2
    simp [d1, d2, d3, d4, d5, d6, d7]
    refine tail _ _ at2 ⟨6, 0, 0, 0, v, 0⟩ ha2 (by simp [d1, d2, d5, d6]) (fun j hj hjk => ?_) (by simp [Pred.valid, names_good hv]) ⟨by have := names_size hv; simp only; omega, by simp, by simp⟩ (by simp)
    simp [show ¬ j = nx by omega, show ¬ j = n1 by omega, hjk]
  · obtain rfl : kind = 7 := by omega
    cases b
    · simp [d1, d2, d3, d4, d5, d6, d7]
      refine wCall_drawL hmi ha1 hl (by simp [d1, d2, d5, d6]) (.inr rfl) fun p2 at2 n2 hp2 ha2 hn2 => ?_
      obtain ⟨v, rfl, hv0, hv1⟩ := hp2
      simp [d1, d2, d3, d4, d5, d6, d7]
      refine wCall_drawL hmi ha2 hl (by simp [d1, d2, d5, d6]) (.inr rfl) fun p3 at3 n3 hp3 ha3 hn3 => ?_
      obtain ⟨w, rfl, hw0, hw1⟩ := hp3
      simp [d1, d2, d3, d4, d5, d6, d7]
      refine tail _ _ at3 ⟨4, 0, if w < v then w else v, if v < w then w else v, ⟨#[]⟩, 0⟩ ha3 (by simp [d1, d2, d5, d6]) (fun j hj hjk => ?_) ?_ ⟨by simp, by simp, by simp⟩ (by simp)
      · simp [show ¬ j = nx by omega, show ¬ j = n1 by omega, hjk]
      · simp [Pred.valid]; split <;> split <;> omega
    · simp [d1, d2, d3, d4, d5, d6, d7]
      refine wCall_drawL (hu 1000000 (by omega) (by omega)) ha1 hl (by simp [d1, d2, d5, d6]) (.inr rfl) fun p2 at2 n2 hp2 ha2 hn2 => ?_
      obtain ⟨v, rfl, hv0, hv1⟩ := hp2
      simp [d1, d2, d3, d4, d5, d6, d7]
      refine tail _ _ at2 ⟨7, 0, 0, 0, ⟨#[]⟩, v⟩ ha2 (by simp [d1, d2, d5, d6]) (fun j hj hjk => ?_) (by simp [Pred.valid, hv0, hv1]) ⟨by simp, by simp, by simp⟩ (by simp)
      simp [show ¬ j = nx by omega, show ¬ j = n1 by omega, hjk]
end Go.PE
namespace Go.PE
open Go
@[simp] theorem Pred.lcv (p : Pred) : lc p.v = p.cells := _root_.id rfl
@[simp] theorem Pred.cellsOf (p : Pred) : PE.cellsOf p.v = some p.cells := _root_.id rfl
@[simp] theorem Pred.dgv (p : Pred) : dg p.v = p.v := _root_.id rfl
@[simp] theorem Pred.dgTv (p : Pred) : dgT p.v = p.v := _root_.id rfl
@[simp] theorem Ctx.dgv (p : Ctx) : dg p.v = p.v := _root_.id rfl
@[simp] theorem Ctx.cellsOf (p : Ctx) : PE.cellsOf p.v = some p.cells := _root_.id rfl
def GoodPred (b : Bool) (q : Pred) : Prop := q.valid = true ∧ q.wf ∧ (b = false → q.kind ≠ 7)
def isPreds (e : Nat) (n : Int) (b : Bool) (v : Value) : Prop := ∃ qs : List Pred, v = lin e (qs.map Pred.v) ∧ (qs.length : Int) ≤ n ∧ ∀ q ∈ qs, GoodPred b q
theorem predicates_w {P : Program} {f e nx_ p : Nat} (hc : compFn P f = some (24, made_Deck_PredicatesC e nx_ p, [.t 6])) (hn : NextW P nx_) (hp : ∀ b, Draws P p [.bool b] (isPred b)) (n : Int) (b : Bool) (h0 : 0 ≤ n) (h1 : n ≤ 1000000) :
    Draws P f [.int .i64 n, .bool b] (isPreds e n b) := by
  intro k l at_ ha hl H nx hk
  refine PCalls_of hc (by simp) fun hw => ?_
  have hkn : k < nx := by
    rcases Nat.lt_or_ge k nx with h | h
    · exact h
    · have := hw k h; rw [hk] at this; cases this
  simp [made_Deck_PredicatesC]
  rw [w64 (x := n + 1) (by omega) (by omega)]
  refine wCall_drawL (hn (n + 1) (by omega) (by omega)) ha hl (by simp [hk]) (.inr rfl) fun p1 at1 n1 hp1 ha1 hn1 => ?_
  obtain ⟨m, rfl, hm0, hm1⟩ := hp1
  simp at hn1
  simp
  refine wpc_loop _ _ _ _ _ _ (fun s => ∃ (qs : List Pred) (at' : Int), 0 ≤ at' ∧ s.t 0 = ptr k 0 ∧ s.t 2 = .bool b ∧ s.t 7 = lin e (qs.map Pred.v) ∧ (∃ j : Int, s.t 8 = .int .i64 j ∧ 0 ≤ j ∧ j + qs.length ≤ n) ∧ (∀ q ∈ qs, GoodPred b q) ∧ s.H = upd H k (some (dk l at')) ∧ nx ≤ s.nx)
    (fun s => match s.t 8 with | .int _ i => i.toNat | _ => 0) _ ⟨[], at1, ha1, by simp, by simp, by simp, ⟨m, by simp, by omega, by simp; omega⟩, by simp, rfl, by simpa using hn1⟩ ?_
  rintro ⟨t, H', nx'⟩ ⟨qs, at', ha', e0, e2, e7, ⟨j, e8, hj0, hj1⟩, hq, rfl, hnx⟩
  simp only at e0 e2 e7 e8 hnx
  simp [e0, e2, e7, e8]
  refine wB_of (fun hlt => ?_) (fun hlt => ?_)
  · simp at hlt
    refine wCall_drawL (hp b) ha' hl (by simp) (.inr rfl) fun p2 at2 n2 hp2 ha2 hn2 => ?_
    obtain ⟨q, rfl, hv, hwf, hb⟩ := hp2
    simp [e0, e2, e7, e8, maxLen]
    refine ⟨by omega, by omega, ?_⟩
    rw [w64 (x := j - 1) (by omega) (by omega)]
    refine kLoop_nrm _ _ _ (upd H k (some (dk l at2))) (Sub_refl _ _) ⟨qs ++ [q], at2, ha2, by simp [e0], by simp [e2], by simp, ⟨j - 1, by simp, by omega, by simp; omega⟩, ?_, rfl, by simp at hn2; simp; omega⟩ (by simp; omega)
    intro x hx
    simp at hx
    rcases hx with hx | rfl
    · exact hq x hx
    · exact ⟨hv, hwf, hb⟩
  · simp at hlt
    refine wF_of ⟨⟨qs, by simp, by omega, hq⟩, at', ha', rfl⟩
/-- the deck's lists -/
def dl (l : List Int) : Value := deep (l.map (.int .i64))
def NewOK (P : Program) (f : Nat) : Prop := ∀ (l : List Int) (H : Nat → Option (List Value)) (nx : Nat), PCalls P f [deep (l.map (.int .i64))] H nx (fun _ => False) (fun p H' nx' => p = ptr nx 0 ∧ H' = upd H nx (some (dk l 0)) ∧ nx' = nx + 1)
end Go.PE
namespace Go.PE
open Go
theorem pargs_nil {P : Program} {ps : List Value} (h : Pargs P [] ps) : ps = [] := by
  cases ps with
  | nil => rfl
  | cons => cases h
theorem pargs_cons {P : Program} {t : Nat} {ts : List TypeId} {ps : List Value} (h : Pargs P (t :: ts) ps) : ∃ cs qs, ps = toV P t cs :: qs ∧ PTy P t cs ∧ Pargs P ts qs := by
  cases ps with
  | nil => cases h
  | cons p ps =>
    obtain ⟨⟨cs, h1, h2⟩, h3⟩ := h
    exact ⟨cs, ps, by rw [h2], h1, h3⟩
end Go.PE
namespace Go.PE
structure Spn where
  f : Int
  t : Int
  deriving DecidableEq, Inhabited
def inS (l : List Spn) (k : Int) : Prop := ∃ s ∈ l, s.f ≤ k ∧ k ≤ s.t
theorem inS_nil (k : Int) : ¬ inS [] k := fun ⟨_, h, _⟩ => by cases h
theorem inS_cons (s : Spn) (r : List Spn) (k : Int) : inS (s :: r) k ↔ (s.f ≤ k ∧ k ≤ s.t) ∨ inS r k := by
  constructor
  · rintro ⟨x, hx, h⟩
    rcases List.mem_cons.1 hx with rfl | hx
    · exact .inl h
    · exact .inr ⟨x, hx, h⟩
  · rintro (h | ⟨x, hx, h⟩)
    · exact ⟨s, by simp, h⟩
    · exact ⟨x, by simp [hx], h⟩
theorem inS_append (a b : List Spn) (k : Int) : inS (a ++ b) k ↔ inS a k ∨ inS b k := by
  constructor
  · rintro ⟨x, hx, h⟩
    rcases List.mem_append.1 hx with hx | hx
    · exact .inl ⟨x, hx, h⟩
    · exact .inr ⟨x, hx, h⟩
  · rintro (⟨x, hx, h⟩ | ⟨x, hx, h⟩)
    · exact ⟨x, by simp [hx], h⟩
    · exact ⟨x, by simp [hx], h⟩
/-- behind b, in order, apart -/
def canon : Int → List Spn → Prop
  | _, [] => True
  | b, s :: r => b < s.f ∧ s.f ≤ s.t ∧ canon (s.t + 1) r
theorem canon_weak : ∀ {l : List Spn} {b b' : Int}, canon b l → b' ≤ b → canon b' l
  | [], _, _, _, _ => trivial
  | s :: r, b, b', h, hb => ⟨by have := h.1; omega, h.2⟩
theorem canon_lt : ∀ {l : List Spn} {b k : Int}, canon b l → inS l k → b < k
  | [], _, _, _, h => absurd h (inS_nil _)
  | s :: r, b, k, h, hk => by
    rcases (inS_cons _ _ _).1 hk with hk | hk
    · have := h.1; omega
    · have := canon_lt h.2.2 hk
      have := h.1; have := h.2.1; omega
theorem canon_mem : ∀ {l : List Spn} {b : Int} {s : Spn}, canon b l → s ∈ l → b < s.f ∧ s.f ≤ s.t
  | x :: r, b, s, h, hs => by
    rcases List.mem_cons.1 hs with rfl | hs
    · exact ⟨h.1, h.2.1⟩
    · have := canon_mem h.2.2 hs
      have := h.1; have := h.2.1
      exact ⟨by omega, by omega⟩
/-- the set of minutes says which list it is -/
theorem canon_ext : ∀ {l l' : List Spn} {b b' : Int}, canon b l → canon b' l' → (∀ k, inS l k ↔ inS l' k) → l = l'
  | [], [], _, _, _, _, _ => rfl
  | [], s :: r, _, _, _, h, e => absurd ((e s.f).2 ⟨s, by simp, Int.le_refl _, h.2.1⟩) (inS_nil _)
  | s :: r, [], _, _, h, _, e => absurd ((e s.f).1 ⟨s, by simp, Int.le_refl _, h.2.1⟩) (inS_nil _)
  | s :: r, s' :: r', b, b', h, h', e => by
    obtain ⟨h1, h2, h3⟩ := h
    obtain ⟨g1, g2, g3⟩ := h'
    have lo : ∀ {x : Spn} {q : List Spn} {k : Int}, x.f ≤ x.t → canon (x.t + 1) q → inS (x :: q) k → x.f ≤ k := fun hx hq hk => by
      rcases (inS_cons _ _ _).1 hk with hk | hk
      · exact hk.1
      · have := canon_lt hq hk; omega
    have e1 : s.f = s'.f := by
      have a := lo h2 h3 ((e s'.f).2 ⟨s', by simp, Int.le_refl _, g2⟩)
      have c := lo g2 g3 ((e s.f).1 ⟨s, by simp, Int.le_refl _, h2⟩)
      omega
    have up : ∀ {x y : Spn} {q p : List Spn}, x.f = y.f → canon (x.t + 1) q → x.f ≤ x.t → (∀ k, inS (y :: p) k → inS (x :: q) k) → y.t ≤ x.t := fun {x y q p} exy hq hx hk => by
      apply Classical.byContradiction
      intro hn
      have h5 := hk (x.t + 1) ⟨y, by simp, by omega, by omega⟩
      rcases (inS_cons _ _ _).1 h5 with h5 | h5
      · omega
      · have := canon_lt hq h5; omega
    have e2 : s.t = s'.t := by
      have a := up e1 h3 h2 (fun k hk => (e k).2 hk)
      have c := up e1.symm g3 g2 (fun k hk => (e k).1 hk)
      omega
    have es : s = s' := by cases s; cases s'; simp_all
    subst es
    have : r = r' := canon_ext h3 g3 fun k => by
      have hk := e k
      rw [inS_cons, inS_cons] at hk
      constructor
      · intro hr
        rcases hk.1 (.inr hr) with h5 | h5
        · have := canon_lt h3 hr; omega
        · exact h5
      · intro hr
        rcases hk.2 (.inr hr) with h5 | h5
        · have := canon_lt g3 hr; omega
        · exact h5
    rw [this]
/-! what two lists have in common -/
def meet1 (x y : Spn) : List Spn := if max x.f y.f ≤ min x.t y.t then [⟨max x.f y.f, min x.t y.t⟩] else []
def commonL (a b : List Spn) : List Spn := a.flatMap fun x => b.flatMap fun y => meet1 x y
theorem inS_meet1 (x y : Spn) (k : Int) : inS (meet1 x y) k ↔ (x.f ≤ k ∧ k ≤ x.t) ∧ (y.f ≤ k ∧ k ≤ y.t) := by
  unfold meet1
  split
  · rw [inS_cons]
    constructor
    · rintro (h | h)
      · simp only at h; omega
      · exact absurd h (inS_nil _)
    · intro h; left; simp only; omega
  · constructor
    · intro h; exact absurd h (inS_nil _)
    · intro h; omega
theorem inS_flat {α : Type} (f : α → List Spn) : ∀ (l : List α) (k : Int), inS (l.flatMap f) k ↔ ∃ x ∈ l, inS (f x) k
  | [], k => by simp [inS_nil]
  | a :: r, k => by
    rw [List.flatMap_cons, inS_append, inS_flat f r k]
    simp
theorem inS_common (a b : List Spn) (k : Int) : inS (commonL a b) k ↔ inS a k ∧ inS b k := by
  unfold commonL
  rw [inS_flat]
  constructor
  · rintro ⟨x, hx, h⟩
    rw [inS_flat] at h
    obtain ⟨y, hy, h⟩ := h
    rw [inS_meet1] at h
    exact ⟨⟨x, hx, h.1⟩, ⟨y, hy, h.2⟩⟩
  · rintro ⟨⟨x, hx, h1⟩, ⟨y, hy, h2⟩⟩
    refine ⟨x, hx, ?_⟩
    rw [inS_flat]
    exact ⟨y, hy, (inS_meet1 _ _ _).2 ⟨h1, h2⟩⟩
/-- the last minute, or b -/
def lastT : Int → List Spn → Int
  | b, [] => b
  | _, s :: r => lastT (s.t + 1) r
theorem canon_append : ∀ {a b : List Spn} {n : Int}, canon n a → canon (lastT n a) b → canon n (a ++ b)
  | [], b, n, _, h => h
  | s :: r, b, n, h, h' => ⟨h.1, h.2.1, canon_append h.2.2 h'⟩
theorem lastT_le : ∀ {a : List Spn} {n m : Int}, canon n a → n ≤ m → (∀ s ∈ a, s.t < m) → lastT n a ≤ m
  | [], n, m, _, h, _ => h
  | s :: r, n, m, h, hn, hs => lastT_le (a := r) (n := s.t + 1) h.2.2 (by have := hs s (by simp); omega) fun x hx => hs x (by simp [hx])
theorem canon_flat1 (x : Spn) (hx : x.f ≤ x.t) : ∀ {l : List Spn} {n c : Int}, canon c l → n < x.f → canon (max n c) (l.flatMap fun y => meet1 x y)
  | [], n, c, _, _ => trivial
  | y :: r, n, c, h, hn => by
    rw [List.flatMap_cons]
    have ih := canon_flat1 x hx (n := n) h.2.2 hn
    unfold meet1
    split
    · rename_i hm
      refine ⟨?_, ?_, ?_⟩
      · have := h.1; simp only; omega
      · simpa using hm
      · show canon (min x.t y.t + 1) _
        -- behind this one
        by_cases h5 : x.t + 1 ≤ y.t + 1
        · -- nothing more
          have : (r.flatMap fun y => if max x.f y.f ≤ min x.t y.t then [⟨max x.f y.f, min x.t y.t⟩] else ([] : List Spn)) = [] := by
            rw [List.flatMap_eq_nil_iff]
            intro z hz
            have := canon_mem h.2.2 hz
            rw [if_neg (by omega)]
          rw [this]; trivial
        · have h6 : max n (y.t + 1) = y.t + 1 ∨ max n (y.t + 1) = n := by omega
          have h7 : min x.t y.t + 1 ≤ max n (y.t + 1) := by omega
          exact canon_weak ih h7
    · exact canon_weak ih (by have := h.1; have := h.2.1; omega)
theorem meet1_t (x y s : Spn) (h : s ∈ meet1 x y) : x.f ≤ s.f ∧ s.t ≤ x.t ∧ s.f ≤ s.t := by
  unfold meet1 at h
  split at h
  · simp at h; subst h; simp only; omega
  · cases h
theorem canon_common : ∀ {a b : List Spn} {n c : Int}, canon n a → canon c b → canon n (commonL a b)
  | [], _, _, _, _, _ => trivial
  | x :: r, b, n, c, h, hb => by
    unfold commonL
    rw [List.flatMap_cons]
    have ih : canon (x.t + 1) (commonL r b) := canon_common h.2.2 hb
    have h1 := canon_flat1 x h.2.1 (n := n) hb h.1
    have h2 : canon n (b.flatMap fun y => meet1 x y) := canon_weak h1 (by omega)
    refine canon_append h2 ?_
    refine canon_weak ih (lastT_le h2 (by have := h.1; have := h.2.1; omega) fun s hs => ?_)
    obtain ⟨y, _, hy⟩ := List.mem_flatMap.1 hs
    have := meet1_t x y s hy
    omega
/-- with one span, which may be empty -/
theorem canon_common1 {a : List Spn} {n : Int} (s : Spn) (h : canon n a) : canon n (commonL a [s]) := by
  by_cases hs : s.f ≤ s.t
  · exact canon_common (c := s.f - 1) h ⟨by omega, hs, trivial⟩
  · have : commonL a [s] = [] := by
      unfold commonL
      rw [List.flatMap_eq_nil_iff]
      intro x _
      simp only [List.flatMap_cons, List.flatMap_nil, List.append_nil, meet1]
      rw [if_neg (by omega)]
    rw [this]; trivial
/-! spans that come in order of their beginnings: put together -/
theorem canon_snoc : ∀ {l : List Spn} {b : Int} {s : Spn}, canon b (l ++ [s]) ↔ canon b l ∧ lastT b l < s.f ∧ s.f ≤ s.t
  | [], b, s => by simp [canon, lastT]
  | x :: r, b, s => by
    simp only [List.cons_append, canon, lastT, canon_snoc (l := r)]
    constructor
    · rintro ⟨h1, h2, h3, h4⟩; exact ⟨⟨h1, h2, h3⟩, h4⟩
    · rintro ⟨⟨h1, h2, h3⟩, h4⟩; exact ⟨h1, h2, h3, h4⟩
theorem lastT_snoc : ∀ (l : List Spn) (b : Int) (s : Spn), lastT b (l ++ [s]) = s.t + 1
  | [], b, s => rfl
  | x :: r, b, s => lastT_snoc r (x.t + 1) s
/-- what the loop of merged has put together from the first ones -/
structure Mrg (b : Int) (done out : List Spn) : Prop where
  c : canon b out
  s : ∀ k, inS out k ↔ inS done k
  /-- no beginning lies behind the last one's -/
  l : ∀ o x, out = o ++ [x] → ∃ y ∈ done, x.f ≤ y.f ∧ ∀ z ∈ done, z.f ≤ y.f
theorem Mrg.nil (b : Int) : Mrg b [] [] := ⟨trivial, fun _ => Iff.rfl, fun o x h => by simp at h⟩
theorem Mrg.one {b : Int} {s : Spn} (h1 : b < s.f) (h2 : s.f ≤ s.t) : Mrg b [s] [s] := ⟨⟨h1, h2, trivial⟩, fun _ => Iff.rfl, fun o x h => by
  cases o with
  | nil => simp at h; exact ⟨s, by simp, by rw [h]; exact Int.le_refl _, fun z hz => by simp at hz; subst hz; exact Int.le_refl _⟩
  | cons a r => simp at h⟩
theorem Mrg.new {b : Int} {done o : List Spn} {x s : Spn} (h : Mrg b done (o ++ [x])) (h2 : s.f ≤ s.t) (h3 : ∀ z ∈ done, z.f ≤ s.f) (h4 : x.t + 1 < s.f) : Mrg b (done ++ [s]) (o ++ [x] ++ [s]) := by
  refine ⟨canon_snoc.2 ⟨h.c, by rw [lastT_snoc]; omega, h2⟩, fun k => by rw [inS_append, inS_append done, h.s], fun o' x' he => ?_⟩
  have : x' = s := by
    have := (List.append_inj' he rfl).2
    simpa using this.symm
  subst this
  exact ⟨x', by simp, Int.le_refl _, fun z hz => by
    rcases List.mem_append.1 hz with hz | hz
    · exact h3 z hz
    · simp at hz; subst hz; exact Int.le_refl _⟩
theorem Mrg.ext {b : Int} {done o : List Spn} {x s : Spn} (h : Mrg b done (o ++ [x])) (h2 : s.f ≤ s.t) (h3 : ∀ z ∈ done, z.f ≤ s.f) (h4 : s.f ≤ x.t + 1) : Mrg b (done ++ [s]) (o ++ [⟨x.f, max x.t s.t⟩]) := by
  obtain ⟨hc1, hc2, hc3⟩ := canon_snoc.1 h.c
  obtain ⟨y, hy, hyx, hyz⟩ := h.l o x rfl
  have hxs : x.f ≤ s.f := by have := h3 y hy; omega
  refine ⟨canon_snoc.2 ⟨hc1, hc2, by simp only; omega⟩, fun k => ?_, fun o' x' he => ?_⟩
  · have hk := h.s k
    rw [inS_append, inS_cons] at hk ⊢
    rw [inS_append done, ← hk, inS_cons]
    have hn := inS_nil k
    simp only
    constructor
    · rintro (h5 | h5 | h5)
      · exact .inl (.inl h5)
      · by_cases h6 : k ≤ x.t
        · exact .inl (.inr (.inl ⟨h5.1, h6⟩))
        · exact .inr (.inl ⟨by omega, by omega⟩)
      · exact absurd h5 hn
    · rintro ((h5 | h5 | h5) | h5 | h5)
      · exact .inl h5
      · exact .inr (.inl ⟨h5.1, by omega⟩)
      · exact absurd h5 hn
      · exact .inr (.inl ⟨by omega, by omega⟩)
      · exact absurd h5 hn
  · have : x' = ⟨x.f, max x.t s.t⟩ := by
      have := (List.append_inj' he rfl).2
      simpa using this.symm
    subst this
    exact ⟨s, by simp, hxs, fun z hz => by
      rcases List.mem_append.1 hz with hz | hz
      · exact h3 z hz
      · simp at hz; subst hz; exact Int.le_refl _⟩
end Go.PE
namespace Go.PE
open Go
def tb (a : Int) (j : Nat) : Bool := a.toNat.testBit j
def isU64 (a : Int) : Prop := 0 ≤ a ∧ a < 18446744073709551616
theorem u64_nat {a : Int} (h : isU64 a) : ∃ n : Nat, a = n ∧ n < 2 ^ 64 := by
  obtain ⟨h0, h1⟩ := h
  obtain ⟨n, rfl⟩ := Int.eq_ofNat_of_zero_le h0
  exact ⟨n, rfl, by omega⟩
theorem ofInt_toNat {n : Nat} (h : n < 2 ^ 64) : (BitVec.ofInt 64 (n : Int)).toNat = n := by
  rw [BitVec.toNat_ofInt]; simp; omega
theorem wrap_nat {n : Nat} (h : n < 2 ^ 64) : IntKind.u64.wrap (n : Int) = n := by
  rw [IntKind.wrap_u64]; omega
theorem and_u64 {a b : Int} (ha : isU64 a) (hb : isU64 b) : bitsV .and .u64 a b = ((a.toNat &&& b.toNat : Nat) : Int) := by
  obtain ⟨n, rfl, hn⟩ := u64_nat ha
  obtain ⟨m, rfl, hm⟩ := u64_nat hb
  unfold bitsV
  show IntKind.u64.wrap ((BitVec.ofInt 64 (n : Int) &&& BitVec.ofInt 64 (m : Int)).toNat : Int) = _
  rw [BitVec.toNat_and, ofInt_toNat hn, ofInt_toNat hm, wrap_nat (Nat.lt_of_le_of_lt Nat.and_le_left hn)]
  simp
theorem or_u64 {a b : Int} (ha : isU64 a) (hb : isU64 b) : bitsV .or .u64 a b = ((a.toNat ||| b.toNat : Nat) : Int) := by
  obtain ⟨n, rfl, hn⟩ := u64_nat ha
  obtain ⟨m, rfl, hm⟩ := u64_nat hb
  unfold bitsV
  show IntKind.u64.wrap ((BitVec.ofInt 64 (n : Int) ||| BitVec.ofInt 64 (m : Int)).toNat : Int) = _
  rw [BitVec.toNat_or, ofInt_toNat hn, ofInt_toNat hm, wrap_nat (Nat.or_lt_two_pow hn hm)]
  simp
theorem and_isU64 {a b : Int} (ha : isU64 a) (hb : isU64 b) : isU64 (bitsV .and .u64 a b) := by
  rw [and_u64 ha hb]
  obtain ⟨n, rfl, hn⟩ := u64_nat ha
  have := Nat.and_le_left (n := n) (m := b.toNat)
  unfold isU64
  simp only [Int.toNat_natCast]
  omega
theorem or_isU64 {a b : Int} (ha : isU64 a) (hb : isU64 b) : isU64 (bitsV .or .u64 a b) := by
  rw [or_u64 ha hb]
  obtain ⟨n, rfl, hn⟩ := u64_nat ha
  obtain ⟨m, rfl, hm⟩ := u64_nat hb
  have := Nat.or_lt_two_pow hn hm
  unfold isU64
  simp only [Int.toNat_natCast]
  omega
theorem tb_and {a b : Int} (ha : isU64 a) (hb : isU64 b) (j : Nat) : tb (bitsV .and .u64 a b) j = (tb a j && tb b j) := by
  unfold tb
  rw [and_u64 ha hb, Int.toNat_natCast, Nat.testBit_and]
theorem tb_or {a b : Int} (ha : isU64 a) (hb : isU64 b) (j : Nat) : tb (bitsV .or .u64 a b) j = (tb a j || tb b j) := by
  unfold tb
  rw [or_u64 ha hb, Int.toNat_natCast, Nat.testBit_or]
theorem tb_pow (i j : Nat) : tb (2 ^ i : Int) j = decide (i = j) := by
  unfold tb
  rw [show ((2 : Int) ^ i).toNat = 2 ^ i by
    have h2 : ((2 : Int) ^ i) = ((2 ^ i : Nat) : Int) := by simp
    rw [h2]; exact Int.toNat_natCast _, Nat.testBit_two_pow]
theorem tb_ext {a b : Int} (ha : isU64 a) (hb : isU64 b) (h : ∀ j, j < 64 → tb a j = tb b j) : a = b := by
  obtain ⟨n, rfl, hn⟩ := u64_nat ha
  obtain ⟨m, rfl, hm⟩ := u64_nat hb
  congr 1
  refine Nat.eq_of_testBit_eq fun j => ?_
  by_cases hj : j < 64
  · exact h j hj
  · rw [Nat.testBit_lt_two_pow (Nat.lt_of_lt_of_le hn (Nat.pow_le_pow_right (by omega) (by omega))), Nat.testBit_lt_two_pow (Nat.lt_of_lt_of_le hm (Nat.pow_le_pow_right (by omega) (by omega)))]
theorem tb_hi {a : Int} {n j : Nat} (h0 : 0 ≤ a) (h1 : a < 2 ^ n) (h : n ≤ j) : tb a j = false := by
  obtain ⟨m, rfl⟩ := Int.eq_ofNat_of_zero_le h0
  unfold tb
  have : m < 2 ^ n := by
    have h2 : ((2 : Int) ^ n) = ((2 ^ n : Nat) : Int) := by simp
    omega
  exact Nat.testBit_lt_two_pow (Nat.lt_of_lt_of_le this (Nat.pow_le_pow_right (by omega) h))
theorem tb_all {n j : Nat} : tb ((2 : Int) ^ n - 1) j = decide (j < n) := by
  unfold tb
  rw [show ((2 : Int) ^ n - 1).toNat = 2 ^ n - 1 by
    have h2 : ((2 : Int) ^ n) = ((2 ^ n : Nat) : Int) := by simp
    rw [h2]; have := Nat.two_pow_pos n; omega]
  exact Nat.testBit_two_pow_sub_one n j
theorem tb_0 (j : Nat) : tb 0 j = false := by simp [tb]
theorem shr_nat {a : Int} (h0 : 0 ≤ a) (j : Nat) : a.fdiv (2 ^ j) = ((a.toNat / 2 ^ j : Nat) : Int) := by
  obtain ⟨m, rfl⟩ := Int.eq_ofNat_of_zero_le h0
  rw [Int.fdiv_eq_ediv_of_nonneg _ (by exact Int.le_of_lt (Int.pow_pos (by omega)))]
  simp
/-- x >> j & 1 -/
theorem shr_and1 {a : Int} (h : isU64 a) (j : Nat) : bitsV .and .u64 (a.fdiv (2 ^ j)) 1 = if tb a j then 1 else 0 := by
  obtain ⟨n, rfl, hn⟩ := u64_nat h
  rw [shr_nat (by omega), Int.toNat_natCast]
  have h3 := Nat.div_le_self n (2 ^ j)
  have h1 : isU64 ((n / 2 ^ j : Nat) : Int) := by
    generalize n / 2 ^ j = q at h3
    unfold isU64; omega
  rw [and_u64 h1 ⟨by omega, by omega⟩]
  unfold tb
  rw [Int.toNat_natCast, Nat.testBit_eq_decide_div_mod_eq]
  show (((n / 2 ^ j) &&& (1 : Int).toNat : Nat) : Int) = _
  rw [show (1 : Int).toNat = 1 from rfl, Nat.and_one_is_mod]
  rcases Nat.mod_two_eq_zero_or_one (n / 2 ^ j) with h2 | h2 <;> simp [h2]
/-- x >> j % 2 -/
theorem shr_mod2 {a : Int} (h : isU64 a) (j : Nat) : (a.fdiv (2 ^ j)).tmod 2 = if tb a j then 1 else 0 := by
  obtain ⟨n, rfl, hn⟩ := u64_nat h
  rw [shr_nat (by omega), Int.toNat_natCast]
  unfold tb
  rw [Int.toNat_natCast, Nat.testBit_eq_decide_div_mod_eq]
  generalize n / 2 ^ j = q
  rw [Int.tmod_eq_emod_of_nonneg (by omega)]
  rcases Nat.mod_two_eq_zero_or_one q with h2 | h2
  · simp [h2]; omega
  · simp [h2]; omega
end Go.PE
namespace Go.PE
open Go
/-- the day of the week of a minute -/
def wk (m : Int) : Nat := ((m / 1440) % 7).toNat
structure Clo (S : Int → Prop) (fr to days : Int) (l : List Spn) : Prop where
  fr : S fr ∧ ∀ m, S m → fr ≤ m
  to : S to ∧ ∀ m, S m → m ≤ to
  u : isU64 days
  days : ∀ j, tb days j = true ↔ ∃ m, S m ∧ wk m = j
  c : canon (-1) l
  l : ∀ k, inS l k ↔ ∃ m, S m ∧ m % 1440 = k
theorem Clo.uniq {S : Int → Prop} {f t d f' t' d' : Int} {l l' : List Spn} (h : Clo S f t d l) (h' : Clo S f' t' d' l') : f = f' ∧ t = t' ∧ d = d' ∧ l = l' := by
  refine ⟨?_, ?_, tb_ext h.u h'.u fun j _ => ?_, canon_ext h.c h'.c fun k => (h.l k).trans (h'.l k).symm⟩
  · have := h.fr.2 _ h'.fr.1; have := h'.fr.2 _ h.fr.1; omega
  · have := h.to.2 _ h'.to.1; have := h'.to.2 _ h.to.1; omega
  · rw [Bool.eq_iff_iff]; exact (h.days j).trans (h'.days j).symm
theorem Clo.congr {S S' : Int → Prop} {f t d : Int} {l : List Spn} (h : Clo S f t d l) (e : ∀ m, S m ↔ S' m) : Clo S' f t d l := by
  have : S = S' := funext fun m => propext (e m)
  subst this; exact h
/-- what has been put together so far: nothing, or the summary of the part -/
def CloO (S : Int → Prop) (fr to days : Int) (l : List Spn) (f0 : Int) : Prop := (fr = f0 ∧ to = -1 ∧ days = 0 ∧ l = [] ∧ ∀ m, ¬ S m) ∨ Clo S fr to days l
theorem canon_head {s : Spn} {r : List Spn} {b k : Int} (h : canon b (s :: r)) (hk : inS (s :: r) k) : s.f ≤ k := by
  rcases (inS_cons _ _ _).1 hk with hk | hk
  · exact hk.1
  · have := canon_lt h.2.2 hk; have := h.2.1; omega
theorem lastT_ge : ∀ {q : List Spn} {n : Int}, canon n q → n ≤ lastT n q
  | [], n, _ => Int.le_refl _
  | x :: q, n, h => by
    have := lastT_ge h.2.2
    have := h.1; have := h.2.1
    show n ≤ lastT (x.t + 1) q
    omega
theorem lastT_mem : ∀ {q : List Spn} {n : Int} {s : Spn}, canon n q → s ∈ q → s.t < lastT n q
  | x :: q, n, s, h, hs => by
    rcases List.mem_cons.1 hs with rfl | hs
    · have := lastT_ge h.2.2
      show s.t < lastT (s.t + 1) q
      omega
    · exact lastT_mem (q := q) (n := x.t + 1) h.2.2 hs
theorem canon_last {o : List Spn} {x : Spn} {b k : Int} (h : canon b (o ++ [x])) (hk : inS (o ++ [x]) k) : k ≤ x.t := by
  obtain ⟨c1, c2, c3⟩ := canon_snoc.1 h
  rw [inS_append] at hk
  rcases hk with ⟨s, hs, hk⟩ | hk
  · have := lastT_mem c1 hs; omega
  · rcases (inS_cons _ _ _).1 hk with hk | hk
    · exact hk.2
    · exact absurd hk (inS_nil _)
/-- a day is added behind the others -/
theorem CloO.day {S X : Int → Prop} {fr to days f0 d lo hi : Int} {l ld l' : List Spn} (h : CloO S fr to days l f0) (h0 : 0 ≤ d) (hS : ∀ m, S m → m / 1440 < d) (hX : ∀ m, X m → m / 1440 = d) (hl : ∀ k, inS ld k ↔ X (d * 1440 + k) ∧ 0 ≤ k ∧ k < 1440)
    (hlo : inS ld lo) (hmin : ∀ k, inS ld k → lo ≤ k) (hhi : inS ld hi) (hmax : ∀ k, inS ld k → k ≤ hi)
    (hf0 : d * 1440 + lo ≤ f0) (hc : canon (-1) l') (hl' : ∀ k, inS l' k ↔ inS l k ∨ inS ld k) (hS0 : ∀ m, S m → 0 ≤ m) :
    Clo (fun m => S m ∨ X m) (min fr (d * 1440 + lo)) (max to (d * 1440 + hi)) (bitsV .or .u64 days (2 ^ (d % 7).toNat)) l' := by
  have hXk : ∀ m, X m ↔ m / 1440 = d ∧ inS ld (m % 1440) := fun m => by
    constructor
    · intro hm
      have := hX m hm
      refine ⟨this, (hl _).2 ⟨?_, by omega, by omega⟩⟩
      rw [show d * 1440 + m % 1440 = m by omega]; exact hm
    · rintro ⟨e, hi⟩
      have := ((hl _).1 hi).1
      rw [show d * 1440 + m % 1440 = m by omega] at this; exact this
  have hhX := (hl lo).1 hlo
  have hgX := (hl hi).1 hhi
  have hd7 : (d % 7).toNat < 7 := by omega
  have hpow : isU64 ((2 : Int) ^ (d % 7).toNat) := by
    generalize (d % 7).toNat = n at hd7
    have : n = 0 ∨ n = 1 ∨ n = 2 ∨ n = 3 ∨ n = 4 ∨ n = 5 ∨ n = 6 := by omega
    rcases this with rfl | rfl | rfl | rfl | rfl | rfl | rfl <;> exact ⟨by decide, by decide⟩
  have hwk : ∀ m, X m → wk m = (d % 7).toNat := fun m hm => by unfold wk; rw [hX m hm]
  rcases h with ⟨h1, rfl, rfl, rfl, hno⟩ | h
  · have ef : min fr (d * 1440 + lo) = d * 1440 + lo := by omega
    have et : max (-1) (d * 1440 + hi) = d * 1440 + hi := by omega
    rw [ef, et]
    refine ⟨⟨.inr hhX.1, fun m hm => ?_⟩, ⟨.inr hgX.1, fun m hm => ?_⟩, or_isU64 ⟨by omega, by omega⟩ hpow, fun j => ?_, hc, fun k => ?_⟩
    · rcases hm with hm | hm
      · exact absurd hm (hno m)
      · have := (hXk m).1 hm; have := hmin _ this.2; omega
    · rcases hm with hm | hm
      · exact absurd hm (hno m)
      · have := (hXk m).1 hm; have := hmax _ this.2; omega
    · rw [tb_or ⟨by omega, by omega⟩ hpow, tb_0, tb_pow]
      simp only [Bool.false_or, decide_eq_true_eq]
      constructor
      · intro e; exact ⟨_, .inr hhX.1, by rw [hwk _ hhX.1, e]⟩
      · rintro ⟨m, hm | hm, e⟩
        · exact absurd hm (hno m)
        · rw [← e, hwk m hm]
    · rw [hl']
      constructor
      · rintro (hk | hk)
        · exact absurd hk (inS_nil _)
        · have := (hl k).1 hk
          exact ⟨_, .inr this.1, by omega⟩
      · rintro ⟨m, hm | hm, e⟩
        · exact absurd hm (hno m)
        · right; rw [← e]; exact ((hXk m).1 hm).2
  · have ef : min fr (d * 1440 + lo) = fr := by
      have a := hS _ h.fr.1
      omega
    have et : max to (d * 1440 + hi) = d * 1440 + hi := by
      have a := hS _ h.to.1
      omega
    rw [ef, et]
    refine ⟨⟨.inl h.fr.1, fun m hm => ?_⟩, ⟨.inr hgX.1, fun m hm => ?_⟩, or_isU64 h.u hpow, fun j => ?_, hc, fun k => ?_⟩
    · rcases hm with hm | hm
      · exact h.fr.2 m hm
      · have := hX m hm; have a := hS _ h.fr.1; omega
    · rcases hm with hm | hm
      · have := hS m hm; omega
      · have := (hXk m).1 hm; have := hmax _ this.2; omega
    · rw [tb_or h.u hpow, tb_pow]
      simp only [Bool.or_eq_true, decide_eq_true_eq]
      rw [h.days]
      constructor
      · rintro (⟨m, hm, e⟩ | e)
        · exact ⟨m, .inl hm, e⟩
        · exact ⟨_, .inr hhX.1, by rw [hwk _ hhX.1, e]⟩
      · rintro ⟨m, hm | hm, e⟩
        · exact .inl ⟨m, hm, e⟩
        · right; rw [← e, hwk m hm]
    · rw [hl', h.l]
      constructor
      · rintro (⟨m, hm, e⟩ | hk)
        · exact ⟨m, .inl hm, e⟩
        · have := (hl k).1 hk
          exact ⟨_, .inr this.1, by omega⟩
      · rintro ⟨m, hm | hm, e⟩
        · exact .inl ⟨m, hm, e⟩
        · right; rw [← e]; exact ((hXk m).1 hm).2
/-! the days between need not be looked at -/
/-- the minutes from fr to to, on days of the week D, in minutes of the day M -/
def Tm (fr to : Int) (D : Nat → Bool) (M : Int → Prop) (m : Int) : Prop := fr ≤ m ∧ m ≤ to ∧ D (wk m) = true ∧ M (m % 1440)
/-- near the borders: n days at each end -/
def near (n first last d : Int) : Prop := first ≤ d ∧ d ≤ last ∧ (d ≤ first + n ∨ last - n ≤ d)
theorem near_all {n fr to f t d : Int} {D : Nat → Bool} {M : Int → Prop} {l : List Spn} (hn : 8 ≤ n) (h : Clo (fun m => Tm fr to D M m ∧ near n (fr / 1440) (to / 1440) (m / 1440)) f t d l) : Clo (Tm fr to D M) f t d l := by
  -- a day between has its like at both ends
  have lo : ∀ m, Tm fr to D M m → ∃ m', Tm fr to D M m' ∧ near n (fr / 1440) (to / 1440) (m' / 1440) ∧ m' ≤ m ∧ wk m' = wk m ∧ m' % 1440 = m % 1440 := by
    intro m hm
    obtain ⟨h1, h2, h3, h4⟩ := hm
    by_cases hd : m / 1440 ≤ fr / 1440 + n ∨ to / 1440 - n ≤ m / 1440
    · exact ⟨m, ⟨h1, h2, h3, h4⟩, ⟨by omega, by omega, hd⟩, Int.le_refl _, rfl, rfl⟩
    · have hw : wk (((fr / 1440 + 1) + (m / 1440 - (fr / 1440 + 1)) % 7) * 1440 + m % 1440) = wk m := by unfold wk; congr 1; omega
      have hk : (((fr / 1440 + 1) + (m / 1440 - (fr / 1440 + 1)) % 7) * 1440 + m % 1440) % 1440 = m % 1440 := by omega
      refine ⟨((fr / 1440 + 1) + (m / 1440 - (fr / 1440 + 1)) % 7) * 1440 + m % 1440, ⟨by omega, by omega, by rw [hw]; exact h3, by rw [hk]; exact h4⟩, ⟨by omega, by omega, by left; omega⟩, by omega, hw, hk⟩
  have hi : ∀ m, Tm fr to D M m → ∃ m', Tm fr to D M m' ∧ near n (fr / 1440) (to / 1440) (m' / 1440) ∧ m ≤ m' := by
    intro m hm
    obtain ⟨h1, h2, h3, h4⟩ := hm
    by_cases hd : m / 1440 ≤ fr / 1440 + n ∨ to / 1440 - n ≤ m / 1440
    · exact ⟨m, ⟨h1, h2, h3, h4⟩, ⟨by omega, by omega, hd⟩, Int.le_refl _⟩
    · have hw : wk (((to / 1440 - 1) - ((to / 1440 - 1) - m / 1440) % 7) * 1440 + m % 1440) = wk m := by unfold wk; congr 1; omega
      have hk : (((to / 1440 - 1) - ((to / 1440 - 1) - m / 1440) % 7) * 1440 + m % 1440) % 1440 = m % 1440 := by omega
      refine ⟨((to / 1440 - 1) - ((to / 1440 - 1) - m / 1440) % 7) * 1440 + m % 1440, ⟨by omega, by omega, by rw [hw]; exact h3, by rw [hk]; exact h4⟩, ⟨by omega, by omega, by right; omega⟩, by omega⟩
  refine ⟨⟨h.fr.1.1, fun m hm => ?_⟩, ⟨h.to.1.1, fun m hm => ?_⟩, h.u, fun j => ?_, h.c, fun k => ?_⟩
  · obtain ⟨m', a, b, c, _⟩ := lo m hm
    have := h.fr.2 m' ⟨a, b⟩; omega
  · obtain ⟨m', a, b, c⟩ := hi m hm
    have := h.to.2 m' ⟨a, b⟩; omega
  · rw [h.days]
    constructor
    · rintro ⟨m, hm, e⟩; exact ⟨m, hm.1, e⟩
    · rintro ⟨m, hm, e⟩
      obtain ⟨m', a, b, _, c, _⟩ := lo m hm
      exact ⟨m', ⟨a, b⟩, c.trans e⟩
  · rw [h.l]
    constructor
    · rintro ⟨m, hm, e⟩; exact ⟨m, hm.1, e⟩
    · rintro ⟨m, hm, e⟩
      obtain ⟨m', a, b, _, _, c⟩ := lo m hm
      exact ⟨m', ⟨a, b⟩, c.trans e⟩
theorem near_none {n fr to : Int} {D : Nat → Bool} {M : Int → Prop} (hn : 8 ≤ n) (h : ∀ m, ¬ (Tm fr to D M m ∧ near n (fr / 1440) (to / 1440) (m / 1440))) : ∀ m, ¬ Tm fr to D M m := by
  intro m hm
  obtain ⟨h1, h2, h3, h4⟩ := hm
  by_cases hd : m / 1440 ≤ fr / 1440 + n ∨ to / 1440 - n ≤ m / 1440
  · exact h m ⟨⟨h1, h2, h3, h4⟩, ⟨by omega, by omega, hd⟩⟩
  · have hw : wk (((fr / 1440 + 1) + (m / 1440 - (fr / 1440 + 1)) % 7) * 1440 + m % 1440) = wk m := by unfold wk; congr 1; omega
    have hk : (((fr / 1440 + 1) + (m / 1440 - (fr / 1440 + 1)) % 7) * 1440 + m % 1440) % 1440 = m % 1440 := by omega
    exact h (((fr / 1440 + 1) + (m / 1440 - (fr / 1440 + 1)) % 7) * 1440 + m % 1440) ⟨⟨by omega, by omega, by rw [hw]; exact h3, by rw [hk]; exact h4⟩, ⟨by omega, by omega, by left; omega⟩⟩
end Go.PE
namespace Go.PE
open Go
structure CloM (S : Int → Prop) (fr to days : Int) (M : Int → Prop) : Prop where
  fr : S fr ∧ ∀ m, S m → fr ≤ m
  to : S to ∧ ∀ m, S m → m ≤ to
  u : isU64 days
  days : ∀ j, tb days j = true ↔ ∃ m, S m ∧ wk m = j
  M : ∀ k, M k ↔ ∃ m, S m ∧ m % 1440 = k
theorem CloM.clo {S : Int → Prop} {fr to days : Int} {M : Int → Prop} {l : List Spn} (h : CloM S fr to days M) (hc : canon (-1) l) (hl : ∀ k, inS l k ↔ M k) : Clo S fr to days l :=
  ⟨h.fr, h.to, h.u, h.days, hc, fun k => (hl k).trans (h.M k)⟩
def CloMO (S : Int → Prop) (fr to days : Int) (M : Int → Prop) : Prop := (fr = -1 ∧ to = -1 ∧ days = 0 ∧ (∀ k, ¬ M k) ∧ ∀ m, ¬ S m) ∨ CloM S fr to days M
theorem wk_pow (m : Int) : isU64 ((2 : Int) ^ wk m) := by
  have hd7 : wk m < 7 := by unfold wk; omega
  generalize wk m = n at hd7
  have : n = 0 ∨ n = 1 ∨ n = 2 ∨ n = 3 ∨ n = 4 ∨ n = 5 ∨ n = 6 := by omega
  rcases this with rfl | rfl | rfl | rfl | rfl | rfl | rfl <;> exact ⟨by decide, by decide⟩
theorem CloMO.add {S S' : Int → Prop} {fr to days n : Int} {M M' : Int → Prop} (h : CloMO S fr to days M) (h0 : 0 ≤ n) (hS : ∀ m, S m → m < n) (hS0 : ∀ m, S m → 0 ≤ m) (hS' : ∀ m, S' m ↔ S m ∨ m = n) (hM : ∀ k, M' k ↔ M k ∨ k = n % 1440) :
    CloM S' (if fr < 0 then n else fr) n (bitsV .or .u64 days (2 ^ wk n)) M' := by
  have hp := wk_pow n
  rcases h with ⟨rfl, rfl, rfl, hk, hno⟩ | h
  · rw [if_pos (by omega)]
    refine ⟨⟨(hS' n).2 (.inr rfl), fun m hm => ?_⟩, ⟨(hS' n).2 (.inr rfl), fun m hm => ?_⟩, or_isU64 ⟨by omega, by omega⟩ hp, fun j => ?_, fun k => ?_⟩
    · rcases (hS' m).1 hm with hm | hm
      · exact absurd hm (hno m)
      · omega
    · rcases (hS' m).1 hm with hm | hm
      · exact absurd hm (hno m)
      · omega
    · rw [tb_or ⟨by omega, by omega⟩ hp, tb_0, tb_pow]
      simp only [Bool.false_or, decide_eq_true_eq]
      constructor
      · intro e; exact ⟨n, (hS' n).2 (.inr rfl), e⟩
      · rintro ⟨m, hm, e⟩
        rcases (hS' m).1 hm with hm | rfl
        · exact absurd hm (hno m)
        · exact e
    · rw [hM]
      constructor
      · rintro (e | e)
        · exact absurd e (hk k)
        · exact ⟨n, (hS' n).2 (.inr rfl), e.symm⟩
      · rintro ⟨m, hm, e⟩
        rcases (hS' m).1 hm with hm | rfl
        · exact absurd hm (hno m)
        · exact .inr e.symm
  · have hf0 := hS0 _ h.fr.1
    have hfn := hS _ h.fr.1
    rw [if_neg (by omega)]
    refine ⟨⟨(hS' _).2 (.inl h.fr.1), fun m hm => ?_⟩, ⟨(hS' n).2 (.inr rfl), fun m hm => ?_⟩, or_isU64 h.u hp, fun j => ?_, fun k => ?_⟩
    · rcases (hS' m).1 hm with hm | hm
      · exact h.fr.2 m hm
      · omega
    · rcases (hS' m).1 hm with hm | hm
      · have := hS m hm; omega
      · omega
    · rw [tb_or h.u hp, tb_pow]
      simp only [Bool.or_eq_true, decide_eq_true_eq]
      rw [h.days]
      constructor
      · rintro (⟨m, hm, e⟩ | e)
        · exact ⟨m, (hS' m).2 (.inl hm), e⟩
        · exact ⟨n, (hS' n).2 (.inr rfl), e⟩
      · rintro ⟨m, hm, e⟩
        rcases (hS' m).1 hm with hm | rfl
        · exact .inl ⟨m, hm, e⟩
        · exact .inr e
    · rw [hM, h.M]
      constructor
      · rintro (⟨m, hm, e⟩ | e)
        · exact ⟨m, (hS' m).2 (.inl hm), e⟩
        · exact ⟨n, (hS' n).2 (.inr rfl), e.symm⟩
      · rintro ⟨m, hm, e⟩
        rcases (hS' m).1 hm with hm | rfl
        · exact .inl ⟨m, hm, e⟩
        · exact .inr e.symm
theorem CloMO.keep {S S' : Int → Prop} {fr to days : Int} {M : Int → Prop} (h : CloMO S fr to days M) (hS' : ∀ m, S' m ↔ S m) : CloMO S' fr to days M := by
  have : S' = S := funext fun m => propext (hS' m)
  subst this; exact h
/-! runs -/
structure Run (M : Int → Prop) (k : Int) (out : List Spn) : Prop where
  c : canon (-1) out
  s : ∀ j, inS out j ↔ M j ∧ 0 ≤ j ∧ j < k
theorem Run.nil (M : Int → Prop) : Run M 0 [] := ⟨trivial, fun j => ⟨fun h => absurd h (inS_nil _), fun h => by omega⟩⟩
theorem Run.skip {M : Int → Prop} {k : Int} {out : List Spn} (h : Run M k out) (hk : ¬ M k) : Run M (k + 1) out := ⟨h.c, fun j => by
  rw [h.s]
  constructor
  · rintro ⟨a, b, c⟩; exact ⟨a, b, by omega⟩
  · rintro ⟨a, b, c⟩
    refine ⟨a, b, ?_⟩
    have : j ≠ k := fun e => hk (e ▸ a)
    omega⟩
theorem Run.last {M : Int → Prop} {k : Int} {o : List Spn} {x : Spn} (h : Run M k (o ++ [x])) : x.f ≤ x.t ∧ -1 < x.f ∧ x.t < k := by
  have := canon_mem h.c (show x ∈ o ++ [x] by simp)
  have h2 := (h.s x.t).1 ⟨x, by simp, this.2, Int.le_refl _⟩
  exact ⟨this.2, this.1, h2.2.2⟩
theorem Run.new {M : Int → Prop} {k : Int} {out : List Spn} (h : Run M k out) (h0 : 0 ≤ k) (hk : M k) (hl : ∀ o x, out = o ++ [x] → x.t ≠ k - 1) : Run M (k + 1) (out ++ [⟨k, k⟩]) := by
  refine ⟨canon_snoc.2 ⟨h.c, ?_, Int.le_refl _⟩, fun j => ?_⟩
  · rcases List.eq_nil_or_concat out with rfl | ⟨o, x, rfl⟩
    · show -1 < k; omega
    · simp only [List.concat_eq_append] at h hl ⊢
      rw [lastT_snoc]
      have := h.last
      have := hl o x rfl
      show x.t + 1 < k; omega
  · rw [inS_append, h.s, inS_cons]
    simp only
    constructor
    · rintro (⟨a, b, c⟩ | h5 | h5)
      · exact ⟨a, b, by omega⟩
      · have : j = k := by omega
        subst this; exact ⟨hk, h0, by omega⟩
      · exact absurd h5 (inS_nil _)
    · rintro ⟨a, b, c⟩
      by_cases e : j = k
      · exact .inr (.inl ⟨by omega, by omega⟩)
      · exact .inl ⟨a, b, by omega⟩
theorem Run.ext {M : Int → Prop} {k : Int} {o : List Spn} {x : Spn} (h : Run M k (o ++ [x])) (hk : M k) (hl : x.t = k - 1) : Run M (k + 1) (o ++ [⟨x.f, k⟩]) := by
  obtain ⟨c1, c2, c3⟩ := canon_snoc.1 h.c
  have hl2 := h.last
  refine ⟨canon_snoc.2 ⟨c1, c2, by simp only; omega⟩, fun j => ?_⟩
  have hj := h.s j
  rw [inS_append, inS_cons] at hj ⊢
  have hn := inS_nil j
  simp only
  constructor
  · rintro (h5 | h5 | h5)
    · have := hj.1 (.inl h5); exact ⟨this.1, this.2.1, by omega⟩
    · by_cases e : j = k
      · subst e; exact ⟨hk, by omega, by omega⟩
      · have := hj.1 (.inr (.inl ⟨h5.1, by omega⟩)); exact ⟨this.1, this.2.1, by omega⟩
    · exact absurd h5 hn
  · rintro ⟨a, b, c⟩
    by_cases e : j = k
    · exact .inr (.inl ⟨by omega, by omega⟩)
    · rcases hj.2 ⟨a, b, by omega⟩ with h5 | h5 | h5
      · exact .inl h5
      · exact .inr (.inl ⟨h5.1, by omega⟩)
      · exact absurd h5 hn
/-! authorities -/
structure Aut where
  none : Bool
  zones : Int
  lines : Int
  days : Int
  fr : Int
  to : Int
  daily : List Spn
  holder : ByteArray
  deriving DecidableEq
def noName : ByteArray := ⟨#[]⟩
def noneA : Aut := ⟨true, 0, 0, 0, 0, 0, [], noName⟩
def fullA : Aut := ⟨false, 18446744073709551615, 4294967295, 127, 0, 67108864, [⟨0, 1439⟩], noName⟩
def Aut.S (a : Aut) (m : Int) : Prop := Tm a.fr a.to (tb a.days) (inS a.daily) m
/-- r is the only summary of a's kind with a's contexts -/
def IsClosed (a r : Aut) : Prop := ((a.zones = 0 ∨ a.lines = 0 ∨ ∀ m, ¬ a.S m) ∧ r = noneA) ∨ (a.zones ≠ 0 ∧ a.lines ≠ 0 ∧ ∃ f t d l, Clo a.S f t d l ∧ r = ⟨false, a.zones, a.lines, d, f, t, l, a.holder⟩)
theorem Clo.some {S : Int → Prop} {f t d : Int} {l : List Spn} (h : Clo S f t d l) : ¬ ∀ m, ¬ S m := fun hn => hn _ h.fr.1
theorem IsClosed.uniq {a a' r r' : Aut} (h : IsClosed a r) (h' : IsClosed a' r') (hz : a.zones = a'.zones) (hl : a.lines = a'.lines) (hh : a.holder = a'.holder) (hS : ∀ m, a.S m ↔ a'.S m) : r = r' := by
  have e : a.S = a'.S := funext fun m => propext (hS m)
  rcases h with ⟨h1, rfl⟩ | ⟨h1, h2, f, t, d, l, hc, rfl⟩
  · rcases h' with ⟨_, rfl⟩ | ⟨h1', h2', f, t, d, l, hc, rfl⟩
    · rfl
    · rcases h1 with h1 | h1 | h1
      · exact absurd (hz ▸ h1) h1'
      · exact absurd (hl ▸ h1) h2'
      · exact absurd (fun m hm => h1 m ((hS m).2 hm)) hc.some
  · rcases h' with ⟨h1', rfl⟩ | ⟨h1', h2', f', t', d', l', hc', rfl⟩
    · rcases h1' with h1' | h1' | h1'
      · exact absurd (hz ▸ h1') h1
      · exact absurd (hl ▸ h1') h2
      · exact absurd (fun m hm => h1' m ((hS m).1 hm)) hc.some
    · rw [e] at hc
      obtain ⟨rfl, rfl, rfl, rfl⟩ := hc.uniq hc'
      rw [hz, hl, hh]
end Go.PE
