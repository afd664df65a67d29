/- The deck: masks. The engine, part 21: what simp need not look into; boxes of the call's own at its end. The engine, part 22: what an argument of a plain type looks like, purely: its cells one by one. The engine, part 23: lists of like things in a box; results that are frozen behind a call. The engine, part 24: a list of like things that a function keeps in a box of its own. Pure code, printed by a program: predicates, what holds for a ride, the deck. Pure code, printed by a program: the statements about layer 7. Predicates and contexts as plain data; what predicate.Valid and its kin compute. predicate.Valid, and the references' Valid. The references' Valid: it is the same. contexts: valid ones; rides -/
import Derived.Test.YtmcfkmdhjihgmaaDoorPartC
import Derived.DataShut
set_option linter.all false
namespace Go.PE
open Go
def isMask (bits : Int) (p : Value) : Prop := ∃ m : Int, p = .int .u64 m ∧ 0 < m ∧ m < 2 ^ bits.toNat
def maskRest (w : Nat) : PC :=
  (.seq (.seq (.reg [((some 29), (none, (.mv (.tmp 1)))),
    ((some 30), (none, (.bi .lss (.tmp 29) (.const (.int .i64 64)))))])
  (.cond (.tmp 30)
    (.reg [((some 31), (none, (.mv (.tmp 5)))),
      ((some 32), (none, (.mv (.tmp 1)))),
      ((some 33), (none, (.cv .u64 (.tmp 32)))),
      ((some 34), (none, (.bi .shl (.const (.int .u64 1)) (.tmp 33)))),
      ((some 35), (none, (.bi .sub (.tmp 34) (.const (.int .u64 1))))),
      ((some 36), (none, (.bi .and (.tmp 31) (.tmp 35)))),
      ((some 5), (none, (.mv (.tmp 36))))])
    .skip))
  (.seq (.seq (.reg [((some 37), (none, (.mv (.tmp 5)))),
    ((some 38), (none, (.bi .eql (.tmp 37) (.const (.int .u64 0)))))])
  (.cond (.tmp 38)
    (.seq (.reg [((some 39), (none, (.mv (.tmp 0)))),
      ((some 40), (none, (.mv (.tmp 1)))),
      ((some 41), (none, (.call w [(.tmp 39), (.tmp 40)]))),
      ((some 42), (none, (.cv .u64 (.tmp 41)))),
      ((some 43), (none, (.bi .shl (.const (.int .u64 1)) (.tmp 42)))),
      ((some 4), (none, (.mv (.tmp 43))))])
    .ret)
    .skip))
  (.seq (.reg [((some 44), (none, (.mv (.tmp 5)))),
    ((some 4), (none, (.mv (.tmp 44))))])
  .ret)))
def maskC (w : Nat) : PC :=
  (.seq (.reg [((some 4), (none, (.mv (.const (.int .u64 0)))))])
  (.seq (.reg [((some 5), (none, (.mv (.const (.int .u64 0)))))])
  (.seq (.seq (.reg [((some 6), (none, (.mv (.tmp 0)))),
    ((some 7), (none, (.call w [(.tmp 6), (.const (.int .i64 3))])))])
  (.block 0 (.seq (.reg [((some 9), (none, (.bi .eql (.tmp 7) (.const (.int .i64 0))))),
     ((some 8), (none, (.mv (.tmp 9))))])
   (.cond (.tmp 8)
     (.reg [((some 10), (none, (.mv (.tmp 0)))),
       ((some 11), (none, (.call w [(.tmp 10), (.const (.int .i64 16))]))),
       ((some 12), (none, (.cv .u64 (.tmp 11)))),
       ((some 5), (none, (.mv (.tmp 12))))])
     (.seq (.reg [((some 14), (none, (.bi .eql (.tmp 7) (.const (.int .i64 1))))),
       ((some 13), (none, (.mv (.tmp 14))))])
     (.cond (.tmp 13)
       (.reg [((some 15), (none, (.mv (.tmp 0)))),
         ((some 16), (none, (.call w [(.tmp 15), (.const (.int .i64 65536))]))),
         ((some 17), (none, (.cv .u64 (.tmp 16)))),
         ((some 18), (none, (.mv (.tmp 0)))),
         ((some 19), (none, (.call w [(.tmp 18), (.const (.int .i64 65536))]))),
         ((some 20), (none, (.cv .u64 (.tmp 19)))),
         ((some 21), (none, (.bi .shl (.tmp 20) (.const (.int .u64 48))))),
         ((some 22), (none, (.bi .or (.tmp 17) (.tmp 21)))),
         ((some 5), (none, (.mv (.tmp 22))))])
       (.seq (.reg [((some 24), (none, (.bi .eql (.tmp 7) (.const (.int .i64 2))))),
         ((some 23), (none, (.mv (.tmp 24))))])
       (.cond (.tmp 23)
         (.reg [((some 25), (none, (.mv (.tmp 0)))),
           ((some 26), (none, (.call w [(.tmp 25), (.const (.int .i64 65536))]))),
           ((some 27), (none, (.cv .u64 (.tmp 26)))),
           ((some 28), (none, (.un .xor (.tmp 27)))),
           ((some 5), (none, (.mv (.tmp 28))))])
         .skip))))))))
  (maskRest w))))
/-- what is drawn before it is cut -/
def isU (p : Value) : Prop := ∃ m : Int, p = .int .u64 m ∧ 0 ≤ m ∧ m < 18446744073709551616
theorem mask_rest {P : Program} {w : Nat} (hn : NextW P w) (n m : Int) (h0 : 1 ≤ n) (h1 : n ≤ 64) (hm0 : 0 ≤ m) (hm1 : m < 18446744073709551616) {nx0 : Nat} {Q : Ex → PS → Prop} (k : Nat) (l : List Int) (at_ : Int) (ha : 0 ≤ at_) (hl : l.length ≤ maxLen) (s : PS)
    (e0 : s.t 0 = ptr k 0) (e1 : s.t 1 = .int .i64 n) (e5 : s.t 5 = .int .u64 m) (hk : s.H k = some (dk l at_))
    (hQ : ∀ s' : PS, (∃ at', 0 ≤ at' ∧ s'.H = upd s.H k (some (dk l at'))) → isMask n (s'.t 4) → Q .rt s') : wpc (PCalls P) P (fun j => j = k) nx0 (maskRest w) Q s := by
  obtain ⟨t, H, nx⟩ := s
  simp only at e0 e1 e5 hk
  have hwn : IntKind.u64.wrap n = n := by rw [IntKind.wrap_u64]; omega
  have hsh : 0 ≤ n := by omega
  obtain ⟨N, rfl⟩ := Int.eq_ofNat_of_zero_le hsh
  by_cases h64 : (N : Int) < 64
  · have hp : (2 : Nat) ^ N ≤ 2 ^ 63 := Nat.pow_le_pow_right (by omega) (by omega)
    have hpos : 0 < (2 : Nat) ^ N := Nat.two_pow_pos N
    have e2 : (2 : Int) ^ N = ((2 ^ N : Nat) : Int) := by simp
    have hmin : min N 64 = N := by omega
    have hw1 : IntKind.u64.wrap ((2 : Int) ^ N) = 2 ^ N := by rw [IntKind.wrap_u64, e2]; omega
    have hw2 : IntKind.u64.wrap ((2 : Int) ^ N - 1) = 2 ^ N - 1 := by rw [IntKind.wrap_u64, e2]; omega
    have hand : bitsV .and .u64 m (2 ^ N - 1) = m % 2 ^ N := and_mask hm0 hm1 (by omega)
    simp [maskRest, e0, e1, e5, h64, hwn, IntKind.bits, hmin, hw1, hw2, hand]
    refine wB_of (fun hz => ?_) (fun hz => ?_)
    · refine wCall_draw (hn N (by omega) (by omega)) ha hl (by simp [hk]) (.inr rfl) fun p at2 nx2 hp ha2 => ?_
      obtain ⟨v2, rfl, hv21, hv22⟩ := hp
      obtain ⟨V, rfl⟩ := Int.eq_ofNat_of_zero_le hv21
      have hwv : IntKind.u64.wrap (V : Int) = V := by rw [IntKind.wrap_u64]; omega
      have hminv : min V 64 = V := by omega
      have hpv : (2 : Nat) ^ V < 2 ^ N := Nat.pow_lt_pow_right (by omega) (by omega)
      have e3 : (2 : Int) ^ V = ((2 ^ V : Nat) : Int) := by simp
      have hposv : 0 < (2 : Nat) ^ V := Nat.two_pow_pos V
      have hwv2 : IntKind.u64.wrap ((2 : Int) ^ V) = 2 ^ V := by rw [IntKind.wrap_u64, e3]; omega
      simp [hwv, hminv, IntKind.bits, hwv2]
      refine hQ _ ⟨at2, ha2, rfl⟩ ⟨2 ^ V, by simp, by rw [e3]; omega, ?_⟩
      rw [e3]; simp only [Int.toNat_natCast]; rw [e2]; omega
    · simp at hz
      refine hQ _ ⟨at_, ha, (upd_self H k _ hk).symm⟩ ⟨m % 2 ^ N, by simp, ?_, ?_⟩
      · rw [e2] at hz ⊢; omega
      · simp only [Int.toNat_natCast]; rw [e2]; omega
  · obtain rfl : N = 64 := by omega
    simp [maskRest, e0, e1, e5]
    refine wB_of (fun hz => ?_) (fun hz => ?_)
    · refine wCall_draw (hn 64 (by omega) (by omega)) ha hl (by simp [hk]) (.inr rfl) fun p at2 nx2 hp ha2 => ?_
      obtain ⟨v2, rfl, hv21, hv22⟩ := hp
      obtain ⟨V, rfl⟩ := Int.eq_ofNat_of_zero_le hv21
      have hwv : IntKind.u64.wrap (V : Int) = V := by rw [IntKind.wrap_u64]; omega
      have hminv : min V 64 = V := by omega
      have hpv : (2 : Nat) ^ V < 2 ^ 64 := Nat.pow_lt_pow_right (by omega) (by omega)
      have e3 : (2 : Int) ^ V = ((2 ^ V : Nat) : Int) := by simp
      have hposv : 0 < (2 : Nat) ^ V := Nat.two_pow_pos V
      have hwv2 : IntKind.u64.wrap ((2 : Int) ^ V) = 2 ^ V := by rw [IntKind.wrap_u64, e3]; omega
      simp [hwv, hminv, IntKind.bits, hwv2]
      refine hQ _ ⟨at2, ha2, rfl⟩ ⟨2 ^ V, by simp, by rw [e3]; omega, ?_⟩
      rw [e3]; show ((2 ^ V : Nat) : Int) < 2 ^ 64; omega
    · simp at hz
      refine hQ _ ⟨at_, ha, (upd_self H k _ hk).symm⟩ ⟨m, by simp, by omega, ?_⟩
      show m < 2 ^ 64
      omega
theorem mask_w {P : Program} {f w : Nat} (hc : compFn P f = some (45, maskC w, [.t 4])) (hn : NextW P w) : ∀ n : Int, 1 ≤ n → n ≤ 64 → Draws P f [.int .i64 n] (isMask n) := by
  intro n h0 h1 k l at_ ha hl H nx hk
  refine PCalls_of hc (by simp) fun hw => ?_
  simp [maskC]
  refine wCall_draw (hn 3 (by omega) (by omega)) ha hl hk (.inr rfl) fun p at1 nx1 hp ha1 => ?_
  obtain ⟨v, rfl, hv1, hv2⟩ := hp
  simp
  have fin' : ∀ (s : PS) (m at' : Int), 0 ≤ m → m < 18446744073709551616 → 0 ≤ at' → s.t 0 = ptr k 0 → s.t 1 = .int .i64 n → s.t 5 = .int .u64 m → s.H = upd H k (some (dk l at')) →
      wpc (PCalls P) P (fun j => j = k) nx (maskRest w) (fin nx [RV.t 4] fun p H' _ => isMask n p ∧ Drew H k l H') s := by
    intro s m at' hm0 hm1 ha' e0 e1 e5 eH
    refine mask_rest hn n m h0 h1 hm0 hm1 k l at' ha' hl s e0 e1 e5 (by rw [eH]; simp) fun s' ⟨a2, ha2, hs'⟩ hq => ?_
    simp
    exact wF_of ⟨hq, a2, ha2, by rw [hs', eH, upd_upd]⟩
  refine wB_of (fun c => ?_) (fun c => ?_)
  · refine wCall_draw (hn 16 (by omega) (by omega)) ha1 hl (by simp) (.inr rfl) fun p at2 nx2 hp ha2 => ?_
    obtain ⟨v2, rfl, hv21, hv22⟩ := hp
    simp
    have e : IntKind.u64.wrap v2 = v2 := by rw [IntKind.wrap_u64]; omega
    exact fin' _ v2 at2 hv21 (by omega) ha2 (by simp) (by simp) (by simp [e]) (by simp [upd_upd])
  · refine wB_of (fun c => ?_) (fun c => ?_)
    · refine wCall_draw (hn 65536 (by omega) (by omega)) ha1 hl (by simp) (.inr rfl) fun p at2 nx2 hp ha2 => ?_
      obtain ⟨v2, rfl, hv21, hv22⟩ := hp
      simp
      refine wCall_draw (hn 65536 (by omega) (by omega)) ha2 hl (by simp) (.inr rfl) fun p at3 nx3 hp ha3 => ?_
      obtain ⟨v3, rfl, hv31, hv32⟩ := hp
      simp
      refine fin' _ _ at3 ?_ ?_ ha3 (by simp) (by simp) (by simp; rfl) (by simp [upd_upd])
      · unfold bitsV; rw [IntKind.wrap_u64]; omega
      · unfold bitsV; rw [IntKind.wrap_u64]; omega
    · refine wB_of (fun c => ?_) (fun c => ?_)
      · refine wCall_draw (hn 65536 (by omega) (by omega)) ha1 hl (by simp) (.inr rfl) fun p at2 nx2 hp ha2 => ?_
        obtain ⟨v2, rfl, hv21, hv22⟩ := hp
        simp [unV]
        refine fin' _ _ at2 ?_ ?_ ha2 (by simp) (by simp) (by simp; rfl) (by simp [upd_upd])
        · unfold bitsV; rw [IntKind.wrap_u64]; omega
        · unfold bitsV; rw [IntKind.wrap_u64]; omega
      · exact fin' _ 0 at1 (by omega) (by omega) ha1 (by simp) (by simp) (by simp) (by simp [upd_upd])
end Go.PE
namespace Go.PE
open Go
@[congr] theorem wB_congr {o o2 : Option Bool} {A B : Prop} (h : o = o2) : wB o A B = wB o2 A B := by rw [h]
@[congr] theorem wO_congr {o o2 : Option Value} {d : Option Nat} {s : PS} {K : PS → Prop} (h : o = o2) : wO o d s K = wO o2 d s K := by rw [h]
@[congr] theorem wpr_congr {C : Known} {P : Program} {T : Nat → Prop} {n0 : Nat} {l : List PO} {s s2 : PS} {K : PS → Prop} (h : s = s2) : wpr C P T n0 l K s = wpr C P T n0 l K s2 := by rw [h]
@[congr] theorem wpq_congr {C : Known} {P : Program} {T : Nat → Prop} {n0 : Nat} {l : List PO} {s s2 : PS} {K : PS → Prop} (h : s = s2) : wpq C P T n0 l K s = wpq C P T n0 l K s2 := by rw [h]
@[congr] theorem wpt_congr {P : Program} {T : Nat → Prop} {n0 : Nat} {l : PT} {s s2 : PS} {K : PS → Prop} (h : s = s2) : wpt P T n0 l K s = wpt P T n0 l K s2 := by rw [h]
@[congr] theorem wpc_congr {C : Known} {P : Program} {T : Nat → Prop} {n0 : Nat} {l : PC} {s s2 : PS} {K : Ex → PS → Prop} (h : s = s2) : wpc C P T n0 l K s = wpc C P T n0 l K s2 := by rw [h]
/-- below nx the boxes are the same -/
def Own (nx : Nat) (H H' : Nat → Option (List Value)) : Prop := ∀ k, k < nx → H' k = H k
@[simp] theorem own_upd {nx k : Nat} {H H' : Nat → Option (List Value)} {r : Option (List Value)} (hk : nx ≤ k) : Own nx H (upd H' k r) = Own nx H H' := by
  apply propext
  constructor
  · intro h j hj; have := h j hj; rw [upd_ne _ _ (by omega)] at this; exact this
  · intro h j hj; rw [upd_ne _ _ (by omega)]; exact h j hj
@[simp] theorem own_refl (nx : Nat) (H : Nat → Option (List Value)) : Own nx H H := fun _ _ => rfl
theorem Own.sub {nx : Nat} {H H' : Nat → Option (List Value)} (h : Own nx H H') (hw : ∀ k, nx ≤ k → H k = none) : Sub nx H H' := fun k => by
  rcases Nat.lt_or_ge k nx with h1 | h1
  · exact .inl (h k h1).symm
  · exact .inr ⟨h1, hw k h1⟩
theorem wF_own {ps : List Value} {nx nx' : Nat} {R : Post} {H H' : Nat → Option (List Value)} (hw : ∀ k, nx ≤ k → H k = none) (h : Own nx H H') (hR : R (oneOr ps) H nx') : wF (some ps) nx R H' nx' :=
  wF_sub (h.sub hw) hR
attribute [simp] upd_upd
@[simp] theorem fitsL_nil : fitsL [] [] = true := _root_.id rfl
@[simp] theorem fitsL_cons (k : CK) (ks : List CK) (v : Value) (vs : List Value) : fitsL (k :: ks) (v :: vs) = (k.fits v && fitsL ks vs) := _root_.id rfl
@[simp] theorem fits_int (k k' : IntKind) (n : Int) : CK.fits (.int k) (.int k' n) = (k == k') := _root_.id rfl
@[simp] theorem fits_bool (b : Bool) : CK.fits .bool (.bool b) = true := _root_.id rfl
@[simp] theorem fits_string (b : ByteArray) : CK.fits .string (.string b) = true := _root_.id rfl
@[simp] theorem eqL_nil : eqL [] [] = true := _root_.id rfl
@[simp] theorem eqL_cons (x y : Value) (xs ys : List Value) : eqL (x :: xs) (y :: ys) = (eqC x y && eqL xs ys) := _root_.id rfl
@[simp] theorem eqC_int (k k' : IntKind) (a b : Int) : eqC (.int k a) (.int k' b) = (a == b) := _root_.id rfl
@[simp] theorem eqC_bool (a b : Bool) : eqC (.bool a) (.bool b) = (a == b) := _root_.id rfl
@[simp] theorem eqC_string (a b : ByteArray) : eqC (.string a) (.string b) = (a == b) := _root_.id rfl
theorem ba_beq_iff (a b : ByteArray) : (a == b) = true ↔ a = b := by
  constructor
  · intro h
    have : a.data = b.data := by
      have h2 : (a.data == b.data) = true := h
      exact eq_of_beq h2
    cases a; cases b; simp_all
  · intro h; subst h
    show (a.data == a.data) = true
    exact beq_self_eq_true _
instance baLawful : LawfulBEq ByteArray where
  eq_of_beq := fun h => (ba_beq_iff _ _).1 h
  rfl := (ba_beq_iff _ _).2 rfl
@[simp] theorem ba_toList (a b : ByteArray) : (a.toList == b.toList) = (a == b) := by
  rw [Bool.eq_iff_iff, ba_beq_iff, beq_iff_eq]
  constructor
  · intro h
    have := congrArg List.toArray h
    cases a; cases b
    simp [ByteArray.toList_eq] at *
    exact h
  · intro h; rw [h]
@[simp] theorem dg_clo (f : FuncId) (a b : List Value) : dg (clo f a b) = clo f a b := _root_.id rfl
@[simp] theorem dg1_clo (f : FuncId) (a b : List Value) : dg1 (clo f a b) = clo f a b := _root_.id rfl
@[simp] theorem dgT_clo (f : FuncId) (a b : List Value) : dgT (clo f a b) = clo f a b := _root_.id rfl
@[simp] theorem cellsOf_clo (f : FuncId) (a b : List Value) : cellsOf (clo f a b) = some [clo f a b] := _root_.id rfl
@[simp] theorem lc_clo (f : FuncId) (a b : List Value) : lc (clo f a b) = [clo f a b] := _root_.id rfl
@[simp] theorem dg1_nilFunc : dg1 .nilFunc = .nilFunc := _root_.id rfl
@[simp] theorem dg_nilFunc : dg .nilFunc = .nilFunc := _root_.id rfl
theorem dg1_id {v : Value} (h : ∀ xs c, v ≠ .func (.yield 1) xs c) : dg1 v = v := by
  unfold dg1
  split
  · exact absurd rfl (h _ _)
  · rfl
theorem dg1_dg1 (v : Value) : dg1 (dg1 v) = dg1 v := by
  by_cases h : ∃ xs c, v = .func (.yield 1) xs c
  · obtain ⟨xs, c, rfl⟩ := h
    rfl
  · have e := dg1_id (v := v) fun xs c hv => h ⟨xs, c, hv⟩
    rw [e, e]
@[simp] theorem dg1_comp : dg1 ∘ dg1 = dg1 := funext dg1_dg1
theorem Sub.upd {n0 k : Nat} {H1 H : Nat → Option (List Value)} {r : Option (List Value)} (h : Sub n0 H1 H) (hk : n0 ≤ k) (h1 : H1 k = none) : Sub n0 H1 (upd H k r) := fun j => by
  by_cases e : j = k
  · subst e; exact .inr ⟨hk, h1⟩
  · rw [upd_ne _ _ e]; exact h j
@[simp] theorem ba_empty_size : (⟨#[]⟩ : ByteArray).size = 0 := _root_.id rfl
@[simp] theorem dg_tup (l : List Value) : dg (tup l) = tup (l.map dg1) := _root_.id rfl
/-- what every contract says besides -/
theorem PCalls.more {P : Program} {f nx : Nat} {args : List Value} {H : Nat → Option (List Value)} {T : Nat → Prop} {R : Post} (h : PCalls P f args H nx T R) :
    PCalls P f args H nx T (fun p H' nx' => R p H' nx' ∧ nx ≤ nx' ∧ ∀ k, k < nx → ¬ T k → H' k = H k) := by
  intro G own vs hE hl hr
  refine (h G own vs hE hl hr).mono ?_
  rintro e w' ⟨v, p, G', own', H', nx', h1, h2, hL, hR⟩
  exact ⟨v, p, G', own', H', nx', h1, h2, hL, hR, hL.n0, hL.hh⟩
section
variable {P : Program} {T : Nat → Prop} {n0 f : Nat} {args : List Value} {d : Option Nat} {s : PS} {K : PS → Prop}
/-- a call of a function that writes no box of the caller's: where the boxes are as they were -/
theorem wCall_eq {Q : Value → Prop} (h : PCalls P f args s.H s.nx (fun _ => False) (fun p H' _ => Q p ∧ H' = s.H)) (hK : ∀ p nx', Q p → s.nx ≤ nx' → K ⟨(s.putO d p).t, s.H, nx'⟩) : wCall (PCalls P) T n0 f args d s K :=
  wCall_of h.more fun p H' nx' ⟨⟨hq, hH⟩, hn, _⟩ => by rw [hH]; exact hK p nx' hq hn
theorem wCall_le {R : Post} (h : PCalls P f args s.H s.nx (fun _ => False) R) (hK : ∀ p H' nx', R p H' nx' → s.nx ≤ nx' → Own s.nx s.H H' → K ⟨(s.putO d p).t, H', nx'⟩) : wCall (PCalls P) T n0 f args d s K :=
  wCall_of h.more fun p H' nx' ⟨hR, hn, ho⟩ => hK p H' nx' hR hn fun k hk => ho k hk (fun h => h)
theorem wCall_leT {R : Post} {T' : Nat → Prop} (h : PCalls P f args s.H s.nx T' R) (h1 : ∀ k, T' k → n0 ≤ k ∨ T k) (h2 : ∀ k row, T' k → s.H k = some row → rowNoLin row)
    (hK : ∀ p H' nx', R p H' nx' → s.nx ≤ nx' → K ⟨(s.putO d p).t, H', nx'⟩) : wCall (PCalls P) T n0 f args d s K :=
  wCall_ofT h.more h1 h2 fun p H' nx' ⟨hR, hn, _⟩ => hK p H' nx' hR hn
/-- a call that draws -/
theorem wCall_drawL {Q : Value → Prop} {k : Nat} {l : List Int} {at_ : Int} {as : List Value} (h : Draws P f as Q) (ha : 0 ≤ at_) (hl : l.length ≤ maxLen)
    (hk : s.H k = some (dk l at_)) (hT : n0 ≤ k ∨ T k) (hK : ∀ p at' nx', Q p → 0 ≤ at' → s.nx ≤ nx' → K ⟨(s.putO d p).t, upd s.H k (some (dk l at')), nx'⟩) : wCall (PCalls P) T n0 f (ptr k 0 :: as) d s K := by
  refine wCall_leT (h k l at_ ha hl s.H s.nx hk) (fun j hj => by subst hj; exact hT) (fun j row hj hr => ?_) fun p H' nx' ⟨hq, at', ha', hH⟩ hn => by rw [hH]; exact hK p at' nx' hq ha' hn
  subst hj
  rw [hk] at hr
  obtain rfl : dk l at_ = row := by simpa using hr
  exact dk_noLin l at_
end
theorem own_k {nx k : Nat} {H H' : Nat → Option (List Value)} {r : Option (List Value)} (h1 : H' k = r) (h2 : ∀ j, j < nx → j ≠ k → H' j = H j) : Own nx (upd H k r) H' := fun j hj => by
  by_cases e : j = k
  · subst e; simp [h1]
  · rw [upd_ne _ _ e]; exact h2 j hj e
theorem none_k {nx k : Nat} {H : Nat → Option (List Value)} {r : Option (List Value)} (hw : ∀ j, nx ≤ j → H j = none) (hk : k < nx) : ∀ j, nx ≤ j → upd H k r j = none := fun j hj => by
  rw [upd_ne _ _ (by omega)]; exact hw j hj
end Go.PE
namespace Go.PE
open Go
inductive FK where
  | int (k : IntKind)
  | bool
  | str
  | sl (e : Nat)
  deriving DecidableEq
def FKok (P : Program) : FK → Value → Prop
  | .int k, v => ∃ n : Int, v = .int k n ∧ k.min ≤ n ∧ n ≤ k.max
  | .bool, v => ∃ b : Bool, v = .bool b
  | .str, v => ∃ s : ByteArray, v = .string s ∧ s.size ≤ maxLen
  | .sl e, v => ∃ xs : List (List Value), v = deep (xs.map (toV P e)) ∧ xs.length ≤ maxLen ∧ ∀ x ∈ xs, PTy P e x
def fkAll (P : Program) : List FK → List Value → Prop
  | [], [] => True
  | k :: ks, v :: vs => FKok P k v ∧ fkAll P ks vs
  | _, _ => False
def flatF (P : Program) (rec : TypeId → Option (List FK)) : List Field → Nat → Option (List FK)
  | [], _ => some []
  | f :: fs, off => if f.offset = off then (match rec f.type with
    | some l => if P.cellsOf f.type = l.length then (flatF P rec fs (off + l.length)).map (l ++ ·) else none
    | none => none) else none
def flat (P : Program) : Nat → TypeId → Option (List FK)
  | 0, _ => none
  | d + 1, t => match P.underlying t with
    | some .bool => some [.bool]
    | some (.int k) => some [.int k]
    | some .string => some [.str]
    | some (.slice e) => some [.sl e]
    | some (.struct fs) => match flatF P (flat P d) fs.toList 0 with
      | some ks => if P.cellsOf t = ks.length then some ks else none
      | none => none
    | some (.array n e) => match flat P d e with
      | some l => if P.cellsOf e = l.length ∧ P.cellsOf t = n * l.length then some (List.replicate n l).flatten else none
      | none => none
    | _ => none
theorem fkAll_append {P : Program} : ∀ (l ks : List FK) (xs : List Value), fkAll P l (xs.take l.length) → fkAll P ks (xs.drop l.length) → fkAll P (l ++ ks) xs
  | [], ks, xs, _, h => by simpa using h
  | k :: l, ks, [], h, _ => by simp [fkAll] at h
  | k :: l, ks, x :: xs, h, h' => by
    simp only [List.length_cons, List.take_succ_cons, List.drop_succ_cons] at h h'
    exact ⟨h.1, fkAll_append l ks xs h.2 h'⟩
theorem flatF_ok {P : Program} {rec : TypeId → Option (List FK)} (hrec : ∀ t l cs, rec t = some l → PTy P t cs → fkAll P l cs) (cs : List Value) : ∀ (fs : List Field) (off : Nat) (ks : List FK), flatF P rec fs off = some ks →
    (∀ f ∈ fs, PTy P f.type ((cs.drop f.offset).take (P.cellsOf f.type))) → cs.length = off + ks.length → fkAll P ks (cs.drop off)
  | [], off, ks, h, _, hl => by
    obtain rfl : ([] : List FK) = ks := Option.some.inj h
    rw [List.drop_of_length_le (by simp at hl; omega)]
    trivial
  | f :: fs, off, ks, h, hf, hl => by
    unfold flatF at h
    split at h
    · rename_i ho
      split at h
      · rename_i l hr
        split at h
        · rename_i hc
          cases hk : flatF P rec fs (off + l.length) with
          | none => rw [hk] at h; cases h
          | some k2 =>
            rw [hk] at h
            obtain rfl : l ++ k2 = ks := by simpa using h
            have h1 := hrec _ _ _ hr (hf f (by simp))
            rw [ho, hc] at h1
            simp only [List.length_append] at hl
            have h2 := flatF_ok hrec cs fs (off + l.length) k2 hk (fun g hg => hf g (by simp [hg])) (by omega)
            exact fkAll_append _ _ _ h1 (by rw [List.drop_drop]; exact h2)
        · cases h
      · cases h
    · cases h
theorem fkRep {P : Program} {l : List FK} : ∀ (n : Nat) (cs : List Value), cs.length = n * l.length → (∀ i, i < n → fkAll P l ((cs.drop (i * l.length)).take l.length)) → fkAll P (List.replicate n l).flatten cs
  | 0, cs, hl, _ => by
    obtain rfl : cs = [] := List.length_eq_zero_iff.1 (by simpa using hl)
    trivial
  | n + 1, cs, hl, h => by
    rw [List.replicate_succ, List.flatten_cons]
    refine fkAll_append _ _ _ (by simpa using h 0 (by omega)) (fkRep n _ (by simp [hl, Nat.add_mul]) fun i hi => ?_)
    have := h (i + 1) (by omega)
    rw [List.drop_drop]
    rwa [Nat.add_mul, Nat.one_mul, Nat.add_comm] at this
theorem flat_ok {P : Program} : ∀ (d : Nat) (t : TypeId) (ks : List FK) (cs : List Value), flat P d t = some ks → PTy P t cs → fkAll P ks cs
  | 0, t, ks, cs, h, _ => by cases h
  | d + 1, t, ks, cs, h, hp => by
    unfold flat at h
    cases hp with
    | bool _ b hu => rw [hu] at h; obtain rfl := Option.some.inj h; exact ⟨⟨b, rfl⟩, trivial⟩
    | int _ k n hu hw => rw [hu] at h; obtain rfl := Option.some.inj h; rw [Lit.wf_int_iff] at hw; exact ⟨⟨n, rfl, hw.1, hw.2⟩, trivial⟩
    | str _ s hu hs => rw [hu] at h; obtain rfl := Option.some.inj h; exact ⟨⟨s, rfl, hs⟩, trivial⟩
    | slice _ e xs hu hl hx => rw [hu] at h; obtain rfl := Option.some.inj h; exact ⟨⟨xs, rfl, hl, hx⟩, trivial⟩
    | struct _ fs cs hu hl hf =>
      rw [hu] at h
      simp only at h
      split at h
      · rename_i k2 hk
        split at h
        · rename_i hc
          obtain rfl := Option.some.inj h
          have := flatF_ok (fun t l cs hr hp => flat_ok d t l cs hr hp) cs fs.toList 0 k2 hk (fun f hf2 => by
            obtain ⟨i, hi⟩ := List.getElem?_of_mem hf2
            exact hf i f (by simpa using hi)) (by omega)
          simpa using this
        · cases h
      · cases h
    | array _ n e cs hu hl hf =>
      rw [hu] at h
      simp only at h
      split at h
      · rename_i l hk
        split at h
        · rename_i hc
          obtain rfl := Option.some.inj h
          refine fkRep n cs (by rw [hl, hc.2]) fun i hi => ?_
          have := flat_ok d e l _ hk (hf i hi)
          rwa [hc.1] at this
        · cases h
      · cases h
theorem fk_cons {P : Program} {k : FK} {ks : List FK} {cs : List Value} (h : fkAll P (k :: ks) cs) : ∃ v vs, cs = v :: vs ∧ FKok P k v ∧ fkAll P ks vs := by
  cases cs with
  | nil => cases h
  | cons v vs => exact ⟨v, vs, rfl, h.1, h.2⟩
theorem fk_nil {P : Program} {cs : List Value} (h : fkAll P [] cs) : cs = [] := by
  cases cs with
  | nil => rfl
  | cons v vs => cases h
/-- the elements of a slice, each with a reading of one's own -/
theorem elems_of {α : Type} {P : Program} {e : Nat} (f : α → Value) (Q : α → Prop) (h : ∀ x, PTy P e x → ∃ a, toV P e x = f a ∧ Q a) : ∀ xs : List (List Value), (∀ x ∈ xs, PTy P e x) → ∃ l : List α, xs.map (toV P e) = l.map f ∧ l.length = xs.length ∧ ∀ a ∈ l, Q a
  | [], _ => ⟨[], rfl, rfl, by simp⟩
  | x :: xs, hx => by
    obtain ⟨a, ha, hq⟩ := h x (hx x (by simp))
    obtain ⟨l, hl, hn, hl2⟩ := elems_of f Q h xs fun y hy => hx y (by simp [hy])
    refine ⟨a :: l, by simp [ha, hl], by simp [hn], ?_⟩
    intro b hb
    simp only [List.mem_cons] at hb
    rcases hb with rfl | hb
    · exact hq
    · exact hl2 b hb
theorem toV_ag {P : Program} {t : Nat} {fs : Array Field} (h : P.underlying t = some (.struct fs)) (cs : List Value) : toV P t cs = ag cs := by simp [toV, h]
theorem toV_arr {P : Program} {t n e : Nat} (h : P.underlying t = some (.array n e)) (cs : List Value) : toV P t cs = ag cs := by simp [toV, h]
/-- an integer -/
theorem int_of {P : Program} {t : Nat} {k : IntKind} (h : P.underlying t = some (.int k)) {cs : List Value} (hp : PTy P t cs) : ∃ n : Int, toV P t cs = .int k n ∧ k.min ≤ n ∧ n ≤ k.max := by
  have hf : flat P 1 t = some [.int k] := by simp [flat, h]
  obtain ⟨v, vs, rfl, ⟨n, rfl, h1, h2⟩, hn⟩ := fk_cons (flat_ok 1 t _ cs hf hp)
  obtain rfl := fk_nil hn
  exact ⟨n, by simp [toV, h], h1, h2⟩
theorem bool_of {P : Program} {t : Nat} (h : P.underlying t = some .bool) {cs : List Value} (hp : PTy P t cs) : ∃ b : Bool, toV P t cs = .bool b := by
  have hf : flat P 1 t = some [.bool] := by simp [flat, h]
  obtain ⟨v, vs, rfl, ⟨n, rfl⟩, hn⟩ := fk_cons (flat_ok 1 t _ cs hf hp)
  obtain rfl := fk_nil hn
  exact ⟨n, by simp [toV, h]⟩
theorem str_of {P : Program} {t : Nat} (h : P.underlying t = some .string) {cs : List Value} (hp : PTy P t cs) : ∃ s : ByteArray, toV P t cs = .string s ∧ s.size ≤ maxLen := by
  have hf : flat P 1 t = some [.str] := by simp [flat, h]
  obtain ⟨v, vs, rfl, ⟨n, rfl, hs⟩, hn⟩ := fk_cons (flat_ok 1 t _ cs hf hp)
  obtain rfl := fk_nil hn
  exact ⟨n, by simp [toV, h], hs⟩
/-- a slice -/
theorem slice_of {α : Type} {P : Program} {t e : Nat} (h : P.underlying t = some (.slice e)) (f : α → Value) (Q : α → Prop) (he : ∀ x, PTy P e x → ∃ a, toV P e x = f a ∧ Q a) {cs : List Value} (hp : PTy P t cs) :
    ∃ l : List α, toV P t cs = deep (l.map f) ∧ l.length ≤ maxLen ∧ ∀ a ∈ l, Q a := by
  have hf : flat P 1 t = some [.sl e] := by simp [flat, h]
  obtain ⟨v, vs, rfl, ⟨xs, rfl, hl, hx⟩, hn⟩ := fk_cons (flat_ok 1 t _ cs hf hp)
  obtain rfl := fk_nil hn
  obtain ⟨l, h1, h2, h3⟩ := elems_of f Q he xs hx
  exact ⟨l, by simp [toV, h, h1], by omega, h3⟩
theorem ints_of {P : Program} {t e : Nat} {k : IntKind} (h : P.underlying t = some (.slice e)) (he : P.underlying e = some (.int k)) {cs : List Value} (hp : PTy P t cs) :
    ∃ l : List Int, toV P t cs = deep (l.map (.int k)) ∧ l.length ≤ maxLen ∧ ∀ a ∈ l, k.min ≤ a ∧ a ≤ k.max := by
  refine slice_of h (.int k) (fun a => k.min ≤ a ∧ a ≤ k.max) (fun x hx => ?_) hp
  obtain ⟨n, h1, h2, h3⟩ := int_of he hx
  exact ⟨n, h1, h2, h3⟩
end Go.PE
namespace Go.PE
open Go
section
variable {α : Type} (f : α → List Value) (size : Nat) (hf : ∀ a, (f a).length = size) (rest : List Value)
include hf
theorem fl_len (l : List α) : (l.flatMap f).length = l.length * size := flat_len f l fun x _ => hf x
theorem fl_split {l : List α} {i : Nat} (hi : i < l.length) : l.flatMap f ++ rest = (l.take i).flatMap f ++ (f l[i] ++ ((l.drop (i + 1)).flatMap f ++ rest)) ∧ ((l.take i).flatMap f).length = i * size := by
  refine ⟨?_, by rw [fl_len f size hf, List.length_take]; congr 1; omega⟩
  have e : l = l.take i ++ l[i] :: l.drop (i + 1) := by rw [← List.drop_eq_getElem_cons hi, List.take_append_drop]
  have e2 : l.flatMap f = (l.take i).flatMap f ++ (f l[i] ++ (l.drop (i + 1)).flatMap f) := by
    conv => lhs; rw [e]
    rw [List.flatMap_append, List.flatMap_cons]
  rw [e2, List.append_assoc, List.append_assoc]
theorem fl_cut {l : List α} {i o n : Nat} (hi : i < l.length) (ho : o + n ≤ size) : ((l.flatMap f ++ rest).drop (i * size + o)).take n = ((f l[i]).drop o).take n := by
  obtain ⟨h1, h2⟩ := fl_split f size hf rest hi
  have hl := hf l[i]
  rw [h1, List.drop_append, List.drop_of_length_le (by omega), List.nil_append, h2, Nat.add_sub_cancel_left, List.drop_append_of_le_length (by omega), List.take_append_of_le_length (by rw [List.length_drop]; omega)]
theorem fl_get {l : List α} {i o : Nat} (hi : i < l.length) (ho : o < size) : (l.flatMap f ++ rest)[i * size + o]? = (f l[i])[o]? := by
  obtain ⟨h1, h2⟩ := fl_split f size hf rest hi
  rw [h1, List.getElem?_append_right (by omega), h2, Nat.add_sub_cancel_left, List.getElem?_append_left (by rw [hf]; exact ho)]
theorem fl_set {l : List α} {i o : Nat} {vs : List Value} {a : α} (hi : i < l.length) (ho : o + vs.length ≤ size) (ha : f a = (f l[i]).take o ++ vs ++ (f l[i]).drop (o + vs.length)) :
    (l.flatMap f ++ rest).take (i * size + o) ++ vs ++ (l.flatMap f ++ rest).drop (i * size + o + vs.length) = (l.set i a).flatMap f ++ rest := by
  obtain ⟨h1, h2⟩ := fl_split f size hf rest hi
  have hi' : i < (l.set i a).length := by simpa using hi
  obtain ⟨h3, _⟩ := fl_split f size hf rest hi'
  rw [h3, h1]
  have e1 : (l.set i a)[i] = a := by simp
  have e2 : (l.set i a).take i = l.take i := by rw [List.take_set, List.set_eq_of_length_le (by simp; omega)]
  have e3 : (l.set i a).drop (i + 1) = l.drop (i + 1) := by rw [List.drop_set_of_lt (by omega)]
  rw [e1, e2, e3, ha]
  have hfl := hf l[i]
  rw [List.take_append, h2, List.take_of_length_le (by omega), Nat.add_sub_cancel_left, List.take_append_of_le_length (by omega)]
  rw [List.drop_append, List.drop_of_length_le (by omega), List.nil_append, h2, Nat.add_assoc, Nat.add_sub_cancel_left, List.drop_append_of_le_length (by omega)]
  simp [List.append_assoc]
end
theorem mid_get {row : List Value} {o : Nat} (h : o + 1 ≤ row.length) (x : Value) (t : List Value) : (row.take o ++ x :: t)[o]? = some x := by
  rw [List.getElem?_append_right (by rw [List.length_take]; omega), List.length_take, Nat.min_eq_left (by omega), Nat.sub_self]; rfl
/-- a pure list whose elements lie in a box -/
theorem Cv1_list {α : Type} (f : α → List Value) (g : α → Value) (hg : ∀ a, lc (g a) = f a) (size : Nat) (hf : ∀ a, (f a).length = size) (hd : ∀ a, (f a).map dg1 = f a) {n0 : Nat} {H H1 : Nat → Option (List Value)} {k cap : Nat} {l : List α} {rest : List Value}
    (hk : H k = some (l.flatMap f ++ rest)) (h1 : H1 k = none) (hn : n0 ≤ k) (hc : cap ≤ maxLen) : Cv1 n0 H H1 (slc k 0 l.length cap) (deep (l.map g)) := by
  refine .inr ⟨k, 0, l.length, cap, size, _, l.map g, rfl, rfl, hk, h1, hn, hc, by simp, ?_, fun i x hx => ?_⟩
  · rw [List.length_append, fl_len f size hf]; omega
  · rw [List.getElem?_map] at hx
    obtain ⟨a, ha, rfl⟩ := Option.map_eq_some_iff.1 hx
    have hi := (List.getElem?_eq_some_iff.1 ha).1
    have ha' := (List.getElem?_eq_some_iff.1 ha).2
    have := fl_cut f size hf rest (i := i) (o := 0) (n := size) hi (by omega)
    rw [Nat.add_zero] at this
    rw [hg, Nat.zero_add, this, List.drop_zero, List.take_of_length_le (by rw [hf]; omega), ha', hd]
/-- a result, frozen -/
def CvT (n0 : Nat) (H H1 : Nat → Option (List Value)) (p p' : Value) : Prop := Cv n0 H H1 p p' ∨ ∃ l l', p = tup l ∧ p' = tup l' ∧ Cvs n0 H H1 l l'
theorem tup_rd {G : Gh} {v : Value} {l : List Value} (h : Rd G v (tup l)) : ∃ vs, v = tup vs ∧ vs.length = l.length ∧ ∀ (i : Nat) v p, vs[i]? = some v → l[i]? = some p → Rd G v p := by
  generalize hq : tup l = P at h
  cases h with
  | tuple vs ps hl hr =>
    obtain rfl : l = ps := by simpa [tup] using hq
    exact ⟨vs, rfl, hl, hr⟩
  | scal v h => subst hq; simp [tup, PE.scal] at h
  | _ => simp [tup, PE.ptr, PE.deep, PE.lin, PE.dptr, ag, PE.slc, PE.clo, PE.ns] at hq
theorem PCalls.frz {P : Program} {f nx : Nat} {args : List Value} {H : Nat → Option (List Value)} {T : Nat → Prop} {R R' : Post} (h : PCalls P f args H nx T R)
    (hR : ∀ p H' nx', R p H' nx' → ∃ H1 p', Sub nx H1 H' ∧ CvT nx H' H1 p p' ∧ R' p' H1 nx') : PCalls P f args H nx T R' := by
  intro G own vs hE hl hr
  refine (h G own vs hE hl hr).mono ?_
  rintro e w' ⟨v, p, G', own', H', nx', rfl, rfl, hL, hRR⟩
  obtain ⟨H1, p', hsub, hcv, hR1⟩ := hR p H' nx' hRR
  obtain ⟨hb, hext, htok⟩ := hL.toBase.freeze hsub
  refine ⟨v, p', PE.frz G' H1, own', H1, nx', rfl, rfl, ⟨hb, ?_, ?_, ?_⟩, hR1⟩
  · rcases hcv with hcv | ⟨l, l', rfl, rfl, hcv⟩
    · exact Cv_rd hL.toBase hsub hL.res hcv
    · obtain ⟨vs', rfl, hvl, hvr⟩ := tup_rd hL.res
      refine .tuple vs' l' (by rw [hvl]; exact hcv.1) fun i v p hv hp => ?_
      have hi : i < l.length := by rw [← hvl]; exact (List.getElem?_eq_some_iff.1 hv).1
      exact Cv_rd hL.toBase hsub (hvr i v _ hv (List.getElem?_eq_getElem hi)) (hcv.2 i _ p (List.getElem?_eq_getElem hi) hp)
  · intro e xs hp
    rcases hcv with (hcv | ⟨l, l', rfl, rfl, _⟩) | ⟨l, l', rfl, rfl, hcv⟩
    · exact htok (hL.rtok e xs (Cv1_noLin hcv e xs hp))
    · simp [ag, lin] at hp
    · simp [tup, lin] at hp
  · intro i e xs hp
    rcases hcv with (hcv | ⟨l, l', rfl, rfl, _⟩) | ⟨l, l', rfl, rfl, hcv⟩
    · rcases hcv with rfl | ⟨k, off, n, cap, size, row, ys, rfl, rfl, _⟩
      · exact htok (hL.ptok i e xs hp)
      · simp [comp, deep, undef, lin] at hp
    · simp [comp, ag, undef, lin] at hp
    · rw [comp_tup] at hp
      have hpi := getD_some hp (lin_ne_undef _ _)
      have hi : i < l.length := by rw [hcv.1]; exact (List.getElem?_eq_some_iff.1 hpi).1
      refine htok (hL.ptok i e xs ?_)
      rw [comp_tup, List.getD_eq_getElem?_getD, List.getElem?_eq_getElem hi]
      rcases hcv.2 i _ _ (List.getElem?_eq_getElem hi) hpi with hc | ⟨m, m', _, hc, _⟩
      · exact Cv1_noLin hc e xs rfl
      · simp [ag, lin] at hc
end Go.PE
namespace Go.PE
open Go
@[simp] theorem dg_dg (v : Value) : dg (dg v) = dg v := by
  cases v
  case tuple vs => simp [dg, Function.comp_def, dg1_dg1]
  case func fn a b =>
    have e : dg (dg1 (.func fn a b)) = dg1 (dg1 (.func fn a b)) := by
      generalize hw : dg1 (.func fn a b) = w
      unfold dg1 at hw; split at hw <;> subst hw <;> rfl
    exact e.trans (dg1_dg1 _)
  all_goals rfl
structure El (α : Type) where
  f : α → List Value
  g : α → Value
  size : Nat
  hg : ∀ a, lc (g a) = f a
  hf : ∀ a, (f a).length = size
  hd : ∀ a, (f a).map dg1 = f a
section
variable {α : Type} (E : El α)
/-- v holds the list m: in a box of its own, or as a slice without room -/
def Bx (n0 : Nat) (H0 H : Nat → Option (List Value)) (nx : Nat) (v : Value) (m : List α) : Prop :=
  Own n0 H0 H ∧ n0 ≤ nx ∧ ((v = ns [] ∧ m = []) ∨ ∃ k cap rest, v = slc k 0 m.length cap ∧ n0 ≤ k ∧ k < nx ∧ H k = some (m.flatMap E.f ++ rest) ∧ m.length * E.size + rest.length = cap * E.size ∧ m.length ≤ cap ∧ cap ≤ maxLen)
variable {E}
variable {n0 : Nat} {H0 H : Nat → Option (List Value)} {nx : Nat} {v : Value} {m : List α}
theorem El.dgs (l : List α) : (l.flatMap E.f).map dg1 = l.flatMap E.f := by
  induction l with
  | nil => rfl
  | cons a l ih => rw [List.flatMap_cons, List.map_append, ih, E.hd]
theorem El.lcs (l : List α) : (l.map E.g).flatMap lc = l.flatMap E.f := by
  induction l with
  | nil => rfl
  | cons a l ih => rw [List.map_cons, List.flatMap_cons, List.flatMap_cons, ih, E.hg]
theorem El.src (H : Nat → Option (List Value)) (l : List α) : srcV H (deep (l.map E.g)) E.size = some (l.length, l.flatMap E.f) := by
  rw [srcV_deep H (fun x hx => by obtain ⟨a, _, rfl⟩ := List.mem_map.1 hx; rw [E.hg, E.hf]), E.lcs, E.dgs, List.length_map]
theorem El.len (l : List α) : (l.flatMap E.f).length = l.length * E.size := fl_len E.f E.size E.hf l
theorem flat_rep_len (n : Nat) (zero : List Value) : (List.replicate n zero).flatten.length = n * zero.length := by
  induction n with
  | zero => simp
  | succ n ih => rw [List.replicate_succ, List.flatten_cons, List.length_append, ih, Nat.succ_mul]; omega
theorem Bx.own (h : Bx E n0 H0 H nx v m) : Own n0 H0 H := h.1
theorem Bx.le (h : Bx E n0 H0 H nx v m) : n0 ≤ nx := h.2.1
theorem Bx.nil (h1 : Own n0 H0 H) (h2 : n0 ≤ nx) : Bx E n0 H0 H nx (ns []) [] := ⟨h1, h2, .inl ⟨rfl, rfl⟩⟩
theorem Bx.mo (h : Bx E n0 H0 H nx v m) {nx' : Nat} (hn : nx ≤ nx') : Bx E n0 H0 H nx' v m := by
  obtain ⟨h1, h2, h3⟩ := h
  refine ⟨h1, by omega, h3.imp id ?_⟩
  rintro ⟨k, cap, rest, a1, a2, a3, a4⟩
  exact ⟨k, cap, rest, a1, a2, by omega, a4⟩
theorem Bx.at (h : Bx E n0 H0 H nx v m) (hm : 0 < m.length) : ∃ k cap rest, v = slc k 0 m.length cap ∧ n0 ≤ k ∧ k < nx ∧ H k = some (m.flatMap E.f ++ rest) ∧ m.length * E.size + rest.length = cap * E.size ∧ m.length ≤ cap ∧ cap ≤ maxLen := by
  rcases h.2.2 with ⟨_, h2⟩ | h
  · subst h2; simp at hm
  · exact h
theorem Bx.len (h : Bx E n0 H0 H nx v m) : lenV (dg v) = some m.length := by
  rcases h.2.2 with ⟨rfl, rfl⟩ | ⟨k, cap, rest, rfl, _⟩
  · simp
  · simp
theorem Bx.set {k cap i o : Nat} {rest vs : List Value} {a : α} (h1 : Own n0 H0 H) (h2 : n0 ≤ k) (h3 : k < nx) (h4 : m.length * E.size + rest.length = cap * E.size) (h5 : m.length ≤ cap) (h6 : cap ≤ maxLen)
    (hi : i < m.length) (ho : o + vs.length ≤ E.size) (ha : E.f a = (E.f m[i]).take o ++ vs ++ (E.f m[i]).drop (o + vs.length)) {row : List Value}
    (hr : row = (m.flatMap E.f ++ rest).take (i * E.size + o) ++ vs ++ (m.flatMap E.f ++ rest).drop (i * E.size + o + vs.length)) : Bx E n0 H0 (upd H k (some row)) nx (slc k 0 m.length cap) (m.set i a) := by
  refine ⟨by rw [own_upd h2]; exact h1, by omega, .inr ⟨k, cap, rest, by simp, h2, h3, ?_, by simpa using h4, by simpa using h5, h6⟩⟩
  rw [upd_same, hr, fl_set E.f E.size E.hf rest hi ho ha]
variable {C : Known} {P : Program} {T : Nat → Prop} {f : Nat} {d : Option Nat} {s : PS} {K : PS → Prop}
theorem Bx.app {l : List α} {size bytes : Nat} {zero : List Value} (h : Bx E n0 H0 s.H s.nx v m) (hsz : size = E.size) (hz : zero.length = E.size) (hm : m.length + l.length ≤ maxLen) (hb : (m.length + l.length) * bytes ≤ 140737488355328)
    (hK : ∀ v' H' nx', Bx E n0 H0 H' nx' v' (m ++ l) → K ⟨(s.putO d v').t, H', nx'⟩) : wAppB T n0 v (srcV s.H (deep (l.map E.g)) size) size bytes zero d s K := by
  subst hsz
  rw [El.src]
  obtain ⟨h1, h2, ⟨rfl, rfl⟩ | ⟨k, cap, rest, rfl, a2, a3, a4, a5, a6, a7⟩⟩ := h
  · refine wAppB_ns (by simp) (by simpa using hm) (by simpa using hb) (fun h0 => ?_) (fun h0 cap hc1 hc2 => ?_)
    · have : l = [] := List.length_eq_zero_iff.1 h0
      subst this
      exact hK _ _ _ ⟨h1, h2, .inl ⟨rfl, rfl⟩⟩
    · refine hK _ _ _ ⟨by rw [own_upd h2]; exact h1, by omega, .inr ⟨s.nx, cap, (List.replicate (cap - l.length) zero).flatten, by simp, h2, by omega, ?_, ?_, by simpa using hc1, hc2⟩⟩
      · rw [upd_same]; simp
      · rw [flat_rep_len, hz]
        simp only [List.length_nil, Nat.zero_add] at hc1
        rw [List.nil_append, ← Nat.add_mul]; congr 1; omega
  · have hl := El.len (E := E) m
    have hl2 := El.len (E := E) l
    refine wAppB_slc a4 (by rw [List.length_append, hl]; omega) a6 (.inr a2) hm hb (fun hc => ?_) (fun hc cap' hc1 hc2 => ?_)
    · refine hK _ _ _ ⟨by rw [own_upd a2]; exact h1, h2, .inr ⟨k, cap, rest.drop (l.length * E.size), by simp, a2, a3, ?_, ?_, by simpa using hc, a7⟩⟩
      · rw [upd_same, Nat.zero_add, Nat.zero_add, Nat.add_mul, ← hl, List.take_left', List.flatMap_append, List.drop_append, List.drop_of_length_le (by omega), List.nil_append, Nat.add_sub_cancel_left]
        rfl
      · rw [List.length_drop, List.length_append, Nat.add_mul]
        have : (m.length + l.length) * E.size ≤ cap * E.size := Nat.mul_le_mul_right _ hc
        rw [Nat.add_mul] at this; omega
    · refine hK _ _ _ ⟨by rw [own_upd h2]; exact h1, by omega, .inr ⟨s.nx, cap', (List.replicate (cap' - (m.length + l.length)) zero).flatten, by simp, h2, by omega, ?_, ?_, by simpa using hc1, hc2⟩⟩
      · rw [upd_same, List.drop_zero, ← hl, List.take_left', El.dgs, List.flatMap_append]
        rfl
      · rw [flat_rep_len, hz, List.length_append, ← Nat.add_mul]; congr 1; omega
theorem Bx.cpy {k cap : Nat} {l : List α} {size : Nat} {zero : List Value} (hsz : size = E.size) (hz : zero.length = E.size) (h1 : Own n0 H0 s.H) (h2 : n0 ≤ k) (h3 : k < s.nx) (hk : s.H k = some (List.replicate cap zero).flatten) (hc : l.length ≤ cap) (hc' : cap ≤ maxLen)
    (hK : ∀ H', Bx E n0 H0 H' s.nx (slc k 0 l.length cap) l → K ⟨(s.putO d (.int .i64 l.length)).t, H', s.nx⟩) : wCpy T n0 (slc k 0 l.length cap) (srcV s.H (deep (l.map E.g)) size) size d s K := by
  subst hsz
  rw [El.src]
  have hl := El.len (E := E) l
  have hle : l.length * E.size ≤ cap * E.size := Nat.mul_le_mul_right _ hc
  refine wCpy_of hk (by rw [flat_rep_len, hz]; omega) (.inr h2) ?_
  rw [Nat.min_self]
  refine hK _ ⟨by rw [own_upd h2]; exact h1, by omega, .inr ⟨k, cap, (List.replicate cap zero).flatten.drop (l.length * E.size), rfl, h2, h3, ?_, ?_, hc, hc'⟩⟩
  · rw [upd_same, List.take_zero, List.nil_append, Nat.zero_add, List.take_of_length_le (by omega)]
  · rw [List.length_drop, flat_rep_len, hz]; omega
/-- a call that borrows it -/
theorem Bx.call {as : List Value} {w : Value} (h : Bx E n0 H0 s.H s.nx v m) (hm : m.length ≤ maxLen) (hw : plain w = true)
    (hc : ∀ H1, PCalls P f (deep (m.map E.g) :: as) H1 s.nx (fun _ => False) (fun p _ _ => p = w)) (hK : K (s.putO d w)) : wCallB (PCalls P) T n0 f (dg v :: as) d s K := by
  obtain ⟨h1, h2, ⟨rfl, rfl⟩ | ⟨k, cap, rest, rfl, a2, a3, a4, a5, a6, a7⟩⟩ := h
  · exact ⟨s.H, _, Sub_refl _ _, Cvs_refl _ _ _ _, .inr ⟨w, hw, hc s.H, hK⟩⟩
  · refine ⟨upd s.H k none, deep (m.map E.g) :: as, fun j => ?_, ⟨rfl, fun i a b ha hb => ?_⟩, .inr ⟨w, hw, hc _, hK⟩⟩
    · by_cases e : j = k
      · subst e; exact .inr ⟨a2, upd_same _ _ _⟩
      · exact .inl (upd_ne _ _ e)
    · cases i with
      | zero =>
        simp at ha hb; subst ha; subst hb
        exact .inl (Cv1_list E.f E.g E.hg E.size E.hf E.hd a4 (upd_same _ _ _) a2 a7)
      | succ i =>
        simp at ha hb; rw [ha] at hb
        exact .inl (.inl (Option.some.inj hb).symm)
/-- the end: it is frozen -/
theorem Bx.fin {w : Value} {R : Post} (h : Bx E n0 H0 H nx v m) (hw : ∀ k, n0 ≤ k → H0 k = none) (hR : ∀ v', (v' = ns [] ∧ m = [] ∨ v' = deep (m.map E.g)) → R (tup [v', w]) H0 nx) : wF (some [v, w]) n0 R H nx := by
  obtain ⟨h1, h2, ⟨rfl, rfl⟩ | ⟨k, cap, rest, rfl, a2, a3, a4, a5, a6, a7⟩⟩ := h
  · exact wF_own hw h1 (hR _ (.inl ⟨rfl, rfl⟩))
  · refine ⟨_, rfl, H0, [deep (m.map E.g), w], h1.sub hw, ⟨rfl, fun i a b ha hb => ?_⟩, hR _ (.inr rfl)⟩
    cases i with
    | zero =>
      simp at ha hb; subst ha; subst hb
      exact .inl (Cv1_list E.f E.g E.hg E.size E.hf E.hd a4 (hw k a2) a2 a7)
    | succ i =>
      simp at ha hb; rw [ha] at hb
      exact .inl (.inl (Option.some.inj hb).symm)
theorem Bx.rebase {n1 : Nat} {H1 : Nat → Option (List Value)} (h : Bx E n0 H0 H nx v m) (hn : n1 ≤ n0) (ho : Own n1 H1 H) : Bx E n1 H1 H nx v m := by
  obtain ⟨h1, h2, h3⟩ := h
  refine ⟨ho, by omega, h3.imp id ?_⟩
  rintro ⟨k, cap, rest, a1, a2, a3, a4⟩
  exact ⟨k, cap, rest, a1, by omega, a3, a4⟩
theorem Bx.draw {kd nx' : Nat} {r : Option (List Value)} (h : Bx E n0 H0 H nx v m) (hk : kd < n0) (hn : nx ≤ nx') : Bx E n0 (upd H0 kd r) (upd H kd r) nx' v m := by
  obtain ⟨h1, h2, h3⟩ := h
  refine ⟨fun j hj => ?_, by omega, h3.imp id ?_⟩
  · by_cases e : j = kd
    · subst e; simp
    · rw [upd_ne _ _ e, upd_ne _ _ e]; exact h1 j hj
  · rintro ⟨k, cap, rest, a1, a2, a3, a4, a5⟩
    exact ⟨k, cap, rest, a1, a2, by omega, by rw [upd_ne _ _ (by omega)]; exact a4, a5⟩
theorem Bx.fin1 {R : Post} (h : Bx E n0 H0 H nx v m) (hw : ∀ k, n0 ≤ k → H0 k = none) (hR : ∀ v', (v' = ns [] ∧ m = [] ∨ v' = deep (m.map E.g)) → R v' H0 nx) : wF (some [v]) n0 R H nx := by
  obtain ⟨h1, h2, ⟨rfl, rfl⟩ | ⟨k, cap, rest, rfl, a2, a3, a4, a5, a6, a7⟩⟩ := h
  · exact wF_own hw h1 (hR _ (.inl ⟨rfl, rfl⟩))
  · refine ⟨_, rfl, H0, [deep (m.map E.g)], h1.sub hw, ⟨rfl, fun i a b ha hb => ?_⟩, hR _ (.inr rfl)⟩
    cases i with
    | zero =>
      simp at ha hb; subst ha; subst hb
      exact .inl (Cv1_list E.f E.g E.hg E.size E.hf E.hd a4 (hw k a2) a2 a7)
    | succ i => simp at ha
end
theorem sts_of {C : Known} {P : Program} {T : Nat → Prop} {n0 : Nat} {x : Operand} {t k off e : Nat} {row xs : List Value} {s : PS} {K : PS → Prop} (hx : s.ev x = ptr k off) (hk : s.H k = some row) (ho : off < row.length) (hT : T k ∨ n0 ≤ k) (ht : s.t t = lin e xs)
    (h : K ⟨upd s.t t (deep xs), upd s.H k (some (row.set off (lin e xs))), s.nx⟩) : PE.step C P T n0 none (.sts x t) s K := by
  refine ⟨k, off, row, hx, hk, ho, hT, fun ps h => ?_, fun ps h => ?_, ?_⟩
  · rw [ht] at h; cases h
  · rw [ht] at h; cases h
  · rw [ht]; exact h
end Go.PE
namespace Go.PE
open Go
/-- macaroon/macaroonmade.New: 6 slots, results [(.t 2)] -/
def made_NewC : PC :=
  (.seq (.reg [((some 2), (none, (.mv (.const (.pointer none)))))])
  (.seq (.reg [((some 3), (none, (.mv (.tmp 0)))),
    ((some 4), (none, (.build [(.inr ((.tmp 3), 1)), (.inl [(.int .i64 0)])]))),
    ((some 5), (none, (.box 2 (.tmp 4)))),
    ((some 2), (none, (.mv (.tmp 5))))])
  .ret))
/-- (*macaroon/macaroonmade.Deck).Context: 15 slots, results [(.cA 2 4)] -/
def made_Deck_ContextC (f_made_Deck_Next : Nat) (f_made_Deck_Range : Nat) (f_made_Deck_Minute : Nat) (f_made_Deck_Name : Nat) : PC :=
  (.seq (.reg [((some 2), (none, (.alloc [(.int .i64 0), (.int .i64 0), (.int .i64 0), (.string ⟨#[]⟩)])))])
  (.seq (.reg [((some 3), (none, (.mv (.tmp 0)))),
    ((some 4), (none, (.call f_made_Deck_Next [(.tmp 3), (.const (.int .i64 4))]))),
    ((some 5), (none, (.mv (.tmp 0)))),
    ((some 6), (none, (.call f_made_Deck_Range [(.tmp 5), (.const (.int .i64 1)), (.const (.int .i64 21))]))),
    ((some 7), (none, (.bi .mul (.tmp 4) (.tmp 6)))),
    ((some 8), (none, (.mv (.tmp 0)))),
    ((some 9), (none, (.call f_made_Deck_Next [(.tmp 8), (.const (.int .i64 32))]))),
    ((some 10), (none, (.mv (.tmp 0)))),
    ((some 11), (none, (.call f_made_Deck_Minute [(.tmp 10)]))),
    ((some 12), (none, (.mv (.tmp 0)))),
    ((some 13), (none, (.call f_made_Deck_Name [(.tmp 12)]))),
    ((some 14), (none, (.build [(.inr ((.tmp 7), 1)), (.inr ((.tmp 9), 1)), (.inr ((.tmp 11), 1)), (.inr ((.tmp 13), 1))]))),
    (none, (none, (.st 4 (.tmp 2) (.tmp 14))))])
  .ret))
/-- macaroon/macaroonmade.Within: 12 slots, results [(.t 4)] -/
def made_WithinC : PC :=
  (.seq (.reg [((some 4), (none, (.mv (.const (.int .i64 0)))))])
  (.seq (.reg [((some 5), (none, (.mv (.tmp 0)))),
    ((some 6), (none, (.mv (.tmp 1)))),
    ((some 7), (none, (.bi .rem (.tmp 5) (.tmp 6)))),
    ((some 8), (none, (.mv (.tmp 1)))),
    ((some 9), (none, (.bi .add (.tmp 7) (.tmp 8)))),
    ((some 10), (none, (.mv (.tmp 1)))),
    ((some 11), (none, (.bi .rem (.tmp 9) (.tmp 10)))),
    ((some 4), (none, (.mv (.tmp 11))))])
  .ret))
/-- macaroon/holds.Valid: 37 slots, results [(.t 2)] -/
def holds_ValidC (f_predicate_Valid : Nat) : PC :=
  (.seq (.reg [((some 1), (none, (.box 4 (.tmp 0)))),
    ((some 2), (none, (.mv (.const (.bool false)))))])
  (.seq (.reg [((some 3), (none, (.fa 0 (.tmp 1)))),
    ((some 4), (none, (.ld false (.tmp 3)))),
    ((some 5), (none, (.bi .geq (.tmp 4) (.const (.int .i64 0))))),
    ((some 6), (none, (.mv (.tmp 5)))),
    ((some 7), ((some (6, true)), (.fa 0 (.tmp 1)))),
    ((some 8), ((some (6, true)), (.ld false (.tmp 7)))),
    ((some 9), ((some (6, true)), (.bi .leq (.tmp 8) (.const (.int .i64 63))))),
    ((some 10), (none, (.pick (.tmp 6) (.tmp 9) (.const (.bool false))))),
    ((some 11), (none, (.mv (.tmp 10)))),
    ((some 12), ((some (11, true)), (.fa 1 (.tmp 1)))),
    ((some 13), ((some (11, true)), (.ld false (.tmp 12)))),
    ((some 14), ((some (11, true)), (.bi .geq (.tmp 13) (.const (.int .i64 0))))),
    ((some 15), (none, (.pick (.tmp 11) (.tmp 14) (.const (.bool false))))),
    ((some 16), (none, (.mv (.tmp 15)))),
    ((some 17), ((some (16, true)), (.fa 1 (.tmp 1)))),
    ((some 18), ((some (16, true)), (.ld false (.tmp 17)))),
    ((some 19), ((some (16, true)), (.bi .leq (.tmp 18) (.const (.int .i64 31))))),
    ((some 20), (none, (.pick (.tmp 16) (.tmp 19) (.const (.bool false))))),
    ((some 21), (none, (.mv (.tmp 20)))),
    ((some 22), ((some (21, true)), (.fa 2 (.tmp 1)))),
    ((some 23), ((some (21, true)), (.ld false (.tmp 22)))),
    ((some 24), ((some (21, true)), (.bi .geq (.tmp 23) (.const (.int .i64 0))))),
    ((some 25), (none, (.pick (.tmp 21) (.tmp 24) (.const (.bool false))))),
    ((some 26), (none, (.mv (.tmp 25)))),
    ((some 27), ((some (26, true)), (.fa 2 (.tmp 1)))),
    ((some 28), ((some (26, true)), (.ld false (.tmp 27)))),
    ((some 29), ((some (26, true)), (.bi .leq (.tmp 28) (.const (.int .i64 67108864))))),
    ((some 30), (none, (.pick (.tmp 26) (.tmp 29) (.const (.bool false))))),
    ((some 31), (none, (.mv (.tmp 30)))),
    ((some 32), ((some (31, true)), (.fa 3 (.tmp 1)))),
    ((some 33), ((some (31, true)), (.ld false (.tmp 32)))),
    ((some 34), ((some (31, true)), (.build [(.inr ((.const (.int .i64 6)), 1)), (.inl [(.int .u64 0)]), (.inl [(.int .i64 0)]), (.inl [(.int .i64 0)]), (.inr ((.tmp 33), 1)), (.inl [(.int .i64 0)])]))),
    ((some 35), ((some (31, true)), (.call f_predicate_Valid [(.tmp 34)]))),
    ((some 36), (none, (.pick (.tmp 31) (.tmp 35) (.const (.bool false))))),
    ((some 2), (none, (.mv (.tmp 36))))])
  .ret))
/-- macaroon/macaroonref06.ContextOk: 36 slots, results [(.t 2)] -/
def ref06_ContextOkC (f_ref01_Name : Nat) : PC :=
  (.seq (.reg [((some 1), (none, (.box 4 (.tmp 0)))),
    ((some 2), (none, (.mv (.const (.bool false)))))])
  (.seq (.reg [((some 3), (none, (.fa 0 (.tmp 1)))),
    ((some 4), (none, (.ld false (.tmp 3)))),
    ((some 5), (none, (.bi .geq (.tmp 4) (.const (.int .i64 0))))),
    ((some 6), (none, (.mv (.tmp 5)))),
    ((some 7), ((some (6, true)), (.fa 0 (.tmp 1)))),
    ((some 8), ((some (6, true)), (.ld false (.tmp 7)))),
    ((some 9), ((some (6, true)), (.bi .leq (.tmp 8) (.const (.int .i64 63))))),
    ((some 10), (none, (.pick (.tmp 6) (.tmp 9) (.const (.bool false))))),
    ((some 11), (none, (.mv (.tmp 10)))),
    ((some 12), ((some (11, true)), (.fa 1 (.tmp 1)))),
    ((some 13), ((some (11, true)), (.ld false (.tmp 12)))),
    ((some 14), ((some (11, true)), (.bi .geq (.tmp 13) (.const (.int .i64 0))))),
    ((some 15), (none, (.pick (.tmp 11) (.tmp 14) (.const (.bool false))))),
    ((some 16), (none, (.mv (.tmp 15)))),
    ((some 17), ((some (16, true)), (.fa 1 (.tmp 1)))),
    ((some 18), ((some (16, true)), (.ld false (.tmp 17)))),
    ((some 19), ((some (16, true)), (.bi .leq (.tmp 18) (.const (.int .i64 31))))),
    ((some 20), (none, (.pick (.tmp 16) (.tmp 19) (.const (.bool false))))),
    ((some 21), (none, (.mv (.tmp 20)))),
    ((some 22), ((some (21, true)), (.fa 2 (.tmp 1)))),
    ((some 23), ((some (21, true)), (.ld false (.tmp 22)))),
    ((some 24), ((some (21, true)), (.bi .geq (.tmp 23) (.const (.int .i64 0))))),
    ((some 25), (none, (.pick (.tmp 21) (.tmp 24) (.const (.bool false))))),
    ((some 26), (none, (.mv (.tmp 25)))),
    ((some 27), ((some (26, true)), (.fa 2 (.tmp 1)))),
    ((some 28), ((some (26, true)), (.ld false (.tmp 27)))),
    ((some 29), ((some (26, true)), (.bi .leq (.tmp 28) (.const (.int .i64 67108864))))),
    ((some 30), (none, (.pick (.tmp 26) (.tmp 29) (.const (.bool false))))),
    ((some 31), (none, (.mv (.tmp 30)))),
    ((some 32), ((some (31, true)), (.fa 3 (.tmp 1)))),
    ((some 33), ((some (31, true)), (.ld false (.tmp 32)))),
    ((some 34), ((some (31, true)), (.call f_ref01_Name [(.tmp 33)]))),
    ((some 35), (none, (.pick (.tmp 31) (.tmp 34) (.const (.bool false))))),
    ((some 2), (none, (.mv (.tmp 35))))])
  .ret))
/-- (*macaroon/macaroonmade.Deck).Predicate: 81 slots, results [(.cA 4 6)] -/
def made_Deck_PredicateC (f_made_Deck_Range : Nat) (f_made_Deck_mask : Nat) (f_made_Deck_Minute : Nat) (f_made_Deck_Next : Nat) (f_made_Deck_Name : Nat) (f_made_Deck_Upto : Nat) : PC :=
  (.seq (.reg [((some 4), (none, (.alloc [(.int .i64 0), (.int .u64 0), (.int .i64 0), (.int .i64 0), (.string ⟨#[]⟩), (.int .i64 0)])))])
  (.seq (.reg [((some 8), (none, (.mv (.tmp 0)))),
    ((some 9), (none, (.call f_made_Deck_Range [(.tmp 8), (.const (.int .i64 1)), (.const (.int .i64 7))]))),
    ((some 10), (none, (.build [(.inr ((.tmp 9), 1)), (.inl [(.int .u64 0)]), (.inl [(.int .i64 0)]), (.inl [(.int .i64 0)]), (.inl [(.string ⟨#[]⟩)]), (.inl [(.int .i64 0)])]))),
    ((some 5), (none, (.alloc [(.int .i64 0), (.int .u64 0), (.int .i64 0), (.int .i64 0), (.string ⟨#[]⟩), (.int .i64 0)]))),
    (none, (none, (.st 6 (.tmp 5) (.tmp 10))))])
  (.seq (.seq (.reg [((some 11), (none, (.fa 0 (.tmp 5)))),
    ((some 12), (none, (.ld false (.tmp 11)))),
    ((some 13), (none, (.bi .eql (.tmp 12) (.const (.int .i64 7))))),
    ((some 14), (none, (.mv (.tmp 13)))),
    ((some 15), ((some (14, true)), (.mv (.tmp 1)))),
    ((some 16), ((some (14, true)), (.un .not (.tmp 15)))),
    ((some 17), (none, (.pick (.tmp 14) (.tmp 16) (.const (.bool false)))))])
  (.cond (.tmp 17)
    (.reg [((some 18), (none, (.fa 0 (.tmp 5)))),
      (none, (none, (.st 1 (.tmp 18) (.const (.int .i64 4)))))])
    .skip))
  (.seq (.seq (.reg [((some 19), (none, (.fa 0 (.tmp 5)))),
    ((some 20), (none, (.ld false (.tmp 19))))])
  (.block 0 (.seq (.reg [((some 22), (none, (.bi .eql (.tmp 20) (.const (.int .i64 1))))),
     ((some 21), (none, (.mv (.tmp 22))))])
   (.cond (.tmp 21)
     (.reg [((some 23), (none, (.mv (.tmp 0)))),
       ((some 24), (none, (.call f_made_Deck_mask [(.tmp 23), (.const (.int .i64 64))]))),
       ((some 25), (none, (.fa 1 (.tmp 5)))),
       (none, (none, (.st 1 (.tmp 25) (.tmp 24))))])
     (.seq (.reg [((some 27), (none, (.bi .eql (.tmp 20) (.const (.int .i64 2))))),
       ((some 26), (none, (.mv (.tmp 27))))])
     (.cond (.tmp 26)
       (.reg [((some 28), (none, (.mv (.tmp 0)))),
         ((some 29), (none, (.call f_made_Deck_mask [(.tmp 28), (.const (.int .i64 32))]))),
         ((some 30), (none, (.fa 1 (.tmp 5)))),
         (none, (none, (.st 1 (.tmp 30) (.tmp 29))))])
       (.seq (.reg [((some 32), (none, (.bi .eql (.tmp 20) (.const (.int .i64 3))))),
         ((some 31), (none, (.mv (.tmp 32))))])
       (.cond (.tmp 31)
         (.reg [((some 33), (none, (.mv (.tmp 0)))),
           ((some 34), (none, (.call f_made_Deck_mask [(.tmp 33), (.const (.int .i64 7))]))),
           ((some 35), (none, (.fa 1 (.tmp 5)))),
           (none, (none, (.st 1 (.tmp 35) (.tmp 34))))])
         (.seq (.reg [((some 37), (none, (.bi .eql (.tmp 20) (.const (.int .i64 4))))),
           ((some 36), (none, (.mv (.tmp 37))))])
         (.cond (.tmp 36)
           (.seq (.reg [((some 38), (none, (.mv (.tmp 0)))),
             ((some 39), (none, (.call f_made_Deck_Minute [(.tmp 38)]))),
             ((some 40), (none, (.mv (.tmp 0)))),
             ((some 41), (none, (.call f_made_Deck_Minute [(.tmp 40)]))),
             ((some 6), (none, (.mv (.tmp 39)))),
             ((some 7), (none, (.mv (.tmp 41))))])
           (.reg [((some 42), (none, (.mv (.tmp 6)))),
             ((some 43), (none, (.mv (.tmp 7)))),
             ((some 44), (none, (.mm false (.tmp 42) (.tmp 43)))),
             ((some 45), (none, (.mv (.tmp 6)))),
             ((some 46), (none, (.mv (.tmp 7)))),
             ((some 47), (none, (.mm true (.tmp 45) (.tmp 46)))),
             ((some 48), (none, (.fa 2 (.tmp 5)))),
             (none, (none, (.st 1 (.tmp 48) (.tmp 44)))),
             ((some 49), (none, (.fa 3 (.tmp 5)))),
             (none, (none, (.st 1 (.tmp 49) (.tmp 47))))]))
           (.seq (.reg [((some 51), (none, (.bi .eql (.tmp 20) (.const (.int .i64 5))))),
             ((some 50), (none, (.mv (.tmp 51))))])
           (.cond (.tmp 50)
             (.seq (.reg [((some 52), (none, (.mv (.tmp 0)))),
               ((some 53), (none, (.call f_made_Deck_Next [(.tmp 52), (.const (.int .i64 1440))]))),
               ((some 54), (none, (.mv (.tmp 0)))),
               ((some 55), (none, (.call f_made_Deck_Next [(.tmp 54), (.const (.int .i64 1440))]))),
               ((some 56), (none, (.fa 2 (.tmp 5)))),
               (none, (none, (.st 1 (.tmp 56) (.tmp 53)))),
               ((some 57), (none, (.fa 3 (.tmp 5)))),
               (none, (none, (.st 1 (.tmp 57) (.tmp 55))))])
             (.seq (.reg [((some 58), (none, (.mv (.tmp 0)))),
               ((some 59), (none, (.call f_made_Deck_Next [(.tmp 58), (.const (.int .i64 3))]))),
               ((some 60), (none, (.bi .eql (.tmp 59) (.const (.int .i64 0)))))])
             (.cond (.tmp 60)
               (.ord (.one ((some 61), (none, (.fa 2 (.tmp 5))))
                 (.one ((some 63), (none, (.mv (.tmp 0))))
                 (.alt (.one ((some 62), (none, (.ld false (.tmp 61))))
                  (.one ((some 64), (none, (.call f_made_Deck_Next [(.tmp 63), (.const (.int .i64 3))])))
                  (.one ((some 65), (none, (.bi .add (.tmp 62) (.tmp 64))))
                  (.one ((some 66), (none, (.bi .add (.tmp 65) (.const (.int .i64 1440)))))
                  (.one ((some 67), (none, (.bi .sub (.tmp 66) (.const (.int .i64 1)))))
                  (.one ((some 68), (none, (.bi .rem (.tmp 67) (.const (.int .i64 1440)))))
                  (.one ((some 69), (none, (.fa 3 (.tmp 5))))
                  (.one (none, (none, (.st 1 (.tmp 69) (.tmp 68))))
                  .done))))))))
                 (.one ((some 64), (none, (.call f_made_Deck_Next [(.tmp 63), (.const (.int .i64 3))])))
                  (.one ((some 62), (none, (.ld false (.tmp 61))))
                  (.one ((some 65), (none, (.bi .add (.tmp 62) (.tmp 64))))
                  (.one ((some 66), (none, (.bi .add (.tmp 65) (.const (.int .i64 1440)))))
                  (.one ((some 67), (none, (.bi .sub (.tmp 66) (.const (.int .i64 1)))))
                  (.one ((some 68), (none, (.bi .rem (.tmp 67) (.const (.int .i64 1440)))))
                  (.one ((some 69), (none, (.fa 3 (.tmp 5))))
                  (.one (none, (none, (.st 1 (.tmp 69) (.tmp 68))))
                  .done))))))))))))
               .skip)))
             (.seq (.reg [((some 71), (none, (.bi .eql (.tmp 20) (.const (.int .i64 6))))),
               ((some 70), (none, (.mv (.tmp 71))))])
             (.cond (.tmp 70)
               (.reg [((some 72), (none, (.mv (.tmp 0)))),
                 ((some 73), (none, (.call f_made_Deck_Name [(.tmp 72)]))),
                 ((some 74), (none, (.fa 4 (.tmp 5)))),
                 (none, (none, (.st 1 (.tmp 74) (.tmp 73))))])
               (.seq (.reg [((some 76), (none, (.bi .eql (.tmp 20) (.const (.int .i64 7))))),
                 ((some 75), (none, (.mv (.tmp 76))))])
               (.cond (.tmp 75)
                 (.reg [((some 77), (none, (.mv (.tmp 0)))),
                   ((some 78), (none, (.call f_made_Deck_Upto [(.tmp 77), (.const (.int .i64 1000000))]))),
                   ((some 79), (none, (.fa 5 (.tmp 5)))),
                   (none, (none, (.st 1 (.tmp 79) (.tmp 78))))])
                 .skip))))))))))))))))
  (.seq (.reg [((some 80), (none, (.ldA 6 (.tmp 5)))),
    (none, (none, (.st 6 (.tmp 4) (.tmp 80))))])
  .ret)))))
/-- macaroon/holds.Holds: 37 slots, results [(.t 4)] -/
def holds_HoldsC (f_predicate_Valid : Nat) (f_holds_Valid : Nat) (f_holds_ride_zone : Nat) (f_holds_ride_line : Nat) (f_holds_ride_days : Nat) (f_holds_ride_time : Nat) (f_holds_ride_daily : Nat) (f_holds_ride_holder : Nat) (f_holds_ride_rides : Nat) : PC :=
  (.seq (.reg [((some 2), (none, (.box 6 (.tmp 0)))),
    ((some 3), (none, (.box 4 (.tmp 1)))),
    ((some 4), (none, (.mv (.const (.bool false)))))])
  (.seq (.seq (.reg [((some 7), (none, (.ldA 6 (.tmp 2)))),
    ((some 8), (none, (.call f_predicate_Valid [(.tmp 7)]))),
    ((some 9), (none, (.un .not (.tmp 8)))),
    ((some 10), (none, (.mv (.tmp 9)))),
    ((some 11), ((some (10, false)), (.ldA 4 (.tmp 3)))),
    ((some 12), ((some (10, false)), (.call f_holds_Valid [(.tmp 11)]))),
    ((some 13), ((some (10, false)), (.un .not (.tmp 12)))),
    ((some 14), (none, (.pick (.tmp 10) (.const (.bool true)) (.tmp 13))))])
  (.cond (.tmp 14)
    (.seq (.reg [((some 4), (none, (.mv (.const (.bool false)))))])
    .ret)
    .skip))
  (.seq (.reg [((some 15), (none, (.ldA 4 (.tmp 3)))),
    ((some 5), (none, (.alloc [(.int .i64 0), (.int .i64 0), (.int .i64 0), (.string ⟨#[]⟩)]))),
    (none, (none, (.st 4 (.tmp 5) (.tmp 15))))])
  (.seq (.reg [((some 16), (none, (.ldA 4 (.tmp 5)))),
    ((some 17), (none, (.mkf f_holds_ride_zone [(.tmp 16)] []))),
    ((some 18), (none, (.ldA 4 (.tmp 5)))),
    ((some 19), (none, (.mkf f_holds_ride_line [(.tmp 18)] []))),
    ((some 20), (none, (.ldA 4 (.tmp 5)))),
    ((some 21), (none, (.mkf f_holds_ride_days [(.tmp 20)] []))),
    ((some 22), (none, (.ldA 4 (.tmp 5)))),
    ((some 23), (none, (.mkf f_holds_ride_time [(.tmp 22)] []))),
    ((some 24), (none, (.ldA 4 (.tmp 5)))),
    ((some 25), (none, (.mkf f_holds_ride_daily [(.tmp 24)] []))),
    ((some 26), (none, (.ldA 4 (.tmp 5)))),
    ((some 27), (none, (.mkf f_holds_ride_holder [(.tmp 26)] []))),
    ((some 28), (none, (.ldA 4 (.tmp 5)))),
    ((some 29), (none, (.mkf f_holds_ride_rides [(.tmp 28)] []))),
    ((some 30), (none, (.build [(.inl [.nilFunc]), (.inr ((.tmp 17), 1)), (.inr ((.tmp 19), 1)), (.inr ((.tmp 21), 1)), (.inr ((.tmp 23), 1)), (.inr ((.tmp 25), 1)), (.inr ((.tmp 27), 1)), (.inr ((.tmp 29), 1))]))),
    ((some 6), (none, (.alloc (List.replicate 8 .nilFunc)))),
    (none, (none, (.st 8 (.tmp 6) (.tmp 30))))])
  (.seq (.ord (.one ((some 31), (none, (.fa 0 (.tmp 2))))
    (.one ((some 35), (none, (.ldA 6 (.tmp 2))))
    (.one ((some 32), (none, (.ld false (.tmp 31))))
    (.one ((some 33), (none, (.ixP 8 1 (.tmp 6) (.tmp 32))))
    (.one ((some 34), (none, (.ld false (.tmp 33))))
    (.one ((some 36), (none, (.callv (.tmp 34) [(.tmp 35)])))
    (.one ((some 4), (none, (.mv (.tmp 36))))
    .done))))))))
  .ret)))))
/-- macaroon/macaroonref06.Holds: 99 slots, results [(.t 4)] -/
def ref06_HoldsC (f_ref06_Valid : Nat) (f_ref06_ContextOk : Nat) : PC :=
  (.seq (.reg [((some 2), (none, (.box 6 (.tmp 0)))),
    ((some 3), (none, (.box 4 (.tmp 1)))),
    ((some 4), (none, (.mv (.const (.bool false)))))])
  (.seq (.seq (.reg [((some 6), (none, (.ldA 6 (.tmp 2)))),
    ((some 7), (none, (.call f_ref06_Valid [(.tmp 6)]))),
    ((some 8), (none, (.un .not (.tmp 7)))),
    ((some 9), (none, (.mv (.tmp 8)))),
    ((some 10), ((some (9, false)), (.ldA 4 (.tmp 3)))),
    ((some 11), ((some (9, false)), (.call f_ref06_ContextOk [(.tmp 10)]))),
    ((some 12), ((some (9, false)), (.un .not (.tmp 11)))),
    ((some 13), (none, (.pick (.tmp 9) (.const (.bool true)) (.tmp 12))))])
  (.cond (.tmp 13)
    (.seq (.reg [((some 4), (none, (.mv (.const (.bool false)))))])
    .ret)
    .skip))
  (.seq (.seq (.reg [((some 14), (none, (.fa 0 (.tmp 2)))),
    ((some 15), (none, (.ld false (.tmp 14))))])
  (.block 0 (.seq (.reg [((some 17), (none, (.bi .eql (.tmp 15) (.const (.int .i64 1))))),
     ((some 16), (none, (.mv (.tmp 17))))])
   (.cond (.tmp 16)
     (.seq (.reg [((some 18), (none, (.fa 1 (.tmp 2)))),
       ((some 19), (none, (.ld false (.tmp 18)))),
       ((some 20), (none, (.fa 0 (.tmp 3)))),
       ((some 21), (none, (.ld false (.tmp 20)))),
       ((some 22), (none, (.cv .u64 (.tmp 21)))),
       ((some 23), (none, (.bi .shr (.tmp 19) (.tmp 22)))),
       ((some 24), (none, (.bi .rem (.tmp 23) (.const (.int .u64 2))))),
       ((some 25), (none, (.bi .eql (.tmp 24) (.const (.int .u64 1))))),
       ((some 4), (none, (.mv (.tmp 25))))])
     .ret)
     (.seq (.reg [((some 27), (none, (.bi .eql (.tmp 15) (.const (.int .i64 2))))),
       ((some 26), (none, (.mv (.tmp 27))))])
     (.cond (.tmp 26)
       (.seq (.reg [((some 28), (none, (.fa 1 (.tmp 2)))),
         ((some 29), (none, (.ld false (.tmp 28)))),
         ((some 30), (none, (.fa 1 (.tmp 3)))),
         ((some 31), (none, (.ld false (.tmp 30)))),
         ((some 32), (none, (.cv .u64 (.tmp 31)))),
         ((some 33), (none, (.bi .shr (.tmp 29) (.tmp 32)))),
         ((some 34), (none, (.bi .rem (.tmp 33) (.const (.int .u64 2))))),
         ((some 35), (none, (.bi .eql (.tmp 34) (.const (.int .u64 1))))),
         ((some 4), (none, (.mv (.tmp 35))))])
       .ret)
       (.seq (.reg [((some 37), (none, (.bi .eql (.tmp 15) (.const (.int .i64 3))))),
         ((some 36), (none, (.mv (.tmp 37))))])
       (.cond (.tmp 36)
         (.seq (.reg [((some 38), (none, (.fa 1 (.tmp 2)))),
           ((some 39), (none, (.ld false (.tmp 38)))),
           ((some 40), (none, (.fa 2 (.tmp 3)))),
           ((some 41), (none, (.ld false (.tmp 40)))),
           ((some 42), (none, (.bi .quo (.tmp 41) (.const (.int .i64 1440))))),
           ((some 43), (none, (.bi .rem (.tmp 42) (.const (.int .i64 7))))),
           ((some 44), (none, (.cv .u64 (.tmp 43)))),
           ((some 45), (none, (.bi .shr (.tmp 39) (.tmp 44)))),
           ((some 46), (none, (.bi .rem (.tmp 45) (.const (.int .u64 2))))),
           ((some 47), (none, (.bi .eql (.tmp 46) (.const (.int .u64 1))))),
           ((some 4), (none, (.mv (.tmp 47))))])
         .ret)
         (.seq (.reg [((some 49), (none, (.bi .eql (.tmp 15) (.const (.int .i64 4))))),
           ((some 48), (none, (.mv (.tmp 49))))])
         (.cond (.tmp 48)
           (.seq (.reg [((some 50), (none, (.fa 2 (.tmp 3)))),
             ((some 51), (none, (.ld false (.tmp 50)))),
             ((some 52), (none, (.fa 2 (.tmp 2)))),
             ((some 53), (none, (.ld false (.tmp 52)))),
             ((some 54), (none, (.bi .geq (.tmp 51) (.tmp 53)))),
             ((some 55), (none, (.mv (.tmp 54)))),
             ((some 56), ((some (55, true)), (.fa 2 (.tmp 3)))),
             ((some 57), ((some (55, true)), (.ld false (.tmp 56)))),
             ((some 58), ((some (55, true)), (.fa 3 (.tmp 2)))),
             ((some 59), ((some (55, true)), (.ld false (.tmp 58)))),
             ((some 60), ((some (55, true)), (.bi .leq (.tmp 57) (.tmp 59)))),
             ((some 61), (none, (.pick (.tmp 55) (.tmp 60) (.const (.bool false))))),
             ((some 4), (none, (.mv (.tmp 61))))])
           .ret)
           (.seq (.reg [((some 63), (none, (.bi .eql (.tmp 15) (.const (.int .i64 5))))),
             ((some 62), (none, (.mv (.tmp 63))))])
           (.cond (.tmp 62)
             (.seq (.reg [((some 64), (none, (.fa 2 (.tmp 3)))),
               ((some 65), (none, (.ld false (.tmp 64)))),
               ((some 66), (none, (.bi .rem (.tmp 65) (.const (.int .i64 1440))))),
               ((some 5), (none, (.mv (.tmp 66))))])
             (.seq (.seq (.reg [((some 67), (none, (.fa 2 (.tmp 2)))),
               ((some 68), (none, (.ld false (.tmp 67)))),
               ((some 69), (none, (.fa 3 (.tmp 2)))),
               ((some 70), (none, (.ld false (.tmp 69)))),
               ((some 71), (none, (.bi .leq (.tmp 68) (.tmp 70))))])
             (.cond (.tmp 71)
               (.seq (.reg [((some 72), (none, (.mv (.tmp 5)))),
                 ((some 73), (none, (.fa 2 (.tmp 2)))),
                 ((some 74), (none, (.ld false (.tmp 73)))),
                 ((some 75), (none, (.bi .geq (.tmp 72) (.tmp 74)))),
                 ((some 76), (none, (.mv (.tmp 75)))),
                 ((some 77), ((some (76, true)), (.mv (.tmp 5)))),
                 ((some 78), ((some (76, true)), (.fa 3 (.tmp 2)))),
                 ((some 79), ((some (76, true)), (.ld false (.tmp 78)))),
                 ((some 80), ((some (76, true)), (.bi .leq (.tmp 77) (.tmp 79)))),
                 ((some 81), (none, (.pick (.tmp 76) (.tmp 80) (.const (.bool false))))),
                 ((some 4), (none, (.mv (.tmp 81))))])
               .ret)
               .skip))
             (.seq (.reg [((some 82), (none, (.mv (.tmp 5)))),
               ((some 83), (none, (.fa 2 (.tmp 2)))),
               ((some 84), (none, (.ld false (.tmp 83)))),
               ((some 85), (none, (.bi .geq (.tmp 82) (.tmp 84)))),
               ((some 86), (none, (.mv (.tmp 85)))),
               ((some 87), ((some (86, false)), (.mv (.tmp 5)))),
               ((some 88), ((some (86, false)), (.fa 3 (.tmp 2)))),
               ((some 89), ((some (86, false)), (.ld false (.tmp 88)))),
               ((some 90), ((some (86, false)), (.bi .leq (.tmp 87) (.tmp 89)))),
               ((some 91), (none, (.pick (.tmp 86) (.const (.bool true)) (.tmp 90)))),
               ((some 4), (none, (.mv (.tmp 91))))])
             .ret)))
             (.seq (.reg [((some 93), (none, (.bi .eql (.tmp 15) (.const (.int .i64 6))))),
               ((some 92), (none, (.mv (.tmp 93))))])
             (.cond (.tmp 92)
               (.seq (.reg [((some 94), (none, (.fa 3 (.tmp 3)))),
                 ((some 95), (none, (.ld false (.tmp 94)))),
                 ((some 96), (none, (.fa 4 (.tmp 2)))),
                 ((some 97), (none, (.ld false (.tmp 96)))),
                 ((some 98), (none, (.bi .eql (.tmp 95) (.tmp 97)))),
                 ((some 4), (none, (.mv (.tmp 98))))])
               .ret)
               .skip))))))))))))))
  (.seq (.reg [((some 4), (none, (.mv (.const (.bool true)))))])
  .ret))))
/-- (*macaroon/macaroonmade.Deck).Predicates: 24 slots, results [(.t 6)] -/
def made_Deck_PredicatesC (t_api_Predicate : Nat) (f_made_Deck_Next : Nat) (f_made_Deck_Predicate : Nat) : PC :=
  (.seq (.reg [((some 6), (none, (.cnil t_api_Predicate)))])
  (.seq (.reg [((some 7), (none, (.cnil t_api_Predicate)))])
  (.seq (.seq (.reg [((some 9), (none, (.mv (.tmp 0)))),
    ((some 10), (none, (.mv (.tmp 1)))),
    ((some 11), (none, (.bi .add (.tmp 10) (.const (.int .i64 1))))),
    ((some 12), (none, (.call f_made_Deck_Next [(.tmp 9), (.tmp 11)]))),
    ((some 8), (none, (.mv (.tmp 12))))])
  (.block 0 (.loop (.seq (.seq (.reg [((some 13), (none, (.mv (.tmp 8)))),
      ((some 14), (none, (.bi .gtr (.tmp 13) (.const (.int .i64 0)))))])
    (.cond (.tmp 14)
      .skip
      (.exit 0)))
    (.seq (.block 1 (.reg [((some 17), (none, (.steal 7))),
       ((some 18), (none, (.mv (.tmp 0)))),
       ((some 19), (none, (.mv (.tmp 2)))),
       ((some 20), (none, (.call f_made_Deck_Predicate [(.tmp 18), (.tmp 19)]))),
       ((some 21), (none, (.mks t_api_Predicate 6 false [(.tmp 20)]))),
       ((some 22), (none, (.app t_api_Predicate 6 56 17 (.tmp 21)))),
       ((some 7), (none, (.steal 22)))]))
    (.reg [((some 15), (none, (.mv (.tmp 8)))),
      ((some 16), (none, (.bi .sub (.tmp 15) (.const (.int .i64 1))))),
      ((some 8), (none, (.mv (.tmp 16))))]))))))
  (.seq (.reg [((some 23), (none, (.steal 7))),
    ((some 6), (none, (.steal 23)))])
  .ret))))
/-- macaroon/holds.All: 21 slots, results [(.t 4), (.t 5)] -/
def holds_AllC (f_holds_Holds : Nat) : PC :=
  (.seq (.reg [((some 3), (none, (.box 4 (.tmp 1)))),
    ((some 4), (none, (.mv (.const (.int .i64 0))))),
    ((some 5), (none, (.mv (.const (.bool false)))))])
  (.seq (.seq (.reg [((some 8), (none, (.mv (.tmp 0)))),
    ((some 9), (none, (.len (.tmp 8)))),
    ((some 10), (none, (.mv (.const (.int .i64 0)))))])
  (.block 0 (.loop (.seq (.reg [((some 11), (none, (.bi .lss (.tmp 10) (.tmp 9))))])
    (.seq (.cond (.tmp 11)
      .skip
      (.exit 0))
    (.seq (.block 1 (.seq (.reg [((some 12), (none, (.mv (.tmp 10)))),
       ((some 13), (none, (.ixS 6 (.tmp 8) (.tmp 10)))),
       ((some 14), (none, (.ldA 6 (.tmp 13)))),
       ((some 7), (none, (.alloc [(.int .i64 0), (.int .u64 0), (.int .i64 0), (.int .i64 0), (.string ⟨#[]⟩), (.int .i64 0)]))),
       ((some 6), (none, (.mv (.tmp 12)))),
       (none, (none, (.st 6 (.tmp 7) (.tmp 14))))])
     (.seq (.reg [((some 15), (none, (.ldA 6 (.tmp 7)))),
       ((some 16), (none, (.ldA 4 (.tmp 3)))),
       ((some 17), (none, (.call f_holds_Holds [(.tmp 15), (.tmp 16)]))),
       ((some 18), (none, (.un .not (.tmp 17))))])
     (.cond (.tmp 18)
       (.seq (.reg [((some 19), (none, (.mv (.tmp 6)))),
         ((some 4), (none, (.mv (.tmp 19)))),
         ((some 5), (none, (.mv (.const (.bool false)))))])
       .ret)
       .skip))))
    (.reg [((some 20), (none, (.bi .add (.tmp 10) (.const (.int .i64 1))))),
      ((some 10), (none, (.mv (.tmp 20))))])))))))
  (.seq (.reg [((some 4), (none, (.mv (.const (.int .i64 0))))),
    ((some 5), (none, (.mv (.const (.bool true)))))])
  .ret)))
/-- macaroon/macaroonref06.All: 21 slots, results [(.t 4), (.t 5)] -/
def ref06_AllC (f_ref06_Holds : Nat) : PC :=
  (.seq (.reg [((some 3), (none, (.box 4 (.tmp 1)))),
    ((some 4), (none, (.mv (.const (.int .i64 0))))),
    ((some 5), (none, (.mv (.const (.bool false)))))])
  (.seq (.seq (.reg [((some 6), (none, (.mv (.const (.int .i64 0)))))])
  (.block 0 (.loop (.seq (.seq (.reg [((some 7), (none, (.mv (.tmp 6)))),
      ((some 8), (none, (.mv (.tmp 0)))),
      ((some 9), (none, (.len (.tmp 8)))),
      ((some 10), (none, (.bi .lss (.tmp 7) (.tmp 9))))])
    (.cond (.tmp 10)
      .skip
      (.exit 0)))
    (.seq (.block 1 (.seq (.drw [((some 13), (none, (.mv (.tmp 0)))),
       ((some 14), (none, (.mv (.tmp 6)))),
       ((some 15), (none, (.ixS 6 (.tmp 13) (.tmp 14)))),
       ((some 16), (none, (.ldA 6 (.tmp 15)))),
       ((some 17), (none, (.ldA 4 (.tmp 3)))),
       ((some 18), (none, (.call f_ref06_Holds [(.tmp 16), (.tmp 17)]))),
       ((some 19), (none, (.un .not (.tmp 18))))])
     (.cond (.tmp 19)
       (.seq (.reg [((some 20), (none, (.mv (.tmp 6)))),
         ((some 4), (none, (.mv (.tmp 20)))),
         ((some 5), (none, (.mv (.const (.bool false)))))])
       .ret)
       .skip)))
    (.reg [((some 11), (none, (.mv (.tmp 6)))),
      ((some 12), (none, (.bi .add (.tmp 11) (.const (.int .i64 1))))),
      ((some 6), (none, (.mv (.tmp 12))))]))))))
  (.seq (.reg [((some 4), (none, (.mv (.const (.int .i64 0))))),
    ((some 5), (none, (.mv (.const (.bool true)))))])
  .ret)))
/-- (*macaroon/macaroonmade.Deck).Next: 35 slots, results [(.t 4)] -/
def made_Deck_NextC (f_made_Within : Nat) : PC :=
  (.seq (.reg [((some 4), (none, (.mv (.const (.int .i64 0)))))])
  (.seq (.seq (.drw [((some 5), (none, (.mv (.tmp 0)))),
    ((some 6), (none, (.nilc (.tmp 5)))),
    ((some 7), (none, (.fa 1 (.tmp 6)))),
    ((some 8), (none, (.ld false (.tmp 7)))),
    ((some 9), (none, (.mv (.tmp 0)))),
    ((some 10), (none, (.nilc (.tmp 9)))),
    ((some 11), (none, (.fa 0 (.tmp 10)))),
    ((some 12), (none, (.ld false (.tmp 11)))),
    ((some 13), (none, (.len (.tmp 12)))),
    ((some 14), (none, (.bi .geq (.tmp 8) (.tmp 13))))])
  (.cond (.tmp 14)
    (.seq (.reg [((some 4), (none, (.mv (.const (.int .i64 0)))))])
    .ret)
    .skip))
  (.seq (.reg [((some 15), (none, (.mv (.tmp 0)))),
    ((some 16), (none, (.nilc (.tmp 15)))),
    ((some 17), (none, (.fa 1 (.tmp 16)))),
    ((some 18), (none, (.ld false (.tmp 17)))),
    ((some 19), (none, (.bi .add (.tmp 18) (.const (.int .i64 1))))),
    ((some 20), (none, (.nilc (.tmp 15)))),
    ((some 21), (none, (.fa 1 (.tmp 20)))),
    (none, (none, (.st 1 (.tmp 21) (.tmp 19))))])
  (.seq (.drw [((some 22), (none, (.mv (.tmp 0)))),
    ((some 23), (none, (.nilc (.tmp 22)))),
    ((some 24), (none, (.fa 0 (.tmp 23)))),
    ((some 25), (none, (.ld false (.tmp 24)))),
    ((some 26), (none, (.mv (.tmp 0)))),
    ((some 27), (none, (.nilc (.tmp 26)))),
    ((some 28), (none, (.fa 1 (.tmp 27)))),
    ((some 29), (none, (.ld false (.tmp 28)))),
    ((some 30), (none, (.bi .sub (.tmp 29) (.const (.int .i64 1))))),
    ((some 31), (none, (.ixS 1 (.tmp 25) (.tmp 30)))),
    ((some 32), (none, (.ld false (.tmp 31)))),
    ((some 33), (none, (.mv (.tmp 1)))),
    ((some 34), (none, (.call f_made_Within [(.tmp 32), (.tmp 33)]))),
    ((some 4), (none, (.mv (.tmp 34))))])
  .ret))))
/-- (*macaroon/macaroonmade.Deck).Range: 15 slots, results [(.t 6)] -/
def made_Deck_RangeC (f_made_Deck_Next : Nat) : PC :=
  (.seq (.reg [((some 6), (none, (.mv (.const (.int .i64 0)))))])
  (.seq (.reg [((some 7), (none, (.mv (.tmp 1)))),
    ((some 8), (none, (.mv (.tmp 0)))),
    ((some 9), (none, (.mv (.tmp 2)))),
    ((some 10), (none, (.mv (.tmp 1)))),
    ((some 11), (none, (.bi .sub (.tmp 9) (.tmp 10)))),
    ((some 12), (none, (.bi .add (.tmp 11) (.const (.int .i64 1))))),
    ((some 13), (none, (.call f_made_Deck_Next [(.tmp 8), (.tmp 12)]))),
    ((some 14), (none, (.bi .add (.tmp 7) (.tmp 13)))),
    ((some 6), (none, (.mv (.tmp 14))))])
  .ret))
/-- (*macaroon/macaroonmade.Deck).Minute: 25 slots, results [(.t 2)] -/
def made_Deck_MinuteC (f_made_Deck_Next : Nat) : PC :=
  (.seq (.reg [((some 2), (none, (.mv (.const (.int .i64 0)))))])
  (.seq (.seq (.reg [((some 3), (none, (.mv (.tmp 0)))),
    ((some 4), (none, (.call f_made_Deck_Next [(.tmp 3), (.const (.int .i64 4))])))])
  (.block 0 (.seq (.reg [((some 6), (none, (.bi .eql (.tmp 4) (.const (.int .i64 0))))),
     ((some 5), (none, (.mv (.tmp 6))))])
   (.cond (.tmp 5)
     (.seq (.reg [((some 7), (none, (.mv (.tmp 0)))),
       ((some 8), (none, (.call f_made_Deck_Next [(.tmp 7), (.const (.int .i64 4320))]))),
       ((some 2), (none, (.mv (.tmp 8))))])
     .ret)
     (.seq (.reg [((some 10), (none, (.bi .eql (.tmp 4) (.const (.int .i64 1))))),
       ((some 9), (none, (.mv (.tmp 10))))])
     (.cond (.tmp 9)
       (.seq (.reg [((some 11), (none, (.mv (.tmp 0)))),
         ((some 12), (none, (.call f_made_Deck_Next [(.tmp 11), (.const (.int .i64 60))]))),
         ((some 13), (none, (.bi .mul (.tmp 12) (.const (.int .i64 1440))))),
         ((some 14), (none, (.mv (.tmp 0)))),
         ((some 15), (none, (.call f_made_Deck_Next [(.tmp 14), (.const (.int .i64 3))]))),
         ((some 16), (none, (.bi .add (.tmp 13) (.tmp 15)))),
         ((some 17), (none, (.mm false (.tmp 16) (.const (.int .i64 67108864))))),
         ((some 2), (none, (.mv (.tmp 17))))])
       .ret)
       (.seq (.reg [((some 19), (none, (.bi .eql (.tmp 4) (.const (.int .i64 2))))),
         ((some 18), (none, (.mv (.tmp 19))))])
       (.cond (.tmp 18)
         (.seq (.reg [((some 20), (none, (.mv (.tmp 0)))),
           ((some 21), (none, (.call f_made_Deck_Next [(.tmp 20), (.const (.int .i64 4320))]))),
           ((some 22), (none, (.bi .sub (.const (.int .i64 67108864)) (.tmp 21)))),
           ((some 2), (none, (.mv (.tmp 22))))])
         .ret)
         .skip))))))))
  (.seq (.reg [((some 23), (none, (.mv (.tmp 0)))),
    ((some 24), (none, (.call f_made_Deck_Next [(.tmp 23), (.const (.int .i64 67108865))]))),
    ((some 2), (none, (.mv (.tmp 24))))])
  .ret)))
/-- (*macaroon/macaroonmade.Deck).Name: 8 slots, results [(.t 2)] -/
def made_Deck_NameC (t_string : Nat) (f_made_Deck_Next : Nat) : PC :=
  (.seq (.reg [((some 2), (none, (.mv (.const (.string ⟨#[]⟩)))))])
  (.seq (.reg [((some 3), (none, (.mks t_string 1 false [(.const (.string ⟨#[97]⟩)), (.const (.string ⟨#[98]⟩)), (.const (.string ⟨#[97, 110, 110]⟩)), (.const (.string ⟨#[98, 111, 98]⟩)), (.const (.string ⟨#[99, 105, 100]⟩)), (.const (.string ⟨#[122, 111, 101]⟩)), (.const (.string ⟨#[97, 97]⟩)), (.const (.string ⟨#[97, 98, 99, 100, 101, 102, 103, 104, 105, 106, 107, 108, 109, 110, 111, 112]⟩))]))),
    ((some 4), (none, (.mv (.tmp 0)))),
    ((some 5), (none, (.call f_made_Deck_Next [(.tmp 4), (.const (.int .i64 8))]))),
    ((some 6), (none, (.ixS 1 (.tmp 3) (.tmp 5)))),
    ((some 7), (none, (.ld false (.tmp 6)))),
    ((some 2), (none, (.mv (.tmp 7))))])
  .ret))
/-- macaroon/predicate.Valid: 118 slots, results [(.t 2)] -/
def predicate_ValidC (g_predicate_bits : Nat) (f_predicate_mask : Nat) (f_predicate_name : Nat) : PC :=
  (.seq (.reg [((some 1), (none, (.box 6 (.tmp 0)))),
    ((some 2), (none, (.mv (.const (.bool false)))))])
  (.seq (.reg [((some 4), (none, (.fa 0 (.tmp 1)))),
    ((some 5), (none, (.ld false (.tmp 4)))),
    ((some 6), (none, (.build [(.inr ((.tmp 5), 1)), (.inl [(.int .u64 0)]), (.inl [(.int .i64 0)]), (.inl [(.int .i64 0)]), (.inl [(.string ⟨#[]⟩)]), (.inl [(.int .i64 0)])]))),
    ((some 3), (none, (.alloc [(.int .i64 0), (.int .u64 0), (.int .i64 0), (.int .i64 0), (.string ⟨#[]⟩), (.int .i64 0)]))),
    (none, (none, (.st 6 (.tmp 3) (.tmp 6))))])
  (.seq (.seq (.reg [((some 7), (none, (.fa 0 (.tmp 1)))),
    ((some 8), (none, (.ld false (.tmp 7))))])
  (.block 0 (.seq (.seq (.reg [((some 10), (none, (.bi .eql (.tmp 8) (.const (.int .i64 1))))),
     ((some 9), (none, (.mv (.tmp 10))))])
   (.cond (.tmp 9)
     .skip
     (.seq (.reg [((some 11), (none, (.bi .eql (.tmp 8) (.const (.int .i64 2))))),
       ((some 9), (none, (.mv (.tmp 11))))])
     (.cond (.tmp 9)
       .skip
       (.reg [((some 12), (none, (.bi .eql (.tmp 8) (.const (.int .i64 3))))),
         ((some 9), (none, (.mv (.tmp 12))))])))))
   (.cond (.tmp 9)
     (.seq (.reg [((some 13), (none, (.fa 1 (.tmp 1)))),
       ((some 14), (none, (.ld false (.tmp 13)))),
       ((some 15), (none, (.fa 1 (.tmp 3)))),
       (none, (none, (.st 1 (.tmp 15) (.tmp 14))))])
     (.seq (.drw [((some 16), (none, (.fa 1 (.tmp 1)))),
       ((some 17), (none, (.ld false (.tmp 16)))),
       ((some 18), (none, (.fa 0 (.tmp 1)))),
       ((some 19), (none, (.ld false (.tmp 18)))),
       ((some 20), (none, (.ixP 8 1 (.global g_predicate_bits) (.tmp 19)))),
       ((some 21), (none, (.ld false (.tmp 20)))),
       ((some 22), (none, (.call f_predicate_mask [(.tmp 17), (.tmp 21)]))),
       ((some 23), (none, (.mv (.tmp 22)))),
       ((some 24), ((some (23, true)), (.ldA 6 (.tmp 1)))),
       ((some 25), ((some (23, true)), (.ldA 6 (.tmp 3)))),
       ((some 26), ((some (23, true)), (.eqA false [(.int .i64), (.int .u64), (.int .i64), (.int .i64), .string, (.int .i64)] (.tmp 24) (.tmp 25)))),
       ((some 27), (none, (.pick (.tmp 23) (.tmp 26) (.const (.bool false))))),
       ((some 2), (none, (.mv (.tmp 27))))])
     .ret))
     (.seq (.reg [((some 29), (none, (.bi .eql (.tmp 8) (.const (.int .i64 4))))),
       ((some 28), (none, (.mv (.tmp 29))))])
     (.cond (.tmp 28)
       (.seq (.ord (.one ((some 30), (none, (.fa 2 (.tmp 1))))
         (.one ((some 31), (none, (.ld false (.tmp 30))))
         (.one ((some 32), (none, (.fa 3 (.tmp 1))))
         (.one ((some 34), (none, (.fa 2 (.tmp 3))))
         (.alt (.one ((some 33), (none, (.ld false (.tmp 32))))
          (.one (none, (none, (.st 1 (.tmp 34) (.tmp 31))))
          (.one ((some 35), (none, (.fa 3 (.tmp 3))))
          (.one (none, (none, (.st 1 (.tmp 35) (.tmp 33))))
          .done))))
         (.one (none, (none, (.st 1 (.tmp 34) (.tmp 31))))
          (.one ((some 33), (none, (.ld false (.tmp 32))))
          (.one ((some 35), (none, (.fa 3 (.tmp 3))))
          (.one (none, (none, (.st 1 (.tmp 35) (.tmp 33))))
          .done))))))))))
       (.seq (.reg [((some 36), (none, (.fa 2 (.tmp 1)))),
         ((some 37), (none, (.ld false (.tmp 36)))),
         ((some 38), (none, (.bi .geq (.tmp 37) (.const (.int .i64 0))))),
         ((some 39), (none, (.mv (.tmp 38)))),
         ((some 40), ((some (39, true)), (.fa 2 (.tmp 1)))),
         ((some 41), ((some (39, true)), (.ld false (.tmp 40)))),
         ((some 42), ((some (39, true)), (.fa 3 (.tmp 1)))),
         ((some 43), ((some (39, true)), (.ld false (.tmp 42)))),
         ((some 44), ((some (39, true)), (.bi .leq (.tmp 41) (.tmp 43)))),
         ((some 45), (none, (.pick (.tmp 39) (.tmp 44) (.const (.bool false))))),
         ((some 46), (none, (.mv (.tmp 45)))),
         ((some 47), ((some (46, true)), (.fa 3 (.tmp 1)))),
         ((some 48), ((some (46, true)), (.ld false (.tmp 47)))),
         ((some 49), ((some (46, true)), (.bi .leq (.tmp 48) (.const (.int .i64 67108864))))),
         ((some 50), (none, (.pick (.tmp 46) (.tmp 49) (.const (.bool false))))),
         ((some 51), (none, (.mv (.tmp 50)))),
         ((some 52), ((some (51, true)), (.ldA 6 (.tmp 1)))),
         ((some 53), ((some (51, true)), (.ldA 6 (.tmp 3)))),
         ((some 54), ((some (51, true)), (.eqA false [(.int .i64), (.int .u64), (.int .i64), (.int .i64), .string, (.int .i64)] (.tmp 52) (.tmp 53)))),
         ((some 55), (none, (.pick (.tmp 51) (.tmp 54) (.const (.bool false))))),
         ((some 2), (none, (.mv (.tmp 55))))])
       .ret))
       (.seq (.reg [((some 57), (none, (.bi .eql (.tmp 8) (.const (.int .i64 5))))),
         ((some 56), (none, (.mv (.tmp 57))))])
       (.cond (.tmp 56)
         (.seq (.ord (.one ((some 58), (none, (.fa 2 (.tmp 1))))
           (.one ((some 59), (none, (.ld false (.tmp 58))))
           (.one ((some 60), (none, (.fa 3 (.tmp 1))))
           (.one ((some 62), (none, (.fa 2 (.tmp 3))))
           (.alt (.one ((some 61), (none, (.ld false (.tmp 60))))
            (.one (none, (none, (.st 1 (.tmp 62) (.tmp 59))))
            (.one ((some 63), (none, (.fa 3 (.tmp 3))))
            (.one (none, (none, (.st 1 (.tmp 63) (.tmp 61))))
            .done))))
           (.one (none, (none, (.st 1 (.tmp 62) (.tmp 59))))
            (.one ((some 61), (none, (.ld false (.tmp 60))))
            (.one ((some 63), (none, (.fa 3 (.tmp 3))))
            (.one (none, (none, (.st 1 (.tmp 63) (.tmp 61))))
            .done))))))))))
         (.seq (.reg [((some 64), (none, (.fa 2 (.tmp 1)))),
           ((some 65), (none, (.ld false (.tmp 64)))),
           ((some 66), (none, (.bi .geq (.tmp 65) (.const (.int .i64 0))))),
           ((some 67), (none, (.mv (.tmp 66)))),
           ((some 68), ((some (67, true)), (.fa 2 (.tmp 1)))),
           ((some 69), ((some (67, true)), (.ld false (.tmp 68)))),
           ((some 70), ((some (67, true)), (.bi .lss (.tmp 69) (.const (.int .i64 1440))))),
           ((some 71), (none, (.pick (.tmp 67) (.tmp 70) (.const (.bool false))))),
           ((some 72), (none, (.mv (.tmp 71)))),
           ((some 73), ((some (72, true)), (.fa 3 (.tmp 1)))),
           ((some 74), ((some (72, true)), (.ld false (.tmp 73)))),
           ((some 75), ((some (72, true)), (.bi .geq (.tmp 74) (.const (.int .i64 0))))),
           ((some 76), (none, (.pick (.tmp 72) (.tmp 75) (.const (.bool false))))),
           ((some 77), (none, (.mv (.tmp 76)))),
           ((some 78), ((some (77, true)), (.fa 3 (.tmp 1)))),
           ((some 79), ((some (77, true)), (.ld false (.tmp 78)))),
           ((some 80), ((some (77, true)), (.bi .lss (.tmp 79) (.const (.int .i64 1440))))),
           ((some 81), (none, (.pick (.tmp 77) (.tmp 80) (.const (.bool false))))),
           ((some 82), (none, (.mv (.tmp 81)))),
           ((some 83), ((some (82, true)), (.ldA 6 (.tmp 1)))),
           ((some 84), ((some (82, true)), (.ldA 6 (.tmp 3)))),
           ((some 85), ((some (82, true)), (.eqA false [(.int .i64), (.int .u64), (.int .i64), (.int .i64), .string, (.int .i64)] (.tmp 83) (.tmp 84)))),
           ((some 86), (none, (.pick (.tmp 82) (.tmp 85) (.const (.bool false))))),
           ((some 2), (none, (.mv (.tmp 86))))])
         .ret))
         (.seq (.reg [((some 88), (none, (.bi .eql (.tmp 8) (.const (.int .i64 6))))),
           ((some 87), (none, (.mv (.tmp 88))))])
         (.cond (.tmp 87)
           (.seq (.reg [((some 89), (none, (.fa 4 (.tmp 1)))),
             ((some 90), (none, (.ld false (.tmp 89)))),
             ((some 91), (none, (.fa 4 (.tmp 3)))),
             (none, (none, (.st 1 (.tmp 91) (.tmp 90))))])
           (.seq (.reg [((some 92), (none, (.fa 4 (.tmp 1)))),
             ((some 93), (none, (.ld false (.tmp 92)))),
             ((some 94), (none, (.call f_predicate_name [(.tmp 93)]))),
             ((some 95), (none, (.mv (.tmp 94)))),
             ((some 96), ((some (95, true)), (.ldA 6 (.tmp 1)))),
             ((some 97), ((some (95, true)), (.ldA 6 (.tmp 3)))),
             ((some 98), ((some (95, true)), (.eqA false [(.int .i64), (.int .u64), (.int .i64), (.int .i64), .string, (.int .i64)] (.tmp 96) (.tmp 97)))),
             ((some 99), (none, (.pick (.tmp 95) (.tmp 98) (.const (.bool false))))),
             ((some 2), (none, (.mv (.tmp 99))))])
           .ret))
           (.seq (.reg [((some 101), (none, (.bi .eql (.tmp 8) (.const (.int .i64 7))))),
             ((some 100), (none, (.mv (.tmp 101))))])
           (.cond (.tmp 100)
             (.seq (.reg [((some 102), (none, (.fa 5 (.tmp 1)))),
               ((some 103), (none, (.ld false (.tmp 102)))),
               ((some 104), (none, (.fa 5 (.tmp 3)))),
               (none, (none, (.st 1 (.tmp 104) (.tmp 103))))])
             (.seq (.reg [((some 105), (none, (.fa 5 (.tmp 1)))),
               ((some 106), (none, (.ld false (.tmp 105)))),
               ((some 107), (none, (.bi .geq (.tmp 106) (.const (.int .i64 0))))),
               ((some 108), (none, (.mv (.tmp 107)))),
               ((some 109), ((some (108, true)), (.fa 5 (.tmp 1)))),
               ((some 110), ((some (108, true)), (.ld false (.tmp 109)))),
               ((some 111), ((some (108, true)), (.bi .leq (.tmp 110) (.const (.int .i64 1000000))))),
               ((some 112), (none, (.pick (.tmp 108) (.tmp 111) (.const (.bool false))))),
               ((some 113), (none, (.mv (.tmp 112)))),
               ((some 114), ((some (113, true)), (.ldA 6 (.tmp 1)))),
               ((some 115), ((some (113, true)), (.ldA 6 (.tmp 3)))),
               ((some 116), ((some (113, true)), (.eqA false [(.int .i64), (.int .u64), (.int .i64), (.int .i64), .string, (.int .i64)] (.tmp 114) (.tmp 115)))),
               ((some 117), (none, (.pick (.tmp 113) (.tmp 116) (.const (.bool false))))),
               ((some 2), (none, (.mv (.tmp 117))))])
             .ret))
             .skip))))))))))))
  (.seq (.reg [((some 2), (none, (.mv (.const (.bool false)))))])
  .ret))))
/-- macaroon/macaroonref01.Name: 28 slots, results [(.t 2)] -/
def ref01_NameC : PC :=
  (.seq (.reg [((some 2), (none, (.mv (.const (.bool false)))))])
  (.seq (.seq (.reg [((some 4), (none, (.mv (.tmp 0)))),
    ((some 5), (none, (.slen (.tmp 4)))),
    ((some 6), (none, (.bi .lss (.tmp 5) (.const (.int .i64 1))))),
    ((some 7), (none, (.mv (.tmp 6)))),
    ((some 8), ((some (7, false)), (.mv (.tmp 0)))),
    ((some 9), ((some (7, false)), (.slen (.tmp 8)))),
    ((some 10), ((some (7, false)), (.bi .gtr (.tmp 9) (.const (.int .i64 16))))),
    ((some 11), (none, (.pick (.tmp 7) (.const (.bool true)) (.tmp 10))))])
  (.cond (.tmp 11)
    (.seq (.reg [((some 2), (none, (.mv (.const (.bool false)))))])
    .ret)
    .skip))
  (.seq (.seq (.reg [((some 3), (none, (.mv (.const (.int .i64 0)))))])
  (.block 0 (.loop (.seq (.seq (.reg [((some 12), (none, (.mv (.tmp 3)))),
      ((some 13), (none, (.mv (.tmp 0)))),
      ((some 14), (none, (.slen (.tmp 13)))),
      ((some 15), (none, (.bi .lss (.tmp 12) (.tmp 14))))])
    (.cond (.tmp 15)
      .skip
      (.exit 0)))
    (.seq (.block 1 (.seq (.reg [((some 18), (none, (.mv (.tmp 0)))),
       ((some 19), (none, (.mv (.tmp 3)))),
       ((some 20), (none, (.six (.tmp 18) (.tmp 19)))),
       ((some 21), (none, (.bi .lss (.tmp 20) (.const (.int .u8 97))))),
       ((some 22), (none, (.mv (.tmp 21)))),
       ((some 23), ((some (22, false)), (.mv (.tmp 0)))),
       ((some 24), ((some (22, false)), (.mv (.tmp 3)))),
       ((some 25), ((some (22, false)), (.six (.tmp 23) (.tmp 24)))),
       ((some 26), ((some (22, false)), (.bi .gtr (.tmp 25) (.const (.int .u8 122))))),
       ((some 27), (none, (.pick (.tmp 22) (.const (.bool true)) (.tmp 26))))])
     (.cond (.tmp 27)
       (.seq (.reg [((some 2), (none, (.mv (.const (.bool false)))))])
       .ret)
       .skip)))
    (.reg [((some 16), (none, (.mv (.tmp 3)))),
      ((some 17), (none, (.bi .add (.tmp 16) (.const (.int .i64 1))))),
      ((some 3), (none, (.mv (.tmp 17))))]))))))
  (.seq (.reg [((some 2), (none, (.mv (.const (.bool true)))))])
  .ret))))
/-- (*macaroon/macaroonmade.Deck).mask: 45 slots, results [(.t 4)] -/
def made_Deck_maskC (f_made_Deck_Next : Nat) : PC :=
  (.seq (.reg [((some 4), (none, (.mv (.const (.int .u64 0)))))])
  (.seq (.reg [((some 5), (none, (.mv (.const (.int .u64 0)))))])
  (.seq (.seq (.reg [((some 6), (none, (.mv (.tmp 0)))),
    ((some 7), (none, (.call f_made_Deck_Next [(.tmp 6), (.const (.int .i64 3))])))])
  (.block 0 (.seq (.reg [((some 9), (none, (.bi .eql (.tmp 7) (.const (.int .i64 0))))),
     ((some 8), (none, (.mv (.tmp 9))))])
   (.cond (.tmp 8)
     (.reg [((some 10), (none, (.mv (.tmp 0)))),
       ((some 11), (none, (.call f_made_Deck_Next [(.tmp 10), (.const (.int .i64 16))]))),
       ((some 12), (none, (.cv .u64 (.tmp 11)))),
       ((some 5), (none, (.mv (.tmp 12))))])
     (.seq (.reg [((some 14), (none, (.bi .eql (.tmp 7) (.const (.int .i64 1))))),
       ((some 13), (none, (.mv (.tmp 14))))])
     (.cond (.tmp 13)
       (.reg [((some 15), (none, (.mv (.tmp 0)))),
         ((some 16), (none, (.call f_made_Deck_Next [(.tmp 15), (.const (.int .i64 65536))]))),
         ((some 17), (none, (.cv .u64 (.tmp 16)))),
         ((some 18), (none, (.mv (.tmp 0)))),
         ((some 19), (none, (.call f_made_Deck_Next [(.tmp 18), (.const (.int .i64 65536))]))),
         ((some 20), (none, (.cv .u64 (.tmp 19)))),
         ((some 21), (none, (.bi .shl (.tmp 20) (.const (.int .u64 48))))),
         ((some 22), (none, (.bi .or (.tmp 17) (.tmp 21)))),
         ((some 5), (none, (.mv (.tmp 22))))])
       (.seq (.reg [((some 24), (none, (.bi .eql (.tmp 7) (.const (.int .i64 2))))),
         ((some 23), (none, (.mv (.tmp 24))))])
       (.cond (.tmp 23)
         (.reg [((some 25), (none, (.mv (.tmp 0)))),
           ((some 26), (none, (.call f_made_Deck_Next [(.tmp 25), (.const (.int .i64 65536))]))),
           ((some 27), (none, (.cv .u64 (.tmp 26)))),
           ((some 28), (none, (.un .xor (.tmp 27)))),
           ((some 5), (none, (.mv (.tmp 28))))])
         .skip))))))))
  (.seq (.seq (.reg [((some 29), (none, (.mv (.tmp 1)))),
    ((some 30), (none, (.bi .lss (.tmp 29) (.const (.int .i64 64)))))])
  (.cond (.tmp 30)
    (.reg [((some 31), (none, (.mv (.tmp 5)))),
      ((some 32), (none, (.mv (.tmp 1)))),
      ((some 33), (none, (.cv .u64 (.tmp 32)))),
      ((some 34), (none, (.bi .shl (.const (.int .u64 1)) (.tmp 33)))),
      ((some 35), (none, (.bi .sub (.tmp 34) (.const (.int .u64 1))))),
      ((some 36), (none, (.bi .and (.tmp 31) (.tmp 35)))),
      ((some 5), (none, (.mv (.tmp 36))))])
    .skip))
  (.seq (.seq (.reg [((some 37), (none, (.mv (.tmp 5)))),
    ((some 38), (none, (.bi .eql (.tmp 37) (.const (.int .u64 0)))))])
  (.cond (.tmp 38)
    (.seq (.reg [((some 39), (none, (.mv (.tmp 0)))),
      ((some 40), (none, (.mv (.tmp 1)))),
      ((some 41), (none, (.call f_made_Deck_Next [(.tmp 39), (.tmp 40)]))),
      ((some 42), (none, (.cv .u64 (.tmp 41)))),
      ((some 43), (none, (.bi .shl (.const (.int .u64 1)) (.tmp 42)))),
      ((some 4), (none, (.mv (.tmp 43))))])
    .ret)
    .skip))
  (.seq (.reg [((some 44), (none, (.mv (.tmp 5)))),
    ((some 4), (none, (.mv (.tmp 44))))])
  .ret))))))
/-- (*macaroon/macaroonmade.Deck).Upto: 32 slots, results [(.t 4)] -/
def made_Deck_UptoC (f_made_Deck_Next : Nat) : PC :=
  (.seq (.reg [((some 4), (none, (.mv (.const (.int .i64 0)))))])
  (.seq (.seq (.reg [((some 5), (none, (.mv (.tmp 0)))),
    ((some 6), (none, (.call f_made_Deck_Next [(.tmp 5), (.const (.int .i64 4))])))])
  (.block 0 (.seq (.reg [((some 8), (none, (.bi .eql (.tmp 6) (.const (.int .i64 0))))),
     ((some 7), (none, (.mv (.tmp 8))))])
   (.cond (.tmp 7)
     (.seq (.reg [((some 9), (none, (.mv (.tmp 0)))),
       ((some 10), (none, (.call f_made_Deck_Next [(.tmp 9), (.const (.int .i64 4))]))),
       ((some 11), (none, (.mv (.tmp 1)))),
       ((some 12), (none, (.mm false (.tmp 10) (.tmp 11)))),
       ((some 4), (none, (.mv (.tmp 12))))])
     .ret)
     (.seq (.reg [((some 14), (none, (.bi .eql (.tmp 6) (.const (.int .i64 1))))),
       ((some 13), (none, (.mv (.tmp 14))))])
     (.cond (.tmp 13)
       (.seq (.reg [((some 15), (none, (.mv (.tmp 0)))),
         ((some 16), (none, (.call f_made_Deck_Next [(.tmp 15), (.const (.int .i64 300))]))),
         ((some 17), (none, (.mv (.tmp 1)))),
         ((some 18), (none, (.mm false (.tmp 16) (.tmp 17)))),
         ((some 4), (none, (.mv (.tmp 18))))])
       .ret)
       (.seq (.reg [((some 20), (none, (.bi .eql (.tmp 6) (.const (.int .i64 2))))),
         ((some 19), (none, (.mv (.tmp 20))))])
       (.cond (.tmp 19)
         (.seq (.reg [((some 21), (none, (.mv (.tmp 1)))),
           ((some 22), (none, (.mv (.tmp 0)))),
           ((some 23), (none, (.mv (.tmp 1)))),
           ((some 24), (none, (.bi .add (.tmp 23) (.const (.int .i64 1))))),
           ((some 25), (none, (.mm false (.const (.int .i64 3)) (.tmp 24)))),
           ((some 26), (none, (.call f_made_Deck_Next [(.tmp 22), (.tmp 25)]))),
           ((some 27), (none, (.bi .sub (.tmp 21) (.tmp 26)))),
           ((some 4), (none, (.mv (.tmp 27))))])
         .ret)
         .skip))))))))
  (.seq (.reg [((some 28), (none, (.mv (.tmp 0)))),
    ((some 29), (none, (.mv (.tmp 1)))),
    ((some 30), (none, (.bi .add (.tmp 29) (.const (.int .i64 1))))),
    ((some 31), (none, (.call f_made_Deck_Next [(.tmp 28), (.tmp 30)]))),
    ((some 4), (none, (.mv (.tmp 31))))])
  .ret)))
/-- (macaroon/holds.ride).zone: 12 slots, results [(.t 4)] -/
def holds_ride_zoneC : PC :=
  (.seq (.reg [((some 2), (none, (.box 4 (.tmp 0)))),
    ((some 3), (none, (.box 6 (.tmp 1)))),
    ((some 4), (none, (.mv (.const (.bool false)))))])
  (.seq (.reg [((some 5), (none, (.fa 1 (.tmp 3)))),
    ((some 6), (none, (.ld false (.tmp 5)))),
    ((some 7), (none, (.fa 0 (.tmp 2)))),
    ((some 8), (none, (.ld false (.tmp 7)))),
    ((some 9), (none, (.bi .shr (.tmp 6) (.tmp 8)))),
    ((some 10), (none, (.bi .and (.tmp 9) (.const (.int .u64 1))))),
    ((some 11), (none, (.bi .eql (.tmp 10) (.const (.int .u64 1))))),
    ((some 4), (none, (.mv (.tmp 11))))])
  .ret))
/-- (macaroon/holds.ride).line: 12 slots, results [(.t 4)] -/
def holds_ride_lineC : PC :=
  (.seq (.reg [((some 2), (none, (.box 4 (.tmp 0)))),
    ((some 3), (none, (.box 6 (.tmp 1)))),
    ((some 4), (none, (.mv (.const (.bool false)))))])
  (.seq (.reg [((some 5), (none, (.fa 1 (.tmp 3)))),
    ((some 6), (none, (.ld false (.tmp 5)))),
    ((some 7), (none, (.fa 1 (.tmp 2)))),
    ((some 8), (none, (.ld false (.tmp 7)))),
    ((some 9), (none, (.bi .shr (.tmp 6) (.tmp 8)))),
    ((some 10), (none, (.bi .and (.tmp 9) (.const (.int .u64 1))))),
    ((some 11), (none, (.bi .eql (.tmp 10) (.const (.int .u64 1))))),
    ((some 4), (none, (.mv (.tmp 11))))])
  .ret))
/-- (macaroon/holds.ride).days: 14 slots, results [(.t 4)] -/
def holds_ride_daysC : PC :=
  (.seq (.reg [((some 2), (none, (.box 4 (.tmp 0)))),
    ((some 3), (none, (.box 6 (.tmp 1)))),
    ((some 4), (none, (.mv (.const (.bool false)))))])
  (.seq (.reg [((some 5), (none, (.fa 1 (.tmp 3)))),
    ((some 6), (none, (.ld false (.tmp 5)))),
    ((some 7), (none, (.fa 2 (.tmp 2)))),
    ((some 8), (none, (.ld false (.tmp 7)))),
    ((some 9), (none, (.bi .quo (.tmp 8) (.const (.int .i64 1440))))),
    ((some 10), (none, (.bi .rem (.tmp 9) (.const (.int .i64 7))))),
    ((some 11), (none, (.bi .shr (.tmp 6) (.tmp 10)))),
    ((some 12), (none, (.bi .and (.tmp 11) (.const (.int .u64 1))))),
    ((some 13), (none, (.bi .eql (.tmp 12) (.const (.int .u64 1))))),
    ((some 4), (none, (.mv (.tmp 13))))])
  .ret))
/-- (macaroon/holds.ride).time: 17 slots, results [(.t 4)] -/
def holds_ride_timeC : PC :=
  (.seq (.reg [((some 2), (none, (.box 4 (.tmp 0)))),
    ((some 3), (none, (.box 6 (.tmp 1)))),
    ((some 4), (none, (.mv (.const (.bool false)))))])
  (.seq (.reg [((some 5), (none, (.fa 2 (.tmp 2)))),
    ((some 6), (none, (.ld false (.tmp 5)))),
    ((some 7), (none, (.fa 2 (.tmp 3)))),
    ((some 8), (none, (.ld false (.tmp 7)))),
    ((some 9), (none, (.bi .geq (.tmp 6) (.tmp 8)))),
    ((some 10), (none, (.mv (.tmp 9)))),
    ((some 11), ((some (10, true)), (.fa 2 (.tmp 2)))),
    ((some 12), ((some (10, true)), (.ld false (.tmp 11)))),
    ((some 13), ((some (10, true)), (.fa 3 (.tmp 3)))),
    ((some 14), ((some (10, true)), (.ld false (.tmp 13)))),
    ((some 15), ((some (10, true)), (.bi .leq (.tmp 12) (.tmp 14)))),
    ((some 16), (none, (.pick (.tmp 10) (.tmp 15) (.const (.bool false))))),
    ((some 4), (none, (.mv (.tmp 16))))])
  .ret))
/-- (macaroon/holds.ride).daily: 34 slots, results [(.t 4)] -/
def holds_ride_dailyC : PC :=
  (.seq (.reg [((some 2), (none, (.box 4 (.tmp 0)))),
    ((some 3), (none, (.box 6 (.tmp 1)))),
    ((some 4), (none, (.mv (.const (.bool false)))))])
  (.seq (.reg [((some 6), (none, (.fa 2 (.tmp 2)))),
    ((some 7), (none, (.ld false (.tmp 6)))),
    ((some 8), (none, (.bi .rem (.tmp 7) (.const (.int .i64 1440))))),
    ((some 5), (none, (.mv (.tmp 8))))])
  (.seq (.seq (.reg [((some 9), (none, (.fa 2 (.tmp 3)))),
    ((some 10), (none, (.ld false (.tmp 9)))),
    ((some 11), (none, (.fa 3 (.tmp 3)))),
    ((some 12), (none, (.ld false (.tmp 11)))),
    ((some 13), (none, (.bi .leq (.tmp 10) (.tmp 12))))])
  (.cond (.tmp 13)
    (.seq (.reg [((some 14), (none, (.mv (.tmp 5)))),
      ((some 15), (none, (.fa 2 (.tmp 3)))),
      ((some 16), (none, (.ld false (.tmp 15)))),
      ((some 17), (none, (.bi .geq (.tmp 14) (.tmp 16)))),
      ((some 18), (none, (.mv (.tmp 17)))),
      ((some 19), ((some (18, true)), (.mv (.tmp 5)))),
      ((some 20), ((some (18, true)), (.fa 3 (.tmp 3)))),
      ((some 21), ((some (18, true)), (.ld false (.tmp 20)))),
      ((some 22), ((some (18, true)), (.bi .leq (.tmp 19) (.tmp 21)))),
      ((some 23), (none, (.pick (.tmp 18) (.tmp 22) (.const (.bool false))))),
      ((some 4), (none, (.mv (.tmp 23))))])
    .ret)
    .skip))
  (.seq (.reg [((some 24), (none, (.mv (.tmp 5)))),
    ((some 25), (none, (.fa 2 (.tmp 3)))),
    ((some 26), (none, (.ld false (.tmp 25)))),
    ((some 27), (none, (.bi .geq (.tmp 24) (.tmp 26)))),
    ((some 28), (none, (.mv (.tmp 27)))),
    ((some 29), ((some (28, false)), (.mv (.tmp 5)))),
    ((some 30), ((some (28, false)), (.fa 3 (.tmp 3)))),
    ((some 31), ((some (28, false)), (.ld false (.tmp 30)))),
    ((some 32), ((some (28, false)), (.bi .leq (.tmp 29) (.tmp 31)))),
    ((some 33), (none, (.pick (.tmp 28) (.const (.bool true)) (.tmp 32)))),
    ((some 4), (none, (.mv (.tmp 33))))])
  .ret))))
/-- (macaroon/holds.ride).holder: 10 slots, results [(.t 4)] -/
def holds_ride_holderC : PC :=
  (.seq (.reg [((some 2), (none, (.box 4 (.tmp 0)))),
    ((some 3), (none, (.box 6 (.tmp 1)))),
    ((some 4), (none, (.mv (.const (.bool false)))))])
  (.seq (.reg [((some 5), (none, (.fa 4 (.tmp 3)))),
    ((some 6), (none, (.ld false (.tmp 5)))),
    ((some 7), (none, (.fa 3 (.tmp 2)))),
    ((some 8), (none, (.ld false (.tmp 7)))),
    ((some 9), (none, (.bi .eql (.tmp 6) (.tmp 8)))),
    ((some 4), (none, (.mv (.tmp 9))))])
  .ret))
/-- (macaroon/holds.ride).rides: 5 slots, results [(.t 4)] -/
def holds_ride_ridesC : PC :=
  (.seq (.reg [((some 2), (none, (.box 4 (.tmp 0)))),
    ((some 3), (none, (.box 6 (.tmp 1)))),
    ((some 4), (none, (.mv (.const (.bool false)))))])
  (.seq (.reg [((some 4), (none, (.mv (.const (.bool true)))))])
  .ret))
/-- macaroon/macaroonref06.Valid: 120 slots, results [(.t 2)] -/
def ref06_ValidC (f_ref01_Name : Nat) : PC :=
  (.seq (.reg [((some 1), (none, (.box 6 (.tmp 0)))),
    ((some 2), (none, (.mv (.const (.bool false)))))])
  (.seq (.reg [((some 5), (none, (.fa 0 (.tmp 1)))),
    ((some 6), (none, (.ld false (.tmp 5)))),
    ((some 7), (none, (.build [(.inr ((.tmp 6), 1)), (.inl [(.int .u64 0)]), (.inl [(.int .i64 0)]), (.inl [(.int .i64 0)]), (.inl [(.string ⟨#[]⟩)]), (.inl [(.int .i64 0)])]))),
    ((some 3), (none, (.alloc [(.int .i64 0), (.int .u64 0), (.int .i64 0), (.int .i64 0), (.string ⟨#[]⟩), (.int .i64 0)]))),
    (none, (none, (.st 6 (.tmp 3) (.tmp 7))))])
  (.seq (.reg [((some 4), (none, (.mv (.const (.bool false)))))])
  (.seq (.seq (.reg [((some 8), (none, (.fa 0 (.tmp 1)))),
    ((some 9), (none, (.ld false (.tmp 8))))])
  (.block 0 (.seq (.reg [((some 11), (none, (.bi .eql (.tmp 9) (.const (.int .i64 1))))),
     ((some 10), (none, (.mv (.tmp 11))))])
   (.cond (.tmp 10)
     (.ord (.one ((some 12), (none, (.fa 1 (.tmp 1))))
       (.one ((some 13), (none, (.ld false (.tmp 12))))
       (.one ((some 14), (none, (.fa 1 (.tmp 1))))
       (.one ((some 17), (none, (.fa 1 (.tmp 3))))
       (.alt (.one ((some 15), (none, (.ld false (.tmp 14))))
        (.one ((some 16), (none, (.bi .neq (.tmp 15) (.const (.int .u64 0)))))
        (.one (none, (none, (.st 1 (.tmp 17) (.tmp 13))))
        (.one ((some 4), (none, (.mv (.tmp 16))))
        .done))))
       (.one (none, (none, (.st 1 (.tmp 17) (.tmp 13))))
        (.one ((some 15), (none, (.ld false (.tmp 14))))
        (.one ((some 16), (none, (.bi .neq (.tmp 15) (.const (.int .u64 0)))))
        (.one ((some 4), (none, (.mv (.tmp 16))))
        .done))))))))))
     (.seq (.reg [((some 19), (none, (.bi .eql (.tmp 9) (.const (.int .i64 2))))),
       ((some 18), (none, (.mv (.tmp 19))))])
     (.cond (.tmp 18)
       (.ord (.one ((some 20), (none, (.fa 1 (.tmp 1))))
         (.one ((some 21), (none, (.ld false (.tmp 20))))
         (.one ((some 22), (none, (.fa 1 (.tmp 1))))
         (.one ((some 30), (none, (.fa 1 (.tmp 3))))
         (.one ((some 23), (none, (.ld false (.tmp 22))))
         (.one ((some 24), (none, (.bi .neq (.tmp 23) (.const (.int .u64 0)))))
         (.one ((some 25), (none, (.mv (.tmp 24))))
         (.one ((some 26), ((some (25, true)), (.fa 1 (.tmp 1))))
         (.alt (.one ((some 27), ((some (25, true)), (.ld false (.tmp 26))))
          (.one ((some 28), ((some (25, true)), (.bi .lss (.tmp 27) (.const (.int .u64 4294967296)))))
          (.one ((some 29), (none, (.pick (.tmp 25) (.tmp 28) (.const (.bool false)))))
          (.one (none, (none, (.st 1 (.tmp 30) (.tmp 21))))
          (.one ((some 4), (none, (.mv (.tmp 29))))
          .done)))))
         (.one (none, (none, (.st 1 (.tmp 30) (.tmp 21))))
          (.one ((some 27), ((some (25, true)), (.ld false (.tmp 26))))
          (.one ((some 28), ((some (25, true)), (.bi .lss (.tmp 27) (.const (.int .u64 4294967296)))))
          (.one ((some 29), (none, (.pick (.tmp 25) (.tmp 28) (.const (.bool false)))))
          (.one ((some 4), (none, (.mv (.tmp 29))))
          .done)))))))))))))))
       (.seq (.reg [((some 32), (none, (.bi .eql (.tmp 9) (.const (.int .i64 3))))),
         ((some 31), (none, (.mv (.tmp 32))))])
       (.cond (.tmp 31)
         (.ord (.one ((some 33), (none, (.fa 1 (.tmp 1))))
           (.one ((some 34), (none, (.ld false (.tmp 33))))
           (.one ((some 35), (none, (.fa 1 (.tmp 1))))
           (.one ((some 43), (none, (.fa 1 (.tmp 3))))
           (.one ((some 36), (none, (.ld false (.tmp 35))))
           (.one ((some 37), (none, (.bi .neq (.tmp 36) (.const (.int .u64 0)))))
           (.one ((some 38), (none, (.mv (.tmp 37))))
           (.one ((some 39), ((some (38, true)), (.fa 1 (.tmp 1))))
           (.alt (.one ((some 40), ((some (38, true)), (.ld false (.tmp 39))))
            (.one ((some 41), ((some (38, true)), (.bi .lss (.tmp 40) (.const (.int .u64 128)))))
            (.one ((some 42), (none, (.pick (.tmp 38) (.tmp 41) (.const (.bool false)))))
            (.one (none, (none, (.st 1 (.tmp 43) (.tmp 34))))
            (.one ((some 4), (none, (.mv (.tmp 42))))
            .done)))))
           (.one (none, (none, (.st 1 (.tmp 43) (.tmp 34))))
            (.one ((some 40), ((some (38, true)), (.ld false (.tmp 39))))
            (.one ((some 41), ((some (38, true)), (.bi .lss (.tmp 40) (.const (.int .u64 128)))))
            (.one ((some 42), (none, (.pick (.tmp 38) (.tmp 41) (.const (.bool false)))))
            (.one ((some 4), (none, (.mv (.tmp 42))))
            .done)))))))))))))))
         (.seq (.reg [((some 45), (none, (.bi .eql (.tmp 9) (.const (.int .i64 4))))),
           ((some 44), (none, (.mv (.tmp 45))))])
         (.cond (.tmp 44)
           (.ord (.one ((some 46), (none, (.fa 2 (.tmp 1))))
             (.one ((some 47), (none, (.ld false (.tmp 46))))
             (.one ((some 48), (none, (.fa 3 (.tmp 1))))
             (.one ((some 50), (none, (.fa 2 (.tmp 1))))
             (.one ((some 65), (none, (.fa 2 (.tmp 3))))
             (.alt (.one ((some 49), (none, (.ld false (.tmp 48))))
              (.one ((some 51), (none, (.ld false (.tmp 50))))
              (.one ((some 52), (none, (.bi .geq (.tmp 51) (.const (.int .i64 0)))))
              (.one ((some 53), (none, (.mv (.tmp 52))))
              (.one ((some 54), ((some (53, true)), (.fa 2 (.tmp 1))))
              (.one ((some 56), ((some (53, true)), (.fa 3 (.tmp 1))))
              (.alt (.one ((some 55), ((some (53, true)), (.ld false (.tmp 54))))
               (.one ((some 57), ((some (53, true)), (.ld false (.tmp 56))))
               (.one ((some 58), ((some (53, true)), (.bi .leq (.tmp 55) (.tmp 57))))
               (.one ((some 59), (none, (.pick (.tmp 53) (.tmp 58) (.const (.bool false)))))
               (.one ((some 60), (none, (.mv (.tmp 59))))
               (.one ((some 61), ((some (60, true)), (.fa 3 (.tmp 1))))
               (.alt (.one ((some 62), ((some (60, true)), (.ld false (.tmp 61))))
                (.one ((some 63), ((some (60, true)), (.bi .leq (.tmp 62) (.const (.int .i64 67108864)))))
                (.one ((some 64), (none, (.pick (.tmp 60) (.tmp 63) (.const (.bool false)))))
                (.one (none, (none, (.st 1 (.tmp 65) (.tmp 47))))
                (.one ((some 66), (none, (.fa 3 (.tmp 3))))
                (.one (none, (none, (.st 1 (.tmp 66) (.tmp 49))))
                (.one ((some 4), (none, (.mv (.tmp 64))))
                .done)))))))
               (.one (none, (none, (.st 1 (.tmp 65) (.tmp 47))))
                (.one ((some 66), (none, (.fa 3 (.tmp 3))))
                (.alt (.one ((some 62), ((some (60, true)), (.ld false (.tmp 61))))
                 (.one ((some 63), ((some (60, true)), (.bi .leq (.tmp 62) (.const (.int .i64 67108864)))))
                 (.one ((some 64), (none, (.pick (.tmp 60) (.tmp 63) (.const (.bool false)))))
                 (.one (none, (none, (.st 1 (.tmp 66) (.tmp 49))))
                 (.one ((some 4), (none, (.mv (.tmp 64))))
                 .done)))))
                (.one (none, (none, (.st 1 (.tmp 66) (.tmp 49))))
                 (.one ((some 62), ((some (60, true)), (.ld false (.tmp 61))))
                 (.one ((some 63), ((some (60, true)), (.bi .leq (.tmp 62) (.const (.int .i64 67108864)))))
                 (.one ((some 64), (none, (.pick (.tmp 60) (.tmp 63) (.const (.bool false)))))
                 (.one ((some 4), (none, (.mv (.tmp 64))))
                 .done)))))))))))))))
              (.one ((some 57), ((some (53, true)), (.ld false (.tmp 56))))
               (.one ((some 55), ((some (53, true)), (.ld false (.tmp 54))))
               (.one ((some 58), ((some (53, true)), (.bi .leq (.tmp 55) (.tmp 57))))
               (.one ((some 59), (none, (.pick (.tmp 53) (.tmp 58) (.const (.bool false)))))
               (.one ((some 60), (none, (.mv (.tmp 59))))
               (.one ((some 61), ((some (60, true)), (.fa 3 (.tmp 1))))
               (.alt (.one ((some 62), ((some (60, true)), (.ld false (.tmp 61))))
                (.one ((some 63), ((some (60, true)), (.bi .leq (.tmp 62) (.const (.int .i64 67108864)))))
                (.one ((some 64), (none, (.pick (.tmp 60) (.tmp 63) (.const (.bool false)))))
                (.one (none, (none, (.st 1 (.tmp 65) (.tmp 47))))
                (.one ((some 66), (none, (.fa 3 (.tmp 3))))
                (.one (none, (none, (.st 1 (.tmp 66) (.tmp 49))))
                (.one ((some 4), (none, (.mv (.tmp 64))))
                .done)))))))
               (.one (none, (none, (.st 1 (.tmp 65) (.tmp 47))))
                (.one ((some 66), (none, (.fa 3 (.tmp 3))))
                (.alt (.one ((some 62), ((some (60, true)), (.ld false (.tmp 61))))
                 (.one ((some 63), ((some (60, true)), (.bi .leq (.tmp 62) (.const (.int .i64 67108864)))))
                 (.one ((some 64), (none, (.pick (.tmp 60) (.tmp 63) (.const (.bool false)))))
                 (.one (none, (none, (.st 1 (.tmp 66) (.tmp 49))))
                 (.one ((some 4), (none, (.mv (.tmp 64))))
                 .done)))))
                (.one (none, (none, (.st 1 (.tmp 66) (.tmp 49))))
                 (.one ((some 62), ((some (60, true)), (.ld false (.tmp 61))))
                 (.one ((some 63), ((some (60, true)), (.bi .leq (.tmp 62) (.const (.int .i64 67108864)))))
                 (.one ((some 64), (none, (.pick (.tmp 60) (.tmp 63) (.const (.bool false)))))
                 (.one ((some 4), (none, (.mv (.tmp 64))))
                 .done))))))))))))))))))))))
             (.one ((some 51), (none, (.ld false (.tmp 50))))
              (.one ((some 52), (none, (.bi .geq (.tmp 51) (.const (.int .i64 0)))))
              (.one ((some 53), (none, (.mv (.tmp 52))))
              (.one ((some 54), ((some (53, true)), (.fa 2 (.tmp 1))))
              (.one ((some 56), ((some (53, true)), (.fa 3 (.tmp 1))))
              (.alt (.one ((some 49), (none, (.ld false (.tmp 48))))
               (.alt (.one ((some 55), ((some (53, true)), (.ld false (.tmp 54))))
                (.one ((some 57), ((some (53, true)), (.ld false (.tmp 56))))
                (.one ((some 58), ((some (53, true)), (.bi .leq (.tmp 55) (.tmp 57))))
                (.one ((some 59), (none, (.pick (.tmp 53) (.tmp 58) (.const (.bool false)))))
                (.one ((some 60), (none, (.mv (.tmp 59))))
                (.one ((some 61), ((some (60, true)), (.fa 3 (.tmp 1))))
                (.alt (.one ((some 62), ((some (60, true)), (.ld false (.tmp 61))))
                 (.one ((some 63), ((some (60, true)), (.bi .leq (.tmp 62) (.const (.int .i64 67108864)))))
                 (.one ((some 64), (none, (.pick (.tmp 60) (.tmp 63) (.const (.bool false)))))
                 (.one (none, (none, (.st 1 (.tmp 65) (.tmp 47))))
                 (.one ((some 66), (none, (.fa 3 (.tmp 3))))
                 (.one (none, (none, (.st 1 (.tmp 66) (.tmp 49))))
                 (.one ((some 4), (none, (.mv (.tmp 64))))
                 .done)))))))
                (.one (none, (none, (.st 1 (.tmp 65) (.tmp 47))))
                 (.one ((some 66), (none, (.fa 3 (.tmp 3))))
                 (.alt (.one ((some 62), ((some (60, true)), (.ld false (.tmp 61))))
                  (.one ((some 63), ((some (60, true)), (.bi .leq (.tmp 62) (.const (.int .i64 67108864)))))
                  (.one ((some 64), (none, (.pick (.tmp 60) (.tmp 63) (.const (.bool false)))))
                  (.one (none, (none, (.st 1 (.tmp 66) (.tmp 49))))
                  (.one ((some 4), (none, (.mv (.tmp 64))))
                  .done)))))
                 (.one (none, (none, (.st 1 (.tmp 66) (.tmp 49))))
                  (.one ((some 62), ((some (60, true)), (.ld false (.tmp 61))))
                  (.one ((some 63), ((some (60, true)), (.bi .leq (.tmp 62) (.const (.int .i64 67108864)))))
                  (.one ((some 64), (none, (.pick (.tmp 60) (.tmp 63) (.const (.bool false)))))
                  (.one ((some 4), (none, (.mv (.tmp 64))))
                  .done)))))))))))))))
               (.one ((some 57), ((some (53, true)), (.ld false (.tmp 56))))
                (.one ((some 55), ((some (53, true)), (.ld false (.tmp 54))))
                (.one ((some 58), ((some (53, true)), (.bi .leq (.tmp 55) (.tmp 57))))
                (.one ((some 59), (none, (.pick (.tmp 53) (.tmp 58) (.const (.bool false)))))
                (.one ((some 60), (none, (.mv (.tmp 59))))
                (.one ((some 61), ((some (60, true)), (.fa 3 (.tmp 1))))
                (.alt (.one ((some 62), ((some (60, true)), (.ld false (.tmp 61))))
                 (.one ((some 63), ((some (60, true)), (.bi .leq (.tmp 62) (.const (.int .i64 67108864)))))
                 (.one ((some 64), (none, (.pick (.tmp 60) (.tmp 63) (.const (.bool false)))))
                 (.one (none, (none, (.st 1 (.tmp 65) (.tmp 47))))
                 (.one ((some 66), (none, (.fa 3 (.tmp 3))))
                 (.one (none, (none, (.st 1 (.tmp 66) (.tmp 49))))
                 (.one ((some 4), (none, (.mv (.tmp 64))))
                 .done)))))))
                (.one (none, (none, (.st 1 (.tmp 65) (.tmp 47))))
                 (.one ((some 66), (none, (.fa 3 (.tmp 3))))
                 (.alt (.one ((some 62), ((some (60, true)), (.ld false (.tmp 61))))
                  (.one ((some 63), ((some (60, true)), (.bi .leq (.tmp 62) (.const (.int .i64 67108864)))))
                  (.one ((some 64), (none, (.pick (.tmp 60) (.tmp 63) (.const (.bool false)))))
                  (.one (none, (none, (.st 1 (.tmp 66) (.tmp 49))))
                  (.one ((some 4), (none, (.mv (.tmp 64))))
                  .done)))))
                 (.one (none, (none, (.st 1 (.tmp 66) (.tmp 49))))
                  (.one ((some 62), ((some (60, true)), (.ld false (.tmp 61))))
                  (.one ((some 63), ((some (60, true)), (.bi .leq (.tmp 62) (.const (.int .i64 67108864)))))
                  (.one ((some 64), (none, (.pick (.tmp 60) (.tmp 63) (.const (.bool false)))))
                  (.one ((some 4), (none, (.mv (.tmp 64))))
                  .done)))))))))))))))))
              (.alt (.one ((some 55), ((some (53, true)), (.ld false (.tmp 54))))
                (.alt (.one ((some 49), (none, (.ld false (.tmp 48))))
                 (.one ((some 57), ((some (53, true)), (.ld false (.tmp 56))))
                 (.one ((some 58), ((some (53, true)), (.bi .leq (.tmp 55) (.tmp 57))))
                 (.one ((some 59), (none, (.pick (.tmp 53) (.tmp 58) (.const (.bool false)))))
                 (.one ((some 60), (none, (.mv (.tmp 59))))
                 (.one ((some 61), ((some (60, true)), (.fa 3 (.tmp 1))))
                 (.alt (.one ((some 62), ((some (60, true)), (.ld false (.tmp 61))))
                  (.one ((some 63), ((some (60, true)), (.bi .leq (.tmp 62) (.const (.int .i64 67108864)))))
                  (.one ((some 64), (none, (.pick (.tmp 60) (.tmp 63) (.const (.bool false)))))
                  (.one (none, (none, (.st 1 (.tmp 65) (.tmp 47))))
                  (.one ((some 66), (none, (.fa 3 (.tmp 3))))
                  (.one (none, (none, (.st 1 (.tmp 66) (.tmp 49))))
                  (.one ((some 4), (none, (.mv (.tmp 64))))
                  .done)))))))
                 (.one (none, (none, (.st 1 (.tmp 65) (.tmp 47))))
                  (.one ((some 66), (none, (.fa 3 (.tmp 3))))
                  (.alt (.one ((some 62), ((some (60, true)), (.ld false (.tmp 61))))
                   (.one ((some 63), ((some (60, true)), (.bi .leq (.tmp 62) (.const (.int .i64 67108864)))))
                   (.one ((some 64), (none, (.pick (.tmp 60) (.tmp 63) (.const (.bool false)))))
                   (.one (none, (none, (.st 1 (.tmp 66) (.tmp 49))))
                   (.one ((some 4), (none, (.mv (.tmp 64))))
                   .done)))))
                  (.one (none, (none, (.st 1 (.tmp 66) (.tmp 49))))
                   (.one ((some 62), ((some (60, true)), (.ld false (.tmp 61))))
                   (.one ((some 63), ((some (60, true)), (.bi .leq (.tmp 62) (.const (.int .i64 67108864)))))
                   (.one ((some 64), (none, (.pick (.tmp 60) (.tmp 63) (.const (.bool false)))))
                   (.one ((some 4), (none, (.mv (.tmp 64))))
                   .done)))))))))))))))
                (.one ((some 57), ((some (53, true)), (.ld false (.tmp 56))))
                 (.one ((some 58), ((some (53, true)), (.bi .leq (.tmp 55) (.tmp 57))))
                 (.one ((some 59), (none, (.pick (.tmp 53) (.tmp 58) (.const (.bool false)))))
                 (.one ((some 60), (none, (.mv (.tmp 59))))
                 (.one ((some 61), ((some (60, true)), (.fa 3 (.tmp 1))))
                 (.alt (.one ((some 49), (none, (.ld false (.tmp 48))))
                  (.alt (.one ((some 62), ((some (60, true)), (.ld false (.tmp 61))))
                   (.one ((some 63), ((some (60, true)), (.bi .leq (.tmp 62) (.const (.int .i64 67108864)))))
                   (.one ((some 64), (none, (.pick (.tmp 60) (.tmp 63) (.const (.bool false)))))
                   (.one (none, (none, (.st 1 (.tmp 65) (.tmp 47))))
                   (.one ((some 66), (none, (.fa 3 (.tmp 3))))
                   (.one (none, (none, (.st 1 (.tmp 66) (.tmp 49))))
                   (.one ((some 4), (none, (.mv (.tmp 64))))
                   .done)))))))
                  (.one (none, (none, (.st 1 (.tmp 65) (.tmp 47))))
                   (.one ((some 66), (none, (.fa 3 (.tmp 3))))
                   (.alt (.one ((some 62), ((some (60, true)), (.ld false (.tmp 61))))
                    (.one ((some 63), ((some (60, true)), (.bi .leq (.tmp 62) (.const (.int .i64 67108864)))))
                    (.one ((some 64), (none, (.pick (.tmp 60) (.tmp 63) (.const (.bool false)))))
                    (.one (none, (none, (.st 1 (.tmp 66) (.tmp 49))))
                    (.one ((some 4), (none, (.mv (.tmp 64))))
                    .done)))))
                   (.one (none, (none, (.st 1 (.tmp 66) (.tmp 49))))
                    (.one ((some 62), ((some (60, true)), (.ld false (.tmp 61))))
                    (.one ((some 63), ((some (60, true)), (.bi .leq (.tmp 62) (.const (.int .i64 67108864)))))
                    (.one ((some 64), (none, (.pick (.tmp 60) (.tmp 63) (.const (.bool false)))))
                    (.one ((some 4), (none, (.mv (.tmp 64))))
                    .done))))))))))
                 (.alt (.one ((some 62), ((some (60, true)), (.ld false (.tmp 61))))
                   (.one ((some 63), ((some (60, true)), (.bi .leq (.tmp 62) (.const (.int .i64 67108864)))))
                   (.one ((some 64), (none, (.pick (.tmp 60) (.tmp 63) (.const (.bool false)))))
                   (.alt (.one ((some 49), (none, (.ld false (.tmp 48))))
                    (.one (none, (none, (.st 1 (.tmp 65) (.tmp 47))))
                    (.one ((some 66), (none, (.fa 3 (.tmp 3))))
                    (.one (none, (none, (.st 1 (.tmp 66) (.tmp 49))))
                    (.one ((some 4), (none, (.mv (.tmp 64))))
                    .done)))))
                   (.one (none, (none, (.st 1 (.tmp 65) (.tmp 47))))
                    (.one ((some 49), (none, (.ld false (.tmp 48))))
                    (.one ((some 66), (none, (.fa 3 (.tmp 3))))
                    (.one (none, (none, (.st 1 (.tmp 66) (.tmp 49))))
                    (.one ((some 4), (none, (.mv (.tmp 64))))
                    .done)))))))))
                  (.one (none, (none, (.st 1 (.tmp 65) (.tmp 47))))
                   (.one ((some 49), (none, (.ld false (.tmp 48))))
                   (.one ((some 66), (none, (.fa 3 (.tmp 3))))
                   (.alt (.one ((some 62), ((some (60, true)), (.ld false (.tmp 61))))
                    (.one ((some 63), ((some (60, true)), (.bi .leq (.tmp 62) (.const (.int .i64 67108864)))))
                    (.one ((some 64), (none, (.pick (.tmp 60) (.tmp 63) (.const (.bool false)))))
                    (.one (none, (none, (.st 1 (.tmp 66) (.tmp 49))))
                    (.one ((some 4), (none, (.mv (.tmp 64))))
                    .done)))))
                   (.one (none, (none, (.st 1 (.tmp 66) (.tmp 49))))
                    (.one ((some 62), ((some (60, true)), (.ld false (.tmp 61))))
                    (.one ((some 63), ((some (60, true)), (.bi .leq (.tmp 62) (.const (.int .i64 67108864)))))
                    (.one ((some 64), (none, (.pick (.tmp 60) (.tmp 63) (.const (.bool false)))))
                    (.one ((some 4), (none, (.mv (.tmp 64))))
                    .done))))))))))))))))))
               (.one ((some 57), ((some (53, true)), (.ld false (.tmp 56))))
                (.alt (.one ((some 49), (none, (.ld false (.tmp 48))))
                 (.one ((some 55), ((some (53, true)), (.ld false (.tmp 54))))
                 (.one ((some 58), ((some (53, true)), (.bi .leq (.tmp 55) (.tmp 57))))
                 (.one ((some 59), (none, (.pick (.tmp 53) (.tmp 58) (.const (.bool false)))))
                 (.one ((some 60), (none, (.mv (.tmp 59))))
                 (.one ((some 61), ((some (60, true)), (.fa 3 (.tmp 1))))
                 (.alt (.one ((some 62), ((some (60, true)), (.ld false (.tmp 61))))
                  (.one ((some 63), ((some (60, true)), (.bi .leq (.tmp 62) (.const (.int .i64 67108864)))))
                  (.one ((some 64), (none, (.pick (.tmp 60) (.tmp 63) (.const (.bool false)))))
                  (.one (none, (none, (.st 1 (.tmp 65) (.tmp 47))))
                  (.one ((some 66), (none, (.fa 3 (.tmp 3))))
                  (.one (none, (none, (.st 1 (.tmp 66) (.tmp 49))))
                  (.one ((some 4), (none, (.mv (.tmp 64))))
                  .done)))))))
                 (.one (none, (none, (.st 1 (.tmp 65) (.tmp 47))))
                  (.one ((some 66), (none, (.fa 3 (.tmp 3))))
                  (.alt (.one ((some 62), ((some (60, true)), (.ld false (.tmp 61))))
                   (.one ((some 63), ((some (60, true)), (.bi .leq (.tmp 62) (.const (.int .i64 67108864)))))
                   (.one ((some 64), (none, (.pick (.tmp 60) (.tmp 63) (.const (.bool false)))))
                   (.one (none, (none, (.st 1 (.tmp 66) (.tmp 49))))
                   (.one ((some 4), (none, (.mv (.tmp 64))))
                   .done)))))
                  (.one (none, (none, (.st 1 (.tmp 66) (.tmp 49))))
                   (.one ((some 62), ((some (60, true)), (.ld false (.tmp 61))))
                   (.one ((some 63), ((some (60, true)), (.bi .leq (.tmp 62) (.const (.int .i64 67108864)))))
                   (.one ((some 64), (none, (.pick (.tmp 60) (.tmp 63) (.const (.bool false)))))
                   (.one ((some 4), (none, (.mv (.tmp 64))))
                   .done)))))))))))))))
                (.one ((some 55), ((some (53, true)), (.ld false (.tmp 54))))
                 (.one ((some 58), ((some (53, true)), (.bi .leq (.tmp 55) (.tmp 57))))
                 (.one ((some 59), (none, (.pick (.tmp 53) (.tmp 58) (.const (.bool false)))))
                 (.one ((some 60), (none, (.mv (.tmp 59))))
                 (.one ((some 61), ((some (60, true)), (.fa 3 (.tmp 1))))
                 (.alt (.one ((some 49), (none, (.ld false (.tmp 48))))
                  (.alt (.one ((some 62), ((some (60, true)), (.ld false (.tmp 61))))
                   (.one ((some 63), ((some (60, true)), (.bi .leq (.tmp 62) (.const (.int .i64 67108864)))))
                   (.one ((some 64), (none, (.pick (.tmp 60) (.tmp 63) (.const (.bool false)))))
                   (.one (none, (none, (.st 1 (.tmp 65) (.tmp 47))))
                   (.one ((some 66), (none, (.fa 3 (.tmp 3))))
                   (.one (none, (none, (.st 1 (.tmp 66) (.tmp 49))))
                   (.one ((some 4), (none, (.mv (.tmp 64))))
                   .done)))))))
                  (.one (none, (none, (.st 1 (.tmp 65) (.tmp 47))))
                   (.one ((some 66), (none, (.fa 3 (.tmp 3))))
                   (.alt (.one ((some 62), ((some (60, true)), (.ld false (.tmp 61))))
                    (.one ((some 63), ((some (60, true)), (.bi .leq (.tmp 62) (.const (.int .i64 67108864)))))
                    (.one ((some 64), (none, (.pick (.tmp 60) (.tmp 63) (.const (.bool false)))))
                    (.one (none, (none, (.st 1 (.tmp 66) (.tmp 49))))
                    (.one ((some 4), (none, (.mv (.tmp 64))))
                    .done)))))
                   (.one (none, (none, (.st 1 (.tmp 66) (.tmp 49))))
                    (.one ((some 62), ((some (60, true)), (.ld false (.tmp 61))))
                    (.one ((some 63), ((some (60, true)), (.bi .leq (.tmp 62) (.const (.int .i64 67108864)))))
                    (.one ((some 64), (none, (.pick (.tmp 60) (.tmp 63) (.const (.bool false)))))
                    (.one ((some 4), (none, (.mv (.tmp 64))))
                    .done))))))))))
                 (.alt (.one ((some 62), ((some (60, true)), (.ld false (.tmp 61))))
                   (.one ((some 63), ((some (60, true)), (.bi .leq (.tmp 62) (.const (.int .i64 67108864)))))
                   (.one ((some 64), (none, (.pick (.tmp 60) (.tmp 63) (.const (.bool false)))))
                   (.alt (.one ((some 49), (none, (.ld false (.tmp 48))))
                    (.one (none, (none, (.st 1 (.tmp 65) (.tmp 47))))
                    (.one ((some 66), (none, (.fa 3 (.tmp 3))))
                    (.one (none, (none, (.st 1 (.tmp 66) (.tmp 49))))
                    (.one ((some 4), (none, (.mv (.tmp 64))))
                    .done)))))
                   (.one (none, (none, (.st 1 (.tmp 65) (.tmp 47))))
                    (.one ((some 49), (none, (.ld false (.tmp 48))))
                    (.one ((some 66), (none, (.fa 3 (.tmp 3))))
                    (.one (none, (none, (.st 1 (.tmp 66) (.tmp 49))))
                    (.one ((some 4), (none, (.mv (.tmp 64))))
                    .done)))))))))
                  (.one (none, (none, (.st 1 (.tmp 65) (.tmp 47))))
                   (.one ((some 49), (none, (.ld false (.tmp 48))))
                   (.one ((some 66), (none, (.fa 3 (.tmp 3))))
                   (.alt (.one ((some 62), ((some (60, true)), (.ld false (.tmp 61))))
                    (.one ((some 63), ((some (60, true)), (.bi .leq (.tmp 62) (.const (.int .i64 67108864)))))
                    (.one ((some 64), (none, (.pick (.tmp 60) (.tmp 63) (.const (.bool false)))))
                    (.one (none, (none, (.st 1 (.tmp 66) (.tmp 49))))
                    (.one ((some 4), (none, (.mv (.tmp 64))))
                    .done)))))
                   (.one (none, (none, (.st 1 (.tmp 66) (.tmp 49))))
                    (.one ((some 62), ((some (60, true)), (.ld false (.tmp 61))))
                    (.one ((some 63), ((some (60, true)), (.bi .leq (.tmp 62) (.const (.int .i64 67108864)))))
                    (.one ((some 64), (none, (.pick (.tmp 60) (.tmp 63) (.const (.bool false)))))
                    (.one ((some 4), (none, (.mv (.tmp 64))))
                    .done))))))))))))))))))))))))))))))))
           (.seq (.reg [((some 68), (none, (.bi .eql (.tmp 9) (.const (.int .i64 5))))),
             ((some 67), (none, (.mv (.tmp 68))))])
           (.cond (.tmp 67)
             (.ord (.one ((some 69), (none, (.fa 2 (.tmp 1))))
               (.one ((some 70), (none, (.ld false (.tmp 69))))
               (.one ((some 71), (none, (.fa 3 (.tmp 1))))
               (.one ((some 73), (none, (.fa 2 (.tmp 1))))
               (.one ((some 91), (none, (.fa 2 (.tmp 3))))
               (.alt (.one ((some 72), (none, (.ld false (.tmp 71))))
                (.one ((some 74), (none, (.ld false (.tmp 73))))
                (.one ((some 75), (none, (.bi .geq (.tmp 74) (.const (.int .i64 0)))))
                (.one ((some 76), (none, (.mv (.tmp 75))))
                (.one ((some 77), ((some (76, true)), (.fa 2 (.tmp 1))))
                (.one ((some 78), ((some (76, true)), (.ld false (.tmp 77))))
                (.one ((some 79), ((some (76, true)), (.bi .lss (.tmp 78) (.const (.int .i64 1440)))))
                (.one ((some 80), (none, (.pick (.tmp 76) (.tmp 79) (.const (.bool false)))))
                (.one ((some 81), (none, (.mv (.tmp 80))))
                (.one ((some 82), ((some (81, true)), (.fa 3 (.tmp 1))))
                (.one ((some 83), ((some (81, true)), (.ld false (.tmp 82))))
                (.one ((some 84), ((some (81, true)), (.bi .geq (.tmp 83) (.const (.int .i64 0)))))
                (.one ((some 85), (none, (.pick (.tmp 81) (.tmp 84) (.const (.bool false)))))
                (.one ((some 86), (none, (.mv (.tmp 85))))
                (.one ((some 87), ((some (86, true)), (.fa 3 (.tmp 1))))
                (.alt (.one ((some 88), ((some (86, true)), (.ld false (.tmp 87))))
                 (.one ((some 89), ((some (86, true)), (.bi .lss (.tmp 88) (.const (.int .i64 1440)))))
                 (.one ((some 90), (none, (.pick (.tmp 86) (.tmp 89) (.const (.bool false)))))
                 (.one (none, (none, (.st 1 (.tmp 91) (.tmp 70))))
                 (.one ((some 92), (none, (.fa 3 (.tmp 3))))
                 (.one (none, (none, (.st 1 (.tmp 92) (.tmp 72))))
                 (.one ((some 4), (none, (.mv (.tmp 90))))
                 .done)))))))
                (.one (none, (none, (.st 1 (.tmp 91) (.tmp 70))))
                 (.one ((some 92), (none, (.fa 3 (.tmp 3))))
                 (.alt (.one ((some 88), ((some (86, true)), (.ld false (.tmp 87))))
                  (.one ((some 89), ((some (86, true)), (.bi .lss (.tmp 88) (.const (.int .i64 1440)))))
                  (.one ((some 90), (none, (.pick (.tmp 86) (.tmp 89) (.const (.bool false)))))
                  (.one (none, (none, (.st 1 (.tmp 92) (.tmp 72))))
                  (.one ((some 4), (none, (.mv (.tmp 90))))
                  .done)))))
                 (.one (none, (none, (.st 1 (.tmp 92) (.tmp 72))))
                  (.one ((some 88), ((some (86, true)), (.ld false (.tmp 87))))
                  (.one ((some 89), ((some (86, true)), (.bi .lss (.tmp 88) (.const (.int .i64 1440)))))
                  (.one ((some 90), (none, (.pick (.tmp 86) (.tmp 89) (.const (.bool false)))))
                  (.one ((some 4), (none, (.mv (.tmp 90))))
                  .done))))))))))))))))))))))))
               (.one ((some 74), (none, (.ld false (.tmp 73))))
                (.one ((some 75), (none, (.bi .geq (.tmp 74) (.const (.int .i64 0)))))
                (.one ((some 76), (none, (.mv (.tmp 75))))
                (.one ((some 77), ((some (76, true)), (.fa 2 (.tmp 1))))
                (.alt (.one ((some 72), (none, (.ld false (.tmp 71))))
                 (.one ((some 78), ((some (76, true)), (.ld false (.tmp 77))))
                 (.one ((some 79), ((some (76, true)), (.bi .lss (.tmp 78) (.const (.int .i64 1440)))))
                 (.one ((some 80), (none, (.pick (.tmp 76) (.tmp 79) (.const (.bool false)))))
                 (.one ((some 81), (none, (.mv (.tmp 80))))
                 (.one ((some 82), ((some (81, true)), (.fa 3 (.tmp 1))))
                 (.one ((some 83), ((some (81, true)), (.ld false (.tmp 82))))
                 (.one ((some 84), ((some (81, true)), (.bi .geq (.tmp 83) (.const (.int .i64 0)))))
                 (.one ((some 85), (none, (.pick (.tmp 81) (.tmp 84) (.const (.bool false)))))
                 (.one ((some 86), (none, (.mv (.tmp 85))))
                 (.one ((some 87), ((some (86, true)), (.fa 3 (.tmp 1))))
                 (.alt (.one ((some 88), ((some (86, true)), (.ld false (.tmp 87))))
                  (.one ((some 89), ((some (86, true)), (.bi .lss (.tmp 88) (.const (.int .i64 1440)))))
                  (.one ((some 90), (none, (.pick (.tmp 86) (.tmp 89) (.const (.bool false)))))
                  (.one (none, (none, (.st 1 (.tmp 91) (.tmp 70))))
                  (.one ((some 92), (none, (.fa 3 (.tmp 3))))
                  (.one (none, (none, (.st 1 (.tmp 92) (.tmp 72))))
                  (.one ((some 4), (none, (.mv (.tmp 90))))
                  .done)))))))
                 (.one (none, (none, (.st 1 (.tmp 91) (.tmp 70))))
                  (.one ((some 92), (none, (.fa 3 (.tmp 3))))
                  (.alt (.one ((some 88), ((some (86, true)), (.ld false (.tmp 87))))
                   (.one ((some 89), ((some (86, true)), (.bi .lss (.tmp 88) (.const (.int .i64 1440)))))
                   (.one ((some 90), (none, (.pick (.tmp 86) (.tmp 89) (.const (.bool false)))))
                   (.one (none, (none, (.st 1 (.tmp 92) (.tmp 72))))
                   (.one ((some 4), (none, (.mv (.tmp 90))))
                   .done)))))
                  (.one (none, (none, (.st 1 (.tmp 92) (.tmp 72))))
                   (.one ((some 88), ((some (86, true)), (.ld false (.tmp 87))))
                   (.one ((some 89), ((some (86, true)), (.bi .lss (.tmp 88) (.const (.int .i64 1440)))))
                   (.one ((some 90), (none, (.pick (.tmp 86) (.tmp 89) (.const (.bool false)))))
                   (.one ((some 4), (none, (.mv (.tmp 90))))
                   .done))))))))))))))))))))
                (.one ((some 78), ((some (76, true)), (.ld false (.tmp 77))))
                 (.one ((some 79), ((some (76, true)), (.bi .lss (.tmp 78) (.const (.int .i64 1440)))))
                 (.one ((some 80), (none, (.pick (.tmp 76) (.tmp 79) (.const (.bool false)))))
                 (.one ((some 81), (none, (.mv (.tmp 80))))
                 (.one ((some 82), ((some (81, true)), (.fa 3 (.tmp 1))))
                 (.alt (.one ((some 72), (none, (.ld false (.tmp 71))))
                  (.one ((some 83), ((some (81, true)), (.ld false (.tmp 82))))
                  (.one ((some 84), ((some (81, true)), (.bi .geq (.tmp 83) (.const (.int .i64 0)))))
                  (.one ((some 85), (none, (.pick (.tmp 81) (.tmp 84) (.const (.bool false)))))
                  (.one ((some 86), (none, (.mv (.tmp 85))))
                  (.one ((some 87), ((some (86, true)), (.fa 3 (.tmp 1))))
                  (.alt (.one ((some 88), ((some (86, true)), (.ld false (.tmp 87))))
                   (.one ((some 89), ((some (86, true)), (.bi .lss (.tmp 88) (.const (.int .i64 1440)))))
                   (.one ((some 90), (none, (.pick (.tmp 86) (.tmp 89) (.const (.bool false)))))
                   (.one (none, (none, (.st 1 (.tmp 91) (.tmp 70))))
                   (.one ((some 92), (none, (.fa 3 (.tmp 3))))
                   (.one (none, (none, (.st 1 (.tmp 92) (.tmp 72))))
                   (.one ((some 4), (none, (.mv (.tmp 90))))
                   .done)))))))
                  (.one (none, (none, (.st 1 (.tmp 91) (.tmp 70))))
                   (.one ((some 92), (none, (.fa 3 (.tmp 3))))
                   (.alt (.one ((some 88), ((some (86, true)), (.ld false (.tmp 87))))
                    (.one ((some 89), ((some (86, true)), (.bi .lss (.tmp 88) (.const (.int .i64 1440)))))
                    (.one ((some 90), (none, (.pick (.tmp 86) (.tmp 89) (.const (.bool false)))))
                    (.one (none, (none, (.st 1 (.tmp 92) (.tmp 72))))
                    (.one ((some 4), (none, (.mv (.tmp 90))))
                    .done)))))
                   (.one (none, (none, (.st 1 (.tmp 92) (.tmp 72))))
                    (.one ((some 88), ((some (86, true)), (.ld false (.tmp 87))))
                    (.one ((some 89), ((some (86, true)), (.bi .lss (.tmp 88) (.const (.int .i64 1440)))))
                    (.one ((some 90), (none, (.pick (.tmp 86) (.tmp 89) (.const (.bool false)))))
                    (.one ((some 4), (none, (.mv (.tmp 90))))
                    .done)))))))))))))))
                 (.one ((some 83), ((some (81, true)), (.ld false (.tmp 82))))
                  (.one ((some 84), ((some (81, true)), (.bi .geq (.tmp 83) (.const (.int .i64 0)))))
                  (.one ((some 85), (none, (.pick (.tmp 81) (.tmp 84) (.const (.bool false)))))
                  (.one ((some 86), (none, (.mv (.tmp 85))))
                  (.one ((some 87), ((some (86, true)), (.fa 3 (.tmp 1))))
                  (.alt (.one ((some 72), (none, (.ld false (.tmp 71))))
                   (.alt (.one ((some 88), ((some (86, true)), (.ld false (.tmp 87))))
                    (.one ((some 89), ((some (86, true)), (.bi .lss (.tmp 88) (.const (.int .i64 1440)))))
                    (.one ((some 90), (none, (.pick (.tmp 86) (.tmp 89) (.const (.bool false)))))
                    (.one (none, (none, (.st 1 (.tmp 91) (.tmp 70))))
                    (.one ((some 92), (none, (.fa 3 (.tmp 3))))
                    (.one (none, (none, (.st 1 (.tmp 92) (.tmp 72))))
                    (.one ((some 4), (none, (.mv (.tmp 90))))
                    .done)))))))
                   (.one (none, (none, (.st 1 (.tmp 91) (.tmp 70))))
                    (.one ((some 92), (none, (.fa 3 (.tmp 3))))
                    (.alt (.one ((some 88), ((some (86, true)), (.ld false (.tmp 87))))
                     (.one ((some 89), ((some (86, true)), (.bi .lss (.tmp 88) (.const (.int .i64 1440)))))
                     (.one ((some 90), (none, (.pick (.tmp 86) (.tmp 89) (.const (.bool false)))))
                     (.one (none, (none, (.st 1 (.tmp 92) (.tmp 72))))
                     (.one ((some 4), (none, (.mv (.tmp 90))))
                     .done)))))
                    (.one (none, (none, (.st 1 (.tmp 92) (.tmp 72))))
                     (.one ((some 88), ((some (86, true)), (.ld false (.tmp 87))))
                     (.one ((some 89), ((some (86, true)), (.bi .lss (.tmp 88) (.const (.int .i64 1440)))))
                     (.one ((some 90), (none, (.pick (.tmp 86) (.tmp 89) (.const (.bool false)))))
                     (.one ((some 4), (none, (.mv (.tmp 90))))
                     .done))))))))))
                  (.alt (.one ((some 88), ((some (86, true)), (.ld false (.tmp 87))))
                    (.one ((some 89), ((some (86, true)), (.bi .lss (.tmp 88) (.const (.int .i64 1440)))))
                    (.one ((some 90), (none, (.pick (.tmp 86) (.tmp 89) (.const (.bool false)))))
                    (.alt (.one ((some 72), (none, (.ld false (.tmp 71))))
                     (.one (none, (none, (.st 1 (.tmp 91) (.tmp 70))))
                     (.one ((some 92), (none, (.fa 3 (.tmp 3))))
                     (.one (none, (none, (.st 1 (.tmp 92) (.tmp 72))))
                     (.one ((some 4), (none, (.mv (.tmp 90))))
                     .done)))))
                    (.one (none, (none, (.st 1 (.tmp 91) (.tmp 70))))
                     (.one ((some 72), (none, (.ld false (.tmp 71))))
                     (.one ((some 92), (none, (.fa 3 (.tmp 3))))
                     (.one (none, (none, (.st 1 (.tmp 92) (.tmp 72))))
                     (.one ((some 4), (none, (.mv (.tmp 90))))
                     .done)))))))))
                   (.one (none, (none, (.st 1 (.tmp 91) (.tmp 70))))
                    (.one ((some 72), (none, (.ld false (.tmp 71))))
                    (.one ((some 92), (none, (.fa 3 (.tmp 3))))
                    (.alt (.one ((some 88), ((some (86, true)), (.ld false (.tmp 87))))
                     (.one ((some 89), ((some (86, true)), (.bi .lss (.tmp 88) (.const (.int .i64 1440)))))
                     (.one ((some 90), (none, (.pick (.tmp 86) (.tmp 89) (.const (.bool false)))))
                     (.one (none, (none, (.st 1 (.tmp 92) (.tmp 72))))
                     (.one ((some 4), (none, (.mv (.tmp 90))))
                     .done)))))
                    (.one (none, (none, (.st 1 (.tmp 92) (.tmp 72))))
                     (.one ((some 88), ((some (86, true)), (.ld false (.tmp 87))))
                     (.one ((some 89), ((some (86, true)), (.bi .lss (.tmp 88) (.const (.int .i64 1440)))))
                     (.one ((some 90), (none, (.pick (.tmp 86) (.tmp 89) (.const (.bool false)))))
                     (.one ((some 4), (none, (.mv (.tmp 90))))
                     .done))))))))))))))))))))))))))))))))))
             (.seq (.reg [((some 94), (none, (.bi .eql (.tmp 9) (.const (.int .i64 6))))),
               ((some 93), (none, (.mv (.tmp 94))))])
             (.cond (.tmp 93)
               (.ord (.one ((some 95), (none, (.fa 4 (.tmp 1))))
                 (.one ((some 97), (none, (.fa 4 (.tmp 1))))
                 (.alt (.one ((some 96), (none, (.ld false (.tmp 95))))
                  (.one ((some 100), (none, (.fa 4 (.tmp 3))))
                  (.one ((some 98), (none, (.ld false (.tmp 97))))
                  (.one ((some 99), (none, (.call f_ref01_Name [(.tmp 98)])))
                  (.one (none, (none, (.st 1 (.tmp 100) (.tmp 96))))
                  (.one ((some 4), (none, (.mv (.tmp 99))))
                  .done))))))
                 (.one ((some 98), (none, (.ld false (.tmp 97))))
                  (.alt (.one ((some 96), (none, (.ld false (.tmp 95))))
                   (.one ((some 100), (none, (.fa 4 (.tmp 3))))
                   (.one ((some 99), (none, (.call f_ref01_Name [(.tmp 98)])))
                   (.one (none, (none, (.st 1 (.tmp 100) (.tmp 96))))
                   (.one ((some 4), (none, (.mv (.tmp 99))))
                   .done)))))
                  (.one ((some 99), (none, (.call f_ref01_Name [(.tmp 98)])))
                   (.one ((some 96), (none, (.ld false (.tmp 95))))
                   (.one ((some 100), (none, (.fa 4 (.tmp 3))))
                   (.one (none, (none, (.st 1 (.tmp 100) (.tmp 96))))
                   (.one ((some 4), (none, (.mv (.tmp 99))))
                   .done)))))))))))
               (.seq (.reg [((some 102), (none, (.bi .eql (.tmp 9) (.const (.int .i64 7))))),
                 ((some 101), (none, (.mv (.tmp 102))))])
               (.cond (.tmp 101)
                 (.ord (.one ((some 103), (none, (.fa 5 (.tmp 1))))
                   (.one ((some 104), (none, (.ld false (.tmp 103))))
                   (.one ((some 105), (none, (.fa 5 (.tmp 1))))
                   (.one ((some 113), (none, (.fa 5 (.tmp 3))))
                   (.one ((some 106), (none, (.ld false (.tmp 105))))
                   (.one ((some 107), (none, (.bi .geq (.tmp 106) (.const (.int .i64 0)))))
                   (.one ((some 108), (none, (.mv (.tmp 107))))
                   (.one ((some 109), ((some (108, true)), (.fa 5 (.tmp 1))))
                   (.alt (.one ((some 110), ((some (108, true)), (.ld false (.tmp 109))))
                    (.one ((some 111), ((some (108, true)), (.bi .leq (.tmp 110) (.const (.int .i64 1000000)))))
                    (.one ((some 112), (none, (.pick (.tmp 108) (.tmp 111) (.const (.bool false)))))
                    (.one (none, (none, (.st 1 (.tmp 113) (.tmp 104))))
                    (.one ((some 4), (none, (.mv (.tmp 112))))
                    .done)))))
                   (.one (none, (none, (.st 1 (.tmp 113) (.tmp 104))))
                    (.one ((some 110), ((some (108, true)), (.ld false (.tmp 109))))
                    (.one ((some 111), ((some (108, true)), (.bi .leq (.tmp 110) (.const (.int .i64 1000000)))))
                    (.one ((some 112), (none, (.pick (.tmp 108) (.tmp 111) (.const (.bool false)))))
                    (.one ((some 4), (none, (.mv (.tmp 112))))
                    .done)))))))))))))))
                 .skip))))))))))))))))
  (.seq (.reg [((some 114), (none, (.mv (.tmp 4)))),
    ((some 115), (none, (.mv (.tmp 114)))),
    ((some 116), ((some (115, true)), (.ldA 6 (.tmp 1)))),
    ((some 117), ((some (115, true)), (.ldA 6 (.tmp 3)))),
    ((some 118), ((some (115, true)), (.eqA false [(.int .i64), (.int .u64), (.int .i64), (.int .i64), .string, (.int .i64)] (.tmp 116) (.tmp 117)))),
    ((some 119), (none, (.pick (.tmp 115) (.tmp 118) (.const (.bool false))))),
    ((some 2), (none, (.mv (.tmp 119))))])
  .ret)))))
/-- macaroon/predicate.mask: 17 slots, results [(.t 4)] -/
def predicate_maskC : PC :=
  (.seq (.reg [((some 4), (none, (.mv (.const (.bool false)))))])
  (.seq (.reg [((some 5), (none, (.mv (.tmp 0)))),
    ((some 6), (none, (.bi .neq (.tmp 5) (.const (.int .u64 0))))),
    ((some 7), (none, (.mv (.tmp 6)))),
    ((some 8), ((some (7, true)), (.mv (.tmp 1)))),
    ((some 9), ((some (7, true)), (.bi .eql (.tmp 8) (.const (.int .i64 64))))),
    ((some 10), ((some (7, true)), (.mv (.tmp 9)))),
    ((some 11), ((some (10, false)), (.mv (.tmp 0)))),
    ((some 12), ((some (10, false)), (.mv (.tmp 1)))),
    ((some 13), ((some (10, false)), (.bi .shr (.tmp 11) (.tmp 12)))),
    ((some 14), ((some (10, false)), (.bi .eql (.tmp 13) (.const (.int .u64 0))))),
    ((some 15), ((some (7, true)), (.pick (.tmp 10) (.const (.bool true)) (.tmp 14)))),
    ((some 16), (none, (.pick (.tmp 7) (.tmp 15) (.const (.bool false))))),
    ((some 4), (none, (.mv (.tmp 16))))])
  .ret))
/-- macaroon/predicate.name: 28 slots, results [(.t 2)] -/
def predicate_nameC : PC :=
  (.seq (.reg [((some 2), (none, (.mv (.const (.bool false)))))])
  (.seq (.seq (.reg [((some 4), (none, (.mv (.tmp 0)))),
    ((some 5), (none, (.slen (.tmp 4)))),
    ((some 6), (none, (.bi .lss (.tmp 5) (.const (.int .i64 1))))),
    ((some 7), (none, (.mv (.tmp 6)))),
    ((some 8), ((some (7, false)), (.mv (.tmp 0)))),
    ((some 9), ((some (7, false)), (.slen (.tmp 8)))),
    ((some 10), ((some (7, false)), (.bi .gtr (.tmp 9) (.const (.int .i64 16))))),
    ((some 11), (none, (.pick (.tmp 7) (.const (.bool true)) (.tmp 10))))])
  (.cond (.tmp 11)
    (.seq (.reg [((some 2), (none, (.mv (.const (.bool false)))))])
    .ret)
    .skip))
  (.seq (.seq (.reg [((some 12), (none, (.mv (.tmp 0)))),
    ((some 13), (none, (.slen (.tmp 12)))),
    ((some 14), (none, (.mv (.const (.int .i64 0)))))])
  (.block 0 (.loop (.seq (.reg [((some 15), (none, (.bi .lss (.tmp 14) (.tmp 13))))])
    (.seq (.cond (.tmp 15)
      .skip
      (.exit 0))
    (.seq (.block 1 (.seq (.reg [((some 16), (none, (.mv (.tmp 14)))),
       ((some 3), (none, (.mv (.tmp 16))))])
     (.seq (.reg [((some 17), (none, (.mv (.tmp 0)))),
       ((some 18), (none, (.mv (.tmp 3)))),
       ((some 19), (none, (.six (.tmp 17) (.tmp 18)))),
       ((some 20), (none, (.bi .lss (.tmp 19) (.const (.int .u8 97))))),
       ((some 21), (none, (.mv (.tmp 20)))),
       ((some 22), ((some (21, false)), (.mv (.tmp 0)))),
       ((some 23), ((some (21, false)), (.mv (.tmp 3)))),
       ((some 24), ((some (21, false)), (.six (.tmp 22) (.tmp 23)))),
       ((some 25), ((some (21, false)), (.bi .gtr (.tmp 24) (.const (.int .u8 122))))),
       ((some 26), (none, (.pick (.tmp 21) (.const (.bool true)) (.tmp 25))))])
     (.cond (.tmp 26)
       (.seq (.reg [((some 2), (none, (.mv (.const (.bool false)))))])
       .ret)
       .skip))))
    (.reg [((some 27), (none, (.bi .add (.tmp 14) (.const (.int .i64 1))))),
      ((some 14), (none, (.mv (.tmp 27))))])))))))
  (.seq (.reg [((some 2), (none, (.mv (.const (.bool true)))))])
  .ret))))
end Go.PE
namespace Go.PE
open Go
/-- macaroon/macaroonlaw07.HoldsValid: 56 slots, results [(.t 8)] -/
def law07_HoldsValidC_j1 (f_holds_Valid : Nat) (f_ref06_ContextOk : Nat) (f_law07_awake : Nat) : PC :=
  (.seq (.drw [((some 37), (none, (.ldA 4 (.tmp 9)))),
    ((some 38), (none, (.call f_holds_Valid [(.tmp 37)]))),
    ((some 39), (none, (.mv (.tmp 38)))),
    ((some 40), ((some (39, true)), (.ldA 4 (.tmp 4)))),
    ((some 41), ((some (39, true)), (.call f_holds_Valid [(.tmp 40)]))),
    ((some 42), ((some (39, true)), (.ldA 4 (.tmp 4)))),
    ((some 43), ((some (39, true)), (.call f_ref06_ContextOk [(.tmp 42)]))),
    ((some 44), ((some (39, true)), (.bb false (.tmp 41) (.tmp 43)))),
    ((some 45), (none, (.pick (.tmp 39) (.tmp 44) (.const (.bool false))))),
    ((some 46), (none, (.mv (.tmp 45)))),
    ((some 47), ((some (46, true)), (.ldA 4 (.tmp 10)))),
    ((some 48), ((some (46, true)), (.call f_holds_Valid [(.tmp 47)]))),
    ((some 49), ((some (46, true)), (.ldA 4 (.tmp 10)))),
    ((some 50), ((some (46, true)), (.call f_ref06_ContextOk [(.tmp 49)]))),
    ((some 51), ((some (46, true)), (.bb false (.tmp 48) (.tmp 50)))),
    ((some 52), (none, (.pick (.tmp 46) (.tmp 51) (.const (.bool false))))),
    ((some 53), (none, (.mv (.tmp 52)))),
    ((some 54), ((some (53, true)), (.call f_law07_awake []))),
    ((some 55), (none, (.pick (.tmp 53) (.tmp 54) (.const (.bool false))))),
    ((some 8), (none, (.mv (.tmp 55))))])
  .ret)
def law07_HoldsValidC (f_made_New : Nat) (f_made_Deck_Context : Nat) (t_string : Nat) (f_made_Within : Nat) (f_holds_Valid : Nat) (f_ref06_ContextOk : Nat) (f_law07_awake : Nat) : PC :=
  (.seq (.reg [((some 4), (none, (.box 4 (.tmp 0)))),
    ((some 8), (none, (.mv (.const (.bool false)))))])
  (.seq (.reg [((some 11), (none, (.mv (.tmp 1)))),
    ((some 12), (none, (.call f_made_New [(.tmp 11)]))),
    ((some 13), (none, (.call f_made_Deck_Context [(.tmp 12)]))),
    ((some 9), (none, (.alloc [(.int .i64 0), (.int .i64 0), (.int .i64 0), (.string ⟨#[]⟩)]))),
    (none, (none, (.st 4 (.tmp 9) (.tmp 13))))])
  (.seq (.reg [((some 14), (none, (.ldA 4 (.tmp 9)))),
    ((some 10), (none, (.alloc [(.int .i64 0), (.int .i64 0), (.int .i64 0), (.string ⟨#[]⟩)]))),
    (none, (none, (.st 4 (.tmp 10) (.tmp 14))))])
  (.seq (.seq (.reg [((some 15), (none, (.mv (.tmp 2)))),
    ((some 16), (none, (.bi .rem (.tmp 15) (.const (.int .u8 4)))))])
  (.block 0 (.seq (.reg [((some 18), (none, (.bi .eql (.tmp 16) (.const (.int .u8 0))))),
     ((some 17), (none, (.mv (.tmp 18))))])
  (.cond (.tmp 17)
     (.reg [((some 19), (none, (.mv (.tmp 3)))),
       ((some 20), (none, (.fa 0 (.tmp 10)))),
       (none, (none, (.st 1 (.tmp 20) (.tmp 19))))])
     (.seq (.reg [((some 22), (none, (.bi .eql (.tmp 16) (.const (.int .u8 1))))),
       ((some 21), (none, (.mv (.tmp 22))))])
  (.cond (.tmp 21)
       (.reg [((some 23), (none, (.mv (.tmp 3)))),
         ((some 24), (none, (.fa 1 (.tmp 10)))),
         (none, (none, (.st 1 (.tmp 24) (.tmp 23))))])
       (.seq (.reg [((some 26), (none, (.bi .eql (.tmp 16) (.const (.int .u8 2))))),
         ((some 25), (none, (.mv (.tmp 26))))])
  (.cond (.tmp 25)
         (.reg [((some 27), (none, (.mv (.tmp 3)))),
           ((some 28), (none, (.fa 2 (.tmp 10)))),
           (none, (none, (.st 1 (.tmp 28) (.tmp 27))))])
         (.seq (.reg [((some 30), (none, (.bi .eql (.tmp 16) (.const (.int .u8 3))))),
           ((some 29), (none, (.mv (.tmp 30))))])
  (.cond (.tmp 29)
           (.reg [((some 31), (none, (.mks t_string 1 false [(.const (.string ⟨#[]⟩)), (.const (.string ⟨#[65]⟩)), (.const (.string ⟨#[97, 110, 110]⟩)), (.const (.string ⟨#[97, 98, 99, 100, 101, 102, 103, 104, 105, 106, 107, 108, 109, 110, 111, 112, 113]⟩))]))),
             ((some 32), (none, (.mv (.tmp 3)))),
             ((some 33), (none, (.call f_made_Within [(.tmp 32), (.const (.int .i64 4))]))),
             ((some 34), (none, (.ixS 1 (.tmp 31) (.tmp 33)))),
             ((some 35), (none, (.ld false (.tmp 34)))),
             ((some 36), (none, (.fa 3 (.tmp 10)))),
             (none, (none, (.st 1 (.tmp 36) (.tmp 35))))])
           .skip))))))))))
  (law07_HoldsValidC_j1 f_holds_Valid f_ref06_ContextOk f_law07_awake)))))
/-- macaroon/macaroonlaw07.HoldsOne: 53 slots, results [(.t 6)] -/
def law07_HoldsOneC (f_made_New : Nat) (f_made_Deck_Predicate : Nat) (f_made_Deck_Context : Nat) (f_holds_Holds : Nat) (f_ref06_Holds : Nat) (f_law07_awake : Nat) : PC :=
  (.seq (.reg [((some 3), (none, (.box 6 (.tmp 0)))),
    ((some 4), (none, (.box 4 (.tmp 1)))),
    ((some 6), (none, (.mv (.const (.bool false)))))])
  (.seq (.reg [((some 10), (none, (.mv (.tmp 2)))),
    ((some 11), (none, (.call f_made_New [(.tmp 10)]))),
    ((some 7), (none, (.mv (.tmp 11))))])
  (.seq (.reg [((some 12), (none, (.mv (.tmp 7)))),
    ((some 13), (none, (.call f_made_Deck_Predicate [(.tmp 12), (.const (.bool true))]))),
    ((some 14), (none, (.mv (.tmp 7)))),
    ((some 15), (none, (.call f_made_Deck_Context [(.tmp 14)]))),
    ((some 8), (none, (.alloc [(.int .i64 0), (.int .u64 0), (.int .i64 0), (.int .i64 0), (.string ⟨#[]⟩), (.int .i64 0)]))),
    ((some 9), (none, (.alloc [(.int .i64 0), (.int .i64 0), (.int .i64 0), (.string ⟨#[]⟩)]))),
    (none, (none, (.st 6 (.tmp 8) (.tmp 13)))),
    (none, (none, (.st 4 (.tmp 9) (.tmp 15))))])
  (.seq (.drw [((some 16), (none, (.ldA 6 (.tmp 8)))),
    ((some 17), (none, (.ldA 4 (.tmp 9)))),
    ((some 18), (none, (.call f_holds_Holds [(.tmp 16), (.tmp 17)]))),
    ((some 19), (none, (.ldA 6 (.tmp 8)))),
    ((some 20), (none, (.ldA 4 (.tmp 9)))),
    ((some 21), (none, (.call f_ref06_Holds [(.tmp 19), (.tmp 20)]))),
    ((some 22), (none, (.bb false (.tmp 18) (.tmp 21)))),
    ((some 23), (none, (.mv (.tmp 22)))),
    ((some 24), ((some (23, true)), (.ldA 6 (.tmp 3)))),
    ((some 25), ((some (23, true)), (.ldA 4 (.tmp 9)))),
    ((some 26), ((some (23, true)), (.call f_holds_Holds [(.tmp 24), (.tmp 25)]))),
    ((some 27), ((some (23, true)), (.ldA 6 (.tmp 3)))),
    ((some 28), ((some (23, true)), (.ldA 4 (.tmp 9)))),
    ((some 29), ((some (23, true)), (.call f_ref06_Holds [(.tmp 27), (.tmp 28)]))),
    ((some 30), ((some (23, true)), (.bb false (.tmp 26) (.tmp 29)))),
    ((some 31), (none, (.pick (.tmp 23) (.tmp 30) (.const (.bool false))))),
    ((some 32), (none, (.mv (.tmp 31)))),
    ((some 33), ((some (32, true)), (.ldA 6 (.tmp 8)))),
    ((some 34), ((some (32, true)), (.ldA 4 (.tmp 4)))),
    ((some 35), ((some (32, true)), (.call f_holds_Holds [(.tmp 33), (.tmp 34)]))),
    ((some 36), ((some (32, true)), (.ldA 6 (.tmp 8)))),
    ((some 37), ((some (32, true)), (.ldA 4 (.tmp 4)))),
    ((some 38), ((some (32, true)), (.call f_ref06_Holds [(.tmp 36), (.tmp 37)]))),
    ((some 39), ((some (32, true)), (.bb false (.tmp 35) (.tmp 38)))),
    ((some 40), (none, (.pick (.tmp 32) (.tmp 39) (.const (.bool false))))),
    ((some 41), (none, (.mv (.tmp 40)))),
    ((some 42), ((some (41, true)), (.ldA 6 (.tmp 3)))),
    ((some 43), ((some (41, true)), (.ldA 4 (.tmp 4)))),
    ((some 44), ((some (41, true)), (.call f_holds_Holds [(.tmp 42), (.tmp 43)]))),
    ((some 45), ((some (41, true)), (.ldA 6 (.tmp 3)))),
    ((some 46), ((some (41, true)), (.ldA 4 (.tmp 4)))),
    ((some 47), ((some (41, true)), (.call f_ref06_Holds [(.tmp 45), (.tmp 46)]))),
    ((some 48), ((some (41, true)), (.bb false (.tmp 44) (.tmp 47)))),
    ((some 49), (none, (.pick (.tmp 41) (.tmp 48) (.const (.bool false))))),
    ((some 50), (none, (.mv (.tmp 49)))),
    ((some 51), ((some (50, true)), (.call f_law07_awake []))),
    ((some 52), (none, (.pick (.tmp 50) (.tmp 51) (.const (.bool false))))),
    ((some 6), (none, (.mv (.tmp 52))))])
  .ret))))
/-- macaroon/macaroonlaw07.HoldsDaily: 54 slots, results [(.t 6)] -/
def law07_HoldsDailyC_j1 (f_law07_awake : Nat) (f_holds_Holds : Nat) : PC :=
  (.seq (.reg [((some 33), (none, (.mv (.tmp 7)))),
    ((some 34), (none, (.mv (.tmp 8)))),
    ((some 35), (none, (.build [(.inr ((.const (.int .i64 5)), 1)), (.inl [(.int .u64 0)]), (.inr ((.tmp 33), 1)), (.inr ((.tmp 34), 1)), (.inl [(.string ⟨#[]⟩)]), (.inl [(.int .i64 0)])]))),
    ((some 10), (none, (.alloc [(.int .i64 0), (.int .u64 0), (.int .i64 0), (.int .i64 0), (.string ⟨#[]⟩), (.int .i64 0)]))),
    (none, (none, (.st 6 (.tmp 10) (.tmp 35))))])
  (.seq (.reg [((some 36), (none, (.mv (.tmp 8)))),
    ((some 37), (none, (.bi .add (.tmp 36) (.const (.int .i64 1))))),
    ((some 38), (none, (.bi .rem (.tmp 37) (.const (.int .i64 1440))))),
    ((some 39), (none, (.mv (.tmp 7)))),
    ((some 40), (none, (.bi .add (.tmp 39) (.const (.int .i64 1440))))),
    ((some 41), (none, (.bi .sub (.tmp 40) (.const (.int .i64 1))))),
    ((some 42), (none, (.bi .rem (.tmp 41) (.const (.int .i64 1440))))),
    ((some 43), (none, (.build [(.inr ((.const (.int .i64 5)), 1)), (.inl [(.int .u64 0)]), (.inr ((.tmp 38), 1)), (.inr ((.tmp 42), 1)), (.inl [(.string ⟨#[]⟩)]), (.inl [(.int .i64 0)])]))),
    ((some 11), (none, (.alloc [(.int .i64 0), (.int .u64 0), (.int .i64 0), (.int .i64 0), (.string ⟨#[]⟩), (.int .i64 0)]))),
    (none, (none, (.st 6 (.tmp 11) (.tmp 43))))])
  (.seq (.drw [((some 44), (none, (.ldA 6 (.tmp 10)))),
    ((some 45), (none, (.ldA 4 (.tmp 9)))),
    ((some 46), (none, (.call f_holds_Holds [(.tmp 44), (.tmp 45)]))),
    ((some 47), (none, (.ldA 6 (.tmp 11)))),
    ((some 48), (none, (.ldA 4 (.tmp 9)))),
    ((some 49), (none, (.call f_holds_Holds [(.tmp 47), (.tmp 48)]))),
    ((some 50), (none, (.bb true (.tmp 46) (.tmp 49)))),
    ((some 51), (none, (.mv (.tmp 50)))),
    ((some 52), ((some (51, true)), (.call f_law07_awake []))),
    ((some 53), (none, (.pick (.tmp 51) (.tmp 52) (.const (.bool false))))),
    ((some 6), (none, (.mv (.tmp 53))))])
  .ret)))
def law07_HoldsDailyC (f_made_New : Nat) (f_made_Deck_Context : Nat) (f_law07_awake : Nat) (f_holds_Holds : Nat) : PC :=
  (.seq (.reg [((some 6), (none, (.mv (.const (.bool false)))))])
  (.seq (.reg [((some 12), (none, (.mv (.tmp 0)))),
    ((some 13), (none, (.cv .i64 (.tmp 12)))),
    ((some 14), (none, (.bi .rem (.tmp 13) (.const (.int .i64 1440))))),
    ((some 15), (none, (.mv (.tmp 1)))),
    ((some 16), (none, (.cv .i64 (.tmp 15)))),
    ((some 17), (none, (.bi .rem (.tmp 16) (.const (.int .i64 1440))))),
    ((some 7), (none, (.mv (.tmp 14)))),
    ((some 8), (none, (.mv (.tmp 17))))])
  (.seq (.reg [((some 18), (none, (.mv (.tmp 2)))),
    ((some 19), (none, (.call f_made_New [(.tmp 18)]))),
    ((some 20), (none, (.call f_made_Deck_Context [(.tmp 19)]))),
    ((some 9), (none, (.alloc [(.int .i64 0), (.int .i64 0), (.int .i64 0), (.string ⟨#[]⟩)]))),
    (none, (none, (.st 4 (.tmp 9) (.tmp 20))))])
  (.seq (.seq (.reg [((some 21), (none, (.mv (.tmp 7)))),
    ((some 22), (none, (.mv (.tmp 8)))),
    ((some 23), (none, (.bi .geq (.tmp 21) (.tmp 22)))),
    ((some 24), (none, (.mv (.tmp 23)))),
    ((some 25), ((some (24, false)), (.mv (.tmp 8)))),
    ((some 26), ((some (24, false)), (.bi .eql (.tmp 25) (.const (.int .i64 1439))))),
    ((some 27), ((some (24, false)), (.mv (.tmp 26)))),
    ((some 28), ((some (27, true)), (.mv (.tmp 7)))),
    ((some 29), ((some (27, true)), (.bi .eql (.tmp 28) (.const (.int .i64 0))))),
    ((some 30), ((some (24, false)), (.pick (.tmp 27) (.tmp 29) (.const (.bool false))))),
    ((some 31), (none, (.pick (.tmp 24) (.const (.bool true)) (.tmp 30))))])
  (.cond (.tmp 31)
    (.seq (.reg [((some 32), (none, (.call f_law07_awake []))),
      ((some 6), (none, (.mv (.tmp 32))))])
  .ret)
    .skip))
  (law07_HoldsDailyC_j1 f_law07_awake f_holds_Holds)))))
/-- macaroon/macaroonlaw07.HoldsAll: 100 slots, results [(.t 6)] -/
def law07_HoldsAllC (f_made_New : Nat) (f_made_Deck_Context : Nat) (f_made_Deck_Predicates : Nat) (f_holds_All : Nat) (f_ref06_All : Nat) (f_law07_awake : Nat) : PC :=
  (.seq (.reg [((some 4), (none, (.box 4 (.tmp 1)))),
    ((some 6), (none, (.mv (.const (.bool false)))))])
  (.seq (.reg [((some 22), (none, (.mv (.tmp 0)))),
    ((some 23), (none, (.mv (.tmp 0)))),
    ((some 24), (none, (.len (.tmp 23)))),
    ((some 25), (none, (.mm false (.tmp 24) (.const (.int .i64 60))))),
    ((some 26), (none, (.slS 6 (.tmp 22) none (some (.tmp 25)) none))),
    ((some 0), (none, (.steal 26)))])
  (.seq (.reg [((some 27), (none, (.mv (.tmp 2)))),
    ((some 28), (none, (.call f_made_New [(.tmp 27)]))),
    ((some 7), (none, (.mv (.tmp 28))))])
  (.seq (.reg [((some 29), (none, (.mv (.tmp 7)))),
    ((some 30), (none, (.call f_made_Deck_Context [(.tmp 29)]))),
    ((some 8), (none, (.alloc [(.int .i64 0), (.int .i64 0), (.int .i64 0), (.string ⟨#[]⟩)]))),
    (none, (none, (.st 4 (.tmp 8) (.tmp 30))))])
  (.seq (.reg [((some 31), (none, (.mv (.tmp 7)))),
    ((some 32), (none, (.call f_made_Deck_Predicates [(.tmp 31), (.const (.int .i64 6)), (.const (.bool true))]))),
    ((some 9), (none, (.steal 32)))])
  (.seq (.reg [((some 34), (none, (.mv (.tmp 9)))),
    ((some 35), (none, (.ldA 4 (.tmp 8)))),
    ((some 36), (none, (.call f_holds_All [(.tmp 34), (.tmp 35)]))),
    ((some 33), (none, (.steal 36))),
    ((some 37), (none, (.extr 33 0))),
    ((some 38), (none, (.extr 33 1))),
    ((some 10), (none, (.mv (.tmp 37)))),
    ((some 11), (none, (.mv (.tmp 38))))])
  (.seq (.reg [((some 40), (none, (.mv (.tmp 9)))),
    ((some 41), (none, (.ldA 4 (.tmp 8)))),
    ((some 42), (none, (.call f_ref06_All [(.tmp 40), (.tmp 41)]))),
    ((some 39), (none, (.steal 42))),
    ((some 43), (none, (.extr 39 0))),
    ((some 44), (none, (.extr 39 1))),
    ((some 12), (none, (.mv (.tmp 43)))),
    ((some 13), (none, (.mv (.tmp 44))))])
  (.seq (.reg [((some 46), (none, (.mv (.tmp 0)))),
    ((some 47), (none, (.ldA 4 (.tmp 4)))),
    ((some 48), (none, (.call f_holds_All [(.tmp 46), (.tmp 47)]))),
    ((some 45), (none, (.steal 48))),
    ((some 49), (none, (.extr 45 0))),
    ((some 50), (none, (.extr 45 1))),
    ((some 14), (none, (.mv (.tmp 49)))),
    ((some 15), (none, (.mv (.tmp 50))))])
  (.seq (.reg [((some 52), (none, (.mv (.tmp 0)))),
    ((some 53), (none, (.ldA 4 (.tmp 4)))),
    ((some 54), (none, (.call f_ref06_All [(.tmp 52), (.tmp 53)]))),
    ((some 51), (none, (.steal 54))),
    ((some 55), (none, (.extr 51 0))),
    ((some 56), (none, (.extr 51 1))),
    ((some 16), (none, (.mv (.tmp 55)))),
    ((some 17), (none, (.mv (.tmp 56))))])
  (.seq (.reg [((some 58), (none, (.mv (.tmp 9)))),
    ((some 59), (none, (.ldA 4 (.tmp 4)))),
    ((some 60), (none, (.call f_holds_All [(.tmp 58), (.tmp 59)]))),
    ((some 57), (none, (.steal 60))),
    ((some 61), (none, (.extr 57 0))),
    ((some 62), (none, (.extr 57 1))),
    ((some 18), (none, (.mv (.tmp 61)))),
    ((some 19), (none, (.mv (.tmp 62))))])
  (.seq (.reg [((some 64), (none, (.mv (.tmp 9)))),
    ((some 65), (none, (.ldA 4 (.tmp 4)))),
    ((some 66), (none, (.call f_ref06_All [(.tmp 64), (.tmp 65)]))),
    ((some 63), (none, (.steal 66))),
    ((some 67), (none, (.extr 63 0))),
    ((some 68), (none, (.extr 63 1))),
    ((some 20), (none, (.mv (.tmp 67)))),
    ((some 21), (none, (.mv (.tmp 68))))])
  (.seq (.reg [((some 69), (none, (.mv (.tmp 10)))),
    ((some 70), (none, (.mv (.tmp 12)))),
    ((some 71), (none, (.bi .eql (.tmp 69) (.tmp 70)))),
    ((some 72), (none, (.mv (.tmp 71)))),
    ((some 73), ((some (72, true)), (.mv (.tmp 11)))),
    ((some 74), ((some (72, true)), (.mv (.tmp 13)))),
    ((some 75), ((some (72, true)), (.bb false (.tmp 73) (.tmp 74)))),
    ((some 76), (none, (.pick (.tmp 72) (.tmp 75) (.const (.bool false))))),
    ((some 77), (none, (.mv (.tmp 76)))),
    ((some 78), ((some (77, true)), (.mv (.tmp 14)))),
    ((some 79), ((some (77, true)), (.mv (.tmp 16)))),
    ((some 80), ((some (77, true)), (.bi .eql (.tmp 78) (.tmp 79)))),
    ((some 81), (none, (.pick (.tmp 77) (.tmp 80) (.const (.bool false))))),
    ((some 82), (none, (.mv (.tmp 81)))),
    ((some 83), ((some (82, true)), (.mv (.tmp 15)))),
    ((some 84), ((some (82, true)), (.mv (.tmp 17)))),
    ((some 85), ((some (82, true)), (.bb false (.tmp 83) (.tmp 84)))),
    ((some 86), (none, (.pick (.tmp 82) (.tmp 85) (.const (.bool false))))),
    ((some 87), (none, (.mv (.tmp 86)))),
    ((some 88), ((some (87, true)), (.mv (.tmp 18)))),
    ((some 89), ((some (87, true)), (.mv (.tmp 20)))),
    ((some 90), ((some (87, true)), (.bi .eql (.tmp 88) (.tmp 89)))),
    ((some 91), (none, (.pick (.tmp 87) (.tmp 90) (.const (.bool false))))),
    ((some 92), (none, (.mv (.tmp 91)))),
    ((some 93), ((some (92, true)), (.mv (.tmp 19)))),
    ((some 94), ((some (92, true)), (.mv (.tmp 21)))),
    ((some 95), ((some (92, true)), (.bb false (.tmp 93) (.tmp 94)))),
    ((some 96), (none, (.pick (.tmp 92) (.tmp 95) (.const (.bool false))))),
    ((some 97), (none, (.mv (.tmp 96)))),
    ((some 98), ((some (97, true)), (.call f_law07_awake []))),
    ((some 99), (none, (.pick (.tmp 97) (.tmp 98) (.const (.bool false))))),
    ((some 6), (none, (.mv (.tmp 99))))])
  .ret))))))))))))
/-- macaroon/macaroonlaw07.HoldsMore: 63 slots, results [(.t 4)] -/
def law07_HoldsMoreC (f_made_New : Nat) (f_made_Deck_Context : Nat) (f_made_Deck_Predicate : Nat) (f_made_Deck_Predicates : Nat) (f_made_Within : Nat) (t_api_Predicate : Nat) (f_holds_All : Nat) (f_holds_Holds : Nat) (f_law07_awake : Nat) : PC :=
  (.seq (.reg [((some 4), (none, (.mv (.const (.bool false)))))])
  (.seq (.reg [((some 15), (none, (.mv (.tmp 0)))),
    ((some 16), (none, (.call f_made_New [(.tmp 15)]))),
    ((some 5), (none, (.mv (.tmp 16))))])
  (.seq (.reg [((some 17), (none, (.mv (.tmp 5)))),
    ((some 18), (none, (.call f_made_Deck_Context [(.tmp 17)]))),
    ((some 19), (none, (.mv (.tmp 5)))),
    ((some 20), (none, (.call f_made_Deck_Predicate [(.tmp 19), (.const (.bool true))]))),
    ((some 6), (none, (.alloc [(.int .i64 0), (.int .i64 0), (.int .i64 0), (.string ⟨#[]⟩)]))),
    ((some 7), (none, (.alloc [(.int .i64 0), (.int .u64 0), (.int .i64 0), (.int .i64 0), (.string ⟨#[]⟩), (.int .i64 0)]))),
    (none, (none, (.st 4 (.tmp 6) (.tmp 18)))),
    (none, (none, (.st 6 (.tmp 7) (.tmp 20))))])
  (.seq (.reg [((some 21), (none, (.mv (.tmp 5)))),
    ((some 22), (none, (.call f_made_Deck_Predicates [(.tmp 21), (.const (.int .i64 5)), (.const (.bool true))]))),
    ((some 8), (none, (.steal 22)))])
  (.seq (.reg [((some 23), (none, (.mv (.tmp 1)))),
    ((some 24), (none, (.mv (.tmp 8)))),
    ((some 25), (none, (.len (.tmp 24)))),
    ((some 26), (none, (.bi .add (.tmp 25) (.const (.int .i64 1))))),
    ((some 27), (none, (.call f_made_Within [(.tmp 23), (.tmp 26)]))),
    ((some 9), (none, (.mv (.tmp 27))))])
  (.seq (.ord (.one ((some 28), (none, (.mks t_api_Predicate 6 true [])))
    (.one ((some 29), (none, (.mv (.tmp 8))))
    (.one ((some 30), (none, (.mv (.tmp 9))))
    (.one ((some 31), (none, (.slS 6 (.tmp 29) none (some (.tmp 30)) none)))
    (.one ((some 32), (none, (.app t_api_Predicate 6 56 28 (.tmp 31))))
    (.one ((some 33), (none, (.ldA 6 (.tmp 7))))
    (.one ((some 34), (none, (.mks t_api_Predicate 6 false [(.tmp 33)])))
    (.one ((some 35), (none, (.app t_api_Predicate 6 56 32 (.tmp 34))))
    (.one ((some 36), (none, (.mv (.tmp 8))))
    (.one ((some 37), (none, (.mv (.tmp 9))))
    (.one ((some 38), (none, (.slS 6 (.tmp 36) (some (.tmp 37)) none none)))
    (.one ((some 39), (none, (.app t_api_Predicate 6 56 35 (.tmp 38))))
    (.one ((some 10), (none, (.steal 39)))
    .done))))))))))))))
  (.seq (.reg [((some 41), (none, (.mv (.tmp 8)))),
    ((some 42), (none, (.ldA 4 (.tmp 6)))),
    ((some 43), (none, (.call f_holds_All [(.tmp 41), (.tmp 42)]))),
    ((some 40), (none, (.steal 43))),
    ((some 44), (none, (.extr 40 0))),
    ((some 45), (none, (.extr 40 1))),
    ((some 11), (none, (.mv (.tmp 44)))),
    ((some 12), (none, (.mv (.tmp 45))))])
  (.seq (.reg [((some 47), (none, (.mv (.tmp 10)))),
    ((some 48), (none, (.ldA 4 (.tmp 6)))),
    ((some 49), (none, (.call f_holds_All [(.tmp 47), (.tmp 48)]))),
    ((some 46), (none, (.steal 49))),
    ((some 50), (none, (.extr 46 0))),
    ((some 51), (none, (.extr 46 1))),
    ((some 13), (none, (.mv (.tmp 50)))),
    ((some 14), (none, (.mv (.tmp 51))))])
  (.seq (.reg [((some 52), (none, (.mv (.tmp 14)))),
    ((some 53), (none, (.mv (.tmp 12)))),
    ((some 54), (none, (.mv (.tmp 53)))),
    ((some 55), ((some (54, true)), (.ldA 6 (.tmp 7)))),
    ((some 56), ((some (54, true)), (.ldA 4 (.tmp 6)))),
    ((some 57), ((some (54, true)), (.call f_holds_Holds [(.tmp 55), (.tmp 56)]))),
    ((some 58), (none, (.pick (.tmp 54) (.tmp 57) (.const (.bool false))))),
    ((some 59), (none, (.bb false (.tmp 52) (.tmp 58)))),
    ((some 60), (none, (.mv (.tmp 59)))),
    ((some 61), ((some (60, true)), (.call f_law07_awake []))),
    ((some 62), (none, (.pick (.tmp 60) (.tmp 61) (.const (.bool false))))),
    ((some 4), (none, (.mv (.tmp 62))))])
  .ret)))))))))
/-- macaroon/macaroonlaw07.awake: 12 slots, results [(.t 0)] -/
def law07_awakeC (f_holds_Holds : Nat) : PC :=
  (.seq (.reg [((some 0), (none, (.mv (.const (.bool false)))))])
  (.seq (.reg [((some 2), (none, (.build [(.inr ((.const (.int .i64 5)), 1)), (.inl [(.int .u64 0)]), (.inr ((.const (.int .i64 1380)), 1)), (.inr ((.const (.int .i64 300)), 1)), (.inl [(.string ⟨#[]⟩)]), (.inl [(.int .i64 0)])]))),
    ((some 1), (none, (.alloc [(.int .i64 0), (.int .u64 0), (.int .i64 0), (.int .i64 0), (.string ⟨#[]⟩), (.int .i64 0)]))),
    (none, (none, (.st 6 (.tmp 1) (.tmp 2))))])
  (.seq (.reg [((some 3), (none, (.ldA 6 (.tmp 1)))),
    ((some 4), (none, (.build [(.inl [(.int .i64 0)]), (.inl [(.int .i64 0)]), (.inr ((.const (.int .i64 10)), 1)), (.inr ((.const (.string ⟨#[97]⟩)), 1))]))),
    ((some 5), (none, (.call f_holds_Holds [(.tmp 3), (.tmp 4)]))),
    ((some 6), (none, (.mv (.tmp 5)))),
    ((some 7), ((some (6, true)), (.ldA 6 (.tmp 1)))),
    ((some 8), ((some (6, true)), (.build [(.inl [(.int .i64 0)]), (.inl [(.int .i64 0)]), (.inr ((.const (.int .i64 600)), 1)), (.inr ((.const (.string ⟨#[97]⟩)), 1))]))),
    ((some 9), ((some (6, true)), (.call f_holds_Holds [(.tmp 7), (.tmp 8)]))),
    ((some 10), ((some (6, true)), (.un .not (.tmp 9)))),
    ((some 11), (none, (.pick (.tmp 6) (.tmp 10) (.const (.bool false))))),
    ((some 0), (none, (.mv (.tmp 11))))])
  .ret)))
end Go.PE
namespace Go.PE
open Go
structure Pred where
  kind : Int
  mask : Int
  fr : Int
  to : Int
  name : ByteArray
  num : Int
def Pred.cells (p : Pred) : List Value := [.int .i64 p.kind, .int .u64 p.mask, .int .i64 p.fr, .int .i64 p.to, .string p.name, .int .i64 p.num]
def Pred.v (p : Pred) : Value := ag p.cells
structure Ctx where
  zone : Int
  line : Int
  minute : Int
  holder : ByteArray
def Ctx.cells (c : Ctx) : List Value := [.int .i64 c.zone, .int .i64 c.line, .int .i64 c.minute, .string c.holder]
def Ctx.v (c : Ctx) : Value := ag c.cells
/-- the variable predicate.bits -/
def bitsRow : List Value := [.int .i64 0, .int .i64 64, .int .i64 32, .int .i64 7, .int .i64 0, .int .i64 0, .int .i64 0, .int .i64 0]

def maskV (m bits : Int) : Bool := m != 0 && (bits == 64 || (m.fdiv (2 ^ min bits.toNat 64) == 0))
def MaskOK (P : Program) (f : Nat) : Prop := ∀ (m bits : Int), 0 ≤ bits → ∀ (H : Nat → Option (List Value)) (nx : Nat),
    PCalls P f [.int .u64 m, .int .i64 bits] H nx (fun _ => False) (fun p H' _ => p = .bool (maskV m bits) ∧ H' = H)
theorem mask_ok {P : Program} {f : Nat} (hc : compFn P f = some (17, predicate_maskC, [.t 4])) : MaskOK P f := by
  intro m bits h0 H nx
  refine PCalls_of hc (by simp) fun hw => ?_
  by_cases hm : m = 0
  · simp [predicate_maskC, hm]
    refine wF_of ?_; simp [maskV]
  · have hm1 : (m != 0) = true := by simp [hm]
    by_cases hb : bits = 64
    · simp [predicate_maskC, hm1, hb]
      refine wF_of ?_; simp [maskV, hm]
    · have hb1 : (bits == 64) = false := by simp [hb]
      simp [predicate_maskC, hm1, hb1, h0]
      refine wF_of ?_; simp [maskV, hm1, hb1, IntKind.bits]

def letter (u : UInt8) : Bool := decide (97 ≤ u.toNat) && decide (u.toNat ≤ 122)
/-- is it a name? -/
def nameV (b : ByteArray) : Bool := decide (1 ≤ b.size) && decide (b.size ≤ 16) && (List.range b.size).all fun i => letter (b[i]?.getD 0)
def NameOK (P : Program) (f : Nat) : Prop := ∀ (b : ByteArray) (_ : (b.size : Int) ≤ 9223372036854775807) (H : Nat → Option (List Value)) (nx : Nat),
    PCalls P f [.string b] H nx (fun _ => False) (fun p H' _ => p = .bool (nameV b) ∧ H' = H)
theorem name_bad {b : ByteArray} {i : Nat} (hlt : i < b.size) (hn : ¬ (97 ≤ b[i].toNat ∧ b[i].toNat ≤ 122)) : nameV b = false := by
  have hu : b[i]? = some b[i] := by simp [hlt]
  have : ¬ letter b[i] = true := by simpa [letter] using hn
  rw [Bool.eq_false_iff]
  intro hv
  simp only [nameV, Bool.and_eq_true, List.all_eq_true, List.mem_range] at hv
  have := hv.2 i hlt
  rw [hu] at this
  contradiction
theorem name_good {b : ByteArray} (h1 : 1 ≤ b.size) (h2 : b.size ≤ 16) (hall : ∀ j, j < b.size → letter (b[j]?.getD 0) = true) : nameV b = true := by
  simp only [nameV, Bool.and_eq_true, List.all_eq_true, List.mem_range, decide_eq_true_eq]
  exact ⟨⟨by omega, by omega⟩, fun j hj => hall j (by omega)⟩
theorem name_ok {P : Program} {f : Nat} (hc : compFn P f = some (28, predicate_nameC, [.t 2])) : NameOK P f := by
  intro b hb H nx
  refine PCalls_of hc (by simp) fun hw => ?_
  by_cases h1 : (b.size : Int) < 1
  · simp [predicate_nameC, h1]
    refine wF_of ⟨?_, rfl⟩
    have : ¬ 1 ≤ b.size := by omega
    simp [nameV, this]
  · by_cases h2 : (b.size : Int) > 16
    · simp [predicate_nameC, h1, h2]
      refine wF_of ⟨?_, rfl⟩
      have : ¬ b.size ≤ 16 := by omega
      simp [nameV, this]
    · simp [predicate_nameC, h1, h2]
      refine wpc_loop _ _ _ _ _ _ (fun s => ∃ i : Int, 0 ≤ i ∧ i ≤ b.size ∧ s.t 0 = .string b ∧ s.t 13 = .int .i64 b.size ∧ s.t 14 = .int .i64 i ∧ s.H = H ∧ ∀ j, j < i.toNat → letter (b[j]?.getD 0) = true)
        (fun s => match s.t 14 with | .int _ i => (b.size - i).toNat | _ => 0) _ ⟨0, by omega, by omega, by simp, by simp, by simp, rfl, fun j hj => by simp at hj⟩ ?_
      rintro ⟨t, H', nx'⟩ ⟨i, hi0, hi1, e0, e13, e14, rfl, hall⟩
      simp only at e0 e13 e14
      simp [e0, e13, e14]
      refine wB_of (fun h => ?_) (fun h => ?_)
      · simp at h
        have hlt : i.toNat < b.size := by omega
        have hu : b[i.toNat]? = some b[i.toNat] := by simp [hlt]
        by_cases c1 : ((b[i.toNat].toNat : Int) < 97)
        · simp [hi0, hlt, c1, e0, e13, e14]
          refine wF_of ⟨?_, rfl⟩
          rw [name_bad hlt (by omega)]; rfl
        · by_cases c2 : ((b[i.toNat].toNat : Int) > 122)
          · simp [hi0, hlt, c1, c2, e0, e13, e14]
            refine wF_of ⟨?_, rfl⟩
            rw [name_bad hlt (by omega)]; rfl
          · simp [hi0, hlt, c1, c2, e0, e13, e14]
            rw [w64 (x := i + 1) (by omega) (by omega)]
            refine kLoop_nrm _ _ _ _ (Sub_refl _ _) ⟨i + 1, by omega, by omega, by simp [e0], by simp [e13], by simp, rfl, fun j hj => ?_⟩ (by simp; omega)
            by_cases hj' : j < i.toNat
            · exact hall j hj'
            · obtain rfl : j = i.toNat := by omega
              rw [hu]
              simp [letter]; omega
      · simp at h
        refine wF_of ⟨?_, rfl⟩
        obtain rfl : i = b.size := by omega
        rw [name_good (by omega) (by omega) (fun j hj => hall j (by omega))]; rfl
/-- the references' -/
theorem rname_ok {P : Program} {f : Nat} (hc : compFn P f = some (28, ref01_NameC, [.t 2])) : NameOK P f := by
  intro b hb H nx
  refine PCalls_of hc (by simp) fun hw => ?_
  by_cases h1 : (b.size : Int) < 1
  · simp [ref01_NameC, h1]
    refine wF_of ⟨?_, rfl⟩
    have : ¬ 1 ≤ b.size := by omega
    simp [nameV, this]
  · by_cases h2 : (b.size : Int) > 16
    · simp [ref01_NameC, h1, h2]
      refine wF_of ⟨?_, rfl⟩
      have : ¬ b.size ≤ 16 := by omega
      simp [nameV, this]
    · simp [ref01_NameC, h1, h2]
      refine wpc_loop _ _ _ _ _ _ (fun s => ∃ i : Int, 0 ≤ i ∧ i ≤ b.size ∧ s.t 0 = .string b ∧ s.t 3 = .int .i64 i ∧ s.H = H ∧ ∀ j, j < i.toNat → letter (b[j]?.getD 0) = true)
        (fun s => match s.t 3 with | .int _ i => (b.size - i).toNat | _ => 0) _ ⟨0, by omega, by omega, by simp, by simp, rfl, fun j hj => by simp at hj⟩ ?_
      rintro ⟨t, H', nx'⟩ ⟨i, hi0, hi1, e0, e14, rfl, hall⟩
      simp only at e0 e14
      simp [e0, e14]
      refine wB_of (fun h => ?_) (fun h => ?_)
      · simp at h
        have hlt : i.toNat < b.size := by omega
        have hu : b[i.toNat]? = some b[i.toNat] := by simp [hlt]
        by_cases c1 : ((b[i.toNat].toNat : Int) < 97)
        · simp [hi0, hlt, c1, e0, e14]
          refine wF_of ⟨?_, rfl⟩
          rw [name_bad hlt (by omega)]; rfl
        · by_cases c2 : ((b[i.toNat].toNat : Int) > 122)
          · simp [hi0, hlt, c1, c2, e0, e14]
            refine wF_of ⟨?_, rfl⟩
            rw [name_bad hlt (by omega)]; rfl
          · simp [hi0, hlt, c1, c2, e0, e14]
            rw [w64 (x := i + 1) (by omega) (by omega)]
            refine kLoop_nrm _ _ _ _ (Sub_refl _ _) ⟨i + 1, by omega, by omega, by simp [e0], by simp, rfl, fun j hj => ?_⟩ (by simp; omega)
            by_cases hj' : j < i.toNat
            · exact hall j hj'
            · obtain rfl : j = i.toNat := by omega
              rw [hu]
              simp [letter]; omega
      · simp at h
        refine wF_of ⟨?_, rfl⟩
        obtain rfl : i = b.size := by omega
        rw [name_good (by omega) (by omega) (fun j hj => hall j (by omega))]; rfl
end Go.PE
namespace Go.PE
open Go
def Pred.valid (p : Pred) : Bool :=
  if p.kind = 1 then maskV p.mask 64 && (p.fr == 0 && (p.to == 0 && (p.name == ⟨#[]⟩ && p.num == 0)))
  else if p.kind = 2 then maskV p.mask 32 && (p.fr == 0 && (p.to == 0 && (p.name == ⟨#[]⟩ && p.num == 0)))
  else if p.kind = 3 then maskV p.mask 7 && (p.fr == 0 && (p.to == 0 && (p.name == ⟨#[]⟩ && p.num == 0)))
  else if p.kind = 4 then (decide (0 ≤ p.fr) && decide (p.fr ≤ p.to) && decide (p.to ≤ 67108864)) && (p.mask == 0 && (p.name == ⟨#[]⟩ && p.num == 0))
  else if p.kind = 5 then (decide (0 ≤ p.fr) && decide (p.fr < 1440) && decide (0 ≤ p.to) && decide (p.to < 1440)) && (p.mask == 0 && (p.name == ⟨#[]⟩ && p.num == 0))
  else if p.kind = 6 then nameV p.name && (p.mask == 0 && (p.fr == 0 && (p.to == 0 && p.num == 0)))
  else if p.kind = 7 then (decide (0 ≤ p.num) && decide (p.num ≤ 1000000)) && (p.mask == 0 && (p.fr == 0 && (p.to == 0 && p.name == ⟨#[]⟩)))
  else false
def PValidOK (P : Program) (f g : Nat) : Prop := ∀ (p : Pred) (_ : (p.name.size : Int) ≤ 9223372036854775807) (H : Nat → Option (List Value)) (nx : Nat), H g = some bitsRow → g < nx →
    PCalls P f [p.v] H nx (fun _ => False) (fun r H' _ => r = .bool p.valid ∧ H' = H)
set_option maxHeartbeats 1000000 in
theorem pvalid_ok {P : Program} {f g m n : Nat} (hc : compFn P f = some (118, predicate_ValidC g m n, [.t 2])) (hm : MaskOK P m) (hn : NameOK P n) : PValidOK P f g := by
  intro p hs H nx hg hgn
  have hg1 : ¬ g = nx := by omega
  have hg2 : ¬ g = nx + 1 := by omega
  refine PCalls_of hc (by simp) fun hw => ?_
  obtain ⟨kind, mask, fr, to, name, num⟩ := p
  by_cases h1 : kind = 1
  · subst h1
    simp [predicate_ValidC, Pred.v, Pred.cells, hg, hg1, hg2, bitsRow]
    refine wqCall_of (hm mask 64 (by omega) _ _) rfl (fun _ _ _ h => h.1) ?_
    cases hb : maskV mask 64
    · simp [hb, hg, hg1, hg2, bitsRow]
      exact wF_own hw (by simp) (by simp [Pred.valid, hb])
    · simp [hb, hg, hg1, hg2, bitsRow]
      exact wF_own hw (by simp) (by simp [Pred.valid, hb])
  by_cases h2 : kind = 2
  · subst h2
    simp [predicate_ValidC, Pred.v, Pred.cells, hg, hg1, hg2, bitsRow]
    refine wqCall_of (hm mask 32 (by omega) _ _) rfl (fun _ _ _ h => h.1) ?_
    cases hb : maskV mask 32
    · simp [hb, hg, hg1, hg2, bitsRow]
      exact wF_own hw (by simp) (by simp [Pred.valid, hb])
    · simp [hb, hg, hg1, hg2, bitsRow]
      exact wF_own hw (by simp) (by simp [Pred.valid, hb])
  by_cases h3 : kind = 3
  · subst h3
    simp [predicate_ValidC, Pred.v, Pred.cells, hg, hg1, hg2, bitsRow]
    refine wqCall_of (hm mask 7 (by omega) _ _) rfl (fun _ _ _ h => h.1) ?_
    cases hb : maskV mask 7
    · simp [hb, hg, hg1, hg2, bitsRow]
      exact wF_own hw (by simp) (by simp [Pred.valid, hb])
    · simp [hb, hg, hg1, hg2, bitsRow]
      exact wF_own hw (by simp) (by simp [Pred.valid, hb])
  by_cases h4 : kind = 4
  · subst h4
    simp [predicate_ValidC, Pred.v, Pred.cells]
    by_cases c1 : 0 ≤ fr
    · by_cases c2 : fr ≤ to
      · by_cases c3 : to ≤ 67108864
        · simp [c1, c2, c3]
          exact wF_own hw (by simp) (by simp [Pred.valid, c1, c2, c3])
        · simp [c1, c2, c3]
          exact wF_own hw (by simp) (by simp [Pred.valid, c1, c2, c3])
      · simp [c1, c2]
        exact wF_own hw (by simp) (by simp [Pred.valid, c1, c2])
    · simp [c1]
      exact wF_own hw (by simp) (by simp [Pred.valid, c1])
  by_cases h5 : kind = 5
  · subst h5
    simp [predicate_ValidC, Pred.v, Pred.cells]
    by_cases c1 : 0 ≤ fr
    · by_cases c2 : fr < 1440
      · by_cases c3 : 0 ≤ to
        · by_cases c4 : to < 1440
          · simp [c1, c2, c3, c4]
            exact wF_own hw (by simp) (by simp [Pred.valid, c1, c2, c3, c4])
          · simp [c1, c2, c3, c4]
            exact wF_own hw (by simp) (by simp [Pred.valid, c1, c2, c3, c4])
        · simp [c1, c2, c3]
          exact wF_own hw (by simp) (by simp [Pred.valid, c1, c2, c3])
      · simp [c1, c2]
        exact wF_own hw (by simp) (by simp [Pred.valid, c1, c2])
    · simp [c1]
      exact wF_own hw (by simp) (by simp [Pred.valid, c1])
  by_cases h6 : kind = 6
  · subst h6
    simp [predicate_ValidC, Pred.v, Pred.cells]
    refine wCall_of (hn name hs _ _) fun r H' nx' ⟨hr, hH⟩ => ?_
    subst hr; subst hH
    cases hb : nameV name
    · simp [hb]
      exact wF_own hw (by simp) (by simp [Pred.valid, hb])
    · simp [hb]
      exact wF_own hw (by simp) (by simp [Pred.valid, hb])
  by_cases h7 : kind = 7
  · subst h7
    simp [predicate_ValidC, Pred.v, Pred.cells]
    by_cases c1 : 0 ≤ num
    · by_cases c2 : num ≤ 1000000
      · simp [c1, c2]
        exact wF_own hw (by simp) (by simp [Pred.valid, c1, c2])
      · simp [c1, c2]
        exact wF_own hw (by simp) (by simp [Pred.valid, c1, c2])
    · simp [c1]
      exact wF_own hw (by simp) (by simp [Pred.valid, c1])
  · have g1 : (kind == 1) = false := by simp [h1]
    have g2 : (kind == 2) = false := by simp [h2]
    have g3 : (kind == 3) = false := by simp [h3]
    have g4 : (kind == 4) = false := by simp [h4]
    have g5 : (kind == 5) = false := by simp [h5]
    have g6 : (kind == 6) = false := by simp [h6]
    have g7 : (kind == 7) = false := by simp [h7]
    simp [predicate_ValidC, Pred.v, Pred.cells, g1, g2, g3, g4, g5, g6, g7]
    exact wF_own hw (by simp) (by simp [Pred.valid, h1, h2, h3, h4, h5, h6, h7])
end Go.PE
namespace Go.PE
open Go
theorem maskV_lt {m : Int} {n : Nat} (h0 : 0 ≤ m) (hn : n < 64) : maskV m n = ((m != 0) && decide (m < 2 ^ n)) := by
  have hne : ((n : Int) == 64) = false := by simp; omega
  unfold maskV
  rw [hne]
  congr 1
  have hmin : min (n : Int).toNat 64 = n := by simp; omega
  rw [hmin]
  simp only [Bool.false_or]
  have hp : (0 : Int) < 2 ^ n := Int.pow_pos (by omega)
  rw [Int.fdiv_eq_ediv_of_nonneg _ (by omega)]
  by_cases h : m < 2 ^ n
  · simp [h, Int.ediv_eq_zero_of_lt h0 h]
  · simp only [h, decide_false, beq_eq_false_iff_ne, ne_eq]
    intro he
    have := Int.lt_ediv_add_one_mul_self m hp
    rw [he] at this
    omega
theorem maskV_64 (m : Int) : maskV m 64 = (m != 0) := by simp [maskV]
def RValidOK (P : Program) (f : Nat) : Prop := ∀ (p : Pred) (_ : (p.name.size : Int) ≤ 9223372036854775807) (_ : 0 ≤ p.mask) (H : Nat → Option (List Value)) (nx : Nat),
    PCalls P f [p.v] H nx (fun _ => False) (fun r H' _ => r = .bool p.valid ∧ H' = H)
theorem rvalid_ok {P : Program} {f n : Nat} (hc : compFn P f = some (120, ref06_ValidC n, [.t 2])) (hn : NameOK P n) : RValidOK P f := by
  intro p hs hm H nx
  refine PCalls_of hc (by simp) fun hw => ?_
  obtain ⟨kind, mask, fr, to, name, num⟩ := p
  simp only at hm hs
  by_cases h1 : kind = 1
  · subst h1
    by_cases hb : mask = 0
    · simp [ref06_ValidC, Pred.v, Pred.cells, hb]
      exact wF_own hw (by simp) (by simp [Pred.valid, maskV_64, hb])
    · have hb1 : (mask != 0) = true := by simp [hb]
      simp [ref06_ValidC, Pred.v, Pred.cells, hb1]
      exact wF_own hw (by simp) (by simp [Pred.valid, maskV_64, hb1])
  have e32 : (2 : Int) ^ 32 = 4294967296 := by decide
  have e7 : (2 : Int) ^ 7 = 128 := by decide
  by_cases h2 : kind = 2
  · subst h2
    have hv := maskV_lt (m := mask) (n := 32) hm (by omega)
    simp only [e32] at hv
    by_cases hb : mask = 0
    · simp [ref06_ValidC, Pred.v, Pred.cells, hb]
      exact wF_own hw (by simp) (by subst hb; simp [Pred.valid]; intro h; simp [maskV] at h)
    · have hb1 : (mask != 0) = true := by simp [hb]
      by_cases hc2 : mask < 4294967296
      · simp [ref06_ValidC, Pred.v, Pred.cells, hb1, hc2]
        exact wF_own hw (by simp) (by simp [Pred.valid, show maskV mask 32 = true by rw [show (32 : Int) = ((32 : Nat) : Int) from rfl, hv]; simp [hb1, hc2]])
      · simp [ref06_ValidC, Pred.v, Pred.cells, hb1, hc2]
        exact wF_own hw (by simp) (by simp [Pred.valid, show maskV mask 32 = false by rw [show (32 : Int) = ((32 : Nat) : Int) from rfl, hv]; simp [hc2]])
  by_cases h3 : kind = 3
  · subst h3
    have hv := maskV_lt (m := mask) (n := 7) hm (by omega)
    simp only [e7] at hv
    by_cases hb : mask = 0
    · simp [ref06_ValidC, Pred.v, Pred.cells, hb]
      exact wF_own hw (by simp) (by subst hb; simp [Pred.valid]; intro h; simp [maskV] at h)
    · have hb1 : (mask != 0) = true := by simp [hb]
      by_cases hc2 : mask < 128
      · simp [ref06_ValidC, Pred.v, Pred.cells, hb1, hc2]
        exact wF_own hw (by simp) (by simp [Pred.valid, show maskV mask 7 = true by rw [show (7 : Int) = ((7 : Nat) : Int) from rfl, hv]; simp [hb1, hc2]])
      · simp [ref06_ValidC, Pred.v, Pred.cells, hb1, hc2]
        exact wF_own hw (by simp) (by simp [Pred.valid, show maskV mask 7 = false by rw [show (7 : Int) = ((7 : Nat) : Int) from rfl, hv]; simp [hc2]])
  by_cases h4 : kind = 4
  · subst h4
    by_cases c1 : 0 ≤ fr
    · by_cases c2 : fr ≤ to
      · by_cases c3 : to ≤ 67108864
        · simp [ref06_ValidC, Pred.v, Pred.cells, c1, c2, c3]
          exact wF_own hw (by simp) (by simp [Pred.valid, c1, c2, c3])
        · simp [ref06_ValidC, Pred.v, Pred.cells, c1, c2, c3]
          exact wF_own hw (by simp) (by simp [Pred.valid, c1, c2, c3])
      · simp [ref06_ValidC, Pred.v, Pred.cells, c1, c2]
        exact wF_own hw (by simp) (by simp [Pred.valid, c1, c2])
    · simp [ref06_ValidC, Pred.v, Pred.cells, c1]
      exact wF_own hw (by simp) (by simp [Pred.valid, c1])
  by_cases h5 : kind = 5
  · subst h5
    by_cases c1 : 0 ≤ fr
    · by_cases c2 : fr < 1440
      · by_cases c3 : 0 ≤ to
        · by_cases c4 : to < 1440
          · simp [ref06_ValidC, Pred.v, Pred.cells, c1, c2, c3, c4]
            exact wF_own hw (by simp) (by simp [Pred.valid, c1, c2, c3, c4])
          · simp [ref06_ValidC, Pred.v, Pred.cells, c1, c2, c3, c4]
            exact wF_own hw (by simp) (by simp [Pred.valid, c1, c2, c3, c4])
        · simp [ref06_ValidC, Pred.v, Pred.cells, c1, c2, c3]
          exact wF_own hw (by simp) (by simp [Pred.valid, c1, c2, c3])
      · simp [ref06_ValidC, Pred.v, Pred.cells, c1, c2]
        exact wF_own hw (by simp) (by simp [Pred.valid, c1, c2])
    · simp [ref06_ValidC, Pred.v, Pred.cells, c1]
      exact wF_own hw (by simp) (by simp [Pred.valid, c1])
  by_cases h6 : kind = 6
  · subst h6
    simp [ref06_ValidC, Pred.v, Pred.cells]
    refine ⟨?_, ?_, ?_⟩ <;>
    · refine wCall_of (hn name hs _ _) fun r H' nx' ⟨hr, hH⟩ => ?_
      subst hr; subst hH
      cases hb : nameV name
      · simp [hb]
        exact wF_own hw (by simp) (by simp [Pred.valid, hb])
      · simp [hb]
        exact wF_own hw (by simp) (by simp [Pred.valid, hb])
  by_cases h7 : kind = 7
  · subst h7
    by_cases c1 : 0 ≤ num
    · by_cases c2 : num ≤ 1000000
      · simp [ref06_ValidC, Pred.v, Pred.cells, c1, c2]
        exact wF_own hw (by simp) (by simp [Pred.valid, c1, c2])
      · simp [ref06_ValidC, Pred.v, Pred.cells, c1, c2]
        exact wF_own hw (by simp) (by simp [Pred.valid, c1, c2])
    · simp [ref06_ValidC, Pred.v, Pred.cells, c1]
      exact wF_own hw (by simp) (by simp [Pred.valid, c1])
  · have g1 : (kind == 1) = false := by simp [h1]
    have g2 : (kind == 2) = false := by simp [h2]
    have g3 : (kind == 3) = false := by simp [h3]
    have g4 : (kind == 4) = false := by simp [h4]
    have g5 : (kind == 5) = false := by simp [h5]
    have g6 : (kind == 6) = false := by simp [h6]
    have g7 : (kind == 7) = false := by simp [h7]
    simp [ref06_ValidC, Pred.v, Pred.cells, g1, g2, g3, g4, g5, g6, g7]
    exact wF_own hw (by simp) (by simp [Pred.valid, h1, h2, h3, h4, h5, h6, h7])
end Go.PE
namespace Go.PE
open Go
def Ctx.valid (c : Ctx) : Bool := decide (0 ≤ c.zone) && decide (c.zone ≤ 63) && decide (0 ≤ c.line) && decide (c.line ≤ 31) && decide (0 ≤ c.minute) && decide (c.minute ≤ 67108864) && nameV c.holder
def CValidOK (P : Program) (f g : Nat) : Prop := ∀ (c : Ctx) (_ : (c.holder.size : Int) ≤ 9223372036854775807) (H : Nat → Option (List Value)) (nx : Nat), H g = some bitsRow → g < nx →
    PCalls P f [c.v] H nx (fun _ => False) (fun r H' _ => r = .bool c.valid ∧ H' = H)
theorem cvalid_ok {P : Program} {f g m : Nat} (hc : compFn P f = some (37, holds_ValidC m, [.t 2])) (hm : PValidOK P m g) : CValidOK P f g := by
  intro c hs H nx hg hgn
  have hg1 : ¬ g = nx := by omega
  refine PCalls_of hc (by simp) fun hw => ?_
  obtain ⟨zone, line, minute, holder⟩ := c
  by_cases c1 : 0 ≤ zone
  rotate_left
  · simp [holds_ValidC, Ctx.v, Ctx.cells, c1]
    exact wF_own hw (by simp) (by simp [Ctx.valid, c1])
  by_cases c2 : zone ≤ 63
  rotate_left
  · simp [holds_ValidC, Ctx.v, Ctx.cells, c1, c2]
    exact wF_own hw (by simp) (by simp [Ctx.valid, c1, c2])
  by_cases c3 : 0 ≤ line
  rotate_left
  · simp [holds_ValidC, Ctx.v, Ctx.cells, c1, c2, c3]
    exact wF_own hw (by simp) (by simp [Ctx.valid, c1, c2, c3])
  by_cases c4 : line ≤ 31
  rotate_left
  · simp [holds_ValidC, Ctx.v, Ctx.cells, c1, c2, c3, c4]
    exact wF_own hw (by simp) (by simp [Ctx.valid, c1, c2, c3, c4])
  by_cases c5 : 0 ≤ minute
  rotate_left
  · simp [holds_ValidC, Ctx.v, Ctx.cells, c1, c2, c3, c4, c5]
    exact wF_own hw (by simp) (by simp [Ctx.valid, c1, c2, c3, c4, c5])
  by_cases c6 : minute ≤ 67108864
  rotate_left
  · simp [holds_ValidC, Ctx.v, Ctx.cells, c1, c2, c3, c4, c5, c6]
    exact wF_own hw (by simp) (by simp [Ctx.valid, c1, c2, c3, c4, c5, c6])
  simp [holds_ValidC, Ctx.v, Ctx.cells, c1, c2, c3, c4, c5, c6]
  have hpv := fun (H : Nat → Option (List Value)) (nx : Nat) => hm ⟨6, 0, 0, 0, holder, 0⟩ hs H nx
  have hv : (⟨6, 0, 0, 0, holder, 0⟩ : Pred).valid = nameV holder := by simp [Pred.valid]
  refine wCall_of (hpv _ _ (by simp [hg, hg1]) (by simp; omega)) fun r H' nx' ⟨hr, hH⟩ => ?_
  subst hr; subst hH
  rw [hv]
  cases hb : nameV holder
  · simp [hb]
    exact wF_own hw (by simp) (by simp [Ctx.valid, c1, c2, c3, c4, c5, c6, hb])
  · simp [hb]
    exact wF_own hw (by simp) (by simp [Ctx.valid, c1, c2, c3, c4, c5, c6, hb])
def RCValidOK (P : Program) (f : Nat) : Prop := ∀ (c : Ctx) (_ : (c.holder.size : Int) ≤ 9223372036854775807) (H : Nat → Option (List Value)) (nx : Nat),
    PCalls P f [c.v] H nx (fun _ => False) (fun r H' _ => r = .bool c.valid ∧ H' = H)
theorem rcvalid_ok {P : Program} {f n : Nat} (hc : compFn P f = some (36, ref06_ContextOkC n, [.t 2])) (hn : NameOK P n) : RCValidOK P f := by
  intro c hs H nx
  refine PCalls_of hc (by simp) fun hw => ?_
  obtain ⟨zone, line, minute, holder⟩ := c
  by_cases c1 : 0 ≤ zone
  rotate_left
  · simp [ref06_ContextOkC, Ctx.v, Ctx.cells, c1]
    exact wF_own hw (by simp) (by simp [Ctx.valid, c1])
  by_cases c2 : zone ≤ 63
  rotate_left
  · simp [ref06_ContextOkC, Ctx.v, Ctx.cells, c1, c2]
    exact wF_own hw (by simp) (by simp [Ctx.valid, c1, c2])
  by_cases c3 : 0 ≤ line
  rotate_left
  · simp [ref06_ContextOkC, Ctx.v, Ctx.cells, c1, c2, c3]
    exact wF_own hw (by simp) (by simp [Ctx.valid, c1, c2, c3])
  by_cases c4 : line ≤ 31
  rotate_left
  · simp [ref06_ContextOkC, Ctx.v, Ctx.cells, c1, c2, c3, c4]
    exact wF_own hw (by simp) (by simp [Ctx.valid, c1, c2, c3, c4])
  by_cases c5 : 0 ≤ minute
  rotate_left
  · simp [ref06_ContextOkC, Ctx.v, Ctx.cells, c1, c2, c3, c4, c5]
    exact wF_own hw (by simp) (by simp [Ctx.valid, c1, c2, c3, c4, c5])
  by_cases c6 : minute ≤ 67108864
  rotate_left
  · simp [ref06_ContextOkC, Ctx.v, Ctx.cells, c1, c2, c3, c4, c5, c6]
    exact wF_own hw (by simp) (by simp [Ctx.valid, c1, c2, c3, c4, c5, c6])
  simp [ref06_ContextOkC, Ctx.v, Ctx.cells, c1, c2, c3, c4, c5, c6]
  refine wCall_of (hn holder hs _ _) fun r H' nx' ⟨hr, hH⟩ => ?_
  subst hr; subst hH
  cases hb : nameV holder
  · simp [hb]
    exact wF_own hw (by simp) (by simp [Ctx.valid, c1, c2, c3, c4, c5, c6, hb])
  · simp [hb]
    exact wF_own hw (by simp) (by simp [Ctx.valid, c1, c2, c3, c4, c5, c6, hb])
end Go.PE
