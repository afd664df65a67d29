/- The deck: what its functions compute, for whatever program that holds them. The deck: what is known of what it draws: whatever it is, it is within its bounds. The deck: a new one, names, contexts. The deck: numbers up to a bound. Bits that the deck's masks want. The deck: masks. The engine, part 21: what simp need not look into; boxes of the call's own at its end. The engine, part 23: lists of like things in a box; results that are frozen behind a call. The engine, part 24: a list of like things that a function keeps in a box of its own. -/
import Derived.Test.YtnighgphfomlkaaDoorEngC
import Derived.Laws.Bits64
set_option linter.all false
namespace Go.PE
open Go

def withinC : PC :=
  (.seq (.reg [((some 4), (none, (.mv (.const (.int .i64 0)))))])
  (.seq (.reg [((some 5), (none, (.mv (.tmp 0)))),
    ((some 6), (none, (.mv (.tmp 1)))),
    ((some 7), (none, (.bi .rem (.tmp 5) (.tmp 6)))),
    ((some 8), (none, (.mv (.tmp 1)))),
    ((some 9), (none, (.bi .add (.tmp 7) (.tmp 8)))),
    ((some 10), (none, (.mv (.tmp 1)))),
    ((some 11), (none, (.bi .rem (.tmp 9) (.tmp 10)))),
    ((some 4), (none, (.mv (.tmp 11))))])
  .ret))
def nextC (w : Nat) : PC :=
  (.seq (.reg [((some 4), (none, (.mv (.const (.int .i64 0)))))])
  (.seq (.seq (.drw [((some 5), (none, (.mv (.tmp 0)))),
    ((some 6), (none, (.nilc (.tmp 5)))),
    ((some 7), (none, (.fa 1 (.tmp 6)))),
    ((some 8), (none, (.ld false (.tmp 7)))),
    ((some 9), (none, (.mv (.tmp 0)))),
    ((some 10), (none, (.nilc (.tmp 9)))),
    ((some 11), (none, (.fa 0 (.tmp 10)))),
    ((some 12), (none, (.ld false (.tmp 11)))),
    ((some 13), (none, (.len (.tmp 12)))),
    ((some 14), (none, (.bi .geq (.tmp 8) (.tmp 13))))])
  (.cond (.tmp 14)
    (.seq (.reg [((some 4), (none, (.mv (.const (.int .i64 0)))))])
    .ret)
    .skip))
  (.seq (.reg [((some 15), (none, (.mv (.tmp 0)))),
    ((some 16), (none, (.nilc (.tmp 15)))),
    ((some 17), (none, (.fa 1 (.tmp 16)))),
    ((some 18), (none, (.ld false (.tmp 17)))),
    ((some 19), (none, (.bi .add (.tmp 18) (.const (.int .i64 1))))),
    ((some 20), (none, (.nilc (.tmp 15)))),
    ((some 21), (none, (.fa 1 (.tmp 20)))),
    (none, (none, (.st 1 (.tmp 21) (.tmp 19))))])
  (.seq (.drw [((some 22), (none, (.mv (.tmp 0)))),
    ((some 23), (none, (.nilc (.tmp 22)))),
    ((some 24), (none, (.fa 0 (.tmp 23)))),
    ((some 25), (none, (.ld false (.tmp 24)))),
    ((some 26), (none, (.mv (.tmp 0)))),
    ((some 27), (none, (.nilc (.tmp 26)))),
    ((some 28), (none, (.fa 1 (.tmp 27)))),
    ((some 29), (none, (.ld false (.tmp 28)))),
    ((some 30), (none, (.bi .sub (.tmp 29) (.const (.int .i64 1))))),
    ((some 31), (none, (.ixS 1 (.tmp 25) (.tmp 30)))),
    ((some 32), (none, (.ld false (.tmp 31)))),
    ((some 33), (none, (.mv (.tmp 1)))),
    ((some 34), (none, (.call w [(.tmp 32), (.tmp 33)]))),
    ((some 4), (none, (.mv (.tmp 34))))])
  .ret))))

/-- what Within computes, for a positive bound -/
def within (x n : Int) : Int := (IntKind.i64.wrap (x.tmod n + n)).tmod n
def WithinOK (P : Program) (f : Nat) : Prop := ∀ (x n : Int), 0 < n → ∀ (H : Nat → Option (List Value)) (nx : Nat),
    PCalls P f [.int .i64 x, .int .i64 n] H nx (fun _ => False) (fun p H' nx' => p = .int .i64 (within x n) ∧ H' = H)
theorem within_ok {P : Program} {f : Nat} (hc : compFn P f = some (12, withinC, [.t 4])) : WithinOK P f := by
  intro x n h0 H nx
  refine PCalls_of hc (by simp) fun hw => ?_
  have hn : n ≠ 0 := by omega
  simp [withinC, hn]
  exact wF_of (by simp [within])

/-- the cells of a deck -/
def dk (l : List Int) (at_ : Int) : List Value := [deep (l.map (.int .i64)), .int .i64 at_]
/-- what Next hands back -/
def nextV (l : List Int) (at_ n : Int) : Int := if at_ < l.length then within (l.getD at_.toNat 0) n else 0
/-- where the deck stands behind it -/
def nextP (l : List Int) (at_ : Int) : Int := if at_ < l.length then at_ + 1 else at_
def NextOK (P : Program) (f : Nat) : Prop := ∀ (k : Nat) (l : List Int) (at_ n : Int), 0 < n → 0 ≤ at_ → l.length ≤ maxLen → ∀ (H : Nat → Option (List Value)) (nx : Nat), H k = some (dk l at_) →
    PCalls P f [ptr k 0, .int .i64 n] H nx (fun j => j = k) (fun p H' _ => p = .int .i64 (nextV l at_ n) ∧ H' = upd H k (some (dk l (nextP l at_))))
theorem upd_self {α : Type} (f : Nat → α) (k : Nat) (v : α) (h : f k = v) : upd f k v = f := by
  funext j; simp only [upd]; split
  · rename_i e; rw [e, h]
  · rfl
theorem next_ok {P : Program} {f w : Nat} (hc : compFn P f = some (35, nextC w, [.t 4])) (hwi : WithinOK P w) : NextOK P f := by
  intro k l at_ n h0 ha hlen H nx hk
  refine PCalls_of hc (by simp) fun hw => ?_
  have hk0 := hk
  unfold dk at hk
  simp [nextC, hk]
  refine wB_of (fun h => ?_) (fun h => ?_)
  · simp at h
    have h1 : ¬ at_ < l.length := by omega
    refine wF_of ⟨by simp [nextV, h1], ?_⟩
    simp only [nextP, if_neg h1]
    exact (upd_self H k _ hk0).symm
  · simp at h
    have hm : (maxLen : Int) = 9223372036854775807 := rfl
    have hlt : at_.toNat < l.length := by omega
    rw [w64 (x := at_ + 1) (by omega) (by omega)]
    simp [w64 (x := at_) (by omega) (by omega)]
    have he : elemAt (l.map (Value.int .i64)) at_ 1 = some (dptr 0 [.int .i64 l[at_.toNat]]) := elemAt_map ha hlt rfl rfl
    rw [he]
    simp
    refine wqCall_of (hwi _ n h0 _ _) rfl (fun p H' nx' h => h.1) ?_
    simp
    exact wF_of ⟨by simp [nextV, h, hlt], by simp [dk, nextP, h]⟩
end Go.PE
namespace Go.PE
open Go

theorem within_range {x n : Int} (h0 : 0 < n) (h1 : n ≤ 4611686018427387904) : 0 ≤ within x n ∧ within x n < n := by
  have a1 := Int.lt_tmod_of_pos x h0
  have a2 := Int.tmod_lt_of_pos x h0
  unfold within
  rw [w64 (by omega) (by omega)]
  exact ⟨Int.tmod_nonneg _ (by omega), Int.tmod_lt_of_pos _ h0⟩

/-- behind a call the deck stands somewhere; v is what came out -/
def Drew (H : Nat → Option (List Value)) (k : Nat) (l : List Int) (H' : Nat → Option (List Value)) : Prop := ∃ at_ : Int, 0 ≤ at_ ∧ H' = upd H k (some (dk l at_))
/-- a function of the deck alone, with these arguments, that hands back a value with Q -/
def Draws (P : Program) (f : Nat) (args : List Value) (Q : Value → Prop) : Prop := ∀ (k : Nat) (l : List Int) (at_ : Int), 0 ≤ at_ → l.length ≤ maxLen → ∀ (H : Nat → Option (List Value)) (nx : Nat), H k = some (dk l at_) →
    PCalls P f (ptr k 0 :: args) H nx (fun j => j = k) (fun p H' _ => Q p ∧ Drew H k l H')
def isI (lo hi : Int) (p : Value) : Prop := ∃ v, p = .int .i64 v ∧ lo ≤ v ∧ v ≤ hi
def NextW (P : Program) (f : Nat) : Prop := ∀ n : Int, 0 < n → n ≤ 4611686018427387904 → Draws P f [.int .i64 n] (isI 0 (n - 1))
theorem next_w {P : Program} {f : Nat} (h : NextOK P f) : NextW P f := by
  intro n h0 h1 k l at_ ha hl H nx hk
  refine (h k l at_ n h0 ha hl H nx hk).mono fun p H' nx' hp => ?_
  obtain ⟨rfl, rfl⟩ := hp
  have := @within_range (l.getD at_.toNat 0) n h0 h1
  refine ⟨⟨_, rfl, ?_, ?_⟩, _, ?_, rfl⟩
  · unfold nextV; split <;> omega
  · unfold nextV; split <;> omega
  · unfold nextP; split <;> omega

theorem dk_noLin (l : List Int) (at_ : Int) : rowNoLin (dk l at_) := by
  intro i e xs h
  unfold dk at h
  match i with
  | 0 => simp [deep, lin] at h
  | 1 => simp [lin] at h
  | i + 2 => simp [undef, lin] at h

/-- a call that draws -/
theorem wCall_draw {P : Program} {T : Nat → Prop} {n0 f : Nat} {d : Option Nat} {s : PS} {K : PS → Prop} {Q : Value → Prop} {args : List Value} {k : Nat} {l : List Int} {at_ : Int} (h : Draws P f args Q) (ha : 0 ≤ at_) (hl : l.length ≤ maxLen)
    (hk : s.H k = some (dk l at_)) (hT : n0 ≤ k ∨ T k) (hK : ∀ p at' nx', Q p → 0 ≤ at' → K ⟨(s.putO d p).t, upd s.H k (some (dk l at')), nx'⟩) : wCall (PCalls P) T n0 f (ptr k 0 :: args) d s K := by
  refine wCall_ofT (h k l at_ ha hl s.H s.nx hk) (fun j hj => by subst hj; exact hT) (fun j row hj hr => by subst hj; rw [hk] at hr; obtain rfl := Option.some.inj hr; exact dk_noLin l at_) fun p H' nx' hp => ?_
  obtain ⟨hq, at', ha', rfl⟩ := hp
  exact hK p at' nx' hq ha'

def rangeC (w : Nat) : PC :=
  (.seq (.reg [((some 6), (none, (.mv (.const (.int .i64 0)))))])
  (.seq (.reg [((some 7), (none, (.mv (.tmp 1)))),
    ((some 8), (none, (.mv (.tmp 0)))),
    ((some 9), (none, (.mv (.tmp 2)))),
    ((some 10), (none, (.mv (.tmp 1)))),
    ((some 11), (none, (.bi .sub (.tmp 9) (.tmp 10)))),
    ((some 12), (none, (.bi .add (.tmp 11) (.const (.int .i64 1))))),
    ((some 13), (none, (.call w [(.tmp 8), (.tmp 12)]))),
    ((some 14), (none, (.bi .add (.tmp 7) (.tmp 13)))),
    ((some 6), (none, (.mv (.tmp 14))))])
  .ret))
theorem upd_upd {α : Type} (f : Nat → α) (k : Nat) (v w : α) : upd (upd f k v) k w = upd f k w := by funext j; simp only [upd]; split <;> rfl
theorem range_w {P : Program} {f w : Nat} (hc : compFn P f = some (15, rangeC w, [.t 6])) (hn : NextW P w) : ∀ lo hi : Int, 0 ≤ lo → lo ≤ hi → hi < 4611686018427387904 → Draws P f [.int .i64 lo, .int .i64 hi] (isI lo hi) := by
  intro lo hi h0 h1 h2 k l at_ ha hl H nx hk
  refine PCalls_of hc (by simp) fun hw => ?_
  simp [rangeC]
  rw [w64 (x := hi - lo) (by omega) (by omega), w64 (x := hi - lo + 1) (by omega) (by omega)]
  refine wCall_draw (hn (hi - lo + 1) (by omega) (by omega)) ha hl hk (.inr rfl) fun p at' nx' hp ha' => ?_
  obtain ⟨v, rfl, hv1, hv2⟩ := hp
  simp
  rw [w64 (x := lo + v) (by omega) (by omega)]
  exact wF_of ⟨⟨lo + v, rfl, by omega, by omega⟩, at', ha', rfl⟩
def minuteC (w : Nat) : PC :=
  (.seq (.reg [((some 2), (none, (.mv (.const (.int .i64 0)))))])
  (.seq (.seq (.reg [((some 3), (none, (.mv (.tmp 0)))),
    ((some 4), (none, (.call w [(.tmp 3), (.const (.int .i64 4))])))])
  (.block 0 (.seq (.reg [((some 6), (none, (.bi .eql (.tmp 4) (.const (.int .i64 0))))),
     ((some 5), (none, (.mv (.tmp 6))))])
   (.cond (.tmp 5)
     (.seq (.reg [((some 7), (none, (.mv (.tmp 0)))),
       ((some 8), (none, (.call w [(.tmp 7), (.const (.int .i64 4320))]))),
       ((some 2), (none, (.mv (.tmp 8))))])
     .ret)
     (.seq (.reg [((some 10), (none, (.bi .eql (.tmp 4) (.const (.int .i64 1))))),
       ((some 9), (none, (.mv (.tmp 10))))])
     (.cond (.tmp 9)
       (.seq (.reg [((some 11), (none, (.mv (.tmp 0)))),
         ((some 12), (none, (.call w [(.tmp 11), (.const (.int .i64 60))]))),
         ((some 13), (none, (.bi .mul (.tmp 12) (.const (.int .i64 1440))))),
         ((some 14), (none, (.mv (.tmp 0)))),
         ((some 15), (none, (.call w [(.tmp 14), (.const (.int .i64 3))]))),
         ((some 16), (none, (.bi .add (.tmp 13) (.tmp 15)))),
         ((some 17), (none, (.mm false (.tmp 16) (.const (.int .i64 67108864))))),
         ((some 2), (none, (.mv (.tmp 17))))])
       .ret)
       (.seq (.reg [((some 19), (none, (.bi .eql (.tmp 4) (.const (.int .i64 2))))),
         ((some 18), (none, (.mv (.tmp 19))))])
       (.cond (.tmp 18)
         (.seq (.reg [((some 20), (none, (.mv (.tmp 0)))),
           ((some 21), (none, (.call w [(.tmp 20), (.const (.int .i64 4320))]))),
           ((some 22), (none, (.bi .sub (.const (.int .i64 67108864)) (.tmp 21)))),
           ((some 2), (none, (.mv (.tmp 22))))])
         .ret)
         .skip))))))))
  (.seq (.reg [((some 23), (none, (.mv (.tmp 0)))),
    ((some 24), (none, (.call w [(.tmp 23), (.const (.int .i64 67108865))]))),
    ((some 2), (none, (.mv (.tmp 24))))])
  .ret)))
theorem minute_w {P : Program} {f w : Nat} (hc : compFn P f = some (25, minuteC w, [.t 2])) (hn : NextW P w) : Draws P f [] (isI 0 67108864) := by
  intro k l at_ ha hl H nx hk
  refine PCalls_of hc (by simp) fun hw => ?_
  simp [minuteC]
  refine wCall_draw (hn 4 (by omega) (by omega)) ha hl hk (.inr rfl) fun p at1 nx1 hp ha1 => ?_
  obtain ⟨v, rfl, hv1, hv2⟩ := hp
  simp
  refine wB_of (fun h1 => ?_) (fun h1 => ?_)
  · refine wCall_draw (hn 4320 (by omega) (by omega)) ha1 hl (by simp) (.inr rfl) fun p at2 nx2 hp ha2 => ?_
    obtain ⟨v2, rfl, hv21, hv22⟩ := hp
    simp
    exact wF_of ⟨⟨v2, rfl, by omega, by omega⟩, at2, ha2, by simp [upd_upd]⟩
  · refine wB_of (fun h2 => ?_) (fun h2 => ?_)
    · refine wCall_draw (hn 60 (by omega) (by omega)) ha1 hl (by simp) (.inr rfl) fun p at2 nx2 hp ha2 => ?_
      obtain ⟨v2, rfl, hv21, hv22⟩ := hp
      simp
      refine wCall_draw (hn 3 (by omega) (by omega)) ha2 hl (by simp) (.inr rfl) fun p at3 nx3 hp ha3 => ?_
      obtain ⟨v3, rfl, hv31, hv32⟩ := hp
      simp
      rw [w64 (x := v2 * 1440) (by omega) (by omega), w64 (x := v2 * 1440 + v3) (by omega) (by omega)]
      refine wF_of ⟨⟨_, rfl, by split <;> omega, by split <;> omega⟩, at3, ha3, by simp [upd_upd]⟩
    · refine wB_of (fun h3 => ?_) (fun h3 => ?_)
      · refine wCall_draw (hn 4320 (by omega) (by omega)) ha1 hl (by simp) (.inr rfl) fun p at2 nx2 hp ha2 => ?_
        obtain ⟨v2, rfl, hv21, hv22⟩ := hp
        simp
        rw [w64 (x := 67108864 - v2) (by omega) (by omega)]
        exact wF_of ⟨⟨67108864 - v2, rfl, by omega, by omega⟩, at2, ha2, by simp [upd_upd]⟩
      · refine wCall_draw (hn 67108865 (by omega) (by omega)) ha1 hl (by simp) (.inr rfl) fun p at2 nx2 hp ha2 => ?_
        obtain ⟨v2, rfl, hv21, hv22⟩ := hp
        simp
        exact wF_of ⟨⟨v2, rfl, by omega, by omega⟩, at2, ha2, by simp [upd_upd]⟩
end Go.PE
namespace Go.PE
open Go

def names : List ByteArray := [⟨#[97]⟩, ⟨#[98]⟩, ⟨#[97, 110, 110]⟩, ⟨#[98, 111, 98]⟩, ⟨#[99, 105, 100]⟩, ⟨#[122, 111, 101]⟩, ⟨#[97, 97]⟩, ⟨#[97, 98, 99, 100, 101, 102, 103, 104, 105, 106, 107, 108, 109, 110, 111, 112]⟩]
def isN (p : Value) : Prop := ∃ b ∈ names, p = .string b
def nameC (e w : Nat) : PC :=
  (.seq (.reg [((some 2), (none, (.mv (.const (.string ⟨#[]⟩)))))])
  (.seq (.reg [((some 3), (none, (.mks e 1 false [(.const (.string ⟨#[97]⟩)), (.const (.string ⟨#[98]⟩)), (.const (.string ⟨#[97, 110, 110]⟩)), (.const (.string ⟨#[98, 111, 98]⟩)), (.const (.string ⟨#[99, 105, 100]⟩)), (.const (.string ⟨#[122, 111, 101]⟩)), (.const (.string ⟨#[97, 97]⟩)), (.const (.string ⟨#[97, 98, 99, 100, 101, 102, 103, 104, 105, 106, 107, 108, 109, 110, 111, 112]⟩))]))),
    ((some 4), (none, (.mv (.tmp 0)))),
    ((some 5), (none, (.call w [(.tmp 4), (.const (.int .i64 8))]))),
    ((some 6), (none, (.ixS 1 (.tmp 3) (.tmp 5)))),
    ((some 7), (none, (.ld false (.tmp 6)))),
    ((some 2), (none, (.mv (.tmp 7))))])
  .ret))
theorem name_w {P : Program} {f w e : Nat} (hc : compFn P f = some (8, nameC e w, [.t 2])) (hn : NextW P w) : Draws P f [] isN := by
  intro k l at_ ha hl H nx hk
  refine PCalls_of hc (by simp) fun hw => ?_
  simp [nameC]
  refine wCall_draw (hn 8 (by omega) (by omega)) ha hl hk (.inr rfl) fun p at1 nx1 hp ha1 => ?_
  obtain ⟨v, rfl, hv1, hv2⟩ := hp
  simp
  have hv : v = 0 ∨ v = 1 ∨ v = 2 ∨ v = 3 ∨ v = 4 ∨ v = 5 ∨ v = 6 ∨ v = 7 := by omega
  rcases hv with rfl | rfl | rfl | rfl | rfl | rfl | rfl | rfl <;> simp [elemAt] <;> exact wF_of ⟨⟨_, by simp [names], rfl⟩, at1, ha1, rfl⟩

/-- a new deck -/
def newC : PC :=
  (.seq (.reg [((some 2), (none, (.mv (.const (.pointer none)))))])
  (.seq (.reg [((some 3), (none, (.mv (.tmp 0)))),
    ((some 4), (none, (.build [(.inr ((.tmp 3), 1)), (.inl [(.int .i64 0)])]))),
    ((some 5), (none, (.box 2 (.tmp 4)))),
    ((some 2), (none, (.mv (.tmp 5))))])
  .ret))
theorem new_ok {P : Program} {f : Nat} (hc : compFn P f = some (6, newC, [.t 2])) (l : List Int) (H : Nat → Option (List Value)) (nx : Nat) :
    PCalls P f [deep (l.map (.int .i64))] H nx (fun _ => False) (fun p H' nx' => p = ptr nx 0 ∧ H' = upd H nx (some (dk l 0)) ∧ nx' = nx + 1) := by
  refine PCalls_of hc (by simp) fun hw => ?_
  simp [newC]
  exact wF_of ⟨rfl, rfl, rfl⟩

/-- a context of the deck's -/
def isCtx (p : Value) : Prop := ∃ z l m b, p = ag [.int .i64 z, .int .i64 l, .int .i64 m, .string b] ∧ 0 ≤ z ∧ z ≤ 63 ∧ 0 ≤ l ∧ l ≤ 31 ∧ 0 ≤ m ∧ m ≤ 67108864 ∧ b ∈ names
def contextC (w r m n : Nat) : PC :=
  (.seq (.reg [((some 2), (none, (.alloc [(.int .i64 0), (.int .i64 0), (.int .i64 0), (.string ⟨#[]⟩)])))])
  (.seq (.reg [((some 3), (none, (.mv (.tmp 0)))),
    ((some 4), (none, (.call w [(.tmp 3), (.const (.int .i64 4))]))),
    ((some 5), (none, (.mv (.tmp 0)))),
    ((some 6), (none, (.call r [(.tmp 5), (.const (.int .i64 1)), (.const (.int .i64 21))]))),
    ((some 7), (none, (.bi .mul (.tmp 4) (.tmp 6)))),
    ((some 8), (none, (.mv (.tmp 0)))),
    ((some 9), (none, (.call w [(.tmp 8), (.const (.int .i64 32))]))),
    ((some 10), (none, (.mv (.tmp 0)))),
    ((some 11), (none, (.call m [(.tmp 10)]))),
    ((some 12), (none, (.mv (.tmp 0)))),
    ((some 13), (none, (.call n [(.tmp 12)]))),
    ((some 14), (none, (.build [(.inr ((.tmp 7), 1)), (.inr ((.tmp 9), 1)), (.inr ((.tmp 11), 1)), (.inr ((.tmp 13), 1))]))),
    (none, (none, (.st 4 (.tmp 2) (.tmp 14))))])
  .ret))
theorem context_w {P : Program} {f w r m n : Nat} (hc : compFn P f = some (15, contextC w r m n, [.cA 2 4])) (hn : NextW P w) (hr : ∀ lo hi : Int, 0 ≤ lo → lo ≤ hi → hi < 4611686018427387904 → Draws P r [.int .i64 lo, .int .i64 hi] (isI lo hi))
    (hm : Draws P m [] (isI 0 67108864)) (hN : Draws P n [] isN) : Draws P f [] isCtx := by
  intro k l at_ ha hl H nx hk
  refine PCalls_of hc (by simp) fun hw => ?_
  have hne : k ≠ nx := fun e => by rw [e, hw nx (Nat.le_refl _)] at hk; cases hk
  simp [contextC]
  refine wCall_draw (hn 4 (by omega) (by omega)) ha hl (by simp [hne, hk]) (.inr rfl) fun p at1 nx1 hp ha1 => ?_
  obtain ⟨v1, rfl, h11, h12⟩ := hp
  simp
  refine wCall_draw (hr 1 21 (by omega) (by omega) (by omega)) ha1 hl (by simp) (.inr rfl) fun p at2 nx2 hp ha2 => ?_
  obtain ⟨v2, rfl, h21, h22⟩ := hp
  have hz : 0 ≤ v1 * v2 ∧ v1 * v2 ≤ 63 := by
    refine ⟨Int.mul_nonneg h11 (by omega), ?_⟩
    have : v1 * v2 ≤ 3 * 21 := Int.mul_le_mul (by omega) h22 (by omega) (by omega)
    omega
  simp
  rw [w64 (x := v1 * v2) (by omega) (by omega)]
  refine wCall_draw (hn 32 (by omega) (by omega)) ha2 hl (by simp) (.inr rfl) fun p at3 nx3 hp ha3 => ?_
  obtain ⟨v3, rfl, h31, h32⟩ := hp
  simp
  refine wCall_draw hm ha3 hl (by simp) (.inr rfl) fun p at4 nx4 hp ha4 => ?_
  obtain ⟨v4, rfl, h41, h42⟩ := hp
  simp
  refine wCall_draw hN ha4 hl (by simp) (.inr rfl) fun p at5 nx5 hp ha5 => ?_
  obtain ⟨b, hb, rfl⟩ := hp
  simp [Ne.symm hne]
  refine wF_sub (H1 := upd H k (some (dk l at5))) (fun j => ?_) ⟨⟨v1 * v2, v3, v4, b, rfl, hz.1, hz.2, h31, by omega, h41, h42, hb⟩, at5, ha5, rfl⟩
  by_cases hj : j = nx
  · subst hj; right; exact ⟨Nat.le_refl _, by simp [Ne.symm hne, hw]⟩
  · left; simp [hj, upd_upd]
end Go.PE
namespace Go.PE
open Go
def uptoC (w : Nat) : PC :=
  (.seq (.reg [((some 4), (none, (.mv (.const (.int .i64 0)))))])
  (.seq (.seq (.reg [((some 5), (none, (.mv (.tmp 0)))),
    ((some 6), (none, (.call w [(.tmp 5), (.const (.int .i64 4))])))])
  (.block 0 (.seq (.reg [((some 8), (none, (.bi .eql (.tmp 6) (.const (.int .i64 0))))),
     ((some 7), (none, (.mv (.tmp 8))))])
   (.cond (.tmp 7)
     (.seq (.reg [((some 9), (none, (.mv (.tmp 0)))),
       ((some 10), (none, (.call w [(.tmp 9), (.const (.int .i64 4))]))),
       ((some 11), (none, (.mv (.tmp 1)))),
       ((some 12), (none, (.mm false (.tmp 10) (.tmp 11)))),
       ((some 4), (none, (.mv (.tmp 12))))])
     .ret)
     (.seq (.reg [((some 14), (none, (.bi .eql (.tmp 6) (.const (.int .i64 1))))),
       ((some 13), (none, (.mv (.tmp 14))))])
     (.cond (.tmp 13)
       (.seq (.reg [((some 15), (none, (.mv (.tmp 0)))),
         ((some 16), (none, (.call w [(.tmp 15), (.const (.int .i64 300))]))),
         ((some 17), (none, (.mv (.tmp 1)))),
         ((some 18), (none, (.mm false (.tmp 16) (.tmp 17)))),
         ((some 4), (none, (.mv (.tmp 18))))])
       .ret)
       (.seq (.reg [((some 20), (none, (.bi .eql (.tmp 6) (.const (.int .i64 2))))),
         ((some 19), (none, (.mv (.tmp 20))))])
       (.cond (.tmp 19)
         (.seq (.reg [((some 21), (none, (.mv (.tmp 1)))),
           ((some 22), (none, (.mv (.tmp 0)))),
           ((some 23), (none, (.mv (.tmp 1)))),
           ((some 24), (none, (.bi .add (.tmp 23) (.const (.int .i64 1))))),
           ((some 25), (none, (.mm false (.const (.int .i64 3)) (.tmp 24)))),
           ((some 26), (none, (.call w [(.tmp 22), (.tmp 25)]))),
           ((some 27), (none, (.bi .sub (.tmp 21) (.tmp 26)))),
           ((some 4), (none, (.mv (.tmp 27))))])
         .ret)
         .skip))))))))
  (.seq (.reg [((some 28), (none, (.mv (.tmp 0)))),
    ((some 29), (none, (.mv (.tmp 1)))),
    ((some 30), (none, (.bi .add (.tmp 29) (.const (.int .i64 1))))),
    ((some 31), (none, (.call w [(.tmp 28), (.tmp 30)]))),
    ((some 4), (none, (.mv (.tmp 31))))])
  .ret)))
theorem upto_w {P : Program} {f w : Nat} (hc : compFn P f = some (32, uptoC w, [.t 4])) (hn : NextW P w) : ∀ n : Int, 2 ≤ n → n < 4611686018427387903 → Draws P f [.int .i64 n] (isI 0 n) := by
  intro n h0 h1 k l at_ ha hl H nx hk
  refine PCalls_of hc (by simp) fun hw => ?_
  simp [uptoC]
  refine wCall_draw (hn 4 (by omega) (by omega)) ha hl hk (.inr rfl) fun p at1 nx1 hp ha1 => ?_
  obtain ⟨v, rfl, hv1, hv2⟩ := hp
  simp
  refine wB_of (fun h1 => ?_) (fun h1 => ?_)
  · refine wCall_draw (hn 4 (by omega) (by omega)) ha1 hl (by simp) (.inr rfl) fun p at2 nx2 hp ha2 => ?_
    obtain ⟨v2, rfl, hv21, hv22⟩ := hp
    simp
    exact wF_of ⟨⟨_, rfl, by split <;> omega, by split <;> omega⟩, at2, ha2, by simp [upd_upd]⟩
  · refine wB_of (fun h2 => ?_) (fun h2 => ?_)
    · refine wCall_draw (hn 300 (by omega) (by omega)) ha1 hl (by simp) (.inr rfl) fun p at2 nx2 hp ha2 => ?_
      obtain ⟨v2, rfl, hv21, hv22⟩ := hp
      simp
      exact wF_of ⟨⟨_, rfl, by split <;> omega, by split <;> omega⟩, at2, ha2, by simp [upd_upd]⟩
    · refine wB_of (fun h3 => ?_) (fun h3 => ?_)
      · rw [w64 (x := n + 1) (by omega) (by omega), if_neg (by omega)]
        refine wCall_draw (hn 3 (by omega) (by omega)) ha1 hl (by simp) (.inr rfl) fun p at2 nx2 hp ha2 => ?_
        obtain ⟨v2, rfl, hv21, hv22⟩ := hp
        simp
        rw [w64 (x := n - v2) (by omega) (by omega)]
        exact wF_of ⟨⟨n - v2, rfl, by omega, by omega⟩, at2, ha2, by simp [upd_upd]⟩
      · rw [w64 (x := n + 1) (by omega) (by omega)]
        refine wCall_draw (hn (n + 1) (by omega) (by omega)) ha1 hl (by simp) (.inr rfl) fun p at2 nx2 hp ha2 => ?_
        obtain ⟨v2, rfl, hv21, hv22⟩ := hp
        simp
        exact wF_of ⟨⟨v2, rfl, by omega, by omega⟩, at2, ha2, by simp [upd_upd]⟩
end Go.PE
namespace Go.PE
open Go
theorem and_mask {m : Int} {n : Nat} (h0 : 0 ≤ m) (h1 : m < 18446744073709551616) (hn : n < 64) : bitsV .and .u64 m (2 ^ n - 1) = m % 2 ^ n := by
  obtain ⟨a, rfl⟩ := Int.eq_ofNat_of_zero_le h0
  have hp : (2 : Nat) ^ n ≤ 2 ^ 63 := Nat.pow_le_pow_right (by omega) (by omega)
  have hpos : 0 < (2 : Nat) ^ n := Nat.two_pow_pos n
  have e1 : ((2 : Int) ^ n - 1) = ((2 ^ n - 1 : Nat) : Int) := by
    rw [Int.natCast_sub (by omega)]; simp
  have e2 : (2 : Int) ^ n = ((2 ^ n : Nat) : Int) := by simp
  rw [e1, e2]
  have e3 : (BitVec.ofInt 64 ((2 ^ n - 1 : Nat) : Int)).toNat = 2 ^ n - 1 := by
    rw [BitVec.toNat_ofInt]; simp; omega
  have e4 : (BitVec.ofInt 64 (a : Int)).toNat = a := by
    rw [BitVec.toNat_ofInt]; simp; omega
  unfold bitsV
  show IntKind.u64.wrap ((BitVec.ofInt 64 (a : Int) &&& BitVec.ofInt 64 ((2 ^ n - 1 : Nat) : Int)).toNat : Int) = _
  rw [BitVec.toNat_and, e3, e4, Nat.and_two_pow_sub_one_eq_mod, IntKind.wrap_u64]
  have : a % 2 ^ n < 2 ^ n := Nat.mod_lt _ hpos
  rw [← Int.natCast_emod]
  omega
end Go.PE
namespace Go.PE
open Go
def isMask (bits : Int) (p : Value) : Prop := ∃ m : Int, p = .int .u64 m ∧ 0 < m ∧ m < 2 ^ bits.toNat
def maskRest (w : Nat) : PC :=
  (.seq (.seq (.reg [((some 29), (none, (.mv (.tmp 1)))),
    ((some 30), (none, (.bi .lss (.tmp 29) (.const (.int .i64 64)))))])
  (.cond (.tmp 30)
    (.reg [((some 31), (none, (.mv (.tmp 5)))),
      ((some 32), (none, (.mv (.tmp 1)))),
      ((some 33), (none, (.cv .u64 (.tmp 32)))),
      ((some 34), (none, (.bi .shl (.const (.int .u64 1)) (.tmp 33)))),
      ((some 35), (none, (.bi .sub (.tmp 34) (.const (.int .u64 1))))),
      ((some 36), (none, (.bi .and (.tmp 31) (.tmp 35)))),
      ((some 5), (none, (.mv (.tmp 36))))])
    .skip))
  (.seq (.seq (.reg [((some 37), (none, (.mv (.tmp 5)))),
    ((some 38), (none, (.bi .eql (.tmp 37) (.const (.int .u64 0)))))])
  (.cond (.tmp 38)
    (.seq (.reg [((some 39), (none, (.mv (.tmp 0)))),
      ((some 40), (none, (.mv (.tmp 1)))),
      ((some 41), (none, (.call w [(.tmp 39), (.tmp 40)]))),
      ((some 42), (none, (.cv .u64 (.tmp 41)))),
      ((some 43), (none, (.bi .shl (.const (.int .u64 1)) (.tmp 42)))),
      ((some 4), (none, (.mv (.tmp 43))))])
    .ret)
    .skip))
  (.seq (.reg [((some 44), (none, (.mv (.tmp 5)))),
    ((some 4), (none, (.mv (.tmp 44))))])
  .ret)))
def maskC (w : Nat) : PC :=
  (.seq (.reg [((some 4), (none, (.mv (.const (.int .u64 0)))))])
  (.seq (.reg [((some 5), (none, (.mv (.const (.int .u64 0)))))])
  (.seq (.seq (.reg [((some 6), (none, (.mv (.tmp 0)))),
    ((some 7), (none, (.call w [(.tmp 6), (.const (.int .i64 3))])))])
  (.block 0 (.seq (.reg [((some 9), (none, (.bi .eql (.tmp 7) (.const (.int .i64 0))))),
     ((some 8), (none, (.mv (.tmp 9))))])
   (.cond (.tmp 8)
     (.reg [((some 10), (none, (.mv (.tmp 0)))),
       ((some 11), (none, (.call w [(.tmp 10), (.const (.int .i64 16))]))),
       ((some 12), (none, (.cv .u64 (.tmp 11)))),
       ((some 5), (none, (.mv (.tmp 12))))])
     (.seq (.reg [((some 14), (none, (.bi .eql (.tmp 7) (.const (.int .i64 1))))),
       ((some 13), (none, (.mv (.tmp 14))))])
     (.cond (.tmp 13)
       (.reg [((some 15), (none, (.mv (.tmp 0)))),
         ((some 16), (none, (.call w [(.tmp 15), (.const (.int .i64 65536))]))),
         ((some 17), (none, (.cv .u64 (.tmp 16)))),
         ((some 18), (none, (.mv (.tmp 0)))),
         ((some 19), (none, (.call w [(.tmp 18), (.const (.int .i64 65536))]))),
         ((some 20), (none, (.cv .u64 (.tmp 19)))),
         ((some 21), (none, (.bi .shl (.tmp 20) (.const (.int .u64 48))))),
         ((some 22), (none, (.bi .or (.tmp 17) (.tmp 21)))),
         ((some 5), (none, (.mv (.tmp 22))))])
       (.seq (.reg [((some 24), (none, (.bi .eql (.tmp 7) (.const (.int .i64 2))))),
         ((some 23), (none, (.mv (.tmp 24))))])
       (.cond (.tmp 23)
         (.reg [((some 25), (none, (.mv (.tmp 0)))),
           ((some 26), (none, (.call w [(.tmp 25), (.const (.int .i64 65536))]))),
           ((some 27), (none, (.cv .u64 (.tmp 26)))),
           ((some 28), (none, (.un .xor (.tmp 27)))),
           ((some 5), (none, (.mv (.tmp 28))))])
         .skip))))))))
  (maskRest w))))
/-- what is drawn before it is cut -/
def isU (p : Value) : Prop := ∃ m : Int, p = .int .u64 m ∧ 0 ≤ m ∧ m < 18446744073709551616
theorem mask_rest {P : Program} {w : Nat} (hn : NextW P w) (n m : Int) (h0 : 1 ≤ n) (h1 : n ≤ 64) (hm0 : 0 ≤ m) (hm1 : m < 18446744073709551616) {nx0 : Nat} {Q : Ex → PS → Prop} (k : Nat) (l : List Int) (at_ : Int) (ha : 0 ≤ at_) (hl : l.length ≤ maxLen) (s : PS)
    (e0 : s.t 0 = ptr k 0) (e1 : s.t 1 = .int .i64 n) (e5 : s.t 5 = .int .u64 m) (hk : s.H k = some (dk l at_))
    (hQ : ∀ s' : PS, (∃ at', 0 ≤ at' ∧ s'.H = upd s.H k (some (dk l at'))) → isMask n (s'.t 4) → Q .rt s') : wpc (PCalls P) P (fun j => j = k) nx0 (maskRest w) Q s := by
  obtain ⟨t, H, nx⟩ := s
  simp only at e0 e1 e5 hk
  have hwn : IntKind.u64.wrap n = n := by rw [IntKind.wrap_u64]; omega
  have hsh : 0 ≤ n := by omega
  obtain ⟨N, rfl⟩ := Int.eq_ofNat_of_zero_le hsh
  by_cases h64 : (N : Int) < 64
  · have hp : (2 : Nat) ^ N ≤ 2 ^ 63 := Nat.pow_le_pow_right (by omega) (by omega)
    have hpos : 0 < (2 : Nat) ^ N := Nat.two_pow_pos N
    have e2 : (2 : Int) ^ N = ((2 ^ N : Nat) : Int) := by simp
    have hmin : min N 64 = N := by omega
    have hw1 : IntKind.u64.wrap ((2 : Int) ^ N) = 2 ^ N := by rw [IntKind.wrap_u64, e2]; omega
    have hw2 : IntKind.u64.wrap ((2 : Int) ^ N - 1) = 2 ^ N - 1 := by rw [IntKind.wrap_u64, e2]; omega
    have hand : bitsV .and .u64 m (2 ^ N - 1) = m % 2 ^ N := and_mask hm0 hm1 (by omega)
    simp [maskRest, e0, e1, e5, h64, hwn, IntKind.bits, hmin, hw1, hw2, hand]
    refine wB_of (fun hz => ?_) (fun hz => ?_)
    · refine wCall_draw (hn N (by omega) (by omega)) ha hl (by simp [hk]) (.inr rfl) fun p at2 nx2 hp ha2 => ?_
      obtain ⟨v2, rfl, hv21, hv22⟩ := hp
      obtain ⟨V, rfl⟩ := Int.eq_ofNat_of_zero_le hv21
      have hwv : IntKind.u64.wrap (V : Int) = V := by rw [IntKind.wrap_u64]; omega
      have hminv : min V 64 = V := by omega
      have hpv : (2 : Nat) ^ V < 2 ^ N := Nat.pow_lt_pow_right (by omega) (by omega)
      have e3 : (2 : Int) ^ V = ((2 ^ V : Nat) : Int) := by simp
      have hposv : 0 < (2 : Nat) ^ V := Nat.two_pow_pos V
      have hwv2 : IntKind.u64.wrap ((2 : Int) ^ V) = 2 ^ V := by rw [IntKind.wrap_u64, e3]; omega
      simp [hwv, hminv, IntKind.bits, hwv2]
      refine hQ _ ⟨at2, ha2, rfl⟩ ⟨2 ^ V, by simp, by rw [e3]; omega, ?_⟩
      rw [e3]; simp only [Int.toNat_natCast]; rw [e2]; omega
    · simp at hz
      refine hQ _ ⟨at_, ha, (upd_self H k _ hk).symm⟩ ⟨m % 2 ^ N, by simp, ?_, ?_⟩
      · rw [e2] at hz ⊢; omega
      · simp only [Int.toNat_natCast]; rw [e2]; omega
  · obtain rfl : N = 64 := by omega
    simp [maskRest, e0, e1, e5]
    refine wB_of (fun hz => ?_) (fun hz => ?_)
    · refine wCall_draw (hn 64 (by omega) (by omega)) ha hl (by simp [hk]) (.inr rfl) fun p at2 nx2 hp ha2 => ?_
      obtain ⟨v2, rfl, hv21, hv22⟩ := hp
      obtain ⟨V, rfl⟩ := Int.eq_ofNat_of_zero_le hv21
      have hwv : IntKind.u64.wrap (V : Int) = V := by rw [IntKind.wrap_u64]; omega
      have hminv : min V 64 = V := by omega
      have hpv : (2 : Nat) ^ V < 2 ^ 64 := Nat.pow_lt_pow_right (by omega) (by omega)
      have e3 : (2 : Int) ^ V = ((2 ^ V : Nat) : Int) := by simp
      have hposv : 0 < (2 : Nat) ^ V := Nat.two_pow_pos V
      have hwv2 : IntKind.u64.wrap ((2 : Int) ^ V) = 2 ^ V := by rw [IntKind.wrap_u64, e3]; omega
      simp [hwv, hminv, IntKind.bits, hwv2]
      refine hQ _ ⟨at2, ha2, rfl⟩ ⟨2 ^ V, by simp, by rw [e3]; omega, ?_⟩
      rw [e3]; show ((2 ^ V : Nat) : Int) < 2 ^ 64; omega
    · simp at hz
      refine hQ _ ⟨at_, ha, (upd_self H k _ hk).symm⟩ ⟨m, by simp, by omega, ?_⟩
      show m < 2 ^ 64
      omega
theorem mask_w {P : Program} {f w : Nat} (hc : compFn P f = some (45, maskC w, [.t 4])) (hn : NextW P w) : ∀ n : Int, 1 ≤ n → n ≤ 64 → Draws P f [.int .i64 n] (isMask n) := by
  intro n h0 h1 k l at_ ha hl H nx hk
  refine PCalls_of hc (by simp) fun hw => ?_
  simp [maskC]
  refine wCall_draw (hn 3 (by omega) (by omega)) ha hl hk (.inr rfl) fun p at1 nx1 hp ha1 => ?_
  obtain ⟨v, rfl, hv1, hv2⟩ := hp
  simp
  have fin' : ∀ (s : PS) (m at' : Int), 0 ≤ m → m < 18446744073709551616 → 0 ≤ at' → s.t 0 = ptr k 0 → s.t 1 = .int .i64 n → s.t 5 = .int .u64 m → s.H = upd H k (some (dk l at')) →
      wpc (PCalls P) P (fun j => j = k) nx (maskRest w) (fin nx [RV.t 4] fun p H' _ => isMask n p ∧ Drew H k l H') s := by
    intro s m at' hm0 hm1 ha' e0 e1 e5 eH
    refine mask_rest hn n m h0 h1 hm0 hm1 k l at' ha' hl s e0 e1 e5 (by rw [eH]; simp) fun s' ⟨a2, ha2, hs'⟩ hq => ?_
    simp
    exact wF_of ⟨hq, a2, ha2, by rw [hs', eH, upd_upd]⟩
  refine wB_of (fun c => ?_) (fun c => ?_)
  · refine wCall_draw (hn 16 (by omega) (by omega)) ha1 hl (by simp) (.inr rfl) fun p at2 nx2 hp ha2 => ?_
    obtain ⟨v2, rfl, hv21, hv22⟩ := hp
    simp
    have e : IntKind.u64.wrap v2 = v2 := by rw [IntKind.wrap_u64]; omega
    exact fin' _ v2 at2 hv21 (by omega) ha2 (by simp) (by simp) (by simp [e]) (by simp [upd_upd])
  · refine wB_of (fun c => ?_) (fun c => ?_)
    · refine wCall_draw (hn 65536 (by omega) (by omega)) ha1 hl (by simp) (.inr rfl) fun p at2 nx2 hp ha2 => ?_
      obtain ⟨v2, rfl, hv21, hv22⟩ := hp
      simp
      refine wCall_draw (hn 65536 (by omega) (by omega)) ha2 hl (by simp) (.inr rfl) fun p at3 nx3 hp ha3 => ?_
      obtain ⟨v3, rfl, hv31, hv32⟩ := hp
      simp
      refine fin' _ _ at3 ?_ ?_ ha3 (by simp) (by simp) (by simp; rfl) (by simp [upd_upd])
      · unfold bitsV; rw [IntKind.wrap_u64]; omega
      · unfold bitsV; rw [IntKind.wrap_u64]; omega
    · refine wB_of (fun c => ?_) (fun c => ?_)
      · refine wCall_draw (hn 65536 (by omega) (by omega)) ha1 hl (by simp) (.inr rfl) fun p at2 nx2 hp ha2 => ?_
        obtain ⟨v2, rfl, hv21, hv22⟩ := hp
        simp [unV]
        refine fin' _ _ at2 ?_ ?_ ha2 (by simp) (by simp) (by simp; rfl) (by simp [upd_upd])
        · unfold bitsV; rw [IntKind.wrap_u64]; omega
        · unfold bitsV; rw [IntKind.wrap_u64]; omega
      · exact fin' _ 0 at1 (by omega) (by omega) ha1 (by simp) (by simp) (by simp) (by simp [upd_upd])
end Go.PE
namespace Go.PE
open Go
@[congr] theorem wB_congr {o o2 : Option Bool} {A B : Prop} (h : o = o2) : wB o A B = wB o2 A B := by rw [h]
@[congr] theorem wO_congr {o o2 : Option Value} {d : Option Nat} {s : PS} {K : PS → Prop} (h : o = o2) : wO o d s K = wO o2 d s K := by rw [h]
@[congr] theorem wpr_congr {C : Known} {P : Program} {T : Nat → Prop} {n0 : Nat} {l : List PO} {s s2 : PS} {K : PS → Prop} (h : s = s2) : wpr C P T n0 l K s = wpr C P T n0 l K s2 := by rw [h]
@[congr] theorem wpq_congr {C : Known} {P : Program} {T : Nat → Prop} {n0 : Nat} {l : List PO} {s s2 : PS} {K : PS → Prop} (h : s = s2) : wpq C P T n0 l K s = wpq C P T n0 l K s2 := by rw [h]
@[congr] theorem wpt_congr {P : Program} {T : Nat → Prop} {n0 : Nat} {l : PT} {s s2 : PS} {K : PS → Prop} (h : s = s2) : wpt P T n0 l K s = wpt P T n0 l K s2 := by rw [h]
@[congr] theorem wpc_congr {C : Known} {P : Program} {T : Nat → Prop} {n0 : Nat} {l : PC} {s s2 : PS} {K : Ex → PS → Prop} (h : s = s2) : wpc C P T n0 l K s = wpc C P T n0 l K s2 := by rw [h]
/-- below nx the boxes are the same -/
def Own (nx : Nat) (H H' : Nat → Option (List Value)) : Prop := ∀ k, k < nx → H' k = H k
@[simp] theorem own_upd {nx k : Nat} {H H' : Nat → Option (List Value)} {r : Option (List Value)} (hk : nx ≤ k) : Own nx H (upd H' k r) = Own nx H H' := by
  apply propext
  constructor
  · intro h j hj; have := h j hj; rw [upd_ne _ _ (by omega)] at this; exact this
  · intro h j hj; rw [upd_ne _ _ (by omega)]; exact h j hj
@[simp] theorem own_refl (nx : Nat) (H : Nat → Option (List Value)) : Own nx H H := fun _ _ => rfl
theorem Own.sub {nx : Nat} {H H' : Nat → Option (List Value)} (h : Own nx H H') (hw : ∀ k, nx ≤ k → H k = none) : Sub nx H H' := fun k => by
  rcases Nat.lt_or_ge k nx with h1 | h1
  · exact .inl (h k h1).symm
  · exact .inr ⟨h1, hw k h1⟩
theorem wF_own {ps : List Value} {nx nx' : Nat} {R : Post} {H H' : Nat → Option (List Value)} (hw : ∀ k, nx ≤ k → H k = none) (h : Own nx H H') (hR : R (oneOr ps) H nx') : wF (some ps) nx R H' nx' :=
  wF_sub (h.sub hw) hR
attribute [simp] upd_upd
@[simp] theorem fitsL_nil : fitsL [] [] = true := _root_.id rfl
@[simp] theorem fitsL_cons (k : CK) (ks : List CK) (v : Value) (vs : List Value) : fitsL (k :: ks) (v :: vs) = (k.fits v && fitsL ks vs) := _root_.id rfl
@[simp] theorem fits_int (k k' : IntKind) (n : Int) : CK.fits (.int k) (.int k' n) = (k == k') := _root_.id rfl
@[simp] theorem fits_bool (b : Bool) : CK.fits .bool (.bool b) = true := _root_.id rfl
@[simp] theorem fits_string (b : ByteArray) : CK.fits .string (.string b) = true := _root_.id rfl
@[simp] theorem eqL_nil : eqL [] [] = true := _root_.id rfl
@[simp] theorem eqL_cons (x y : Value) (xs ys : List Value) : eqL (x :: xs) (y :: ys) = (eqC x y && eqL xs ys) := _root_.id rfl
@[simp] theorem eqC_int (k k' : IntKind) (a b : Int) : eqC (.int k a) (.int k' b) = (a == b) := _root_.id rfl
@[simp] theorem eqC_bool (a b : Bool) : eqC (.bool a) (.bool b) = (a == b) := _root_.id rfl
@[simp] theorem eqC_string (a b : ByteArray) : eqC (.string a) (.string b) = (a == b) := _root_.id rfl
theorem ba_beq_iff (a b : ByteArray) : (a == b) = true ↔ a = b := by
  constructor
  · intro h
    have : a.data = b.data := by
      have h2 : (a.data == b.data) = true := h
      exact eq_of_beq h2
    cases a; cases b; simp_all
  · intro h; subst h
    show (a.data == a.data) = true
    exact beq_self_eq_true _
instance baLawful : LawfulBEq ByteArray where
  eq_of_beq := fun h => (ba_beq_iff _ _).1 h
  rfl := (ba_beq_iff _ _).2 rfl
@[simp] theorem ba_toList (a b : ByteArray) : (a.toList == b.toList) = (a == b) := by
  rw [Bool.eq_iff_iff, ba_beq_iff, beq_iff_eq]
  constructor
  · intro h
    have := congrArg List.toArray h
    cases a; cases b
    simp [ByteArray.toList_eq] at *
    exact h
  · intro h; rw [h]
@[simp] theorem dg_clo (f : FuncId) (a b : List Value) : dg (clo f a b) = clo f a b := _root_.id rfl
@[simp] theorem dg1_clo (f : FuncId) (a b : List Value) : dg1 (clo f a b) = clo f a b := _root_.id rfl
@[simp] theorem dgT_clo (f : FuncId) (a b : List Value) : dgT (clo f a b) = clo f a b := _root_.id rfl
@[simp] theorem cellsOf_clo (f : FuncId) (a b : List Value) : cellsOf (clo f a b) = some [clo f a b] := _root_.id rfl
@[simp] theorem lc_clo (f : FuncId) (a b : List Value) : lc (clo f a b) = [clo f a b] := _root_.id rfl
@[simp] theorem dg1_nilFunc : dg1 .nilFunc = .nilFunc := _root_.id rfl
@[simp] theorem dg_nilFunc : dg .nilFunc = .nilFunc := _root_.id rfl
theorem dg1_id {v : Value} (h : ∀ xs c, v ≠ .func (.yield 1) xs c) : dg1 v = v := by
  unfold dg1
  split
  · exact absurd rfl (h _ _)
  · rfl
theorem dg1_dg1 (v : Value) : dg1 (dg1 v) = dg1 v := by
  by_cases h : ∃ xs c, v = .func (.yield 1) xs c
  · obtain ⟨xs, c, rfl⟩ := h
    rfl
  · have e := dg1_id (v := v) fun xs c hv => h ⟨xs, c, hv⟩
    rw [e, e]
@[simp] theorem dg1_comp : dg1 ∘ dg1 = dg1 := funext dg1_dg1
theorem Sub.upd {n0 k : Nat} {H1 H : Nat → Option (List Value)} {r : Option (List Value)} (h : Sub n0 H1 H) (hk : n0 ≤ k) (h1 : H1 k = none) : Sub n0 H1 (upd H k r) := fun j => by
  by_cases e : j = k
  · subst e; exact .inr ⟨hk, h1⟩
  · rw [upd_ne _ _ e]; exact h j
@[simp] theorem ba_empty_size : (⟨#[]⟩ : ByteArray).size = 0 := _root_.id rfl
@[simp] theorem dg_tup (l : List Value) : dg (tup l) = tup (l.map dg1) := _root_.id rfl
/-- what every contract says besides -/
theorem PCalls.more {P : Program} {f nx : Nat} {args : List Value} {H : Nat → Option (List Value)} {T : Nat → Prop} {R : Post} (h : PCalls P f args H nx T R) :
    PCalls P f args H nx T (fun p H' nx' => R p H' nx' ∧ nx ≤ nx' ∧ ∀ k, k < nx → ¬ T k → H' k = H k) := by
  intro G own vs hE hl hr
  refine (h G own vs hE hl hr).mono ?_
  rintro e w' ⟨v, p, G', own', H', nx', h1, h2, hL, hR⟩
  exact ⟨v, p, G', own', H', nx', h1, h2, hL, hR, hL.n0, hL.hh⟩
section
variable {P : Program} {T : Nat → Prop} {n0 f : Nat} {args : List Value} {d : Option Nat} {s : PS} {K : PS → Prop}
/-- a call of a function that writes no box of the caller's: where the boxes are as they were -/
theorem wCall_eq {Q : Value → Prop} (h : PCalls P f args s.H s.nx (fun _ => False) (fun p H' _ => Q p ∧ H' = s.H)) (hK : ∀ p nx', Q p → s.nx ≤ nx' → K ⟨(s.putO d p).t, s.H, nx'⟩) : wCall (PCalls P) T n0 f args d s K :=
  wCall_of h.more fun p H' nx' ⟨⟨hq, hH⟩, hn, _⟩ => by rw [hH]; exact hK p nx' hq hn
theorem wCall_le {R : Post} (h : PCalls P f args s.H s.nx (fun _ => False) R) (hK : ∀ p H' nx', R p H' nx' → s.nx ≤ nx' → Own s.nx s.H H' → K ⟨(s.putO d p).t, H', nx'⟩) : wCall (PCalls P) T n0 f args d s K :=
  wCall_of h.more fun p H' nx' ⟨hR, hn, ho⟩ => hK p H' nx' hR hn fun k hk => ho k hk (fun h => h)
theorem wCall_leT {R : Post} {T' : Nat → Prop} (h : PCalls P f args s.H s.nx T' R) (h1 : ∀ k, T' k → n0 ≤ k ∨ T k) (h2 : ∀ k row, T' k → s.H k = some row → rowNoLin row)
    (hK : ∀ p H' nx', R p H' nx' → s.nx ≤ nx' → K ⟨(s.putO d p).t, H', nx'⟩) : wCall (PCalls P) T n0 f args d s K :=
  wCall_ofT h.more h1 h2 fun p H' nx' ⟨hR, hn, _⟩ => hK p H' nx' hR hn
/-- a call that draws -/
theorem wCall_drawL {Q : Value → Prop} {k : Nat} {l : List Int} {at_ : Int} {as : List Value} (h : Draws P f as Q) (ha : 0 ≤ at_) (hl : l.length ≤ maxLen)
    (hk : s.H k = some (dk l at_)) (hT : n0 ≤ k ∨ T k) (hK : ∀ p at' nx', Q p → 0 ≤ at' → s.nx ≤ nx' → K ⟨(s.putO d p).t, upd s.H k (some (dk l at')), nx'⟩) : wCall (PCalls P) T n0 f (ptr k 0 :: as) d s K := by
  refine wCall_leT (h k l at_ ha hl s.H s.nx hk) (fun j hj => by subst hj; exact hT) (fun j row hj hr => ?_) fun p H' nx' ⟨hq, at', ha', hH⟩ hn => by rw [hH]; exact hK p at' nx' hq ha' hn
  subst hj
  rw [hk] at hr
  obtain rfl : dk l at_ = row := by simpa using hr
  exact dk_noLin l at_
end
theorem own_k {nx k : Nat} {H H' : Nat → Option (List Value)} {r : Option (List Value)} (h1 : H' k = r) (h2 : ∀ j, j < nx → j ≠ k → H' j = H j) : Own nx (upd H k r) H' := fun j hj => by
  by_cases e : j = k
  · subst e; simp [h1]
  · rw [upd_ne _ _ e]; exact h2 j hj e
theorem none_k {nx k : Nat} {H : Nat → Option (List Value)} {r : Option (List Value)} (hw : ∀ j, nx ≤ j → H j = none) (hk : k < nx) : ∀ j, nx ≤ j → upd H k r j = none := fun j hj => by
  rw [upd_ne _ _ (by omega)]; exact hw j hj
end Go.PE
namespace Go.PE
open Go
section
variable {α : Type} (f : α → List Value) (size : Nat) (hf : ∀ a, (f a).length = size) (rest : List Value)
include hf
theorem fl_len (l : List α) : (l.flatMap f).length = l.length * size := flat_len f l fun x _ => hf x
theorem fl_split {l : List α} {i : Nat} (hi : i < l.length) : l.flatMap f ++ rest = (l.take i).flatMap f ++ (f l[i] ++ ((l.drop (i + 1)).flatMap f ++ rest)) ∧ ((l.take i).flatMap f).length = i * size := by
  refine ⟨?_, by rw [fl_len f size hf, List.length_take]; congr 1; omega⟩
  have e : l = l.take i ++ l[i] :: l.drop (i + 1) := by rw [← List.drop_eq_getElem_cons hi, List.take_append_drop]
  have e2 : l.flatMap f = (l.take i).flatMap f ++ (f l[i] ++ (l.drop (i + 1)).flatMap f) := by
    conv => lhs; rw [e]
    rw [List.flatMap_append, List.flatMap_cons]
  rw [e2, List.append_assoc, List.append_assoc]
theorem fl_cut {l : List α} {i o n : Nat} (hi : i < l.length) (ho : o + n ≤ size) : ((l.flatMap f ++ rest).drop (i * size + o)).take n = ((f l[i]).drop o).take n := by
  obtain ⟨h1, h2⟩ := fl_split f size hf rest hi
  have hl := hf l[i]
  rw [h1, List.drop_append, List.drop_of_length_le (by omega), List.nil_append, h2, Nat.add_sub_cancel_left, List.drop_append_of_le_length (by omega), List.take_append_of_le_length (by rw [List.length_drop]; omega)]
theorem fl_get {l : List α} {i o : Nat} (hi : i < l.length) (ho : o < size) : (l.flatMap f ++ rest)[i * size + o]? = (f l[i])[o]? := by
  obtain ⟨h1, h2⟩ := fl_split f size hf rest hi
  rw [h1, List.getElem?_append_right (by omega), h2, Nat.add_sub_cancel_left, List.getElem?_append_left (by rw [hf]; exact ho)]
theorem fl_set {l : List α} {i o : Nat} {vs : List Value} {a : α} (hi : i < l.length) (ho : o + vs.length ≤ size) (ha : f a = (f l[i]).take o ++ vs ++ (f l[i]).drop (o + vs.length)) :
    (l.flatMap f ++ rest).take (i * size + o) ++ vs ++ (l.flatMap f ++ rest).drop (i * size + o + vs.length) = (l.set i a).flatMap f ++ rest := by
  obtain ⟨h1, h2⟩ := fl_split f size hf rest hi
  have hi' : i < (l.set i a).length := by simpa using hi
  obtain ⟨h3, _⟩ := fl_split f size hf rest hi'
  rw [h3, h1]
  have e1 : (l.set i a)[i] = a := by simp
  have e2 : (l.set i a).take i = l.take i := by rw [List.take_set, List.set_eq_of_length_le (by simp; omega)]
  have e3 : (l.set i a).drop (i + 1) = l.drop (i + 1) := by rw [List.drop_set_of_lt (by omega)]
  rw [e1, e2, e3, ha]
  have hfl := hf l[i]
  rw [List.take_append, h2, List.take_of_length_le (by omega), Nat.add_sub_cancel_left, List.take_append_of_le_length (by omega)]
  rw [List.drop_append, List.drop_of_length_le (by omega), List.nil_append, h2, Nat.add_assoc, Nat.add_sub_cancel_left, List.drop_append_of_le_length (by omega)]
  simp [List.append_assoc]
end
theorem mid_get {row : List Value} {o : Nat} (h : o + 1 ≤ row.length) (x : Value) (t : List Value) : (row.take o ++ x :: t)[o]? = some x := by
  rw [List.getElem?_append_right (by rw [List.length_take]; omega), List.length_take, Nat.min_eq_left (by omega), Nat.sub_self]; rfl
/-- a pure list whose elements lie in a box -/
theorem Cv1_list {α : Type} (f : α → List Value) (g : α → Value) (hg : ∀ a, lc (g a) = f a) (size : Nat) (hf : ∀ a, (f a).length = size) (hd : ∀ a, (f a).map dg1 = f a) {n0 : Nat} {H H1 : Nat → Option (List Value)} {k cap : Nat} {l : List α} {rest : List Value}
    (hk : H k = some (l.flatMap f ++ rest)) (h1 : H1 k = none) (hn : n0 ≤ k) (hc : cap ≤ maxLen) : Cv1 n0 H H1 (slc k 0 l.length cap) (deep (l.map g)) := by
  refine .inr ⟨k, 0, l.length, cap, size, _, l.map g, rfl, rfl, hk, h1, hn, hc, by simp, ?_, fun i x hx => ?_⟩
  · rw [List.length_append, fl_len f size hf]; omega
  · rw [List.getElem?_map] at hx
    obtain ⟨a, ha, rfl⟩ := Option.map_eq_some_iff.1 hx
    have hi := (List.getElem?_eq_some_iff.1 ha).1
    have ha' := (List.getElem?_eq_some_iff.1 ha).2
    have := fl_cut f size hf rest (i := i) (o := 0) (n := size) hi (by omega)
    rw [Nat.add_zero] at this
    rw [hg, Nat.zero_add, this, List.drop_zero, List.take_of_length_le (by rw [hf]; omega), ha', hd]
/-- a result, frozen -/
def CvT (n0 : Nat) (H H1 : Nat → Option (List Value)) (p p' : Value) : Prop := Cv n0 H H1 p p' ∨ ∃ l l', p = tup l ∧ p' = tup l' ∧ Cvs n0 H H1 l l'
theorem tup_rd {G : Gh} {v : Value} {l : List Value} (h : Rd G v (tup l)) : ∃ vs, v = tup vs ∧ vs.length = l.length ∧ ∀ (i : Nat) v p, vs[i]? = some v → l[i]? = some p → Rd G v p := by
  generalize hq : tup l = P at h
  cases h with
  | tuple vs ps hl hr =>
    obtain rfl : l = ps := by simpa [tup] using hq
    exact ⟨vs, rfl, hl, hr⟩
  | scal v h => subst hq; simp [tup, PE.scal] at h
  | _ => simp [tup, PE.ptr, PE.deep, PE.lin, PE.dptr, ag, PE.slc, PE.clo, PE.ns] at hq
theorem PCalls.frz {P : Program} {f nx : Nat} {args : List Value} {H : Nat → Option (List Value)} {T : Nat → Prop} {R R' : Post} (h : PCalls P f args H nx T R)
    (hR : ∀ p H' nx', R p H' nx' → ∃ H1 p', Sub nx H1 H' ∧ CvT nx H' H1 p p' ∧ R' p' H1 nx') : PCalls P f args H nx T R' := by
  intro G own vs hE hl hr
  refine (h G own vs hE hl hr).mono ?_
  rintro e w' ⟨v, p, G', own', H', nx', rfl, rfl, hL, hRR⟩
  obtain ⟨H1, p', hsub, hcv, hR1⟩ := hR p H' nx' hRR
  obtain ⟨hb, hext, htok⟩ := hL.toBase.freeze hsub
  refine ⟨v, p', PE.frz G' H1, own', H1, nx', rfl, rfl, ⟨hb, ?_, ?_, ?_⟩, hR1⟩
  · rcases hcv with hcv | ⟨l, l', rfl, rfl, hcv⟩
    · exact Cv_rd hL.toBase hsub hL.res hcv
    · obtain ⟨vs', rfl, hvl, hvr⟩ := tup_rd hL.res
      refine .tuple vs' l' (by rw [hvl]; exact hcv.1) fun i v p hv hp => ?_
      have hi : i < l.length := by rw [← hvl]; exact (List.getElem?_eq_some_iff.1 hv).1
      exact Cv_rd hL.toBase hsub (hvr i v _ hv (List.getElem?_eq_getElem hi)) (hcv.2 i _ p (List.getElem?_eq_getElem hi) hp)
  · intro e xs hp
    rcases hcv with (hcv | ⟨l, l', rfl, rfl, _⟩) | ⟨l, l', rfl, rfl, hcv⟩
    · exact htok (hL.rtok e xs (Cv1_noLin hcv e xs hp))
    · simp [ag, lin] at hp
    · simp [tup, lin] at hp
  · intro i e xs hp
    rcases hcv with (hcv | ⟨l, l', rfl, rfl, _⟩) | ⟨l, l', rfl, rfl, hcv⟩
    · rcases hcv with rfl | ⟨k, off, n, cap, size, row, ys, rfl, rfl, _⟩
      · exact htok (hL.ptok i e xs hp)
      · simp [comp, deep, undef, lin] at hp
    · simp [comp, ag, undef, lin] at hp
    · rw [comp_tup] at hp
      have hpi := getD_some hp (lin_ne_undef _ _)
      have hi : i < l.length := by rw [hcv.1]; exact (List.getElem?_eq_some_iff.1 hpi).1
      refine htok (hL.ptok i e xs ?_)
      rw [comp_tup, List.getD_eq_getElem?_getD, List.getElem?_eq_getElem hi]
      rcases hcv.2 i _ _ (List.getElem?_eq_getElem hi) hpi with hc | ⟨m, m', _, hc, _⟩
      · exact Cv1_noLin hc e xs rfl
      · simp [ag, lin] at hc
end Go.PE
namespace Go.PE
open Go
@[simp] theorem dg_dg (v : Value) : dg (dg v) = dg v := by
  cases v
  case tuple vs => simp [dg, Function.comp_def, dg1_dg1]
  case func fn a b =>
    have e : dg (dg1 (.func fn a b)) = dg1 (dg1 (.func fn a b)) := by
      generalize hw : dg1 (.func fn a b) = w
      unfold dg1 at hw; split at hw <;> subst hw <;> rfl
    exact e.trans (dg1_dg1 _)
  all_goals rfl
structure El (α : Type) where
  f : α → List Value
  g : α → Value
  size : Nat
  hg : ∀ a, lc (g a) = f a
  hf : ∀ a, (f a).length = size
  hd : ∀ a, (f a).map dg1 = f a
section
variable {α : Type} (E : El α)
/-- v holds the list m: in a box of its own, or as a slice without room -/
def Bx (n0 : Nat) (H0 H : Nat → Option (List Value)) (nx : Nat) (v : Value) (m : List α) : Prop :=
  Own n0 H0 H ∧ n0 ≤ nx ∧ ((v = ns [] ∧ m = []) ∨ ∃ k cap rest, v = slc k 0 m.length cap ∧ n0 ≤ k ∧ k < nx ∧ H k = some (m.flatMap E.f ++ rest) ∧ m.length * E.size + rest.length = cap * E.size ∧ m.length ≤ cap ∧ cap ≤ maxLen)
variable {E}
variable {n0 : Nat} {H0 H : Nat → Option (List Value)} {nx : Nat} {v : Value} {m : List α}
theorem El.dgs (l : List α) : (l.flatMap E.f).map dg1 = l.flatMap E.f := by
  induction l with
  | nil => rfl
  | cons a l ih => rw [List.flatMap_cons, List.map_append, ih, E.hd]
theorem El.lcs (l : List α) : (l.map E.g).flatMap lc = l.flatMap E.f := by
  induction l with
  | nil => rfl
  | cons a l ih => rw [List.map_cons, List.flatMap_cons, List.flatMap_cons, ih, E.hg]
theorem El.src (H : Nat → Option (List Value)) (l : List α) : srcV H (deep (l.map E.g)) E.size = some (l.length, l.flatMap E.f) := by
  rw [srcV_deep H (fun x hx => by obtain ⟨a, _, rfl⟩ := List.mem_map.1 hx; rw [E.hg, E.hf]), E.lcs, E.dgs, List.length_map]
theorem El.len (l : List α) : (l.flatMap E.f).length = l.length * E.size := fl_len E.f E.size E.hf l
theorem flat_rep_len (n : Nat) (zero : List Value) : (List.replicate n zero).flatten.length = n * zero.length := by
  induction n with
  | zero => simp
  | succ n ih => rw [List.replicate_succ, List.flatten_cons, List.length_append, ih, Nat.succ_mul]; omega
theorem Bx.own (h : Bx E n0 H0 H nx v m) : Own n0 H0 H := h.1
theorem Bx.le (h : Bx E n0 H0 H nx v m) : n0 ≤ nx := h.2.1
theorem Bx.nil (h1 : Own n0 H0 H) (h2 : n0 ≤ nx) : Bx E n0 H0 H nx (ns []) [] := ⟨h1, h2, .inl ⟨rfl, rfl⟩⟩
theorem Bx.mo (h : Bx E n0 H0 H nx v m) {nx' : Nat} (hn : nx ≤ nx') : Bx E n0 H0 H nx' v m := by
  obtain ⟨h1, h2, h3⟩ := h
  refine ⟨h1, by omega, h3.imp id ?_⟩
  rintro ⟨k, cap, rest, a1, a2, a3, a4⟩
  exact ⟨k, cap, rest, a1, a2, by omega, a4⟩
theorem Bx.at (h : Bx E n0 H0 H nx v m) (hm : 0 < m.length) : ∃ k cap rest, v = slc k 0 m.length cap ∧ n0 ≤ k ∧ k < nx ∧ H k = some (m.flatMap E.f ++ rest) ∧ m.length * E.size + rest.length = cap * E.size ∧ m.length ≤ cap ∧ cap ≤ maxLen := by
  rcases h.2.2 with ⟨_, h2⟩ | h
  · subst h2; simp at hm
  · exact h
theorem Bx.len (h : Bx E n0 H0 H nx v m) : lenV (dg v) = some m.length := by
  rcases h.2.2 with ⟨rfl, rfl⟩ | ⟨k, cap, rest, rfl, _⟩
  · simp
  · simp
theorem Bx.set {k cap i o : Nat} {rest vs : List Value} {a : α} (h1 : Own n0 H0 H) (h2 : n0 ≤ k) (h3 : k < nx) (h4 : m.length * E.size + rest.length = cap * E.size) (h5 : m.length ≤ cap) (h6 : cap ≤ maxLen)
    (hi : i < m.length) (ho : o + vs.length ≤ E.size) (ha : E.f a = (E.f m[i]).take o ++ vs ++ (E.f m[i]).drop (o + vs.length)) {row : List Value}
    (hr : row = (m.flatMap E.f ++ rest).take (i * E.size + o) ++ vs ++ (m.flatMap E.f ++ rest).drop (i * E.size + o + vs.length)) : Bx E n0 H0 (upd H k (some row)) nx (slc k 0 m.length cap) (m.set i a) := by
  refine ⟨by rw [own_upd h2]; exact h1, by omega, .inr ⟨k, cap, rest, by simp, h2, h3, ?_, by simpa using h4, by simpa using h5, h6⟩⟩
  rw [upd_same, hr, fl_set E.f E.size E.hf rest hi ho ha]
variable {C : Known} {P : Program} {T : Nat → Prop} {f : Nat} {d : Option Nat} {s : PS} {K : PS → Prop}
theorem Bx.app {l : List α} {size bytes : Nat} {zero : List Value} (h : Bx E n0 H0 s.H s.nx v m) (hsz : size = E.size) (hz : zero.length = E.size) (hm : m.length + l.length ≤ maxLen) (hb : (m.length + l.length) * bytes ≤ 140737488355328)
    (hK : ∀ v' H' nx', Bx E n0 H0 H' nx' v' (m ++ l) → K ⟨(s.putO d v').t, H', nx'⟩) : wAppB T n0 v (srcV s.H (deep (l.map E.g)) size) size bytes zero d s K := by
  subst hsz
  rw [El.src]
  obtain ⟨h1, h2, ⟨rfl, rfl⟩ | ⟨k, cap, rest, rfl, a2, a3, a4, a5, a6, a7⟩⟩ := h
  · refine wAppB_ns (by simp) (by simpa using hm) (by simpa using hb) (fun h0 => ?_) (fun h0 cap hc1 hc2 => ?_)
    · have : l = [] := List.length_eq_zero_iff.1 h0
      subst this
      exact hK _ _ _ ⟨h1, h2, .inl ⟨rfl, rfl⟩⟩
    · refine hK _ _ _ ⟨by rw [own_upd h2]; exact h1, by omega, .inr ⟨s.nx, cap, (List.replicate (cap - l.length) zero).flatten, by simp, h2, by omega, ?_, ?_, by simpa using hc1, hc2⟩⟩
      · rw [upd_same]; simp
      · rw [flat_rep_len, hz]
        simp only [List.length_nil, Nat.zero_add] at hc1
        rw [List.nil_append, ← Nat.add_mul]; congr 1; omega
  · have hl := El.len (E := E) m
    have hl2 := El.len (E := E) l
    refine wAppB_slc a4 (by rw [List.length_append, hl]; omega) a6 (.inr a2) hm hb (fun hc => ?_) (fun hc cap' hc1 hc2 => ?_)
    · refine hK _ _ _ ⟨by rw [own_upd a2]; exact h1, h2, .inr ⟨k, cap, rest.drop (l.length * E.size), by simp, a2, a3, ?_, ?_, by simpa using hc, a7⟩⟩
      · rw [upd_same, Nat.zero_add, Nat.zero_add, Nat.add_mul, ← hl, List.take_left', List.flatMap_append, List.drop_append, List.drop_of_length_le (by omega), List.nil_append, Nat.add_sub_cancel_left]
        rfl
      · rw [List.length_drop, List.length_append, Nat.add_mul]
        have : (m.length + l.length) * E.size ≤ cap * E.size := Nat.mul_le_mul_right _ hc
        rw [Nat.add_mul] at this; omega
    · refine hK _ _ _ ⟨by rw [own_upd h2]; exact h1, by omega, .inr ⟨s.nx, cap', (List.replicate (cap' - (m.length + l.length)) zero).flatten, by simp, h2, by omega, ?_, ?_, by simpa using hc1, hc2⟩⟩
      · rw [upd_same, List.drop_zero, ← hl, List.take_left', El.dgs, List.flatMap_append]
        rfl
      · rw [flat_rep_len, hz, List.length_append, ← Nat.add_mul]; congr 1; omega
theorem Bx.cpy {k cap : Nat} {l : List α} {size : Nat} {zero : List Value} (hsz : size = E.size) (hz : zero.length = E.size) (h1 : Own n0 H0 s.H) (h2 : n0 ≤ k) (h3 : k < s.nx) (hk : s.H k = some (List.replicate cap zero).flatten) (hc : l.length ≤ cap) (hc' : cap ≤ maxLen)
    (hK : ∀ H', Bx E n0 H0 H' s.nx (slc k 0 l.length cap) l → K ⟨(s.putO d (.int .i64 l.length)).t, H', s.nx⟩) : wCpy T n0 (slc k 0 l.length cap) (srcV s.H (deep (l.map E.g)) size) size d s K := by
  subst hsz
  rw [El.src]
  have hl := El.len (E := E) l
  have hle : l.length * E.size ≤ cap * E.size := Nat.mul_le_mul_right _ hc
  refine wCpy_of hk (by rw [flat_rep_len, hz]; omega) (.inr h2) ?_
  rw [Nat.min_self]
  refine hK _ ⟨by rw [own_upd h2]; exact h1, by omega, .inr ⟨k, cap, (List.replicate cap zero).flatten.drop (l.length * E.size), rfl, h2, h3, ?_, ?_, hc, hc'⟩⟩
  · rw [upd_same, List.take_zero, List.nil_append, Nat.zero_add, List.take_of_length_le (by omega)]
  · rw [List.length_drop, flat_rep_len, hz]; omega
/-- a call that borrows it -/
theorem Bx.call {as : List Value} {w : Value} (h : Bx E n0 H0 s.H s.nx v m) (hm : m.length ≤ maxLen) (hw : plain w = true)
    (hc : ∀ H1, PCalls P f (deep (m.map E.g) :: as) H1 s.nx (fun _ => False) (fun p _ _ => p = w)) (hK : K (s.putO d w)) : wCallB (PCalls P) T n0 f (dg v :: as) d s K := by
  obtain ⟨h1, h2, ⟨rfl, rfl⟩ | ⟨k, cap, rest, rfl, a2, a3, a4, a5, a6, a7⟩⟩ := h
  · exact ⟨s.H, _, Sub_refl _ _, Cvs_refl _ _ _ _, .inr ⟨w, hw, hc s.H, hK⟩⟩
  · refine ⟨upd s.H k none, deep (m.map E.g) :: as, fun j => ?_, ⟨rfl, fun i a b ha hb => ?_⟩, .inr ⟨w, hw, hc _, hK⟩⟩
    · by_cases e : j = k
      · subst e; exact .inr ⟨a2, upd_same _ _ _⟩
      · exact .inl (upd_ne _ _ e)
    · cases i with
      | zero =>
        simp at ha hb; subst ha; subst hb
        exact .inl (Cv1_list E.f E.g E.hg E.size E.hf E.hd a4 (upd_same _ _ _) a2 a7)
      | succ i =>
        simp at ha hb; rw [ha] at hb
        exact .inl (.inl (Option.some.inj hb).symm)
/-- the end: it is frozen -/
theorem Bx.fin {w : Value} {R : Post} (h : Bx E n0 H0 H nx v m) (hw : ∀ k, n0 ≤ k → H0 k = none) (hR : ∀ v', (v' = ns [] ∧ m = [] ∨ v' = deep (m.map E.g)) → R (tup [v', w]) H0 nx) : wF (some [v, w]) n0 R H nx := by
  obtain ⟨h1, h2, ⟨rfl, rfl⟩ | ⟨k, cap, rest, rfl, a2, a3, a4, a5, a6, a7⟩⟩ := h
  · exact wF_own hw h1 (hR _ (.inl ⟨rfl, rfl⟩))
  · refine ⟨_, rfl, H0, [deep (m.map E.g), w], h1.sub hw, ⟨rfl, fun i a b ha hb => ?_⟩, hR _ (.inr rfl)⟩
    cases i with
    | zero =>
      simp at ha hb; subst ha; subst hb
      exact .inl (Cv1_list E.f E.g E.hg E.size E.hf E.hd a4 (hw k a2) a2 a7)
    | succ i =>
      simp at ha hb; rw [ha] at hb
      exact .inl (.inl (Option.some.inj hb).symm)
end
theorem sts_of {C : Known} {P : Program} {T : Nat → Prop} {n0 : Nat} {x : Operand} {t k off e : Nat} {row xs : List Value} {s : PS} {K : PS → Prop} (hx : s.ev x = ptr k off) (hk : s.H k = some row) (ho : off < row.length) (hT : T k ∨ n0 ≤ k) (ht : s.t t = lin e xs)
    (h : K ⟨upd s.t t (deep xs), upd s.H k (some (row.set off (lin e xs))), s.nx⟩) : PE.step C P T n0 none (.sts x t) s K := by
  refine ⟨k, off, row, hx, hk, ho, hT, fun ps h => ?_, fun ps h => ?_, ?_⟩
  · rw [ht] at h; cases h
  · rw [ht] at h; cases h
  · rw [ht]; exact h
end Go.PE
