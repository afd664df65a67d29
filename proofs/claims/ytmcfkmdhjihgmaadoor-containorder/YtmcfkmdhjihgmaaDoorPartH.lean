/- The references: later. Layer 9: behind. Layer 9: Witness. The references: Witness. The references: Witness. DONE. Layer 9: Within, here and in the references. Layer 9: made. Layer 9: what a witness is: plain laws. Layer 9: the examples of the chapter. ContainWitness: the law. ContainWithin: the law. ContainLeast: the law. ContainShown: the law. ContainFirst: the law. ContainOrder: the law. -/
import Derived.Test.YtmcfkmdhjihgmaaDoorPartG
import Derived.Test.YtmcfkmdhjihgmaaDoorPartF
set_option linter.all false
namespace Go.PE
open Go
def IsMin (a b : Aut) (m : Int) : Prop := a.S m ∧ ¬ b.S m ∧ ∀ k, a.S k → ¬ b.S k → m ≤ k
/-- none before x -/
def From (a b : Aut) (x : Int) : Prop := ∀ m, IsMin a b m → x ≤ m
theorem From.yes {a b : Aut} {x : Int} (ha : rgA a) (h : From a b x) (h1 : a.S x) (h2 : ¬ b.S x) : MinR a b x true := by
  obtain ⟨m, o, hm⟩ := MinR.ex b ha
  rcases hm with ⟨rfl, k1, k2, k3⟩ | ⟨rfl, rfl, k1⟩
  · have e1 := h m ⟨k1, k2, k3⟩
    have e2 := k3 x h1 h2
    have : m = x := by omega
    subst this
    exact .inl ⟨rfl, k1, k2, k3⟩
  · exact absurd (k1 _ h1) h2
theorem From.no {a b : Aut} {x : Int} (ha : rgA a) (h : From a b x) (hx : a.to < x) : MinR a b 0 false := by
  obtain ⟨m, o, hm⟩ := MinR.ex b ha
  rcases hm with ⟨rfl, k1, k2, k3⟩ | ⟨rfl, rfl, k1⟩
  · have := h m ⟨k1, k2, k3⟩
    have := k1.2.1
    omega
  · exact .inr ⟨rfl, rfl, k1⟩
theorem From.next {a b : Aut} {x : Int} (h : From a b x) (hx : ¬ (a.S x ∧ ¬ b.S x)) : From a b (x + 1) := fun m hm => by
  have := h m hm
  rcases Int.lt_or_eq_of_le this with h1 | h1
  · omega
  · subst h1; exact absurd ⟨hm.1, hm.2.1⟩ hx
theorem From.day {a b : Aut} {d : Int} (hf : 0 ≤ a.fr) (h : From a b (d * 1440)) (hd : ¬ ((a.fr / 1440 ≤ d ∧ d ≤ a.fr / 1440 + 7) ∨ (b.to / 1440 ≤ d ∧ d ≤ b.to / 1440 + 7)) ∨ tb a.days (d % 7).toNat = false) : From a b ((d + 1) * 1440) := fun m hm => by
  have h1 := h m hm
  by_cases e : m / 1440 = d
  · exfalso
    rcases hd with hd | hd
    · have := min_day hf hm.1 hm.2.1 hm.2.2
      rw [e] at this; exact hd this
    · have h2 := hm.1.2.2.1
      unfold wk at h2
      rw [e, hd] at h2; cases h2
  · omega
section
variable {P : Program} {ha_ tm : Nat} (hha : HasOK P ha_)
include hha
end
end Go.PE
namespace Go.PE
open Go
def beh (a b : Aut) (m : Int) (o : Bool) (c : Ctx) : Ctx × Bool :=
  if o = true ∧ m = a.fr then (c, true) else if (othF a b).2 = true then ({ c with holder := (othF a b).1 : Ctx }, true) else if o = true then ({ c with minute := m : Ctx }, true) else (c, false)
def BehOK (P : Program) (f : Nat) : Prop := ∀ (a b : Aut), a.wf → b.wf → rgA a → rgA b → ∀ (m : Int) (o : Bool), MinR a b m o → ∀ (c : Ctx) (kc : Nat) (H : Nat → Option (List Value)) (nx : Nat), H kc = some c.cells →
    PCalls P f [a.v, b.v, ptr kc 0] H nx (fun j => j = kc) (fun r H' _ => r = .bool (beh a b m o c).2 ∧ H' = upd H kc (some (beh a b m o c).1.cells))
theorem behind_ok {P : Program} {f mi ho : Nat} (hc : compFnX P [3000000] f = some (41, contain_behind_BC mi ho, [.t 6])) (hmi : MinOK P mi) (hho : OthOK P ho) : BehOK P f := by
  intro a b hwa hwb ha hb m o hm c kc H nx hk
  refine PCalls_ofX hc (by simp) fun hw => ?_
  have hkn : kc < nx := by
    rcases Nat.lt_or_ge kc nx with h | h
    · exact h
    · rw [hw kc h] at hk; cases hk
  have b3 : ¬ nx = nx + 1 := by omega
  have b5 : nx ≤ nx + 1 := by omega
  have b6 : ¬ nx + 1 = nx := by omega
  have k1 : ¬ kc = nx := by omega
  have k2 : ¬ kc = nx + 1 := by omega
  have k3 : ¬ nx = kc := by omega
  have k4 : ¬ nx + 1 = kc := by omega
  obtain ⟨cz, cl, cm, ch⟩ := c
  have en : ∀ {H2 : Nat → Option (List Value)} {n2 : Nat} {c' : Ctx} {r : Bool}, beh a b m o ⟨cz, cl, cm, ch⟩ = (c', r) → H2 kc = some c'.cells → (∀ j, j < nx → j ≠ kc → H2 j = H j) → wF (some [.bool r]) nx (fun r H' _ => r = .bool (beh a b m o ⟨cz, cl, cm, ch⟩).2 ∧ H' = upd H kc (some (beh a b m o ⟨cz, cl, cm, ch⟩).1.cells)) H2 n2 := by
    intro H2 n2 c' r h1 h2 h3
    refine wF_sub (H1 := upd H kc (some c'.cells)) (fun j => ?_) ⟨by rw [h1]; rfl, by rw [h1]⟩
    by_cases e : j = kc
    · subst e; left; rw [upd_same, h2]
    · rw [upd_ne _ _ e]
      by_cases hj : j < nx
      · left; exact (h3 j hj e).symm
      · right; exact ⟨by omega, hw j (by omega)⟩
  have keep : ∀ {X Y : Option (List Value)} (j : Nat), j < nx → j ≠ kc → (upd (upd H nx X) (nx + 1) Y) j = H j := fun j hj _ => by rw [upd_ne _ _ (by omega), upd_ne _ _ (by omega)]
  have keep2 : ∀ {X Y Z : Option (List Value)} (j : Nat), j < nx → j ≠ kc → (upd (upd (upd H nx X) (nx + 1) Y) kc Z) j = H j := fun j hj hne => by rw [upd_ne _ _ hne, upd_ne _ _ (by omega), upd_ne _ _ (by omega)]
  simp [contain_behind_BC, b3, b5, b6, k1, k2, k3, k4, Aut.ag]
  refine wCall_eq (Q := fun r => MinV a b r) (hmi a b hwa hwb ha hb _ _) fun r n1 hr hn1 => ?_
  obtain ⟨m', o', rfl, hm'⟩ := hr
  obtain ⟨rfl, rfl⟩ := hm.uniq hm'
  simp at hn1
  have rest : ∀ {T2 : Nat → Value}, ¬ (o = true ∧ m = a.fr) → T2 2 = ptr kc 0 → T2 3 = ptr nx 0 → T2 4 = ptr (nx + 1) 0 → T2 7 = .int .i64 m → T2 8 = .bool o → wpc (PCalls P) P (fun j => j = kc) nx (contain_behind_BC_j2 ho) (fin nx [RV.t 6] fun r H' _ => r = .bool (beh a b m o ⟨cz, cl, cm, ch⟩).2 ∧ H' = upd H kc (some (beh a b m o ⟨cz, cl, cm, ch⟩).1.cells)) ⟨T2, upd (upd H nx (some a.cells)) (nx + 1) (some b.cells), n1⟩ := by
    intro T2 h0 e2 e3 e4 e7 e8
    simp [contain_behind_BC_j2, e2, e3, e4, e7, e8, b3, b5, b6, k1, k2, k3, k4, Aut.ag]
    refine wCall_eq (Q := fun r => r = tup [.string (othF a b).1, .bool (othF a b).2]) (hho a b _ _) fun r n2 hr hn2 => ?_
    subst hr
    cases ht : (othF a b).2 with
    | true =>
      simp [e2, e3, e4, e7, e8, b3, b5, b6, k1, k2, k3, k4, hk, ht, Ctx.cells]
      refine en (c' := ⟨cz, cl, cm, (othF a b).1⟩) (by unfold beh; rw [if_neg h0, if_pos ht]) (by simp; rfl) keep2
    | false =>
      have ht' : ¬ (othF a b).2 = true := by rw [ht]; simp
      cases o with
      | true =>
        simp [contain_behind_BC_j1, e2, e3, e4, e7, e8, b3, b5, b6, k1, k2, k3, k4, hk, ht, Ctx.cells]
        refine en (c' := ⟨cz, cl, m, ch⟩) (by unfold beh; rw [if_neg h0, if_neg ht', if_pos rfl]) (by simp; rfl) keep2
      | false =>
        simp [contain_behind_BC_j1, e2, e3, e4, e7, e8, b3, b5, b6, k1, k2, k3, k4, hk, ht, Ctx.cells]
        refine en (c' := ⟨cz, cl, cm, ch⟩) (by unfold beh; rw [if_neg h0, if_neg ht', if_neg (by simp)]) (by simp [k1, k2, hk]) keep
  cases o with
  | false =>
    simp [b3, b5, b6, k1, k2, k3, k4]
    exact rest (by simp) (by simp) (by simp) (by simp) (by simp) (by simp)
  | true =>
    by_cases e : m = a.fr
    · have e' : (m == a.fr) = true := by simp [e]
      simp [b3, b5, b6, k1, k2, k3, k4, e']
      refine en (c' := ⟨cz, cl, cm, ch⟩) (by unfold beh; rw [if_pos ⟨rfl, e⟩]) (by simp [k1, k2, hk]) keep
    · have e' : (m == a.fr) = false := by simp [e]
      simp [b3, b5, b6, k1, k2, k3, k4, e, e']
      exact rest (fun h => e h.2) (by simp) (by simp) (by simp) (by simp) (by simp)
end Go.PE
namespace Go.PE
open Go
def dZ (a b : Aut) : Int := bitsV .andNot .u64 a.zones b.zones
def dL (a b : Aut) : Int := bitsV .andNot .u64 a.lines b.lines
noncomputable def witF (a b : Aut) (m : Int) (o : Bool) : Ctx × Bool :=
  if ¬ (okA a = true ∧ okA b = true ∧ a.none = false) then (zeroC, false)
  else if b.none = true then (leastF a, true)
  else if dZ a b ≠ 0 ∧ tz (dZ a b) = tz a.zones then (leastF a, true)
  else if dL a b ≠ 0 ∧ tz (dL a b) = tz a.lines then (leastF a, true)
  else if (beh a b m o (leastF a)).2 = true then ((beh a b m o (leastF a)).1, true)
  else if dL a b ≠ 0 then ({ leastF a with line := tz (dL a b) : Ctx }, true)
  else if dZ a b ≠ 0 then ({ leastF a with zone := tz (dZ a b) : Ctx }, true)
  else (zeroC, false)
/-- the first minute, where there is one to ask for -/
def MinQ (a b : Aut) (m : Int) (o : Bool) : Prop := okA a = true → okA b = true → a.none = false → b.none = false → MinR a b m o
theorem MinQ.ex (a b : Aut) : ∃ m o, MinQ a b m o := by
  by_cases h : okA a = true ∧ a.none = false
  · obtain ⟨m, o, hm⟩ := MinR.ex b (((okA_iff a).1 h.1).rg h.2)
    exact ⟨m, o, fun _ _ _ _ => hm⟩
  · exact ⟨0, false, fun h1 _ h2 _ => absurd ⟨h1, h2⟩ h⟩
def WitOK (P : Program) (f g gd : Nat) : Prop := ∀ (a b : Aut), a.wf → b.wf → ∀ (m : Int) (o : Bool), MinQ a b m o → ∀ (H : Nat → Option (List Value)) (nx : Nat), LV g gd H nx → PCalls P f [a.v, b.v] H nx (fun _ => False) (fun r H' _ => r = tup [(witF a b m o).1.v, .bool (witF a b m o).2] ∧ H' = H)
theorem ctx_noLin (c : Ctx) : rowNoLin c.cells := by
  intro i e xs h
  have h := getD_some h (lin_ne_undef _ _)
  have : i = 0 ∨ i = 1 ∨ i = 2 ∨ i = 3 := by
    have := (List.getElem?_eq_some_iff.1 h).1
    have hl : c.cells.length = 4 := rfl
    omega
  rcases this with rfl | rfl | rfl | rfl <;> simp [Ctx.cells, lin] at h
theorem beh_no {a b : Aut} {m : Int} {o : Bool} {c : Ctx} (h : (beh a b m o c).2 = false) : (beh a b m o c).1 = c := by
  unfold beh at h ⊢
  split at h
  · cases h
  · rename_i h1
    rw [if_neg h1]
    split at h
    · cases h
    · rename_i h2
      rw [if_neg h2]
      split at h
      · cases h
      · rename_i h3
        rw [if_neg h3]
theorem wit_ok {P : Program} {f g gd va le fi be : Nat} (hc : compFnX P [3000000] f = some (74, contain_Witness_BC va le fi be, [.cA 4 4, .t 5])) (hva : AValOK P va g) (hle : LeastOK P le gd) (hfi : FirstOK P fi gd) (hbe : BehOK P be) : WitOK P f g gd := by
  intro a b hwa hwb m o hmo H nx hL
  refine PCalls_ofX hc (by simp) fun hw => ?_
  have b1 : ¬ nx = nx + 1 + 1 := by omega
  have b2 : ¬ nx + 1 = nx + 1 + 1 := by omega
  have b3 : ¬ nx = nx + 1 := by omega
  have b4 : nx ≤ nx + 1 + 1 := by omega
  have b5 : nx ≤ nx + 1 := by omega
  have b6 : ¬ nx + 1 = nx := by omega
  have b7 : ¬ nx + 1 + 1 = nx := by omega
  have b8 : ¬ nx + 1 + 1 = nx + 1 := by omega
  have hL3 : ∀ {r1 r2 r3 : Option (List Value)} {n : Nat}, nx + 1 + 1 + 1 ≤ n → LV g gd (upd (upd (upd H nx r1) (nx + 1) r2) (nx + 1 + 1) r3) n := fun {r1 r2 r3 n} h => ((hL.up (Nat.le_refl _) (Nat.le_refl _)).up (by omega) (Nat.le_refl _)).up (by omega) (by omega)
  have hbn := hL.bn
  have hdn := hL.dn
  have en : ∀ {H2 : Nat → Option (List Value)} {n2 : Nat} {c : Ctx} {r : Bool}, witF a b m o = (c, r) → Own nx H H2 → wF (some [ag c.cells, .bool r]) nx (fun r H' _ => r = tup [(witF a b m o).1.v, .bool (witF a b m o).2] ∧ H' = H) H2 n2 := fun {H2 n2 c o} h ho => wF_own hw ho ⟨by rw [h]; rfl, rfl⟩
  have hz : (ag [.int .i64 0, .int .i64 0, .int .i64 0, .string ⟨#[]⟩] : Value) = ag zeroC.cells := rfl
  simp [contain_Witness_BC, b1, b2, b3, b4, b5, b6, b7, b8, Aut.ag]
  refine wCall_eq (Q := fun r => r = .bool (okA a)) (hva a hwa _ _ (hL3 (Nat.le_refl _)).b (by show g < nx + 1 + 1 + 1; omega)) fun r n1 hr hn1 => ?_
  subst hr
  simp at hn1
  cases ho1 : okA a with
  | false =>
    simp [b1, b2, b3, b4, b5, b6, b7, b8, hz]
    refine en (if_pos fun h => by rw [ho1] at h; cases h.1) ?_
    simp [b4, b5]
  | true =>
  simp [b1, b2, b3, b4, b5, b6, b7, b8, Aut.ag]
  refine wCall_eq (Q := fun r => r = .bool (okA b)) (hva b hwb _ _ (hL3 hn1).b (by show g < n1; omega)) fun r n2 hr hn2 => ?_
  subst hr
  simp at hn2
  cases ho2 : okA b with
  | false =>
    simp [b1, b2, b3, b4, b5, b6, b7, b8, hz]
    refine en (if_pos fun h => by rw [ho2] at h; cases h.2.1) ?_
    simp [b4, b5]
  | true =>
  cases hn : a.none with
  | true =>
    simp [b1, b2, b3, b4, b5, b6, b7, b8, hn, hz]
    refine en (if_pos fun h => by rw [hn] at h; cases h.2.2) ?_
    simp [b4, b5]
  | false =>
  have h0 : ¬ ¬ (okA a = true ∧ okA b = true ∧ a.none = false) := fun h => h ⟨ho1, ho2, hn⟩
  simp [contain_Witness_BC_j6, b1, b2, b3, b4, b5, b6, b7, b8, hn, Aut.ag]
  refine wCall_eq (Q := fun r => r = (leastF a).v) (hle a hwa _ _ (hL3 (by omega)).d (by show gd < n2; omega)) fun r n3 hr hn3 => ?_
  subst hr
  simp at hn3
  have d1 : ¬ nx = n3 := by omega
  have d2 : ¬ nx + 1 = n3 := by omega
  have d3 : ¬ nx + 1 + 1 = n3 := by omega
  have d4 : ¬ n3 = nx + 1 + 1 := by omega
  have d5 : nx ≤ n3 := by omega
  have d6 : ¬ n3 = nx := by omega
  have d7 : ¬ n3 = nx + 1 := by omega
  have hL4 : ∀ {r1 r2 r3 r4 : Option (List Value)} {n : Nat}, n3 + 1 ≤ n → LV g gd (upd (upd (upd (upd H nx r1) (nx + 1) r2) (nx + 1 + 1) r3) n3 r4) n := fun {r1 r2 r3 r4 n} h => (hL3 (Nat.le_refl _)).up (by omega) (by omega)
  cases hbn2 : b.none with
  | true =>
    simp [b1, b2, b3, b4, b5, b6, b7, b8, d1, d2, d3, d4, d5, hbn2]
    refine en (by unfold witF; rw [if_neg h0, if_pos hbn2]) ?_
    simp [b4, b5, d5]
  | false =>
  have h1 : ¬ b.none = true := by rw [hbn2]; simp
  have ga := ((okA_iff a).1 ho1).rg hn
  have gb := ((okA_iff b).1 ho2).rg hbn2
  have hm := hmo ho1 ho2 hn hbn2
  have eZ : bitsV .andNot .u64 a.zones b.zones = dZ a b := rfl
  have eL : bitsV .andNot .u64 a.lines b.lines = dL a b := rfl
  have lz : (leastF a).zone = tz a.zones := rfl
  have ll : (leastF a).line = tz a.lines := rfl
  have hlc : (leastF a).cells = [.int .i64 (tz a.zones), .int .i64 (tz a.lines), .int .i64 a.fr, .string (leastF a).holder] := rfl
  simp [contain_Witness_BC_j5, b1, b2, b3, b4, b5, b6, b7, b8, d1, d2, d3, d4, d5, hbn2]
  refine wCall_eq (Q := fun r => r = tup [.int .i64 (tz (dZ a b)), .bool (decide (dZ a b ≠ 0))]) (hfi a.zones b.zones hwa.zu hwb.zu _ _ (hL4 (Nat.le_refl _)).d (by show gd < n3 + 1; omega)) fun r n4 hr hn4 => ?_
  subst hr
  simp at hn4
  generalize hx : dZ a b = x
  generalize hy : dL a b = y
  by_cases hZ : x ≠ 0 ∧ tz x = tz a.zones
  · have e1 : decide (x = 0) = false := by simp [hZ.1]
    have e2 : ((tz x : Int) == (tz a.zones : Int)) = true := by rw [hZ.2]; simp
    simp [b1, b2, b3, b4, b5, b6, b7, b8, d1, d2, d3, d4, d5, e1, e2, hZ.1, lz]
    refine en (by unfold witF; rw [if_neg h0, if_neg h1, hx, if_pos hZ]) ?_
    simp [b4, b5, d5]
  have next : ∀ {T2 : Nat → Value} {n4 : Nat}, n3 + 1 ≤ n4 → T2 2 = ptr nx 0 → T2 3 = ptr (nx + 1) 0 → T2 4 = ptr (nx + 1 + 1) 0 → T2 6 = ptr n3 0 → T2 7 = .int .i64 (tz x) → T2 8 = .bool (decide (x ≠ 0)) →
      wpc (PCalls P) P (fun _ => False) nx (contain_Witness_BC_j4 fi be) (fin nx [RV.cA 4 4, RV.t 5] fun r H' _ => r = tup [(witF a b m o).1.v, .bool (witF a b m o).2] ∧ H' = H) ⟨T2, upd (upd (upd (upd H nx (some a.cells)) (nx + 1) (some b.cells)) (nx + 1 + 1) (some [.int .i64 0, .int .i64 0, .int .i64 0, .string ⟨#[]⟩])) n3 (some (leastF a).cells), n4⟩ := by
    intro T2 n4 hn4 f2 f3 f4 f6 f7 f8
    simp [contain_Witness_BC_j4, f2, f3, f4, f6, f7, f8, b1, b2, b3, b4, b5, b6, b7, b8, d1, d2, d3, d4, d5]
    refine wCall_eq (Q := fun r => r = tup [.int .i64 (tz y), .bool (decide (y ≠ 0))]) (by rw [← hy]; exact hfi a.lines b.lines hwa.lu hwb.lu _ _ (hL4 (Nat.le_refl _)).d (by show gd < n4; omega)) fun r n5 hr hn5 => ?_
    subst hr
    simp at hn5
    have fin2 : ∀ {T3 : Nat → Value} {n6 : Nat}, ¬ (y ≠ 0 ∧ tz y = tz a.lines) → n4 ≤ n6 → T3 2 = ptr nx 0 → T3 3 = ptr (nx + 1) 0 → T3 4 = ptr (nx + 1 + 1) 0 → T3 6 = ptr n3 0 → T3 7 = .int .i64 (tz x) → T3 8 = .bool (decide (x ≠ 0)) → T3 9 = .int .i64 (tz y) → T3 10 = .bool (decide (y ≠ 0)) →
        wpc (PCalls P) P (fun _ => False) nx (contain_Witness_BC_j3 be) (fin nx [RV.cA 4 4, RV.t 5] fun r H' _ => r = tup [(witF a b m o).1.v, .bool (witF a b m o).2] ∧ H' = H) ⟨T3, upd (upd (upd (upd H nx (some a.cells)) (nx + 1) (some b.cells)) (nx + 1 + 1) (some [.int .i64 0, .int .i64 0, .int .i64 0, .string ⟨#[]⟩])) n3 (some (leastF a).cells), n6⟩ := by
      intro T3 n6 hY hn6 g2 g3 g4 g6 g7 g8 g9 g10
      simp [contain_Witness_BC_j3, g2, g3, g4, g6, b1, b2, b3, b4, b5, b6, b7, b8, d1, d2, d3, d4, d5, Aut.ag]
      refine wCall_leT (T' := fun j => j = n3) (hbe a b hwa hwb ga gb m o hm (leastF a) n3 _ _ (by simp)) (fun j hj => by subst hj; exact .inl d5) (fun j row hj hr => ?_) fun p H' nx' hR hn7 => ?_
      · subst hj
        simp at hr
        subst hr
        exact ctx_noLin _
      obtain ⟨rfl, rfl⟩ := hR
      cases hbh : (beh a b m o (leastF a)).2 with
      | true =>
        simp [g2, g3, g4, g6, b1, b2, b3, b4, b5, b6, b7, b8, d1, d2, d3, d4, d5]
        refine en (by unfold witF; rw [if_neg h0, if_neg h1, hx, hy, if_neg hZ, if_neg hY, if_pos hbh]) ?_
        simp [b4, b5, d5]
      | false =>
        have hbh' : ¬ (beh a b m o (leastF a)).2 = true := by rw [hbh]; simp
        rw [beh_no hbh]
        by_cases y0 : y = 0
        · have e1 : decide (y = 0) = true := by simp [y0]
          by_cases x0 : x = 0
          · have e2 : decide (x = 0) = true := by simp [x0]
            simp [contain_Witness_BC_j2, contain_Witness_BC_j1, g2, g3, g4, g6, g7, g8, g9, g10, b1, b2, b3, b4, b5, b6, b7, b8, d1, d2, d3, d4, d5, e1, e2, hz]
            refine en (by unfold witF; rw [if_neg h0, if_neg h1, hx, hy, if_neg hZ, if_neg hY, if_neg hbh', if_neg (by simp [y0]), if_neg (by simp [x0])]) ?_
            simp [b4, b5, d5]
          · have e2 : decide (x = 0) = false := by simp [x0]
            simp [contain_Witness_BC_j2, contain_Witness_BC_j1, g2, g3, g4, g6, g7, g8, g9, g10, b1, b2, b3, b4, b5, b6, b7, b8, d1, d2, d3, d4, d5, e1, e2, hlc]
            refine en (c := ⟨tz x, tz a.lines, a.fr, (leastF a).holder⟩) (by unfold witF; rw [if_neg h0, if_neg h1, hx, hy, if_neg hZ, if_neg hY, if_neg hbh', if_neg (by simp [y0]), if_pos x0]; rfl) ?_
            simp [b4, b5, d5]
        · have e1 : decide (y = 0) = false := by simp [y0]
          simp [contain_Witness_BC_j2, g2, g3, g4, g6, g7, g8, g9, g10, b1, b2, b3, b4, b5, b6, b7, b8, d1, d2, d3, d4, d5, e1, hlc]
          refine en (c := ⟨tz a.zones, tz y, a.fr, (leastF a).holder⟩) (by unfold witF; rw [if_neg h0, if_neg h1, hx, hy, if_neg hZ, if_neg hY, if_neg hbh', if_pos y0]; rfl) ?_
          simp [b4, b5, d5]
    by_cases hY : y ≠ 0 ∧ tz y = tz a.lines
    · have e1 : decide (y = 0) = false := by simp [hY.1]
      have e2 : ((tz y : Int) == (tz a.lines : Int)) = true := by rw [hY.2]; simp
      simp [f2, f3, f4, f6, f7, f8, b1, b2, b3, b4, b5, b6, b7, b8, d1, d2, d3, d4, d5, e1, e2, hY.1, ll]
      refine en (by unfold witF; rw [if_neg h0, if_neg h1, hx, hy, if_neg hZ, if_pos hY]) ?_
      simp [b4, b5, d5]
    · by_cases y0 : y = 0
      · have e1 : decide (y = 0) = true := by simp [y0]
        simp [f2, f3, f4, f6, f7, f8, b1, b2, b3, b4, b5, b6, b7, b8, d1, d2, d3, d4, d5, e1, ll]
        exact fin2 hY hn5 (by simp [f2]) (by simp [f3]) (by simp [f4]) (by simp [f6]) (by simp [f7]) (by simp [f8]) (by simp) (by simp [y0])
      · have e1 : decide (y = 0) = false := by simp [y0]
        have e2 : ((tz y : Int) == (tz a.lines : Int)) = false := by
          rw [Bool.eq_false_iff]; intro h; exact hY ⟨y0, by have := beq_iff_eq.1 h; omega⟩
        simp [f2, f3, f4, f6, f7, f8, b1, b2, b3, b4, b5, b6, b7, b8, d1, d2, d3, d4, d5, e1, e2, ll]
        exact fin2 hY hn5 (by simp [f2]) (by simp [f3]) (by simp [f4]) (by simp [f6]) (by simp [f7]) (by simp [f8]) (by simp) (by simp [y0])
  by_cases x0 : x = 0
  · have e1 : decide (x = 0) = true := by simp [x0]
    simp [b1, b2, b3, b4, b5, b6, b7, b8, d1, d2, d3, d4, d5, e1, lz]
    exact next hn4 (by simp) (by simp) (by simp) (by simp) (by simp) (by simp [x0])
  · have e1 : decide (x = 0) = false := by simp [x0]
    have e2 : ((tz x : Int) == (tz a.zones : Int)) = false := by
      rw [Bool.eq_false_iff]; intro h; exact hZ ⟨x0, by have := beq_iff_eq.1 h; omega⟩
    simp [b1, b2, b3, b4, b5, b6, b7, b8, d1, d2, d3, d4, d5, e1, e2, lz]
    exact next hn4 (by simp) (by simp) (by simp) (by simp) (by simp) (by simp [x0])
end Go.PE
namespace Go.PE
open Go
theorem first_iff {x y : Int} (hx : isU64 x) (hy : isU64 y) (h : x ≠ 0) : (bitsV .andNot .u64 x y ≠ 0 ∧ tz (bitsV .andNot .u64 x y) = tz x) ↔ tb y (tz x) = false := by
  obtain ⟨s1, s2, s3⟩ := tz_spec hx h
  have hb := tb_not hx hy
  constructor
  · rintro ⟨h1, h2⟩
    have := (tz_spec (not_isU64 (a := x) (b := y)) h1).2.1
    rw [h2, hb, s2] at this
    simpa using this
  · intro h1
    have h2 : tb (bitsV .andNot .u64 x y) (tz x) = true := by rw [hb, s2, h1]; rfl
    have h0 : bitsV .andNot .u64 x y ≠ 0 := fun e => by rw [e, tb_0] at h2; cases h2
    exact ⟨h0, tz_uniq not_isU64 h0 h2 fun j hj => by rw [hb, s3 j hj]; rfl⟩
theorem VA.S_fr {a : Aut} (h : VA a) (hn : a.none = false) : a.S a.fr := by
  rcases h with rfl | ⟨_, _, hc⟩
  · cases hn
  · rcases hc with ⟨_, e⟩ | ⟨_, _, f, t, d, l, hc, e⟩
    · rw [e] at hn; cases hn
    · have : a.fr = f := congrArg Aut.fr e
      rw [this]; exact hc.fr.1
theorem min_fr {a b : Aut} {m : Int} {o : Bool} (h : MinR a b m o) (hS : a.S a.fr) : (o = true ∧ m = a.fr) ↔ ¬ b.S a.fr := by
  rcases h with ⟨rfl, h1, h2, h3⟩ | ⟨rfl, rfl, h1⟩
  · constructor
    · rintro ⟨_, rfl⟩; exact h2
    · intro h
      have := h3 _ hS h
      have := h1.1
      exact ⟨rfl, by omega⟩
  · constructor
    · rintro ⟨h, _⟩; cases h
    · intro h; exact absurd (h1 _ hS) h
section
variable {P : Program} {ot la lo : Nat} (hot : OthOK P ot) (hla : MinOK P la) (hlo : LowOK P lo)
include hot hla hlo
end
end Go.PE
namespace Go.PE
open Go
end Go.PE
namespace Go.PE
open Go
noncomputable def winF (a b : Aut) (m : Int) (o : Bool) : Bool := okA a && okA b && !(witF a b m o).2
def WinOK (P : Program) (f g gd : Nat) : Prop := ∀ (a b : Aut), a.wf → b.wf → ∀ (m : Int) (o : Bool), MinQ a b m o → ∀ (H : Nat → Option (List Value)) (nx : Nat), LV g gd H nx → PCalls P f [a.v, b.v] H nx (fun _ => False) (fun r H' _ => r = .bool (winF a b m o) ∧ H' = H)
def RWinOK (P : Program) (f : Nat) : Prop := ∀ (a b : Aut), a.wf → b.wf → ∀ (m : Int) (o : Bool), MinQ a b m o → ∀ (H : Nat → Option (List Value)) (nx : Nat), PCalls P f [a.v, b.v] H nx (fun _ => False) (fun r H' _ => r = .bool (winF a b m o) ∧ H' = H)
theorem win_ok {P : Program} {f g gd va wi : Nat} (hc : compFnX P [3000000] f = some (23, contain_Within_BC va wi, [.t 4])) (hva : AValOK P va g) (hwi : WitOK P wi g gd) : WinOK P f g gd := by
  intro a b hwa hwb m o hm H nx hL
  refine PCalls_ofX hc (by simp) fun hw => ?_
  have b3 : ¬ nx = nx + 1 := by omega
  have b5 : nx ≤ nx + 1 := by omega
  have b6 : ¬ nx + 1 = nx := by omega
  have hL2 : ∀ {r1 r2 : Option (List Value)} {n : Nat}, nx + 1 + 1 ≤ n → LV g gd (upd (upd H nx r1) (nx + 1) r2) n := fun {r1 r2 n} h => (hL.up (Nat.le_refl _) (Nat.le_refl _)).up (by omega) (by omega)
  have hbn := hL.bn
  have en : ∀ {H2 : Nat → Option (List Value)} {n2 : Nat} {r : Bool}, winF a b m o = r → Own nx H H2 → wF (some [.bool r]) nx (fun r H' _ => r = .bool (winF a b m o) ∧ H' = H) H2 n2 := fun {H2 n2 r} h ho => wF_own hw ho ⟨by rw [h]; rfl, rfl⟩
  simp [contain_Within_BC, b3, b5, b6, Aut.ag]
  refine wCall_eq (Q := fun r => r = .bool (okA a)) (hva a hwa _ _ (hL2 (Nat.le_refl _)).b (by show g < nx + 1 + 1; omega)) fun r n1 hr hn1 => ?_
  subst hr
  simp at hn1
  cases ho1 : okA a with
  | false =>
    simp [b3, b5, b6]
    refine en (by simp [winF, ho1]) ?_
    simp [b5]
  | true =>
  simp [b3, b5, b6, Aut.ag]
  refine wCall_eq (Q := fun r => r = .bool (okA b)) (hva b hwb _ _ (hL2 hn1).b (by show g < n1; omega)) fun r n2 hr hn2 => ?_
  subst hr
  simp at hn2
  cases ho2 : okA b with
  | false =>
    simp [b3, b5, b6]
    refine en (by simp [winF, ho1, ho2]) ?_
    simp [b5]
  | true =>
  simp [contain_Within_BC_j1, b3, b5, b6, Aut.ag]
  refine wCall_eq (Q := fun r => r = _) (hwi a b hwa hwb m o hm _ _ (hL2 (show nx + 1 + 1 ≤ n2 by omega))) fun r n3 hr hn3 => ?_
  subst hr
  simp at hn3
  have d5 : nx ≤ n3 := by omega
  simp [b3, b5, b6, d5]
  refine en (by simp [winF, ho1, ho2]) ?_
  simp [b5, d5]
end Go.PE
namespace Go.PE
open Go
inductive Made9 (l : List Int) (H : Nat → Option (List Value)) (nx : Nat) (r : Value) (H' : Nat → Option (List Value)) (nx' : Nat) : Prop
  | mk (a b : Aut) (nd : Nat) (at' : Int) (h1 : r = tup [a.v, b.v, ptr nd 0]) (h2 : Vw a) (h3 : Vw b) (h4 : nx ≤ nd) (h5 : nd < nx') (h6 : 0 ≤ at') (h7 : H' = upd H nd (some (dk l at')))
def Made9OK (P : Program) (f : Nat) : Prop := ∀ (l : List Int), l.length ≤ maxLen → ∀ (H : Nat → Option (List Value)) (nx : Nat), PCalls P f [deep (l.map (.int .i64))] H nx (fun _ => False) (fun r H' nx' => Made9 l H nx r H' nx')
theorem made9_j2 {P : Program} {tS tP ro ne : Nat} (hro : ROfOK P ro) (hne : NextW P ne) {l : List Int} (hl : l.length ≤ maxLen) {a : Aut} {q : List Pred} {at1 : Int} {nx n4 : Nat} {H : Nat → Option (List Value)} {s : PS} (hw : ∀ k, nx ≤ k → H k = none) (va : Vw a) (hq : q.length ≤ 64) (hqv : ∀ p ∈ q, p.valid = true) (hqw : ∀ p ∈ q, p.wf) (hat : 0 ≤ at1) (hn4 : nx + 1 + 1 < n4) (hnx : n4 < s.nx)
    (e2 : s.t 2 = ptr nx 0) (e3 : s.t 3 = ptr (nx + 1) 0) (e5 : s.t 5 = ptr (nx + 1 + 1) 0) (e7 : s.t 7 = ptr n4 0) (e9 : s.t 9 = lin tP (q.map Pred.v)) {c1 c2 : List Value} (h1 : s.H nx = some c1) (h2 : s.H (nx + 1) = some c2) (hl1 : c1.length = 8) (hl2 : c2.length = 8) (h3 : s.H (nx + 1 + 1) = some (dk l at1)) (h4 : s.H n4 = some a.cells) (hown : Own nx H s.H) :
    wpc (PCalls P) P (fun _ => False) nx (law09_made_BC_j2 tS ro ne) (fin nx [RV.cA 2 8, RV.cA 3 8, RV.t 4] fun r H' nx' => Made9 l H nx r H' nx') s := by
  obtain ⟨T, H2, nx2⟩ := s
  simp only at hnx e2 e3 e5 e7 e9 h1 h2 h3 h4 hown
  have a1 : ¬ nx = nx + 1 := by omega
  have a2 : ¬ nx = nx + 1 + 1 := by omega
  have a3 : ¬ nx + 1 = nx + 1 + 1 := by omega
  have a4 : ¬ nx + 1 + 1 = nx := by omega
  have a5 : ¬ nx + 1 + 1 = nx + 1 := by omega
  have a6 : ¬ nx + 1 = nx := by omega
  have p1 : nx ≤ nx + 1 := by omega
  have p2 : nx ≤ nx + 1 + 1 := by omega
  have p3 : nx ≤ n4 := by omega
  simp [law09_made_BC_j2, e9]
  refine wCall_eq (Q := fun r => ofR q r) (hro q hqw (by have hmx : (maxLen : Int) = 9223372036854775807 := rfl; omega) _ _) fun r n6 hr hn6 => ?_
  obtain ⟨b, e, rfl, hE2⟩ := ofR_E hr
  obtain ⟨hB, rfl⟩ := ofE_valid hE2 hq hqv
  have vb : Vw b := hB.ok hqv hqw
  simp at hn6
  have c1' : ¬ nx = n6 := by omega
  have c2' : ¬ nx + 1 = n6 := by omega
  have c3 : ¬ nx + 1 + 1 = n6 := by omega
  have c4 : ¬ n4 = n6 := by omega
  have c5 : ¬ n6 = n4 := by omega
  have c6 : ¬ n6 = nx + 1 + 1 := by omega
  have p4 : nx ≤ n6 := by omega
  have c7 : ¬ n6 = nx := by omega
  have c8 : ¬ n6 = nx + 1 := by omega
  have c9 : ¬ n4 = nx := by omega
  have c10 : ¬ n4 = nx + 1 := by omega
  have c11 : ¬ n4 = nx + 1 + 1 := by omega
  have d1 : List.drop 8 c1 = [] := List.drop_of_length_le (by omega)
  have d2 : List.drop 8 c2 = [] := List.drop_of_length_le (by omega)
  simp [e5, p4, c3]
  refine wCall_drawL (hne 2 (by omega) (by omega)) (l := l) (at_ := at1) hat hl (by simp [c3, h3]) (.inl p2) fun v at3 n7 hv ha3 hn7 => ?_
  obtain ⟨x, rfl, hx0, hx1⟩ := hv
  simp at hn7
  have fin0 : ∀ {u w : Aut} {H2 : Nat → Option (List Value)} {n2 : Nat}, Vw u → Vw w → H2 (nx + 1 + 1) = some (dk l at3) → (∀ j, j < nx → H2 j = H j) → nx + 1 + 1 < n2 → wF (some [u.v, w.v, ptr (nx + 1 + 1) 0]) nx (fun r H' nx' => Made9 l H nx r H' nx') H2 n2 := by
    intro u w H2 n2 hu hw' h1 h2 h3
    refine wF_sub (H1 := upd H (nx + 1 + 1) (some (dk l at3))) (fun j => ?_) (Made9.mk u w (nx + 1 + 1) at3 rfl hu hw' p2 h3 ha3 rfl)
    by_cases e : j = nx + 1 + 1
    · subst e; exact .inl (by simp [h1])
    · rw [upd_ne _ _ e]
      by_cases hj : j < nx
      · exact .inl (h2 j hj).symm
      · exact .inr ⟨by omega, hw j (by omega)⟩
  by_cases hx : x = 0
  · simp [hx, e2, e3, e5, e7, h1, h2, h3, h4, hl1, hl2, d1, d2, a1, a2, a3, a4, a5, a6, p1, p2, p3, p4, c1', c2', c3, c4, c5, c6, c7, c8, c9, c10, c11, Aut.ag]
    repeat' first
      | refine And.intro ?_ ?_
      | (refine fin0 vb va (by simp [a4, a5, c3]) (fun j hj => ?_) (by omega)
         simp [show ¬ j = nx by omega, show ¬ j = nx + 1 by omega, show ¬ j = nx + 1 + 1 by omega, show ¬ j = n4 by omega, show ¬ j = n6 by omega, hown j hj])
      | fail "stuck"
  · have hx' : (x == 0) = false := by simp [hx]
    simp [hx', law09_made_BC_j1, e2, e3, e5, e7, h1, h2, h3, h4, hl1, hl2, d1, d2, a1, a2, a3, a4, a5, a6, p1, p2, p3, p4, c1', c2', c3, c4, c5, c6, c7, c8, c9, c10, c11, Aut.ag]
    repeat' first
      | refine And.intro ?_ ?_
      | (refine fin0 va vb (by simp [a4, a5, c3]) (fun j hj => ?_) (by omega)
         simp [show ¬ j = nx by omega, show ¬ j = nx + 1 by omega, show ¬ j = nx + 1 + 1 by omega, show ¬ j = n4 by omega, show ¬ j = n6 by omega, hown j hj])
      | fail "stuck"
theorem made9_ok {P : Program} {f tS tP ne ps ro nx_ : Nat} (hc : compFnX P [3000000] f = some (45, law09_made_BC tS ne ps ro nx_ tP, [.cA 2 8, .cA 3 8, .t 4])) (hne : NewOK P ne) (hps : ∀ n b, 0 ≤ n → n ≤ 1000000 → Draws P ps [.int .i64 n, .bool b] (isPreds tP n b)) (hro : ROfOK P ro) (hnx : NextW P nx_) : Made9OK P f := by
  intro l hl H nx
  refine PCalls_ofX hc (by simp) fun hw => ?_
  have hmx : (maxLen : Int) = 9223372036854775807 := rfl
  simp [law09_made_BC]
  refine wCall_le (hne l _ _) fun r H1 n1 hR hn1 _ => ?_
  obtain ⟨rfl, rfl, rfl⟩ := hR
  have a1 : ¬ nx = nx + 1 := by omega
  have a2 : ¬ nx = nx + 1 + 1 := by omega
  have a3 : ¬ nx + 1 = nx + 1 + 1 := by omega
  have a4 : ¬ nx + 1 + 1 = nx := by omega
  have a5 : ¬ nx + 1 + 1 = nx + 1 := by omega
  have a6 : ¬ nx + 1 = nx := by omega
  have p1 : nx ≤ nx + 1 := by omega
  have p2 : nx ≤ nx + 1 + 1 := by omega
  simp
  refine wCall_drawL (hps 4 true (by omega) (by omega)) (l := l) (at_ := 0) (by omega) hl (by simp) (.inl (by omega)) fun v at2 n3 hv ha2 hn3 => ?_
  obtain ⟨qs, rfl, hql, hqs⟩ := hv
  simp at hn3
  have hqw : ∀ q ∈ qs, q.wf := fun q hq => (hqs q hq).2.1
  have hqv : ∀ q ∈ qs, q.valid = true := fun q hq => (hqs q hq).1
  simp
  refine wCall_eq (Q := fun r => ofR qs r) (hro qs hqw (by omega) _ _) fun r n4 hr hn4 => ?_
  obtain ⟨a, e, rfl, hE1⟩ := ofR_E hr
  obtain ⟨hA, rfl⟩ := ofE_valid hE1 (by omega) hqv
  simp at hn4
  have b1 : ¬ nx = n4 := by omega
  have b2 : ¬ nx + 1 = n4 := by omega
  have b3 : ¬ nx + 1 + 1 = n4 := by omega
  have b4 : ¬ n4 = nx + 1 + 1 := by omega
  have p3 : nx ≤ n4 := by omega
  simp [p3]
  refine wCall_drawL (hps 2 true (by omega) (by omega)) (l := l) (at_ := at2) ha2 hl (by simp [b3]) (.inl (by omega)) fun v at3 n5 hv ha3 hn5 => ?_
  obtain ⟨q2, rfl, hql2, hqs2⟩ := hv
  simp at hn5
  have hqw2 : ∀ q ∈ q2, q.wf := fun q hq => (hqs2 q hq).2.1
  have hqv2 : ∀ q ∈ q2, q.valid = true := fun q hq => (hqs2 q hq).1
  simp
  refine wCall_drawL (hnx 2 (by omega) (by omega)) (l := l) (at_ := at3) ha3 hl (by simp [b3]) (.inl (by omega)) fun v at4 n6 hv ha4 hn6 => ?_
  obtain ⟨x, rfl, hx0, hx1⟩ := hv
  simp at hn6
  have lm : ∀ l : List Pred, ∀ y ∈ l.map Pred.v, (lc y).length = 6 := fun l y hy => by
    obtain ⟨p, _, rfl⟩ := List.mem_map.1 hy
    rfl
  have rest : ∀ {T : Nat → Value} {q : List Pred}, q.length ≤ 64 → (∀ p ∈ q, p.valid = true) → (∀ p ∈ q, p.wf) → T 2 = ptr nx 0 → T 3 = ptr (nx + 1) 0 → T 5 = ptr (nx + 1 + 1) 0 → T 7 = ptr n4 0 → T 9 = lin tP (q.map Pred.v) →
      ∀ {H2 : Nat → Option (List Value)} {c1 c2 : List Value}, H2 nx = some c1 → H2 (nx + 1) = some c2 → c1.length = 8 → c2.length = 8 → H2 (nx + 1 + 1) = some (dk l at4) → H2 n4 = some a.cells → Own nx H H2 →
      wpc (PCalls P) P (fun _ => False) nx (law09_made_BC_j2 tS ro nx_) (fin nx [RV.cA 2 8, RV.cA 3 8, RV.t 4] fun r H' nx' => Made9 l H nx r H' nx') ⟨T, H2, n6⟩ := by
    intro T q hq hqv' hqw' f2 f3 f5 f7 f9 H2 c1 c2 h1 h2 hl1 hl2 h3 h4 hown
    exact made9_j2 hro hnx hl hw (hA.ok hqv hqw) hq hqv' hqw' ha4 (by omega) (by show n4 < n6; omega) f2 f3 f5 f7 f9 h1 h2 hl1 hl2 h3 h4 hown
  by_cases hx : x = 0
  · simp [hx, ← List.map_append, lm]
    refine ⟨by omega, by omega, by omega, by omega, ?_⟩
    refine rest (q := qs ++ q2) (by rw [List.length_append]; omega) (fun p hp => (List.mem_append.1 hp).elim (hqv p) (hqv2 p)) (fun p hp => (List.mem_append.1 hp).elim (hqw p) (hqw2 p)) (by simp) (by simp) (by simp) (by simp) (by simp) (by simp [a2, b1]; exact rfl) (by simp [a3, b2, a6]; exact rfl) rfl rfl (by simp) (by simp [b4]) ?_
    simp [p1, p2, p3]
  · have hx' : (x == 0) = false := by simp [hx]
    simp [hx']
    refine rest (q := q2) (by omega) hqv2 hqw2 (by simp) (by simp) (by simp) (by simp) (by simp) (by simp [a2, b1]; exact rfl) (by simp [a3, b2, a6]; exact rfl) rfl rfl (by simp) (by simp [b4]) ?_
    simp [p1, p2, p3]
end Go.PE
namespace Go.PE
open Go
theorem leastF_in {a : Aut} (h : Vw a) (hn : a.none = false) : (leastF a).valid = true ∧ PE.inP a (leastF a) := by
  have hg := h.1.rg hn
  obtain ⟨f1, f2, _⟩ := h.1.full hn
  obtain ⟨s1, s2, _⟩ := tz_spec h.wf.zu f1
  obtain ⟨t1, t2, _⟩ := tz_spec h.wf.lu f2
  have t3 := hg.lt32 h.wf.lu t2
  have hS := h.1.S_fr hn
  have h1 := hg.f; have h2 := hg.ft; have h3 := hg.t
  have hnm : nameV (if a.holder = noName then nmA else a.holder) = true := by
    split
    · exact nmA_ok
    · rcases hg.h with h | h
      · rename_i h4; exact absurd h h4
      · exact h
  obtain ⟨hv, hi⟩ := mkCtx_inP hn hg h.wf (z := tz a.zones) (l := tz a.lines) (m := a.fr) (n := if a.holder = noName then nmA else a.holder) s1 t3 ⟨h1, by omega⟩ hnm
  refine ⟨hv, hi.2 ⟨s2, t2, ?_, hS⟩⟩
  split
  · rename_i h4; exact .inl h4
  · exact .inr rfl
/-- a name before another one, or the same -/
def hLe (x y : ByteArray) : Prop := x.size < y.size ∨ (x.size = y.size ∧ (Op.bytesLess x.toList y.toList || x.toList == y.toList) = true)
theorem hLe.refl (x : ByteArray) : hLe x x := .inr ⟨rfl, by simp⟩
theorem list1 {y : ByteArray} (h : y.size = 1) : ∃ u, y.toList = [u] ∧ y[0]? = some u := by
  have e : y.toList = y.data.toList := by simp [ByteArray.toList_eq]
  have hl : y.data.toList.length = 1 := by simpa using h
  obtain ⟨u, hu⟩ := List.length_eq_one_iff.1 hl
  refine ⟨u, by rw [e, hu], ?_⟩
  have h0 : 0 < y.size := by omega
  rw [getElem?_pos y 0 h0]
  congr 1
  show y.data[0] = u
  rw [← Array.getElem_toList]
  simp [hu]
theorem nmB_list : nmB.toList = [98] := by simp [ByteArray.toList_eq, nmB]
theorem nameV_first {y : ByteArray} (h : nameV y = true) (h1 : y.size = 1) : ∃ u : UInt8, y.toList = [u] ∧ 97 ≤ u.toNat := by
  obtain ⟨u, hu, hu2⟩ := list1 h1
  refine ⟨u, hu, ?_⟩
  simp only [nameV, Bool.and_eq_true] at h
  have := List.all_eq_true.1 h.2 0 (by rw [h1]; simp)
  rw [hu2] at this
  simp [letter] at this
  exact this.1
theorem le1 {x u : UInt8} (h : x.toNat ≤ u.toNat) : (Op.bytesLess [x] [u] || [x] == [u]) = true := by
  by_cases e : x = u
  · subst e; simp
  · have : x < u := by
      rw [UInt8.lt_iff_toNat_lt]
      have : x.toNat ≠ u.toNat := fun h2 => e (UInt8.toNat.inj h2)
      omega
    simp [Op.bytesLess, this]
theorem nmA_le {y : ByteArray} (h : nameV y = true) : hLe nmA y := by
  have h1 : 1 ≤ y.size := by simp only [nameV, Bool.and_eq_true, decide_eq_true_eq] at h; exact h.1.1
  rcases Nat.lt_or_ge 1 y.size with h2 | h2
  · exact .inl h2
  · right
    obtain ⟨u, hu, hu2⟩ := nameV_first h (by omega)
    refine ⟨by show 1 = y.size; omega, ?_⟩
    rw [nmA_list, hu]
    exact le1 (by show 97 ≤ u.toNat; exact hu2)
theorem nmB_le {y : ByteArray} (h : nameV y = true) (hne : y ≠ nmA) : hLe nmB y := by
  have h1 : 1 ≤ y.size := by simp only [nameV, Bool.and_eq_true, decide_eq_true_eq] at h; exact h.1.1
  rcases Nat.lt_or_ge 1 y.size with h2 | h2
  · exact .inl h2
  · right
    obtain ⟨u, hu, hu2⟩ := nameV_first h (by omega)
    have hu3 : u ≠ 97 := fun e => hne ((toL_iff _ _).1 (by rw [hu, nmA_list, e]))
    refine ⟨by show 1 = y.size; omega, ?_⟩
    rw [nmB_list, hu]
    refine le1 ?_
    have : u.toNat ≠ 97 := fun e => hu3 (UInt8.toNat.inj e)
    show 98 ≤ u.toNat
    omega
/-- a context before another one, or the same -/
def cLe (c z : Ctx) : Prop := c.zone < z.zone ∨ (c.zone = z.zone ∧ (c.line < z.line ∨ (c.line = z.line ∧ (c.minute < z.minute ∨ (c.minute = z.minute ∧ hLe c.holder z.holder)))))
theorem cLe_of {c z : Ctx} (h1 : c.zone ≤ z.zone) (h2 : c.zone = z.zone → c.line ≤ z.line) (h3 : c.zone = z.zone → c.line = z.line → c.minute ≤ z.minute) (h4 : c.zone = z.zone → c.line = z.line → c.minute = z.minute → hLe c.holder z.holder) : cLe c z := by
  rcases Int.lt_or_eq_of_le h1 with e1 | e1
  · exact .inl e1
  · refine .inr ⟨e1, ?_⟩
    rcases Int.lt_or_eq_of_le (h2 e1) with e2 | e2
    · exact .inl e2
    · refine .inr ⟨e2, ?_⟩
      rcases Int.lt_or_eq_of_le (h3 e1 e2) with e3 | e3
      · exact .inl e3
      · exact .inr ⟨e3, h4 e1 e2 e3⟩
structure WitS (a b : Aut) (r : Ctx × Bool) : Prop where
  yes : r.2 = true → r.1.valid = true ∧ PE.inP a r.1 ∧ ¬ PE.inP b r.1 ∧ ∀ z : Ctx, z.valid = true → PE.inP a z → ¬ PE.inP b z → cLe r.1 z
  no : r.2 = false → ∀ z : Ctx, z.valid = true → PE.inP a z → PE.inP b z
theorem bit_min {x : Int} (hx : isU64 x) (h : x ≠ 0) {j : Int} (h0 : 0 ≤ j) (hj : tb x j.toNat = true) : (tz x : Int) ≤ j := by
  apply Classical.byContradiction
  intro hn
  have := (tz_spec hx h).2.2 j.toNat (by omega)
  rw [hj] at this; cases this
theorem wit_spec {a b : Aut} {m : Int} {o : Bool} (va : Vw a) (vb : Vw b) (hq : MinQ a b m o) : WitS a b (witF a b m o) := by
  have ho1 := (okA_iff a).2 va.1
  have ho2 := (okA_iff b).2 vb.1
  cases hn : a.none with
  | true =>
    have e : witF a b m o = (zeroC, false) := if_pos fun h => by rw [hn] at h; cases h.2.2
    rw [e]
    exact ⟨fun h => (by cases h), fun _ z _ hz => by have := hz.n; rw [hn] at this; cases this⟩
  | false =>
  have h0 : ¬ ¬ (okA a = true ∧ okA b = true ∧ a.none = false) := fun h => h ⟨ho1, ho2, hn⟩
  have ga := va.1.rg hn
  obtain ⟨fz, fl, _⟩ := va.1.full hn
  obtain ⟨v0, i0⟩ := leastF_in va hn
  have hS := va.1.S_fr hn
  have rng : ∀ {z : Ctx}, z.valid = true → 0 ≤ z.zone ∧ 0 ≤ z.line := fun {z} hz => by
    obtain ⟨h1, _, h2, _⟩ := (Ctx.valid_iff z).1 hz
    exact ⟨h1, h2⟩
  have nmz : ∀ {z : Ctx}, z.valid = true → nameV z.holder = true := fun {z} hz => ((Ctx.valid_iff z).1 hz).2.2.2.2.2.2
  have zmin : ∀ {z : Ctx}, z.valid = true → PE.inP a z → (leastF a).zone ≤ z.zone := fun {z} hz hi => bit_min va.wf.zu fz (rng hz).1 hi.z
  have lmin : ∀ {z : Ctx}, z.valid = true → PE.inP a z → (leastF a).line ≤ z.line := fun {z} hz hi => bit_min va.wf.lu fl (rng hz).2 hi.l
  have mmin : ∀ {z : Ctx}, PE.inP a z → (leastF a).minute ≤ z.minute := fun {z} hi => hi.S.1
  have hmin : ∀ {z : Ctx}, z.valid = true → PE.inP a z → hLe (leastF a).holder z.holder := fun {z} hz hi => by
    show hLe (if a.holder = noName then nmA else a.holder) z.holder
    split
    · exact nmA_le (nmz hz)
    · rename_i h4
      rcases hi.h with h | h
      · exact absurd h h4
      · rw [h]; exact hLe.refl _
  have le0 : ∀ z : Ctx, z.valid = true → PE.inP a z → ¬ PE.inP b z → cLe (leastF a) z := fun z hz hi _ => cLe_of (zmin hz hi) (fun _ => lmin hz hi) (fun _ _ => mmin hi) (fun _ _ _ => hmin hz hi)
  have yes0 : ¬ PE.inP b (leastF a) → WitS a b (leastF a, true) := fun h => ⟨fun _ => ⟨v0, i0, h, le0⟩, fun h => by cases h⟩
  have cz : (leastF a).zone.toNat = tz a.zones := by show ((tz a.zones : Nat) : Int).toNat = _; omega
  have cl : (leastF a).line.toNat = tz a.lines := by show ((tz a.lines : Nat) : Int).toNat = _; omega
  unfold witF
  rw [if_neg h0]
  cases hbn : b.none with
  | true =>
    rw [if_pos rfl]
    exact yes0 fun h => by have := h.n; rw [hbn] at this; cases this
  | false =>
  rw [if_neg (by simp)]
  have hm := hq ho1 ho2 hn hbn
  have gb := vb.1.rg hbn
  by_cases hZ : dZ a b ≠ 0 ∧ tz (dZ a b) = tz a.zones
  · rw [if_pos hZ]
    have := (first_iff va.wf.zu vb.wf.zu fz).1 hZ
    exact yes0 fun h => by have h2 := h.z; rw [cz, this] at h2; cases h2
  rw [if_neg hZ]
  have hZb : tb b.zones (tz a.zones) = true := by
    cases h : tb b.zones (tz a.zones) with
    | true => rfl
    | false => exact absurd ((first_iff va.wf.zu vb.wf.zu fz).2 h) hZ
  by_cases hY : dL a b ≠ 0 ∧ tz (dL a b) = tz a.lines
  · rw [if_pos hY]
    have := (first_iff va.wf.lu vb.wf.lu fl).1 hY
    exact yes0 fun h => by have h2 := h.l; rw [cl, this] at h2; cases h2
  rw [if_neg hY]
  have hYb : tb b.lines (tz a.lines) = true := by
    cases h : tb b.lines (tz a.lines) with
    | true => rfl
    | false => exact absurd ((first_iff va.wf.lu vb.wf.lu fl).2 h) hY
  by_cases hmf : o = true ∧ m = a.fr
  · have e : beh a b m o (leastF a) = (leastF a, true) := if_pos hmf
    rw [e, if_pos rfl]
    exact yes0 fun h => (min_fr hm hS).1 hmf h.S
  have hbS : b.S a.fr := Classical.byContradiction fun h => hmf ((min_fr hm hS).2 h)
  -- the same zone and line: b has them
  have bz : ∀ {z : Ctx}, (leastF a).zone = z.zone → tb b.zones z.zone.toNat = true := fun {z} h => by rw [← h, cz]; exact hZb
  have bl : ∀ {z : Ctx}, (leastF a).line = z.line → tb b.lines z.line.toNat = true := fun {z} h => by rw [← h, cl]; exact hYb
  cases ht : (othF a b).2 with
  | true =>
    have e : beh a b m o (leastF a) = ({ leastF a with holder := (othF a b).1 : Ctx }, true) := by unfold beh; rw [if_neg hmf, if_pos ht]
    rw [e, if_pos rfl]
    have hne : ¬ (b.holder = noName ∨ a.holder = b.holder) := fun h => by unfold othF at ht; rw [if_pos h] at ht; cases ht
    have hh : (a.holder ≠ noName ∧ (othF a b).1 = a.holder) ∨ (a.holder = noName ∧ b.holder = nmA ∧ (othF a b).1 = nmB) ∨ (a.holder = noName ∧ b.holder ≠ nmA ∧ (othF a b).1 = nmA) := by
      unfold othF
      rw [if_neg hne]
      by_cases h1 : a.holder = noName
      · rw [if_neg (by simp [h1])]
        by_cases h2 : b.holder = nmA
        · rw [if_pos h2]; exact .inr (.inl ⟨h1, h2, rfl⟩)
        · rw [if_neg h2]; exact .inr (.inr ⟨h1, h2, rfl⟩)
      · rw [if_pos h1]; exact .inl ⟨h1, rfl⟩
    generalize (othF a b).1 = w at hh
    have hwa : a.holder = noName ∨ a.holder = w := by rcases hh with ⟨_, h⟩ | ⟨h, _⟩ | ⟨h, _⟩; exact .inr h.symm; exact .inl h; exact .inl h
    have hwb : w ≠ b.holder := by
      rcases hh with ⟨h, rfl⟩ | ⟨_, h, rfl⟩ | ⟨_, h, rfl⟩
      · exact fun e => hne (.inr e)
      · rw [h]; exact fun e => nmAB e.symm
      · exact fun e => h e.symm
    have hwn : nameV w = true := by
      rcases hh with ⟨h, rfl⟩ | ⟨_, _, rfl⟩ | ⟨_, _, rfl⟩
      · rcases ga.h with h2 | h2
        · exact absurd h2 h
        · exact h2
      · exact nmB_ok
      · exact nmA_ok
    have hv : ({ leastF a with holder := w : Ctx }).valid = true := by
      rw [Ctx.valid_iff] at v0 ⊢
      exact ⟨v0.1, v0.2.1, v0.2.2.1, v0.2.2.2.1, v0.2.2.2.2.1, v0.2.2.2.2.2.1, hwn⟩
    refine ⟨fun _ => ⟨hv, ⟨i0.n, hv, i0.z, i0.l, hwa, i0.S⟩, fun h => ?_, fun z hz hi hnb => ?_⟩, fun h => by cases h⟩
    · rcases h.h with h2 | h2
      · exact hne (.inl h2)
      · exact hwb h2.symm
    · refine cLe_of (zmin hz hi) (fun _ => lmin hz hi) (fun _ _ => mmin hi) (fun k1 k2 k3 => ?_)
      have k3 : a.fr = z.minute := k3
      have hzb : z.holder ≠ b.holder := fun e => hnb ⟨hbn, hz, bz k1, bl k2, .inr e.symm, by rw [← k3]; exact hbS⟩
      show hLe w z.holder
      rcases hh with ⟨h, rfl⟩ | ⟨_, h, rfl⟩ | ⟨_, h, rfl⟩
      · rcases hi.h with h2 | h2
        · exact absurd h2 h
        · rw [h2]; exact hLe.refl _
      · exact nmB_le (nmz hz) (by rw [← h]; exact hzb)
      · exact nmA_le (nmz hz)
  | false =>
  have ht' : ¬ (othF a b).2 = true := by rw [ht]; simp
  have hhb : ∀ {z : Ctx}, PE.inP a z → b.holder = noName ∨ b.holder = z.holder := fun {z} hi => by
    by_cases h1 : b.holder = noName ∨ a.holder = b.holder
    · rcases h1 with h1 | h1
      · exact .inl h1
      · rcases hi.h with h2 | h2
        · exact .inl (h1.symm.trans h2)
        · exact .inr (h1.symm.trans h2)
    · exfalso
      unfold othF at ht
      rw [if_neg h1] at ht
      split at ht
      · cases ht
      · split at ht <;> cases ht
  rcases hm with ⟨rfl, m1, m2, m3⟩ | ⟨rfl, rfl, m1⟩
  · have e : beh a b m true (leastF a) = ({ leastF a with minute := m : Ctx }, true) := by unfold beh; rw [if_neg hmf, if_neg ht', if_pos rfl]
    rw [e, if_pos rfl]
    have hr := ga.minute m1
    have hv : ({ leastF a with minute := m : Ctx }).valid = true := by
      rw [Ctx.valid_iff] at v0 ⊢
      exact ⟨v0.1, v0.2.1, v0.2.2.1, v0.2.2.2.1, hr.1, hr.2, v0.2.2.2.2.2.2⟩
    refine ⟨fun _ => ⟨hv, ⟨i0.n, hv, i0.z, i0.l, i0.h, m1⟩, fun h => m2 h.S, fun z hz hi hnb => ?_⟩, fun h => by cases h⟩
    refine cLe_of (zmin hz hi) (fun _ => lmin hz hi) (fun k1 k2 => ?_) (fun _ _ _ => hmin hz hi)
    exact m3 _ hi.S fun h => hnb ⟨hbn, hz, bz k1, bl k2, hhb hi, h⟩
  · have e : beh a b 0 false (leastF a) = (leastF a, false) := by unfold beh; rw [if_neg hmf, if_neg ht', if_neg (by simp)]
    rw [e, if_neg (by simp)]
    have nl : isU64 (dL a b) := not_isU64
    have nz : isU64 (dZ a b) := not_isU64
    by_cases hy : dL a b ≠ 0
    · rw [if_pos hy]
      obtain ⟨s1, s2, s3⟩ := tz_spec nl hy
      have sb : (tb a.lines (tz (dL a b)) && !tb b.lines (tz (dL a b))) = true := by rw [← tb_not va.wf.lu vb.wf.lu]; exact s2
      simp only [Bool.and_eq_true, Bool.not_eq_true'] at sb
      have h32 := ga.lt32 va.wf.lu sb.1
      have hv : ({ leastF a with line := tz (dL a b) : Ctx }).valid = true := by
        rw [Ctx.valid_iff] at v0 ⊢
        exact ⟨v0.1, v0.2.1, by show (0 : Int) ≤ (tz (dL a b) : Nat); omega, by show ((tz (dL a b) : Nat) : Int) ≤ 31; omega, v0.2.2.2.2⟩
      refine ⟨fun _ => ⟨hv, ⟨i0.n, hv, i0.z, by simpa using sb.1, i0.h, i0.S⟩, fun h => ?_, fun z hz hi hnb => ?_⟩, fun h => by cases h⟩
      · have h2 := h.l
        simp [sb.2] at h2
      · refine cLe_of (zmin hz hi) (fun k1 => ?_) (fun _ _ => mmin hi) (fun _ _ _ => hmin hz hi)
        refine bit_min nl hy (rng hz).2 ?_
        show tb (bitsV .andNot .u64 a.lines b.lines) _ = true
        rw [tb_not va.wf.lu vb.wf.lu, hi.l]
        cases h : tb b.lines z.line.toNat with
        | false => rfl
        | true => exact absurd ⟨hbn, hz, bz k1, h, hhb hi, m1 _ hi.S⟩ hnb
    · rw [if_neg hy]
      have hy : dL a b = 0 := Classical.not_not.1 hy
      have la : ∀ {z : Ctx}, PE.inP a z → tb b.lines z.line.toNat = true := fun {z} hi => by
        have h := tb_not va.wf.lu vb.wf.lu z.line.toNat
        rw [show bitsV .andNot .u64 a.lines b.lines = 0 from hy, tb_0, hi.l] at h
        simpa using h
      by_cases hx : dZ a b ≠ 0
      · rw [if_pos hx]
        obtain ⟨s1, s2, s3⟩ := tz_spec nz hx
        have sb : (tb a.zones (tz (dZ a b)) && !tb b.zones (tz (dZ a b))) = true := by rw [← tb_not va.wf.zu vb.wf.zu]; exact s2
        simp only [Bool.and_eq_true, Bool.not_eq_true'] at sb
        have hv : ({ leastF a with zone := tz (dZ a b) : Ctx }).valid = true := by
          rw [Ctx.valid_iff] at v0 ⊢
          exact ⟨by show (0 : Int) ≤ (tz (dZ a b) : Nat); omega, by show ((tz (dZ a b) : Nat) : Int) ≤ 63; omega, v0.2.2⟩
        refine ⟨fun _ => ⟨hv, ⟨i0.n, hv, by simpa using sb.1, i0.l, i0.h, i0.S⟩, fun h => ?_, fun z hz hi hnb => ?_⟩, fun h => by cases h⟩
        · have h2 := h.z
          simp [sb.2] at h2
        · refine cLe_of ?_ (fun _ => lmin hz hi) (fun _ _ => mmin hi) (fun _ _ _ => hmin hz hi)
          refine bit_min nz hx (rng hz).1 ?_
          show tb (bitsV .andNot .u64 a.zones b.zones) _ = true
          rw [tb_not va.wf.zu vb.wf.zu, hi.z]
          cases h : tb b.zones z.zone.toNat with
          | false => rfl
          | true => exact absurd ⟨hbn, hz, h, la hi, hhb hi, m1 _ hi.S⟩ hnb
      · rw [if_neg hx]
        have hx : dZ a b = 0 := Classical.not_not.1 hx
        refine ⟨fun h => (by cases h), fun _ z hz hi => ⟨hbn, hz, ?_, la hi, hhb hi, m1 _ hi.S⟩⟩
        have h := tb_not va.wf.zu vb.wf.zu z.zone.toNat
        rw [show bitsV .andNot .u64 a.zones b.zones = 0 from hx, tb_0, hi.z] at h
        simpa using h
end Go.PE
namespace Go.PE
open Go
def exP : Pred := ⟨6, 0, 0, 0, nmA, 0⟩
theorem exP_ok : exP.valid = true ∧ exP.wf := by
  refine ⟨by decide, ?_⟩
  unfold Pred.wf exP
  decide
theorem exP_in {a : Aut} (h : IsOf [exP] a) {c : Ctx} (hc : c.valid = true) : PE.inP a c ↔ c.holder = nmA := by
  rw [h.inP (by simp [exP_ok.1]) (by simp [exP_ok.2]) hc]
  simp only [List.mem_cons, List.not_mem_nil, or_false, forall_eq]
  show (nmA == c.holder) = true ↔ _
  constructor
  · intro h; have : nmA = c.holder := by simpa using h
    exact this.symm
  · intro h; rw [h]; simp
def exC : Ctx := ⟨0, 0, 0, nmB⟩
theorem exC_ok : exC.valid = true := by decide
/-- the first context that is not of the holder a -/
theorem ex_wit {a : Aut} (h : IsOf [exP] a) {m : Int} {o : Bool} (hq : MinQ fullA a m o) : witF fullA a m o = (exC, true) := by
  have va : Vw a := h.ok (by simp [exP_ok.1]) (by simp [exP_ok.2])
  have hs := wit_spec fullA_ok va hq
  have hx : ¬ PE.inP a exC := fun hi => by have := (exP_in h exC_ok).1 hi; exact absurd this (by decide)
  have h2 : (witF fullA a m o).2 = true := by
    cases e : (witF fullA a m o).2 with
    | true => rfl
    | false => exact absurd (hs.no e exC exC_ok (fullA_inP exC_ok)) hx
  obtain ⟨v, i, n, l⟩ := hs.yes h2
  have hl := l exC exC_ok (fullA_inP exC_ok) hx
  generalize witF fullA a m o = wr at *
  obtain ⟨c, r⟩ := wr
  obtain rfl : r = true := h2
  simp only at v i n hl
  have hn : c.holder ≠ nmA := fun e => n ((exP_in h v).2 e)
  obtain ⟨z0, _, l0, _, m0, _, nm⟩ := (Ctx.valid_iff c).1 v
  have k : c.zone = 0 ∧ c.line = 0 ∧ c.minute = 0 ∧ hLe c.holder nmB := by
    have e1 : exC.zone = 0 := rfl
    have e2 : exC.line = 0 := rfl
    have e3 : exC.minute = 0 := rfl
    have e4 : exC.holder = nmB := rfl
    unfold cLe at hl
    rw [e1, e2, e3, e4] at hl
    rcases hl with h | ⟨k1, h⟩
    · omega
    rcases h with h | ⟨k2, h⟩
    · omega
    rcases h with h | ⟨k3, h⟩
    · omega
    exact ⟨k1, k2, k3, h⟩
  have hb : c.holder = nmB := by
    have hsz : 1 ≤ c.holder.size := by simp only [nameV, Bool.and_eq_true, decide_eq_true_eq] at nm; exact nm.1.1
    have hs1 : nmB.size = 1 := rfl
    rcases k.2.2.2 with h | ⟨h, h'⟩
    · omega
    · obtain ⟨u, hu, hu2⟩ := nameV_first nm (by omega)
      have hu3 : u ≠ 97 := fun e => hn ((toL_iff _ _).1 (by rw [hu, nmA_list, e]))
      have hu4 : u = 98 := by
        rw [hu, nmB_list] at h'
        simp only [Op.bytesLess, Bool.or_eq_true, Bool.and_eq_true, decide_eq_true_eq, beq_iff_eq, List.cons.injEq, and_true, Bool.false_eq_true, and_false, or_false] at h'
        rcases h' with h' | h'
        · rw [UInt8.lt_iff_toNat_lt] at h'
          have : u.toNat ≠ 97 := fun e => hu3 (UInt8.toNat.inj e)
          have h98 : (98 : UInt8).toNat = 98 := rfl
          omega
        · exact h'
      exact (toL_iff _ _).1 (by rw [hu, nmB_list, hu4])
  obtain ⟨cz, cl, cm, ch⟩ := c
  simp only at k hb
  rw [k.1, k.2.1, k.2.2.1, hb]
  rfl
theorem ex_win {a : Aut} (h : IsOf [exP] a) {m : Int} {o : Bool} (hq : MinQ a fullA m o) : winF a fullA m o = true := by
  have va : Vw a := h.ok (by simp [exP_ok.1]) (by simp [exP_ok.2])
  have hs := wit_spec va fullA_ok hq
  unfold winF
  rw [(okA_iff a).2 va.1, (okA_iff fullA).2 fullA_ok.1]
  cases e : (witF a fullA m o).2 with
  | false => rfl
  | true =>
    obtain ⟨v, _, n, _⟩ := hs.yes e
    exact absurd (fullA_inP v) n
def Aw09OK (P : Program) (f g gd : Nat) : Prop := ∀ (H : Nat → Option (List Value)) (nx : Nat), LV g gd H nx → PCalls P f [] H nx (fun _ => False) (fun r H' _ => r = .bool true ∧ H' = H)
theorem awake9_ok {P : Program} {f g gd tP of_ tS fu wi wn : Nat} (hc : compFnX P [3000000] f = some (28, law09_awake_BC tP of_ tS fu wi wn, [.t 0])) (hof : AOfOK P of_ g) (hfu : FullOK P fu) (hwi : WitOK P wi g gd) (hwn : WinOK P wn g gd) : Aw09OK P f g gd := by
  intro H nx hL
  refine PCalls_ofX hc (by simp) fun hw => ?_
  have t1 : [exP].map Pred.v = [exP.v] := rfl
  have p1 : (ag [.int .i64 6, .int .u64 0, .int .i64 0, .int .i64 0, .string ⟨#[97]⟩, .int .i64 0] : Value) = exP.v := rfl
  simp [law09_awake_BC, p1]
  refine wCall_eq (Q := fun r => ofR [exP] r) (hof [exP] (by simp [exP_ok.2]) (by simp [maxLen]) _ _ hL.b hL.bn) fun r n1 hr hn1 => ?_
  obtain ⟨a, e, rfl, hE⟩ := ofR_E hr
  obtain ⟨hA, rfl⟩ := ofE_valid hE (by simp) (by simp [exP_ok.1])
  have va : Vw a := hA.ok (by simp [exP_ok.1]) (by simp [exP_ok.2])
  simp at hn1
  have q1 : nx ≤ n1 := by omega
  have hL1 : LV g gd (upd H n1 (some a.cells)) (n1 + 1) := hL.up q1 (by omega)
  obtain ⟨m, o, hm⟩ := MinQ.ex fullA a
  obtain ⟨m2, o2, hm2⟩ := MinQ.ex a fullA
  have hwit := hwi fullA a fullA_ok.2.1 va.wf m o hm
  rw [ex_wit hA hm] at hwit
  have hwin := hwn a fullA va.wf fullA_ok.2.1 m2 o2 hm2
  rw [ex_win hA hm2] at hwin
  have full : ∀ {s : PS} {d : Option Nat} {K : PS → Prop}, (∀ n, s.nx ≤ n → K ⟨(s.putO d fullA.v).t, s.H, n⟩) → wCall (PCalls P) (fun _ => False) nx fu [] d s K := by
    intro s d K hK
    refine wCall_eq (Q := fun r => r = fullA.v) (hfu _ _) fun r n hr hn => ?_
    subst hr
    exact hK n hn
  have wit : ∀ {s : PS} {d : Option Nat} {K : PS → Prop}, LV g gd s.H s.nx → (∀ n, s.nx ≤ n → K ⟨(s.putO d (tup [exC.v, .bool true])).t, s.H, n⟩) → wCall (PCalls P) (fun _ => False) nx wi [fullA.v, a.v] d s K := by
    intro s d K h1 hK
    refine wCall_eq (Q := fun r => r = tup [exC.v, .bool true]) (hwit _ _ h1) fun r n hr hn => ?_
    subst hr
    exact hK n hn
  have last : ∀ {T2 : Nat → Value} {k n2 : Nat}, n1 < k → k < n2 → T2 1 = ptr n1 0 → T2 3 = ptr k 0 → T2 4 = .bool true →
      wpc (PCalls P) P (fun _ => False) nx (law09_awake_BC_j1 fu wn) (fin nx [RV.t 0] fun r H' _ => r = .bool true ∧ H' = H) ⟨T2, upd (upd H n1 (some a.cells)) k (some exC.cells), n2⟩ := by
    intro T2 k n2 hk hn2 f1 f3 f4
    have k1 : ¬ n1 = k := by omega
    have k2 : nx ≤ k := by omega
    have hLk : LV g gd (upd (upd H n1 (some a.cells)) k (some exC.cells)) n2 := hL1.up (by omega) (by omega)
    have e1 : exC.cells = [.int .i64 0, .int .i64 0, .int .i64 0, .string ⟨#[98]⟩] := rfl
    simp [law09_awake_BC_j1, f1, f3, f4, k1, e1]
    refine wmCall_of fullA.v (fun n H2 hn hH => hfu H2 n) ?_
    simp [f1, k1, Aut.ag]
    refine wmCall_of (.bool true) (fun n H2 hn hH => hwin H2 n (by rw [← e1] at hH; exact hLk.le hH hn)) ?_
    simp
    intro n hn
    exact wF_own hw (by simp [q1, k2]) ⟨rfl, rfl⟩
  simp [q1, Aut.ag]
  repeat' first
    | refine And.intro ?_ ?_
    | (refine full fun n hn => ?_
       simp at hn
       simp [q1, Aut.ag, show nx ≤ n by omega, show ¬ n1 = n by omega, show ¬ n1 = n + 1 by omega])
    | (refine wit (hL1.nx (by simp <;> omega)) fun n hn => ?_
       simp at hn
       simp [q1, Aut.ag, show nx ≤ n by omega, show ¬ n1 = n by omega])
    | (refine wit ((hL1.up (Nat.le_refl _) (Nat.le_succ _)).nx (by simp <;> omega)) fun n hn => ?_
       simp at hn
       simp [q1, Aut.ag, show nx ≤ n1 + 1 by omega])
    | (refine wit ((hL1.up (by assumption) (by omega)).nx (by simp <;> omega)) fun n hn => ?_
       simp at hn
       simp [q1, Aut.ag])
    | (exact last (by omega) (by omega) rfl rfl rfl)
    | omega
    | fail "stuck"
end Go.PE
namespace Go.PE
open Go
end Go.PE
namespace Go.PE
open Go
noncomputable def mOf (a b : Aut) : Int := Classical.choose (MinQ.ex a b)
noncomputable def oOf (a b : Aut) : Bool := Classical.choose (Classical.choose_spec (MinQ.ex a b))
theorem mo_ok (a b : Aut) : MinQ a b (mOf a b) (oOf a b) := Classical.choose_spec (Classical.choose_spec (MinQ.ex a b))
/-- what Within answers -/
noncomputable def wiB (a b : Aut) : Bool := winF a b (mOf a b) (oOf a b)
theorem WinOK.B {P : Program} {f g gd : Nat} (h : WinOK P f g gd) {a b : Aut} (ha : a.wf) (hb : b.wf) (H : Nat → Option (List Value)) (nx : Nat) (hL : LV g gd H nx) : PCalls P f [a.v, b.v] H nx (fun _ => False) (fun r H' _ => r = .bool (wiB a b) ∧ H' = H) := h a b ha hb _ _ (mo_ok a b) H nx hL
theorem RWinOK.B {P : Program} {f : Nat} (h : RWinOK P f) {a b : Aut} (ha : a.wf) (hb : b.wf) (H : Nat → Option (List Value)) (nx : Nat) : PCalls P f [a.v, b.v] H nx (fun _ => False) (fun r H' _ => r = .bool (wiB a b) ∧ H' = H) := h a b ha hb _ _ (mo_ok a b) H nx
theorem wiB_iff {a b : Aut} (ha : Vw a) (hb : Vw b) : wiB a b = true ↔ ∀ z : Ctx, z.valid = true → PE.inP a z → PE.inP b z := by
  have hw := wit_spec ha hb (mo_ok a b)
  have h1 := (okA_iff a).2 ha.1
  have h2 := (okA_iff b).2 hb.1
  have e : wiB a b = !(witF a b (mOf a b) (oOf a b)).2 := by unfold wiB winF; rw [h1, h2]; rfl
  rw [e, Bool.not_eq_true']
  constructor
  · exact hw.no
  · intro h
    rw [Bool.eq_false_iff]
    intro h3
    obtain ⟨k1, k2, k3, _⟩ := hw.yes h3
    exact k3 (h _ k1 k2)
theorem wiB_trans {a b c : Aut} (ha : Vw a) (hb : Vw b) (hc : Vw c) (h1 : wiB a b = true) (h2 : wiB b c = true) : wiB a c = true :=
  (wiB_iff ha hc).2 fun z hz h => (wiB_iff hb hc).1 h2 z hz ((wiB_iff ha hb).1 h1 z hz h)
theorem wiB_antisymm {a b : Aut} (ha : Vw a) (hb : Vw b) (h1 : wiB a b = true) (h2 : wiB b a = true) : a = b :=
  VA.ext ha.1 hb.1 ha.wf hb.wf fun z hz => ⟨(wiB_iff ha hb).1 h1 z hz, (wiB_iff hb ha).1 h2 z hz⟩
end Go.PE
namespace Go.PE
open Go
end Go.PE
namespace Go.PE
open Go
end Go.PE
namespace Go.PE
open Go
end Go.PE
namespace Go.PE
open Go
theorem meet_win {x y m : Aut} (h : MeetR x y m) (hx : Vw x) (hy : Vw y) : wiB x y = decide (m = x) := by
  rw [Bool.eq_iff_iff, decide_eq_true_eq]
  constructor
  · intro k
    exact h.known hx hy hx fun c hc => ⟨fun hi => ⟨hi, (wiB_iff hx hy).1 k c hc hi⟩, fun h => h.1⟩
  · intro k
    refine (wiB_iff hx hy).2 fun z hz hi => ?_
    exact ((h.inP hx.1 hy.1 hx.wf hy.wf hz).1 (by rw [k]; exact hi)).2
theorem meet_l {x y m : Aut} (h : MeetR x y m) (hx : Vw x) (hy : Vw y) : wiB m x = true :=
  (wiB_iff (h.vw hx.wf hy.wf) hx).2 fun z hz hi => ((h.inP hx.1 hy.1 hx.wf hy.wf hz).1 hi).1
theorem meet_r {x y m : Aut} (h : MeetR x y m) (hx : Vw x) (hy : Vw y) : wiB m y = true :=
  (wiB_iff (h.vw hx.wf hy.wf) hy).2 fun z hz hi => ((h.inP hx.1 hy.1 hx.wf hy.wf hz).1 hi).2
set_option maxHeartbeats 4000000 in
theorem containOrder_j1 {P : Program} {g gd me wn sa aw nx : Nat} (hwn : WinOK P wn g gd) (hme : AMeetOK P me g) (hsa : SameAOK P sa) (haw : Aw09OK P aw g gd) {x y u m : Aut} (hx : Vw x) (hy : Vw y) (hu : Vw u) (hm : MeetR x u m) {s : PS} (hL : LV g gd s.H s.nx) {k5 k6 k11 k13 : Nat}
    (e5 : s.t 5 = ptr k5 0) (e6 : s.t 6 = ptr k6 0) (e11 : s.t 11 = ptr k11 0) (e13 : s.t 13 = ptr k13 0) (h5 : s.H k5 = some x.cells) (h6 : s.H k6 = some y.cells) (h11 : s.H k11 = some u.cells) (h13 : s.H k13 = some m.cells) :
    wpc (PCalls P) P (fun _ => False) nx (law09_ContainOrder_BC_j1 me wn sa aw) (fin nx [RV.t 4] fun r H' _ => r = .bool true) s := by
  obtain ⟨T, H, n⟩ := s
  simp only at hL e5 e6 e11 e13 h5 h6 h11 h13
  have vm := hm.vw hx.wf hu.wf
  obtain ⟨w, hw⟩ := MeetR.ex x y
  have vw := hw.vw hx.wf hy.wf
  have win : ∀ {a b : Aut} {s : PS} {d : Option Nat} {K : PS → Prop}, Vw a → Vw b → s.H = H → s.nx = n → K ⟨(s.putO d (.bool (wiB a b))).t, s.H, s.nx⟩ → wmCall (PCalls P) wn [a.v, b.v] d s K :=
    fun ha hb h1 h2 hK => wmCall_of _ (fun n H2 hn hH => hwn.B ha.wf hb.wf H2 n (by rw [h1] at hH; rw [h2] at hn; exact hL.le hH hn)) hK
  have met : ∀ {a b u : Aut} {s : PS} {d : Option Nat} {K : PS → Prop}, a.wf → b.wf → MeetR a b u → s.H = H → s.nx = n → K ⟨(s.putO d u.v).t, s.H, s.nx⟩ → wmCall (PCalls P) me [a.v, b.v] d s K :=
    fun ha hb hm h1 h2 hK => wmCall_of _ (fun n H2 hn hH => hme.eq ha hb hm (hH _ _ (by rw [h1]; exact hL.b)) (by have := hL.bn; omega)) hK
  have sam : ∀ {a b : Aut} {s : PS} {d : Option Nat} {K : PS → Prop}, Vw a → Vw b → K ⟨(s.putO d (.bool (decide (a = b)))).t, s.H, s.nx⟩ → wmCall (PCalls P) sa [a.v, b.v] d s K :=
    fun {a b s d K} ha hb hK => wmCall_of _ (fun n H2 hn hH => hsa a b ha.n hb.n H2 n) hK
  simp [law09_ContainOrder_BC_j1, e5, e6, e11, e13, h5, h6, h11, h13, Aut.ag]
  refine win hx hy rfl rfl ?_
  simp [e5, e6, e11, e13, h5, h6, h11, h13, Aut.ag]
  refine met hx.wf hy.wf hw rfl rfl ?_
  simp [e5, e6, e11, e13, h5, h6, h11, h13, Aut.ag]
  refine sam vw hx ?_
  simp [e5, e6, e11, e13, h5, h6, h11, h13, Aut.ag, meet_win hw hx hy]
  refine win vm hx rfl rfl ?_
  simp [e5, e6, e11, e13, h5, h6, h11, h13, Aut.ag, meet_l hm hx hu]
  refine win vm hu rfl rfl ?_
  simp [e5, e6, e11, e13, h5, h6, h11, h13, Aut.ag, meet_r hm hx hu]
  refine wmCall_of (.bool true) (fun n H2 hn hH => haw H2 n (hL.le hH hn)) ?_
  simp
  intro n hn
  exact wF_of rfl
set_option maxHeartbeats 4000000 in
theorem containOrder_ok {P : Program} {f g gd ma tS tP ps ne ro of_ me wn sa aw : Nat} (hc : compFnX P [3000000] f = some (89, law09_ContainOrder_BC ma tS ps ne ro of_ me wn sa aw, [.t 4])) (hma : Made9OK P ma) (hps : ∀ n b, 0 ≤ n → n ≤ 1000000 → Draws P ps [.int .i64 n, .bool b] (isPreds tP n b)) (hne : NewOK P ne) (hro : ROfOK P ro) (hof : AOfOK P of_ g) (hme : AMeetOK P me g) (hwn : WinOK P wn g gd) (hsa : SameAOK P sa) (haw : Aw09OK P aw g gd)
    (l how : List Int) (hl : l.length ≤ maxLen) (hh : how.length ≤ maxLen) (H : Nat → Option (List Value)) (nx : Nat) (hL : LV g gd H nx) :
    PCalls P f [deep (l.map (.int .i64)), deep (how.map (.int .i64))] H nx (fun _ => False) (fun r H' _ => r = .bool true) := by
  refine PCalls_ofX hc (by simp) fun hw => ?_
  have hmx : (maxLen : Int) = 9223372036854775807 := rfl
  have hgb := hL.b
  have hgd := hL.d
  have hgn := hL.bn
  have hdn := hL.dn
  have win : ∀ {a b : Aut} {s : PS} {d : Option Nat} {K : PS → Prop}, a.wf → b.wf → s.H g = some bitsRow → s.H gd = some dbRow → nx ≤ s.nx → (∀ n, s.nx ≤ n → K ⟨(s.putO d (.bool (wiB a b))).t, s.H, n⟩) → wCall (PCalls P) (fun _ => False) nx wn [a.v, b.v] d s K := by
    intro a b s d K h1 h2 h4 h5 h6 hK
    refine wCall_eq (Q := fun r => r = _) (hwn.B h1 h2 _ _ ⟨h4, h5, by omega, by omega⟩) fun r n hr hn => ?_
    subst hr
    exact hK n hn
  have sam : ∀ {a b : Aut} {s : PS} {d : Option Nat} {K : PS → Prop}, Vw a → Vw b → (∀ n, s.nx ≤ n → K ⟨(s.putO d (.bool (decide (a = b)))).t, s.H, n⟩) → wCall (PCalls P) (fun _ => False) nx sa [a.v, b.v] d s K := by
    intro a b s d K h1 h2 hK
    refine wCall_eq (Q := fun r => r = _) (hsa a b h1.n h2.n _ _) fun r n hr hn => ?_
    subst hr
    exact hK n hn
  have met : ∀ {a b u : Aut} {s : PS} {d : Option Nat} {K : PS → Prop}, a.wf → b.wf → MeetR a b u → s.H g = some bitsRow → nx ≤ s.nx → (∀ n, s.nx ≤ n → K ⟨(s.putO d u.v).t, s.H, n⟩) → wCall (PCalls P) (fun _ => False) nx me [a.v, b.v] d s K := by
    intro a b u s d K h1 h2 h3 h4 h6 hK
    refine wCall_eq (Q := fun r => r = u.v) (hme.eq h1 h2 h3 h4 (by omega)) fun r n hr hn => ?_
    subst hr
    exact hK n hn
  simp [law09_ContainOrder_BC]
  refine wCall_le (hma l hl _ _) fun r H1 n1 hR hn1 hown => ?_
  obtain ⟨x, y, nd, at1, rfl, hx, hy, h4, h5, h6, rfl⟩ := hR
  simp at hn1 h4 h5
  have f0 : ¬ g = nd := by omega
  have f1 : ¬ gd = nd := by omega
  have f2 : nx ≤ nd := by omega
  have f3 : ¬ g = n1 := by omega
  have f4 : ¬ gd = n1 := by omega
  have f5 : ¬ nd = n1 := by omega
  have f6 : ¬ n1 = nd := by omega
  have f7 : nx ≤ n1 := by omega
  have f8 : ¬ g = n1 + 1 := by omega
  have f9 : ¬ gd = n1 + 1 := by omega
  have f10 : ¬ nd = n1 + 1 := by omega
  have f11 : ¬ n1 = n1 + 1 := by omega
  have f12 : ¬ n1 + 1 = n1 := by omega
  have f13 : ¬ n1 + 1 = nd := by omega
  have f14 : nx ≤ n1 + 1 := by omega
  simp [f0, f1, f2, f3, f4, f5, f6, f7, f8, f9, f10, f11, f12, f13, f14, Aut.ag]
  refine wCall_drawL (hps 3 true (by omega) (by omega)) (l := l) (at_ := at1) h6 hl (by simp [f0, f1, f2, f3, f4, f5, f6, f7, f8, f9, f10, f11, f12, f13, f14]) (.inl (by omega)) fun v at2 n2 hv ha2 hn2 => ?_
  obtain ⟨qs, rfl, hql, hqs⟩ := hv
  simp at hn2
  have hqw : ∀ q ∈ qs, q.wf := fun q hq => (hqs q hq).2.1
  have hqv : ∀ q ∈ qs, q.valid = true := fun q hq => (hqs q hq).1
  simp [f0, f1, f2, f3, f4, f5, f6, f7, f8, f9, f10, f11, f12, f13, f14]
  refine wCall_le (hne how _ _) fun r H1 n2' hR hn2' _ => ?_
  obtain ⟨rfl, rfl, rfl⟩ := hR
  have f15 : ¬ g = n2 := by omega
  have f16 : ¬ gd = n2 := by omega
  have f17 : ¬ nd = n2 := by omega
  have f18 : ¬ n1 = n2 := by omega
  have f19 : ¬ n1 + 1 = n2 := by omega
  have f20 : ¬ n2 = n1 := by omega
  have f21 : ¬ n2 = n1 + 1 := by omega
  have f22 : ¬ n2 = nd := by omega
  have f23 : nx ≤ n2 := by omega
  simp [f0, f1, f2, f3, f4, f5, f6, f7, f8, f9, f10, f11, f12, f13, f14, f15, f16, f17, f18, f19, f20, f21, f22, f23]
  refine wCall_drawL (hps 3 true (by omega) (by omega)) (l := how) (at_ := 0) (by omega) hh (by simp [f0, f1, f2, f3, f4, f5, f6, f7, f8, f9, f10, f11, f12, f13, f14, f15, f16, f17, f18, f19, f20, f21, f22, f23]) (.inl (by omega)) fun v at3 n3 hv ha3 hn3 => ?_
  obtain ⟨q2, rfl, hql2, hqs2⟩ := hv
  simp at hn3
  have hqw2 : ∀ q ∈ q2, q.wf := fun q hq => (hqs2 q hq).2.1
  have hqv2 : ∀ q ∈ q2, q.valid = true := fun q hq => (hqs2 q hq).1
  simp [f0, f1, f2, f3, f4, f5, f6, f7, f8, f9, f10, f11, f12, f13, f14, f15, f16, f17, f18, f19, f20, f21, f22, f23]
  refine wCall_eq (Q := fun r => ofR q2 r) (hro q2 hqw2 (by omega) _ _) fun r n4 hr hn4 => ?_
  obtain ⟨z, e, rfl, hE1⟩ := ofR_E hr
  obtain ⟨hZ, rfl⟩ := ofE_valid hE1 (by omega) hqv2
  have hz : Vw z := hZ.ok hqv2 hqw2
  simp at hn4
  have f24 : ¬ g = n4 := by omega
  have f25 : ¬ gd = n4 := by omega
  have f26 : ¬ nd = n4 := by omega
  have f27 : ¬ n1 = n4 := by omega
  have f28 : ¬ n1 + 1 = n4 := by omega
  have f29 : ¬ n2 = n4 := by omega
  have f30 : ¬ n4 = n2 := by omega
  have f31 : ¬ n4 = n1 := by omega
  have f32 : ¬ n4 = n1 + 1 := by omega
  have f33 : ¬ n4 = nd := by omega
  have f34 : nx ≤ n4 := by omega
  simp [f0, f1, f2, f3, f4, f5, f6, f7, f8, f9, f10, f11, f12, f13, f14, f15, f16, f17, f18, f19, f20, f21, f22, f23, f24, f25, f26, f27, f28, f29, f30, f31, f32, f33, f34, Aut.ag]
  refine wCall_eq (Q := fun r => ofR qs r) (hof qs hqw (by omega) _ _ (by simp [hgb, f0, f1, f2, f3, f4, f5, f6, f7, f8, f9, f10, f11, f12, f13, f14, f15, f16, f17, f18, f19, f20, f21, f22, f23, f24, f25, f26, f27, f28, f29, f30, f31, f32, f33, f34]) (by show g < n4 + 1; omega)) fun r n5 hr hn5 => ?_
  obtain ⟨u, e, rfl, hE2⟩ := ofR_E hr
  obtain ⟨hU, rfl⟩ := ofE_valid hE2 (by omega) hqv
  have hu : Vw u := hU.ok hqv hqw
  simp at hn5
  have f35 : ¬ g = n5 := by omega
  have f36 : ¬ gd = n5 := by omega
  have f37 : ¬ nd = n5 := by omega
  have f38 : ¬ n1 = n5 := by omega
  have f39 : ¬ n1 + 1 = n5 := by omega
  have f40 : ¬ n2 = n5 := by omega
  have f41 : ¬ n4 = n5 := by omega
  have f42 : ¬ n5 = n4 := by omega
  have f43 : ¬ n5 = n2 := by omega
  have f44 : ¬ n5 = n1 := by omega
  have f45 : ¬ n5 = n1 + 1 := by omega
  have f46 : ¬ n5 = nd := by omega
  have f47 : nx ≤ n5 := by omega
  simp [f0, f1, f2, f3, f4, f5, f6, f7, f8, f9, f10, f11, f12, f13, f14, f15, f16, f17, f18, f19, f20, f21, f22, f23, f24, f25, f26, f27, f28, f29, f30, f31, f32, f33, f34, f35, f36, f37, f38, f39, f40, f41, f42, f43, f44, f45, f46, f47, Aut.ag]
  obtain ⟨m, hm⟩ := MeetR.ex x u
  have vm := hm.vw hx.wf hu.wf
  refine met hx.wf hu.wf hm (by simp [hgb, f0, f1, f2, f3, f4, f5, f6, f7, f8, f9, f10, f11, f12, f13, f14, f15, f16, f17, f18, f19, f20, f21, f22, f23, f24, f25, f26, f27, f28, f29, f30, f31, f32, f33, f34, f35, f36, f37, f38, f39, f40, f41, f42, f43, f44, f45, f46, f47]) (by show nx ≤ n5 + 1; omega) fun n6 hn6 => ?_
  simp at hn6
  have f48 : ¬ g = n6 := by omega
  have f49 : ¬ gd = n6 := by omega
  have f50 : ¬ nd = n6 := by omega
  have f51 : ¬ n1 = n6 := by omega
  have f52 : ¬ n1 + 1 = n6 := by omega
  have f53 : ¬ n2 = n6 := by omega
  have f54 : ¬ n4 = n6 := by omega
  have f55 : ¬ n5 = n6 := by omega
  have f56 : ¬ n6 = n5 := by omega
  have f57 : ¬ n6 = n4 := by omega
  have f58 : ¬ n6 = n2 := by omega
  have f59 : ¬ n6 = n1 := by omega
  have f60 : ¬ n6 = n1 + 1 := by omega
  have f61 : ¬ n6 = nd := by omega
  have f62 : nx ≤ n6 := by omega
  simp [f0, f1, f2, f3, f4, f5, f6, f7, f8, f9, f10, f11, f12, f13, f14, f15, f16, f17, f18, f19, f20, f21, f22, f23, f24, f25, f26, f27, f28, f29, f30, f31, f32, f33, f34, f35, f36, f37, f38, f39, f40, f41, f42, f43, f44, f45, f46, f47, f48, f49, f50, f51, f52, f53, f54, f55, f56, f57, f58, f59, f60, f61, f62, Aut.ag]
  refine win hx.wf hy.wf (by simp [hgb, f0, f1, f2, f3, f4, f5, f6, f7, f8, f9, f10, f11, f12, f13, f14, f15, f16, f17, f18, f19, f20, f21, f22, f23, f24, f25, f26, f27, f28, f29, f30, f31, f32, f33, f34, f35, f36, f37, f38, f39, f40, f41, f42, f43, f44, f45, f46, f47, f48, f49, f50, f51, f52, f53, f54, f55, f56, f57, f58, f59, f60, f61, f62]) (by simp [hgd, f0, f1, f2, f3, f4, f5, f6, f7, f8, f9, f10, f11, f12, f13, f14, f15, f16, f17, f18, f19, f20, f21, f22, f23, f24, f25, f26, f27, f28, f29, f30, f31, f32, f33, f34, f35, f36, f37, f38, f39, f40, f41, f42, f43, f44, f45, f46, f47, f48, f49, f50, f51, f52, f53, f54, f55, f56, f57, f58, f59, f60, f61, f62]) (by show nx ≤ n6 + 1; omega) fun n7 hn7 => ?_
  simp at hn7
  by_cases w1 : wiB x y = true
  rotate_left
  · replace w1 : wiB x y = false := by simpa using w1
    simp [f0, f1, f2, f3, f4, f5, f6, f7, f8, f9, f10, f11, f12, f13, f14, f15, f16, f17, f18, f19, f20, f21, f22, f23, f24, f25, f26, f27, f28, f29, f30, f31, f32, f33, f34, f35, f36, f37, f38, f39, f40, f41, f42, f43, f44, f45, f46, f47, f48, f49, f50, f51, f52, f53, f54, f55, f56, f57, f58, f59, f60, f61, f62, w1, Aut.ag]
    refine win hx.wf hy.wf (by simp [hgb, f0, f1, f2, f3, f4, f5, f6, f7, f8, f9, f10, f11, f12, f13, f14, f15, f16, f17, f18, f19, f20, f21, f22, f23, f24, f25, f26, f27, f28, f29, f30, f31, f32, f33, f34, f35, f36, f37, f38, f39, f40, f41, f42, f43, f44, f45, f46, f47, f48, f49, f50, f51, f52, f53, f54, f55, f56, f57, f58, f59, f60, f61, f62]) (by simp [hgd, f0, f1, f2, f3, f4, f5, f6, f7, f8, f9, f10, f11, f12, f13, f14, f15, f16, f17, f18, f19, f20, f21, f22, f23, f24, f25, f26, f27, f28, f29, f30, f31, f32, f33, f34, f35, f36, f37, f38, f39, f40, f41, f42, f43, f44, f45, f46, f47, f48, f49, f50, f51, f52, f53, f54, f55, f56, f57, f58, f59, f60, f61, f62]) (by show nx ≤ n7; omega) fun n8 hn8 => ?_
    simp at hn8
    simp [f0, f1, f2, f3, f4, f5, f6, f7, f8, f9, f10, f11, f12, f13, f14, f15, f16, f17, f18, f19, f20, f21, f22, f23, f24, f25, f26, f27, f28, f29, f30, f31, f32, f33, f34, f35, f36, f37, f38, f39, f40, f41, f42, f43, f44, f45, f46, f47, f48, f49, f50, f51, f52, f53, f54, f55, f56, f57, f58, f59, f60, f61, f62, w1, Aut.ag]
    refine containOrder_j1 (k5 := n1) (k6 := n1 + 1) (k11 := n5) (k13 := n6) hwn hme hsa haw hx hy hu hm ⟨(by simp [hgb, f0, f1, f2, f3, f4, f5, f6, f7, f8, f9, f10, f11, f12, f13, f14, f15, f16, f17, f18, f19, f20, f21, f22, f23, f24, f25, f26, f27, f28, f29, f30, f31, f32, f33, f34, f35, f36, f37, f38, f39, f40, f41, f42, f43, f44, f45, f46, f47, f48, f49, f50, f51, f52, f53, f54, f55, f56, f57, f58, f59, f60, f61, f62]), (by simp [hgd, f0, f1, f2, f3, f4, f5, f6, f7, f8, f9, f10, f11, f12, f13, f14, f15, f16, f17, f18, f19, f20, f21, f22, f23, f24, f25, f26, f27, f28, f29, f30, f31, f32, f33, f34, f35, f36, f37, f38, f39, f40, f41, f42, f43, f44, f45, f46, f47, f48, f49, f50, f51, f52, f53, f54, f55, f56, f57, f58, f59, f60, f61, f62]), by show g < n8; omega, by show gd < n8; omega⟩ (by simp) (by simp) (by simp) (by simp) (by simp [f0, f1, f2, f3, f4, f5, f6, f7, f8, f9, f10, f11, f12, f13, f14, f15, f16, f17, f18, f19, f20, f21, f22, f23, f24, f25, f26, f27, f28, f29, f30, f31, f32, f33, f34, f35, f36, f37, f38, f39, f40, f41, f42, f43, f44, f45, f46, f47, f48, f49, f50, f51, f52, f53, f54, f55, f56, f57, f58, f59, f60, f61, f62]) (by simp [f0, f1, f2, f3, f4, f5, f6, f7, f8, f9, f10, f11, f12, f13, f14, f15, f16, f17, f18, f19, f20, f21, f22, f23, f24, f25, f26, f27, f28, f29, f30, f31, f32, f33, f34, f35, f36, f37, f38, f39, f40, f41, f42, f43, f44, f45, f46, f47, f48, f49, f50, f51, f52, f53, f54, f55, f56, f57, f58, f59, f60, f61, f62]) (by simp [f0, f1, f2, f3, f4, f5, f6, f7, f8, f9, f10, f11, f12, f13, f14, f15, f16, f17, f18, f19, f20, f21, f22, f23, f24, f25, f26, f27, f28, f29, f30, f31, f32, f33, f34, f35, f36, f37, f38, f39, f40, f41, f42, f43, f44, f45, f46, f47, f48, f49, f50, f51, f52, f53, f54, f55, f56, f57, f58, f59, f60, f61, f62]) (by simp [f0, f1, f2, f3, f4, f5, f6, f7, f8, f9, f10, f11, f12, f13, f14, f15, f16, f17, f18, f19, f20, f21, f22, f23, f24, f25, f26, f27, f28, f29, f30, f31, f32, f33, f34, f35, f36, f37, f38, f39, f40, f41, f42, f43, f44, f45, f46, f47, f48, f49, f50, f51, f52, f53, f54, f55, f56, f57, f58, f59, f60, f61, f62])
  simp [f0, f1, f2, f3, f4, f5, f6, f7, f8, f9, f10, f11, f12, f13, f14, f15, f16, f17, f18, f19, f20, f21, f22, f23, f24, f25, f26, f27, f28, f29, f30, f31, f32, f33, f34, f35, f36, f37, f38, f39, f40, f41, f42, f43, f44, f45, f46, f47, f48, f49, f50, f51, f52, f53, f54, f55, f56, f57, f58, f59, f60, f61, f62, w1, Aut.ag]
  refine win hy.wf hz.wf (by simp [hgb, f0, f1, f2, f3, f4, f5, f6, f7, f8, f9, f10, f11, f12, f13, f14, f15, f16, f17, f18, f19, f20, f21, f22, f23, f24, f25, f26, f27, f28, f29, f30, f31, f32, f33, f34, f35, f36, f37, f38, f39, f40, f41, f42, f43, f44, f45, f46, f47, f48, f49, f50, f51, f52, f53, f54, f55, f56, f57, f58, f59, f60, f61, f62]) (by simp [hgd, f0, f1, f2, f3, f4, f5, f6, f7, f8, f9, f10, f11, f12, f13, f14, f15, f16, f17, f18, f19, f20, f21, f22, f23, f24, f25, f26, f27, f28, f29, f30, f31, f32, f33, f34, f35, f36, f37, f38, f39, f40, f41, f42, f43, f44, f45, f46, f47, f48, f49, f50, f51, f52, f53, f54, f55, f56, f57, f58, f59, f60, f61, f62]) (by show nx ≤ n7; omega) fun n8 hn8 => ?_
  simp at hn8
  cases w2 : wiB y z with
  | true =>
    simp [f0, f1, f2, f3, f4, f5, f6, f7, f8, f9, f10, f11, f12, f13, f14, f15, f16, f17, f18, f19, f20, f21, f22, f23, f24, f25, f26, f27, f28, f29, f30, f31, f32, f33, f34, f35, f36, f37, f38, f39, f40, f41, f42, f43, f44, f45, f46, f47, f48, f49, f50, f51, f52, f53, f54, f55, f56, f57, f58, f59, f60, f61, f62, w1, w2, Aut.ag]
    refine win hx.wf hz.wf (by simp [hgb, f0, f1, f2, f3, f4, f5, f6, f7, f8, f9, f10, f11, f12, f13, f14, f15, f16, f17, f18, f19, f20, f21, f22, f23, f24, f25, f26, f27, f28, f29, f30, f31, f32, f33, f34, f35, f36, f37, f38, f39, f40, f41, f42, f43, f44, f45, f46, f47, f48, f49, f50, f51, f52, f53, f54, f55, f56, f57, f58, f59, f60, f61, f62]) (by simp [hgd, f0, f1, f2, f3, f4, f5, f6, f7, f8, f9, f10, f11, f12, f13, f14, f15, f16, f17, f18, f19, f20, f21, f22, f23, f24, f25, f26, f27, f28, f29, f30, f31, f32, f33, f34, f35, f36, f37, f38, f39, f40, f41, f42, f43, f44, f45, f46, f47, f48, f49, f50, f51, f52, f53, f54, f55, f56, f57, f58, f59, f60, f61, f62]) (by show nx ≤ n8; omega) fun n9 hn9 => ?_
    simp at hn9
    have w3 := wiB_trans hx hy hz w1 w2
    simp [f0, f1, f2, f3, f4, f5, f6, f7, f8, f9, f10, f11, f12, f13, f14, f15, f16, f17, f18, f19, f20, f21, f22, f23, f24, f25, f26, f27, f28, f29, f30, f31, f32, f33, f34, f35, f36, f37, f38, f39, f40, f41, f42, f43, f44, f45, f46, f47, f48, f49, f50, f51, f52, f53, f54, f55, f56, f57, f58, f59, f60, f61, f62, w1, w2, Aut.ag, w3]
    refine win hx.wf hy.wf (by simp [hgb, f0, f1, f2, f3, f4, f5, f6, f7, f8, f9, f10, f11, f12, f13, f14, f15, f16, f17, f18, f19, f20, f21, f22, f23, f24, f25, f26, f27, f28, f29, f30, f31, f32, f33, f34, f35, f36, f37, f38, f39, f40, f41, f42, f43, f44, f45, f46, f47, f48, f49, f50, f51, f52, f53, f54, f55, f56, f57, f58, f59, f60, f61, f62]) (by simp [hgd, f0, f1, f2, f3, f4, f5, f6, f7, f8, f9, f10, f11, f12, f13, f14, f15, f16, f17, f18, f19, f20, f21, f22, f23, f24, f25, f26, f27, f28, f29, f30, f31, f32, f33, f34, f35, f36, f37, f38, f39, f40, f41, f42, f43, f44, f45, f46, f47, f48, f49, f50, f51, f52, f53, f54, f55, f56, f57, f58, f59, f60, f61, f62]) (by show nx ≤ n9; omega) fun n10 hn10 => ?_
    simp at hn10
    simp [f0, f1, f2, f3, f4, f5, f6, f7, f8, f9, f10, f11, f12, f13, f14, f15, f16, f17, f18, f19, f20, f21, f22, f23, f24, f25, f26, f27, f28, f29, f30, f31, f32, f33, f34, f35, f36, f37, f38, f39, f40, f41, f42, f43, f44, f45, f46, f47, f48, f49, f50, f51, f52, f53, f54, f55, f56, f57, f58, f59, f60, f61, f62, w1, w2, Aut.ag, w3]
    refine win hy.wf hx.wf (by simp [hgb, f0, f1, f2, f3, f4, f5, f6, f7, f8, f9, f10, f11, f12, f13, f14, f15, f16, f17, f18, f19, f20, f21, f22, f23, f24, f25, f26, f27, f28, f29, f30, f31, f32, f33, f34, f35, f36, f37, f38, f39, f40, f41, f42, f43, f44, f45, f46, f47, f48, f49, f50, f51, f52, f53, f54, f55, f56, f57, f58, f59, f60, f61, f62]) (by simp [hgd, f0, f1, f2, f3, f4, f5, f6, f7, f8, f9, f10, f11, f12, f13, f14, f15, f16, f17, f18, f19, f20, f21, f22, f23, f24, f25, f26, f27, f28, f29, f30, f31, f32, f33, f34, f35, f36, f37, f38, f39, f40, f41, f42, f43, f44, f45, f46, f47, f48, f49, f50, f51, f52, f53, f54, f55, f56, f57, f58, f59, f60, f61, f62]) (by show nx ≤ n10; omega) fun n11 hn11 => ?_
    simp at hn11
    cases w4 : wiB y x with
    | true =>
      simp [f0, f1, f2, f3, f4, f5, f6, f7, f8, f9, f10, f11, f12, f13, f14, f15, f16, f17, f18, f19, f20, f21, f22, f23, f24, f25, f26, f27, f28, f29, f30, f31, f32, f33, f34, f35, f36, f37, f38, f39, f40, f41, f42, f43, f44, f45, f46, f47, f48, f49, f50, f51, f52, f53, f54, f55, f56, f57, f58, f59, f60, f61, f62, w1, w2, Aut.ag, w3, w4]
      have w5 := wiB_antisymm hx hy w1 w4
      refine sam hx hy fun n12 hn12 => ?_
      simp at hn12
      simp [f0, f1, f2, f3, f4, f5, f6, f7, f8, f9, f10, f11, f12, f13, f14, f15, f16, f17, f18, f19, f20, f21, f22, f23, f24, f25, f26, f27, f28, f29, f30, f31, f32, f33, f34, f35, f36, f37, f38, f39, f40, f41, f42, f43, f44, f45, f46, f47, f48, f49, f50, f51, f52, f53, f54, f55, f56, f57, f58, f59, f60, f61, f62, w1, w2, Aut.ag, w3, w4, decide_eq_true w5]
      refine containOrder_j1 (k5 := n1) (k6 := n1 + 1) (k11 := n5) (k13 := n6) hwn hme hsa haw hx hy hu hm ⟨(by simp [hgb, f0, f1, f2, f3, f4, f5, f6, f7, f8, f9, f10, f11, f12, f13, f14, f15, f16, f17, f18, f19, f20, f21, f22, f23, f24, f25, f26, f27, f28, f29, f30, f31, f32, f33, f34, f35, f36, f37, f38, f39, f40, f41, f42, f43, f44, f45, f46, f47, f48, f49, f50, f51, f52, f53, f54, f55, f56, f57, f58, f59, f60, f61, f62]), (by simp [hgd, f0, f1, f2, f3, f4, f5, f6, f7, f8, f9, f10, f11, f12, f13, f14, f15, f16, f17, f18, f19, f20, f21, f22, f23, f24, f25, f26, f27, f28, f29, f30, f31, f32, f33, f34, f35, f36, f37, f38, f39, f40, f41, f42, f43, f44, f45, f46, f47, f48, f49, f50, f51, f52, f53, f54, f55, f56, f57, f58, f59, f60, f61, f62]), by show g < n12; omega, by show gd < n12; omega⟩ (by simp) (by simp) (by simp) (by simp) (by simp [f0, f1, f2, f3, f4, f5, f6, f7, f8, f9, f10, f11, f12, f13, f14, f15, f16, f17, f18, f19, f20, f21, f22, f23, f24, f25, f26, f27, f28, f29, f30, f31, f32, f33, f34, f35, f36, f37, f38, f39, f40, f41, f42, f43, f44, f45, f46, f47, f48, f49, f50, f51, f52, f53, f54, f55, f56, f57, f58, f59, f60, f61, f62]) (by simp [f0, f1, f2, f3, f4, f5, f6, f7, f8, f9, f10, f11, f12, f13, f14, f15, f16, f17, f18, f19, f20, f21, f22, f23, f24, f25, f26, f27, f28, f29, f30, f31, f32, f33, f34, f35, f36, f37, f38, f39, f40, f41, f42, f43, f44, f45, f46, f47, f48, f49, f50, f51, f52, f53, f54, f55, f56, f57, f58, f59, f60, f61, f62]) (by simp [f0, f1, f2, f3, f4, f5, f6, f7, f8, f9, f10, f11, f12, f13, f14, f15, f16, f17, f18, f19, f20, f21, f22, f23, f24, f25, f26, f27, f28, f29, f30, f31, f32, f33, f34, f35, f36, f37, f38, f39, f40, f41, f42, f43, f44, f45, f46, f47, f48, f49, f50, f51, f52, f53, f54, f55, f56, f57, f58, f59, f60, f61, f62]) (by simp [f0, f1, f2, f3, f4, f5, f6, f7, f8, f9, f10, f11, f12, f13, f14, f15, f16, f17, f18, f19, f20, f21, f22, f23, f24, f25, f26, f27, f28, f29, f30, f31, f32, f33, f34, f35, f36, f37, f38, f39, f40, f41, f42, f43, f44, f45, f46, f47, f48, f49, f50, f51, f52, f53, f54, f55, f56, f57, f58, f59, f60, f61, f62])
    | false =>
      simp [f0, f1, f2, f3, f4, f5, f6, f7, f8, f9, f10, f11, f12, f13, f14, f15, f16, f17, f18, f19, f20, f21, f22, f23, f24, f25, f26, f27, f28, f29, f30, f31, f32, f33, f34, f35, f36, f37, f38, f39, f40, f41, f42, f43, f44, f45, f46, f47, f48, f49, f50, f51, f52, f53, f54, f55, f56, f57, f58, f59, f60, f61, f62, w1, w2, Aut.ag, w3, w4]
      refine containOrder_j1 (k5 := n1) (k6 := n1 + 1) (k11 := n5) (k13 := n6) hwn hme hsa haw hx hy hu hm ⟨(by simp [hgb, f0, f1, f2, f3, f4, f5, f6, f7, f8, f9, f10, f11, f12, f13, f14, f15, f16, f17, f18, f19, f20, f21, f22, f23, f24, f25, f26, f27, f28, f29, f30, f31, f32, f33, f34, f35, f36, f37, f38, f39, f40, f41, f42, f43, f44, f45, f46, f47, f48, f49, f50, f51, f52, f53, f54, f55, f56, f57, f58, f59, f60, f61, f62]), (by simp [hgd, f0, f1, f2, f3, f4, f5, f6, f7, f8, f9, f10, f11, f12, f13, f14, f15, f16, f17, f18, f19, f20, f21, f22, f23, f24, f25, f26, f27, f28, f29, f30, f31, f32, f33, f34, f35, f36, f37, f38, f39, f40, f41, f42, f43, f44, f45, f46, f47, f48, f49, f50, f51, f52, f53, f54, f55, f56, f57, f58, f59, f60, f61, f62]), by show g < n11; omega, by show gd < n11; omega⟩ (by simp) (by simp) (by simp) (by simp) (by simp [f0, f1, f2, f3, f4, f5, f6, f7, f8, f9, f10, f11, f12, f13, f14, f15, f16, f17, f18, f19, f20, f21, f22, f23, f24, f25, f26, f27, f28, f29, f30, f31, f32, f33, f34, f35, f36, f37, f38, f39, f40, f41, f42, f43, f44, f45, f46, f47, f48, f49, f50, f51, f52, f53, f54, f55, f56, f57, f58, f59, f60, f61, f62]) (by simp [f0, f1, f2, f3, f4, f5, f6, f7, f8, f9, f10, f11, f12, f13, f14, f15, f16, f17, f18, f19, f20, f21, f22, f23, f24, f25, f26, f27, f28, f29, f30, f31, f32, f33, f34, f35, f36, f37, f38, f39, f40, f41, f42, f43, f44, f45, f46, f47, f48, f49, f50, f51, f52, f53, f54, f55, f56, f57, f58, f59, f60, f61, f62]) (by simp [f0, f1, f2, f3, f4, f5, f6, f7, f8, f9, f10, f11, f12, f13, f14, f15, f16, f17, f18, f19, f20, f21, f22, f23, f24, f25, f26, f27, f28, f29, f30, f31, f32, f33, f34, f35, f36, f37, f38, f39, f40, f41, f42, f43, f44, f45, f46, f47, f48, f49, f50, f51, f52, f53, f54, f55, f56, f57, f58, f59, f60, f61, f62]) (by simp [f0, f1, f2, f3, f4, f5, f6, f7, f8, f9, f10, f11, f12, f13, f14, f15, f16, f17, f18, f19, f20, f21, f22, f23, f24, f25, f26, f27, f28, f29, f30, f31, f32, f33, f34, f35, f36, f37, f38, f39, f40, f41, f42, f43, f44, f45, f46, f47, f48, f49, f50, f51, f52, f53, f54, f55, f56, f57, f58, f59, f60, f61, f62])
  | false =>
    simp [f0, f1, f2, f3, f4, f5, f6, f7, f8, f9, f10, f11, f12, f13, f14, f15, f16, f17, f18, f19, f20, f21, f22, f23, f24, f25, f26, f27, f28, f29, f30, f31, f32, f33, f34, f35, f36, f37, f38, f39, f40, f41, f42, f43, f44, f45, f46, f47, f48, f49, f50, f51, f52, f53, f54, f55, f56, f57, f58, f59, f60, f61, f62, w1, w2, Aut.ag]
    refine win hx.wf hy.wf (by simp [hgb, f0, f1, f2, f3, f4, f5, f6, f7, f8, f9, f10, f11, f12, f13, f14, f15, f16, f17, f18, f19, f20, f21, f22, f23, f24, f25, f26, f27, f28, f29, f30, f31, f32, f33, f34, f35, f36, f37, f38, f39, f40, f41, f42, f43, f44, f45, f46, f47, f48, f49, f50, f51, f52, f53, f54, f55, f56, f57, f58, f59, f60, f61, f62]) (by simp [hgd, f0, f1, f2, f3, f4, f5, f6, f7, f8, f9, f10, f11, f12, f13, f14, f15, f16, f17, f18, f19, f20, f21, f22, f23, f24, f25, f26, f27, f28, f29, f30, f31, f32, f33, f34, f35, f36, f37, f38, f39, f40, f41, f42, f43, f44, f45, f46, f47, f48, f49, f50, f51, f52, f53, f54, f55, f56, f57, f58, f59, f60, f61, f62]) (by show nx ≤ n8; omega) fun n10 hn10 => ?_
    simp at hn10
    simp [f0, f1, f2, f3, f4, f5, f6, f7, f8, f9, f10, f11, f12, f13, f14, f15, f16, f17, f18, f19, f20, f21, f22, f23, f24, f25, f26, f27, f28, f29, f30, f31, f32, f33, f34, f35, f36, f37, f38, f39, f40, f41, f42, f43, f44, f45, f46, f47, f48, f49, f50, f51, f52, f53, f54, f55, f56, f57, f58, f59, f60, f61, f62, w1, w2, Aut.ag]
    refine win hy.wf hx.wf (by simp [hgb, f0, f1, f2, f3, f4, f5, f6, f7, f8, f9, f10, f11, f12, f13, f14, f15, f16, f17, f18, f19, f20, f21, f22, f23, f24, f25, f26, f27, f28, f29, f30, f31, f32, f33, f34, f35, f36, f37, f38, f39, f40, f41, f42, f43, f44, f45, f46, f47, f48, f49, f50, f51, f52, f53, f54, f55, f56, f57, f58, f59, f60, f61, f62]) (by simp [hgd, f0, f1, f2, f3, f4, f5, f6, f7, f8, f9, f10, f11, f12, f13, f14, f15, f16, f17, f18, f19, f20, f21, f22, f23, f24, f25, f26, f27, f28, f29, f30, f31, f32, f33, f34, f35, f36, f37, f38, f39, f40, f41, f42, f43, f44, f45, f46, f47, f48, f49, f50, f51, f52, f53, f54, f55, f56, f57, f58, f59, f60, f61, f62]) (by show nx ≤ n10; omega) fun n11 hn11 => ?_
    simp at hn11
    cases w4 : wiB y x with
    | true =>
      simp [f0, f1, f2, f3, f4, f5, f6, f7, f8, f9, f10, f11, f12, f13, f14, f15, f16, f17, f18, f19, f20, f21, f22, f23, f24, f25, f26, f27, f28, f29, f30, f31, f32, f33, f34, f35, f36, f37, f38, f39, f40, f41, f42, f43, f44, f45, f46, f47, f48, f49, f50, f51, f52, f53, f54, f55, f56, f57, f58, f59, f60, f61, f62, w1, w2, Aut.ag, w4]
      have w5 := wiB_antisymm hx hy w1 w4
      refine sam hx hy fun n12 hn12 => ?_
      simp at hn12
      simp [f0, f1, f2, f3, f4, f5, f6, f7, f8, f9, f10, f11, f12, f13, f14, f15, f16, f17, f18, f19, f20, f21, f22, f23, f24, f25, f26, f27, f28, f29, f30, f31, f32, f33, f34, f35, f36, f37, f38, f39, f40, f41, f42, f43, f44, f45, f46, f47, f48, f49, f50, f51, f52, f53, f54, f55, f56, f57, f58, f59, f60, f61, f62, w1, w2, Aut.ag, w4, decide_eq_true w5]
      refine containOrder_j1 (k5 := n1) (k6 := n1 + 1) (k11 := n5) (k13 := n6) hwn hme hsa haw hx hy hu hm ⟨(by simp [hgb, f0, f1, f2, f3, f4, f5, f6, f7, f8, f9, f10, f11, f12, f13, f14, f15, f16, f17, f18, f19, f20, f21, f22, f23, f24, f25, f26, f27, f28, f29, f30, f31, f32, f33, f34, f35, f36, f37, f38, f39, f40, f41, f42, f43, f44, f45, f46, f47, f48, f49, f50, f51, f52, f53, f54, f55, f56, f57, f58, f59, f60, f61, f62]), (by simp [hgd, f0, f1, f2, f3, f4, f5, f6, f7, f8, f9, f10, f11, f12, f13, f14, f15, f16, f17, f18, f19, f20, f21, f22, f23, f24, f25, f26, f27, f28, f29, f30, f31, f32, f33, f34, f35, f36, f37, f38, f39, f40, f41, f42, f43, f44, f45, f46, f47, f48, f49, f50, f51, f52, f53, f54, f55, f56, f57, f58, f59, f60, f61, f62]), by show g < n12; omega, by show gd < n12; omega⟩ (by simp) (by simp) (by simp) (by simp) (by simp [f0, f1, f2, f3, f4, f5, f6, f7, f8, f9, f10, f11, f12, f13, f14, f15, f16, f17, f18, f19, f20, f21, f22, f23, f24, f25, f26, f27, f28, f29, f30, f31, f32, f33, f34, f35, f36, f37, f38, f39, f40, f41, f42, f43, f44, f45, f46, f47, f48, f49, f50, f51, f52, f53, f54, f55, f56, f57, f58, f59, f60, f61, f62]) (by simp [f0, f1, f2, f3, f4, f5, f6, f7, f8, f9, f10, f11, f12, f13, f14, f15, f16, f17, f18, f19, f20, f21, f22, f23, f24, f25, f26, f27, f28, f29, f30, f31, f32, f33, f34, f35, f36, f37, f38, f39, f40, f41, f42, f43, f44, f45, f46, f47, f48, f49, f50, f51, f52, f53, f54, f55, f56, f57, f58, f59, f60, f61, f62]) (by simp [f0, f1, f2, f3, f4, f5, f6, f7, f8, f9, f10, f11, f12, f13, f14, f15, f16, f17, f18, f19, f20, f21, f22, f23, f24, f25, f26, f27, f28, f29, f30, f31, f32, f33, f34, f35, f36, f37, f38, f39, f40, f41, f42, f43, f44, f45, f46, f47, f48, f49, f50, f51, f52, f53, f54, f55, f56, f57, f58, f59, f60, f61, f62]) (by simp [f0, f1, f2, f3, f4, f5, f6, f7, f8, f9, f10, f11, f12, f13, f14, f15, f16, f17, f18, f19, f20, f21, f22, f23, f24, f25, f26, f27, f28, f29, f30, f31, f32, f33, f34, f35, f36, f37, f38, f39, f40, f41, f42, f43, f44, f45, f46, f47, f48, f49, f50, f51, f52, f53, f54, f55, f56, f57, f58, f59, f60, f61, f62])
    | false =>
      simp [f0, f1, f2, f3, f4, f5, f6, f7, f8, f9, f10, f11, f12, f13, f14, f15, f16, f17, f18, f19, f20, f21, f22, f23, f24, f25, f26, f27, f28, f29, f30, f31, f32, f33, f34, f35, f36, f37, f38, f39, f40, f41, f42, f43, f44, f45, f46, f47, f48, f49, f50, f51, f52, f53, f54, f55, f56, f57, f58, f59, f60, f61, f62, w1, w2, Aut.ag, w4]
      refine containOrder_j1 (k5 := n1) (k6 := n1 + 1) (k11 := n5) (k13 := n6) hwn hme hsa haw hx hy hu hm ⟨(by simp [hgb, f0, f1, f2, f3, f4, f5, f6, f7, f8, f9, f10, f11, f12, f13, f14, f15, f16, f17, f18, f19, f20, f21, f22, f23, f24, f25, f26, f27, f28, f29, f30, f31, f32, f33, f34, f35, f36, f37, f38, f39, f40, f41, f42, f43, f44, f45, f46, f47, f48, f49, f50, f51, f52, f53, f54, f55, f56, f57, f58, f59, f60, f61, f62]), (by simp [hgd, f0, f1, f2, f3, f4, f5, f6, f7, f8, f9, f10, f11, f12, f13, f14, f15, f16, f17, f18, f19, f20, f21, f22, f23, f24, f25, f26, f27, f28, f29, f30, f31, f32, f33, f34, f35, f36, f37, f38, f39, f40, f41, f42, f43, f44, f45, f46, f47, f48, f49, f50, f51, f52, f53, f54, f55, f56, f57, f58, f59, f60, f61, f62]), by show g < n11; omega, by show gd < n11; omega⟩ (by simp) (by simp) (by simp) (by simp) (by simp [f0, f1, f2, f3, f4, f5, f6, f7, f8, f9, f10, f11, f12, f13, f14, f15, f16, f17, f18, f19, f20, f21, f22, f23, f24, f25, f26, f27, f28, f29, f30, f31, f32, f33, f34, f35, f36, f37, f38, f39, f40, f41, f42, f43, f44, f45, f46, f47, f48, f49, f50, f51, f52, f53, f54, f55, f56, f57, f58, f59, f60, f61, f62]) (by simp [f0, f1, f2, f3, f4, f5, f6, f7, f8, f9, f10, f11, f12, f13, f14, f15, f16, f17, f18, f19, f20, f21, f22, f23, f24, f25, f26, f27, f28, f29, f30, f31, f32, f33, f34, f35, f36, f37, f38, f39, f40, f41, f42, f43, f44, f45, f46, f47, f48, f49, f50, f51, f52, f53, f54, f55, f56, f57, f58, f59, f60, f61, f62]) (by simp [f0, f1, f2, f3, f4, f5, f6, f7, f8, f9, f10, f11, f12, f13, f14, f15, f16, f17, f18, f19, f20, f21, f22, f23, f24, f25, f26, f27, f28, f29, f30, f31, f32, f33, f34, f35, f36, f37, f38, f39, f40, f41, f42, f43, f44, f45, f46, f47, f48, f49, f50, f51, f52, f53, f54, f55, f56, f57, f58, f59, f60, f61, f62]) (by simp [f0, f1, f2, f3, f4, f5, f6, f7, f8, f9, f10, f11, f12, f13, f14, f15, f16, f17, f18, f19, f20, f21, f22, f23, f24, f25, f26, f27, f28, f29, f30, f31, f32, f33, f34, f35, f36, f37, f38, f39, f40, f41, f42, f43, f44, f45, f46, f47, f48, f49, f50, f51, f52, f53, f54, f55, f56, f57, f58, f59, f60, f61, f62])
end Go.PE
