/- Layer 7: the statements. Layer 7: HoldsDaily. Layer 7: HoldsAll, HoldsMore. Layer 7: HoldsValid. Predicates and contexts among the arguments. -/
import Derived.Test.YtabichlcgiafcaaPred
import Derived.Test.YtabichlcgiafcaaEngC
set_option linter.all false
namespace Go.PE
open Go
section
variable {P : Program} {f g : Nat}
theorem holdsOne_ok {ne pr cx ho rh aw : Nat} (hc : compFn P f = some (53, law07_HoldsOneC ne pr cx ho rh aw, [.t 6])) (hne : NewOK P ne) (hpr : ∀ b, Draws P pr [.bool b] (isPred b)) (hcx : Draws P cx [] isCtx)
    (hho : HoldsOK P ho g) (hrh : RHoldsOK P rh) (haw : LawOK P aw g) (p : Pred) (c : Ctx) (l : List Int) (hp : p.wf) (hcw : c.wf) (hl : l.length ≤ maxLen) (H : Nat → Option (List Value)) (nx : Nat) (hg : H g = some bitsRow) (hgn : g < nx) :
    PCalls P f [p.v, c.v, deep (l.map (.int .i64))] H nx (fun _ => False) (fun r H' _ => r = .bool true) := by
  refine PCalls_of hc (by simp) fun hw => ?_
  have g1 : ¬ g = nx := by omega
  have g2 : ¬ g = nx + 1 := by omega
  have g3 : ¬ g = nx + 1 + 1 := by omega
  simp [law07_HoldsOneC]
  refine wCall_le (hne l _ _) fun r H1 n1 hR hn1 _ => ?_
  obtain ⟨rfl, rfl, rfl⟩ := hR
  simp
  refine wCall_drawL (hpr true) (l := l) (at_ := 0) (by omega) hl (by simp) (.inl (by omega)) fun v at1 n2 hv ha1 hn2 => ?_
  obtain ⟨x, rfl, hxv, hxw, _⟩ := hv
  simp at hn2
  simp
  refine wCall_drawL hcx (l := l) (at_ := at1) ha1 hl (by simp) (.inl (by omega)) fun v at2 n3 hv ha2 hn3 => ?_
  obtain ⟨y, rfl, hyv, hyw⟩ := isCtx_ok hv
  simp at hn3
  have g4 : ¬ g = n3 := by omega
  have g5 : ¬ g = n3 + 1 := by omega
  have d1 : ¬ n3 = nx := by omega
  have d2 : ¬ n3 = nx + 1 := by omega
  have d3 : ¬ n3 = nx + 1 + 1 := by omega
  have d4 : ¬ n3 + 1 = nx := by omega
  have d5 : ¬ n3 + 1 = nx + 1 := by omega
  have d6 : ¬ n3 + 1 = nx + 1 + 1 := by omega
  have d7 : ¬ nx = n3 := by omega
  have d8 : ¬ nx = n3 + 1 := by omega
  have d9 : ¬ nx + 1 = n3 := by omega
  have d10 : ¬ nx + 1 = n3 + 1 := by omega
  have d11 : nx ≤ n3 := by omega
  have d12 : nx ≤ n3 + 1 := by omega
  have d13 : ¬ nx = nx + 1 + 1 := by omega
  have d14 : ¬ nx + 1 = nx + 1 + 1 := by omega
  simp [d1, d2, d3, d4, d5, d6, d7, d8, d9, d10, d11, d12, d13, d14]
  refine wqCall_of (hho x y hxw hyw _ _ (by simp [hg, g1, g2, g3, g4, g5]) (by simp; omega)) rfl (fun _ _ _ h => h.1) ?_
  simp [d1, d2, d3, d4, d5, d6, d7, d8, d9, d10, d11, d12, d13, d14]
  refine wqCall_of (hrh x y hxw hyw _ _) rfl (fun _ _ _ h => h.1) ?_
  simp [d1, d2, d3, d4, d5, d6, d7, d8, d9, d10, d11, d12, d13, d14]
  refine wqCall_of (hho p y hp hyw _ _ (by simp [hg, g1, g2, g3, g4, g5]) (by simp; omega)) rfl (fun _ _ _ h => h.1) ?_
  simp [d1, d2, d3, d4, d5, d6, d7, d8, d9, d10, d11, d12, d13, d14]
  refine wqCall_of (hrh p y hp hyw _ _) rfl (fun _ _ _ h => h.1) ?_
  simp [d1, d2, d3, d4, d5, d6, d7, d8, d9, d10, d11, d12, d13, d14]
  refine wqCall_of (hho x c hxw hcw _ _ (by simp [hg, g1, g2, g3, g4, g5]) (by simp; omega)) rfl (fun _ _ _ h => h.1) ?_
  simp [d1, d2, d3, d4, d5, d6, d7, d8, d9, d10, d11, d12, d13, d14]
  refine wqCall_of (hrh x c hxw hcw _ _) rfl (fun _ _ _ h => h.1) ?_
  simp [d1, d2, d3, d4, d5, d6, d7, d8, d9, d10, d11, d12, d13, d14]
  refine wqCall_of (hho p c hp hcw _ _ (by simp [hg, g1, g2, g3, g4, g5]) (by simp; omega)) rfl (fun _ _ _ h => h.1) ?_
  simp [d1, d2, d3, d4, d5, d6, d7, d8, d9, d10, d11, d12, d13, d14]
  refine wqCall_of (hrh p c hp hcw _ _) rfl (fun _ _ _ h => h.1) ?_
  simp [d1, d2, d3, d4, d5, d6, d7, d8, d9, d10, d11, d12, d13, d14]
  refine wqCall_of (haw _ _ ?_ ?_) rfl (fun _ _ _ h => h.1) ?_
  · simp [hg, g1, g2, g3, g4, g5]
  · simp; omega
  simp
  exact wF_of rfl
end
end Go.PE
namespace Go.PE
open Go
theorem daily_law {a b m : Int} (ha : 0 ≤ a) (hb : b < 1440) (hab : a < b) (hn : ¬ (b = 1439 ∧ a = 0)) : dailyV m a b = !dailyV m ((b + 1) % 1440) ((a + 1440 - 1) % 1440) := by
  have h1 : 0 ≤ m % 1440 := by omega
  have h2 : m % 1440 < 1440 := by omega
  unfold dailyV
  rw [if_pos (by omega)]
  generalize m % 1440 = t at *
  rw [Bool.eq_iff_iff]
  by_cases hb2 : b = 1439
  · subst hb2
    rw [if_pos (by omega)]
    simp; omega
  · by_cases ha2 : a = 0
    · subst ha2
      rw [if_pos (by omega)]
      simp; omega
    · rw [if_neg (by omega)]
      simp; omega
section
variable {P : Program} {f g : Nat}
theorem holdsDaily_ok {ne cx aw ho : Nat} (hc : compFn P f = some (54, law07_HoldsDailyC ne cx aw ho, [.t 6])) (hne : NewOK P ne) (hcx : Draws P cx [] isCtx)
    (hho : HoldsOK P ho g) (haw : LawOK P aw g) (x y : Int) (l : List Int) (hx0 : 0 ≤ x) (hx1 : x < 65536) (hy0 : 0 ≤ y) (hy1 : y < 65536) (hl : l.length ≤ maxLen) (H : Nat → Option (List Value)) (nx : Nat) (hg : H g = some bitsRow) (hgn : g < nx) :
    PCalls P f [.int .u16 x, .int .u16 y, deep (l.map (.int .i64))] H nx (fun _ => False) (fun r H' _ => r = .bool true) := by
  refine PCalls_of hc (by simp) fun hw => ?_
  have g1 : ¬ g = nx := by omega
  have ex : (IntKind.i64.wrap x).tmod 1440 = x % 1440 := by rw [w64 (by omega) (by omega), Int.tmod_eq_emod_of_nonneg hx0]
  have ey : (IntKind.i64.wrap y).tmod 1440 = y % 1440 := by rw [w64 (by omega) (by omega), Int.tmod_eq_emod_of_nonneg hy0]
  simp [law07_HoldsDailyC, ex, ey]
  refine wCall_le (hne l _ _) fun r H1 n1 hR hn1 _ => ?_
  obtain ⟨rfl, rfl, rfl⟩ := hR
  simp
  refine wCall_drawL hcx (l := l) (at_ := 0) (by omega) hl (by simp) (.inl (by simp)) fun v at1 n2 hv ha1 hn2 => ?_
  obtain ⟨c, rfl, hcv, hcw⟩ := isCtx_ok hv
  simp at hn2
  have g2 : ¬ g = n2 := by omega
  have d1 : ¬ n2 = nx := by omega
  have d2 : nx ≤ n2 := by omega
  have d3 : ¬ nx = n2 := by omega
  have jend : ∀ s : PS, s.H g = some bitsRow → g < s.nx → wCall (PCalls P) (fun _ => False) nx aw [] (some 32) s (wpr (PCalls P) P (fun _ => False) nx [((some 6), (none, (.mv (.tmp 32))))] (kSeq (PCalls P) P (fun _ => False) nx .ret (fin nx [.t 6] fun r _ _ => r = .bool true) .nrm)) := by
    intro s h1 h2
    refine wCall_eq (Q := fun r => r = .bool _) (haw _ _ h1 h2) fun r2 n3 hr2 hn3 => ?_
    subst hr2
    simp
    exact wF_of rfl
  have ha0 : 0 ≤ x % 1440 := by omega
  have ha1 : x % 1440 < 1440 := by omega
  have hb0 : 0 ≤ y % 1440 := by omega
  have hb1 : y % 1440 < 1440 := by omega
  generalize x % 1440 = a at *
  generalize y % 1440 = b at *
  by_cases h1 : b ≤ a
  · simp [d1, d2, d3, h1]
    refine jend _ (by simp [hg, g1, g2]) (by simp; omega)
  by_cases h2 : b = 1439 ∧ a = 0
  · obtain ⟨rfl, rfl⟩ := h2
    simp [d1, d2, d3]
    refine jend _ (by simp [hg, g1, g2]) (by simp; omega)
  have main : ∀ s : PS, s.t 7 = .int .i64 a → s.t 8 = .int .i64 b → s.t 9 = ptr n2 0 → s.H n2 = some c.cells → s.H g = some bitsRow → g < s.nx → n2 < s.nx → nx ≤ s.nx →
      wpc (PCalls P) P (fun _ => False) nx (law07_HoldsDailyC_j1 aw ho) (fin nx [.t 6] fun r _ _ => r = .bool true) s := by
    rintro ⟨t, H', nx'⟩ e7 e8 e9 eH eg hgx hnx hnn
    simp only at e7 e8 e9 eH eg hgx hnx hnn
    have k1 : ¬ g = nx' := by omega
    have k2 : ¬ g = nx' + 1 := by omega
    have k3 : ¬ n2 = nx' := by omega
    have k4 : ¬ n2 = nx' + 1 := by omega
    have k5 : nx ≤ nx' + 1 := by omega
    simp [law07_HoldsDailyC_j1, e7, e8, e9, eH, k1, k2, k3, k4, k5, hnn]
    rw [w64 (x := b + 1) (by omega) (by omega), w64 (x := a + 1440) (by omega) (by omega), w64 (x := a + 1440 - 1) (by omega) (by omega), Int.tmod_eq_emod_of_nonneg (a := b + 1) (by omega), Int.tmod_eq_emod_of_nonneg (a := a + 1440 - 1) (by omega)]
    have hlaw := daily_law (m := c.minute) ha0 hb1 (by omega) h2
    refine wqCall_of (hho ⟨5, 0, a, b, ⟨#[]⟩, 0⟩ c ⟨by simp, by simp, by simp⟩ hcw _ _ (by simp [eg, k1, k2]) (by simp; omega)) rfl (fun _ _ _ h => h.1) ?_
    simp [k1, k2, k3, k4, k5, eH, e9]
    refine wqCall_of (hho ⟨5, 0, (b + 1) % 1440, (a + 1440 - 1) % 1440, ⟨#[]⟩, 0⟩ c ⟨by simp, by simp, by simp⟩ hcw _ _ (by simp [eg, k1, k2]) (by simp; omega)) rfl (fun _ _ _ h => h.1) ?_
    have v1 : holdsV ⟨5, 0, a, b, ⟨#[]⟩, 0⟩ c = dailyV c.minute a b := by simp [holdsV, hcv, rideV, Pred.valid]; omega
    have v2 : holdsV ⟨5, 0, (b + 1) % 1440, (a + 1440 - 1) % 1440, ⟨#[]⟩, 0⟩ c = dailyV c.minute ((b + 1) % 1440) ((a + 1440 - 1) % 1440) := by simp [holdsV, hcv, rideV, Pred.valid]; omega
    rw [v1, v2, hlaw]
    simp [k1, k2, k3, k4, k5]
    refine wqCall_of (haw _ _ ?_ ?_) rfl (fun _ _ _ h => h.1) ?_
    · simp [eg, k1, k2]
    · simp; omega
    simp
    exact wF_of rfl
  by_cases h3 : b = 1439
  · have h4 : (a == 0) = false := by simp; omega
    have h4' : ¬ a = 0 := by omega
    subst h3
    simp [d1, d2, d3, h1, h4]
    refine main _ (by simp) (by simp) (by simp) (by simp) (by simp [hg, g1, g2]) (by simp; omega) (by simp) (by simp; omega)
  · have h3' : (b == 1439) = false := by simp [h3]
    simp [d1, d2, d3, h1, h3']
    refine main _ (by simp) (by simp) (by simp) (by simp) (by simp [hg, g1, g2]) (by simp; omega) (by simp) (by simp; omega)
end
end Go.PE
namespace Go.PE
open Go
section
variable {P : Program} {f g : Nat}
theorem allV_snd (l : List Pred) (c : Ctx) : ∀ i, (allV l c i).2 = l.all fun p => holdsV p c := by
  induction l with
  | nil => intro i; rfl
  | cons p r ih =>
    intro i
    simp only [allV, List.all_cons]
    cases hb : holdsV p c
    · simp
    · simp [ih]
theorem bool3 {a b h : Bool} (hab : (a && b) = false) : (a && (h && b)) = false := by cases a <;> cases b <;> cases h <;> simp_all
theorem bool4 {a b h : Bool} (hab : (a && b) = true) : (a && (h && b)) = h := by cases a <;> cases b <;> cases h <;> simp_all
theorem holdsAll_ok {ne cx ps al ra aw e : Nat} (hc : compFn P f = some (100, law07_HoldsAllC ne cx ps al ra aw, [.t 6])) (hne : NewOK P ne) (hcx : Draws P cx [] isCtx)
    (hps : ∀ n b, 0 ≤ n → n ≤ 1000000 → Draws P ps [.int .i64 n, .bool b] (isPreds e n b)) (hal : AllOK P al g) (hra : RAllOK P ra) (haw : LawOK P aw g) (ls : List Pred) (c : Ctx) (l : List Int)
    (hls : ∀ p ∈ ls, p.wf) (hlsl : ls.length ≤ maxLen) (hcw : c.wf) (hl : l.length ≤ maxLen) (H : Nat → Option (List Value)) (nx : Nat) (hg : H g = some bitsRow) (hgn : g < nx) :
    PCalls P f [deep (ls.map Pred.v), c.v, deep (l.map (.int .i64))] H nx (fun _ => False) (fun r H' _ => r = .bool true) := by
  refine PCalls_of hc (by simp) fun hw => ?_
  have g1 : ¬ g = nx := by omega
  have g2 : ¬ g = nx + 1 := by omega
  have hmx : (maxLen : Int) = 9223372036854775807 := rfl
  have hmn : (if (60 : Int) < ls.length then (60 : Int) else ls.length).toNat = min ls.length 60 := by split <;> omega
  have hmn0 : 0 ≤ (if (60 : Int) < ls.length then (60 : Int) else ls.length) := by split <;> omega
  have hcut : cutV (ls.map Pred.v) 0 (min ls.length 60) ls.length 6 = some (deep ((ls.take (min ls.length 60)).map Pred.v)) := by
    unfold cutV
    rw [if_pos ⟨by omega, by omega, by simp, by simp⟩]
    simp
  have htw : ∀ p ∈ ls.take (min ls.length 60), p.wf := fun p hp => hls p (List.mem_of_mem_take hp)
  have htm : (ls.take (min ls.length 60)).length ≤ maxLen := by simp; omega
  generalize ls.take (min ls.length 60) = ts at *
  simp [law07_HoldsAllC, hmn, hmn0, hcut]
  refine wCall_le (hne l _ _) fun r H1 n1 hR hn1 _ => ?_
  obtain ⟨rfl, rfl, rfl⟩ := hR
  simp
  refine wCall_drawL hcx (l := l) (at_ := 0) (by omega) hl (by simp) (.inl (by omega)) fun v at1 n2 hv ha1 hn2 => ?_
  obtain ⟨y, rfl, hyv, hyw⟩ := isCtx_ok hv
  simp at hn2
  have g3 : ¬ g = n2 := by omega
  have d1 : ¬ n2 = nx := by omega
  have d2 : ¬ n2 = nx + 1 := by omega
  have d3 : nx ≤ n2 := by omega
  have d4 : ¬ nx = n2 := by omega
  have d5 : ¬ nx + 1 = n2 := by omega
  simp [d1, d2, d3, d4, d5]
  refine wCall_drawL (hps 6 true (by omega) (by omega)) (l := l) (at_ := at1) ha1 hl (by simp [d1, d2, d4, d5]) (.inl (by omega)) fun v at2 n3 hv ha2 hn3 => ?_
  obtain ⟨qs, rfl, hql, hqs⟩ := hv
  simp at hn3
  have hqw : ∀ q ∈ qs, q.wf := fun q hq => (hqs q hq).2.1
  have hqm : qs.length ≤ maxLen := by omega
  simp [d1, d2, d3, d4, d5]
  refine wCall_eq (Q := fun r => r = allP qs y) (hal qs y hqw hyw hqm _ _ ?_ ?_) fun r n4 hr hn4 => ?_
  · simp [hg, g1, g2, g3]
  · simp; omega
  subst hr
  simp at hn4
  simp [allP, d1, d2, d3, d4, d5]
  refine wCall_eq (Q := fun r => r = allP qs y) (hra qs y hqw hyw hqm _ _) fun r n5 hr hn5 => ?_
  subst hr
  simp at hn5
  simp [allP, d1, d2, d3, d4, d5]
  refine wCall_eq (Q := fun r => r = allP ts c) (hal ts c htw hcw htm _ _ ?_ ?_) fun r n6 hr hn6 => ?_
  · simp [hg, g1, g2, g3]
  · simp; omega
  subst hr
  simp at hn6
  simp [allP, d1, d2, d3, d4, d5]
  refine wCall_eq (Q := fun r => r = allP ts c) (hra ts c htw hcw htm _ _) fun r n7 hr hn7 => ?_
  subst hr
  simp at hn7
  simp [allP, d1, d2, d3, d4, d5]
  refine wCall_eq (Q := fun r => r = allP qs c) (hal qs c hqw hcw hqm _ _ ?_ ?_) fun r n8 hr hn8 => ?_
  · simp [hg, g1, g2, g3]
  · simp; omega
  subst hr
  simp at hn8
  simp [allP, d1, d2, d3, d4, d5]
  refine wCall_eq (Q := fun r => r = allP qs c) (hra qs c hqw hcw hqm _ _) fun r n9 hr hn9 => ?_
  subst hr
  simp at hn9
  simp [allP, d1, d2, d3, d4, d5]
  refine wCall_eq (Q := fun r => r = .bool _) (haw _ _ ?_ ?_) fun r n10 hr hn10 => ?_
  · simp [hg, g1, g2, g3]
  · simp; omega
  subst hr
  simp
  exact wF_of rfl
theorem holdsMore_ok {ne cx pr ps wi e al ho aw : Nat} (hc : compFn P f = some (63, law07_HoldsMoreC ne cx pr ps wi e al ho aw, [.t 4])) (hne : NewOK P ne) (hcx : Draws P cx [] isCtx) (hpr : ∀ b, Draws P pr [.bool b] (isPred b))
    (hps : ∀ n b, 0 ≤ n → n ≤ 1000000 → Draws P ps [.int .i64 n, .bool b] (isPreds e n b)) (hwi : WithinOK P wi) (hal : AllOK P al g) (hho : HoldsOK P ho g) (haw : LawOK P aw g) (l : List Int) (x : Int)
    (hl : l.length ≤ maxLen) (H : Nat → Option (List Value)) (nx : Nat) (hg : H g = some bitsRow) (hgn : g < nx) :
    PCalls P f [deep (l.map (.int .i64)), .int .i64 x] H nx (fun _ => False) (fun r H' _ => r = .bool true) := by
  refine PCalls_of hc (by simp) fun hw => ?_
  have g1 : ¬ g = nx := by omega
  have hmx : (maxLen : Int) = 9223372036854775807 := rfl
  simp [law07_HoldsMoreC]
  refine wCall_le (hne l _ _) fun r H1 n1 hR hn1 _ => ?_
  obtain ⟨rfl, rfl, rfl⟩ := hR
  simp
  refine wCall_drawL hcx (l := l) (at_ := 0) (by omega) hl (by simp) (.inl (by simp)) fun v at1 n2 hv ha1 hn2 => ?_
  obtain ⟨c, rfl, hcv, hcw⟩ := isCtx_ok hv
  simp at hn2
  simp
  refine wCall_drawL (hpr true) (l := l) (at_ := at1) ha1 hl (by simp) (.inl (by simp)) fun v at2 n3 hv ha2 hn3 => ?_
  obtain ⟨p, rfl, hpv, hpw, _⟩ := hv
  simp at hn3
  have g3 : ¬ g = n3 := by omega
  have g4 : ¬ g = n3 + 1 := by omega
  have d1 : ¬ n3 = nx := by omega
  have d2 : ¬ n3 + 1 = nx := by omega
  have d3 : nx ≤ n3 := by omega
  have d4 : ¬ nx = n3 := by omega
  have d5 : ¬ nx = n3 + 1 := by omega
  have d6 : nx ≤ n3 + 1 := by omega
  simp [d1, d2, d3, d4, d5, d6]
  refine wCall_drawL (hps 5 true (by omega) (by omega)) (l := l) (at_ := at2) ha2 hl (by simp [d1, d2, d4, d5]) (.inl (by omega)) fun v at3 n4 hv ha3 hn4 => ?_
  obtain ⟨qs, rfl, hql, hqs⟩ := hv
  simp at hn4
  have hqw : ∀ q ∈ qs, q.wf := fun q hq => (hqs q hq).2.1
  have hqm : qs.length ≤ maxLen := by omega
  simp [d1, d2, d3, d4, d5, d6]
  rw [w64 (x := (qs.length : Int) + 1) (by omega) (by omega)]
  refine wCall_eq (Q := fun r => r = .int .i64 (within x (qs.length + 1))) (hwi x (qs.length + 1) (by omega) _ _) fun r n5 hr hn5 => ?_
  subst hr
  have hr := within_range (x := x) (n := (qs.length : Int) + 1) (by omega) (by omega)
  generalize within x (qs.length + 1) = k at hr
  obtain ⟨K, rfl⟩ := Int.eq_ofNat_of_zero_le hr.1
  have hK : K ≤ qs.length := by omega
  obtain ⟨A, hA⟩ : ∃ A, A = qs.take K := ⟨_, rfl⟩
  obtain ⟨B, hB⟩ : ∃ B, B = qs.drop K := ⟨_, rfl⟩
  have hAB : qs = A ++ B := by rw [hA, hB, List.take_append_drop]
  have hcut1 : cutV (qs.map Pred.v) 0 K qs.length 6 = some (deep (A.map Pred.v)) := by
    unfold cutV
    rw [if_pos ⟨by omega, by omega, by simp, by simp⟩, hA]
    simp
  have hcut2 : cutV (qs.map Pred.v) K qs.length qs.length 6 = some (deep (B.map Pred.v)) := by
    unfold cutV
    rw [if_pos ⟨by omega, by omega, by simp, by simp⟩, hB]
    simp
    rw [List.take_of_length_le (by simp)]
  have hlen : A.length + B.length = qs.length := by rw [hAB, List.length_append]
  have m1 : A.length ≤ maxLen := by omega
  have m2 : A.length * 56 ≤ 140737488355328 := by omega
  have m3 : A.length + 1 ≤ maxLen := by omega
  have m4 : (A.length + 1) * 56 ≤ 140737488355328 := by omega
  have m5 : A.length + (B.length + 1) ≤ maxLen := by omega
  have m6 : (A.length + (B.length + 1)) * 56 ≤ 140737488355328 := by omega
  have d7 : ¬ n3 + 1 = n3 := by omega
  simp [hcut1, hcut2, d1, d2, d3, d4, d5, d6, d7, m1, m2, m3, m4]
  refine ⟨?_, by omega, by omega, ?_⟩
  · rintro y (⟨a, _, rfl⟩ | rfl) <;> rfl
  have hqw' : ∀ q ∈ A ++ p :: B, q.wf := by
    intro q hq
    simp only [List.mem_append, List.mem_cons] at hq
    rcases hq with hq | rfl | hq
    · exact hqw q (by rw [hAB]; simp [hq])
    · exact hpw
    · exact hqw q (by rw [hAB]; simp [hq])
  have hal2 := hal (A ++ p :: B) c hqw' hcw (by simp; omega)
  simp only [List.map_append, List.map_cons] at hal2
  refine wCall_eq (Q := fun r => r = allP qs c) (hal qs c hqw hcw hqm _ _ ?_ ?_) fun r n6 hr hn6 => ?_
  · simp [hg, g1, g3, g4]
  · simp at hn5; simp; omega
  subst hr
  simp at hn5 hn6
  simp [allP, d1, d2, d3, d4, d5, d6, d7]
  refine wCall_eq (Q := fun r => r = allP (A ++ p :: B) c) (hal2 _ _ ?_ ?_) fun r n7 hr hn7 => ?_
  · simp [hg, g1, g3, g4]
  · simp; omega
  subst hr
  simp at hn7
  have e1 : (allV qs c 0).2 = (A.all (fun p => holdsV p c) && B.all fun p => holdsV p c) := by rw [allV_snd, hAB, List.all_append]
  have e2 : (allV (A ++ p :: B) c 0).2 = (A.all (fun p => holdsV p c) && (holdsV p c && B.all fun p => holdsV p c)) := by rw [allV_snd, List.all_append, List.all_cons]
  generalize A.all (fun p => holdsV p c) = a at e1 e2
  generalize B.all (fun p => holdsV p c) = b at e1 e2
  cases hab : (a && b)
  · have e3 : (a && (holdsV p c && b)) = false := bool3 hab
    rw [hab] at e1
    rw [e3] at e2
    simp [allP, d1, d2, d3, d4, d5, d6, d7, e1, e2]
    refine wCall_eq (Q := fun r => r = .bool _) (haw _ _ ?_ ?_) fun r n8 hr hn8 => ?_
    · simp [hg, g1, g3, g4]
    · simp; omega
    subst hr
    simp
    exact wF_of rfl
  · have e3 : (a && (holdsV p c && b)) = holdsV p c := bool4 hab
    rw [hab] at e1
    rw [e3] at e2
    simp [allP, d1, d2, d3, d4, d5, d6, d7, e1, e2]
    refine wCall_eq (Q := fun r => r = .bool _) (hho p c hpw hcw _ _ ?_ ?_) fun r n8 hr hn8 => ?_
    · simp [hg, g1, g3, g4]
    · simp; omega
    subst hr
    simp at hn8
    simp
    refine wCall_eq (Q := fun r => r = .bool _) (haw _ _ ?_ ?_) fun r n9 hr hn9 => ?_
    · simp [hg, g1, g3, g4]
    · simp; omega
    subst hr
    simp
    exact wF_of rfl
end
end Go.PE
namespace Go.PE
open Go
section
variable {P : Program} {f g : Nat}
theorem holdsValid_rest {hv rv aw nx X Y : Nat} (hhv : CValidOK P hv g) (hrv : RCValidOK P rv) (haw : LawOK P aw g) (c x y : Ctx) (hc : c.wf) (hx : x.wf) (hy : y.wf) (hxv : x.valid = true) :
    ∀ s : PS, s.t 4 = ptr nx 0 → s.t 9 = ptr X 0 → s.t 10 = ptr Y 0 → s.H nx = some c.cells → s.H X = some x.cells → s.H Y = some y.cells → s.H g = some bitsRow → g < s.nx →
      wpc (PCalls P) P (fun _ => False) nx (law07_HoldsValidC_j1 hv rv aw) (fin nx [.t 8] fun r _ _ => r = .bool true) s := by
  rintro ⟨t, H, n⟩ e4 e9 e10 ec ex ey eg hgn
  simp only at e4 e9 e10 ec ex ey eg hgn
  simp [law07_HoldsValidC_j1, e4, e9, e10, ec, ex, ey]
  refine wqCall_of (hhv x hx _ _ eg hgn) rfl (fun _ _ _ h => h.1) ?_
  simp [hxv, e4, e9, e10, ec, ex, ey]
  refine wqCall_of (hhv c hc _ _ eg hgn) rfl (fun _ _ _ h => h.1) ?_
  simp [e4, e9, e10, ec, ex, ey]
  refine wqCall_of (hrv c hc _ _) rfl (fun _ _ _ h => h.1) ?_
  simp [e4, e9, e10, ec, ex, ey]
  refine wqCall_of (hhv y hy _ _ eg hgn) rfl (fun _ _ _ h => h.1) ?_
  simp [e4, e9, e10, ec, ex, ey]
  refine wqCall_of (hrv y hy _ _) rfl (fun _ _ _ h => h.1) ?_
  simp
  refine wqCall_of (haw _ _ eg hgn) rfl (fun _ _ _ h => h.1) ?_
  simp
  exact wF_of rfl
theorem holdsValid_ok {ne cx e wi hv rv aw : Nat} (hc : compFn P f = some (56, law07_HoldsValidC ne cx e wi hv rv aw, [.t 8])) (hne : NewOK P ne) (hcx : Draws P cx [] isCtx) (hwi : WithinOK P wi)
    (hhv : CValidOK P hv g) (hrv : RCValidOK P rv) (haw : LawOK P aw g) (c : Ctx) (l : List Int) (how n : Int) (hcw : c.wf) (hl : l.length ≤ maxLen) (h0 : 0 ≤ how) (h1 : how < 256) (H : Nat → Option (List Value)) (nx : Nat) (hg : H g = some bitsRow) (hgn : g < nx) :
    PCalls P f [c.v, deep (l.map (.int .i64)), .int .u8 how, .int .i64 n] H nx (fun _ => False) (fun r H' _ => r = .bool true) := by
  refine PCalls_of hc (by simp) fun hw => ?_
  have g1 : ¬ g = nx := by omega
  have g2 : ¬ g = nx + 1 := by omega
  simp [law07_HoldsValidC]
  refine wCall_le (hne l _ _) fun r H1 n1 hR hn1 _ => ?_
  obtain ⟨rfl, rfl, rfl⟩ := hR
  simp
  refine wCall_drawL hcx (l := l) (at_ := 0) (by omega) hl (by simp) (.inl (by omega)) fun v at1 n2 hv ha1 hn2 => ?_
  obtain ⟨x, rfl, hxv, hxw⟩ := isCtx_ok hv
  simp at hn2
  have g3 : ¬ g = n2 := by omega
  have g4 : ¬ g = n2 + 1 := by omega
  have d1 : ¬ nx = n2 := by omega
  have d2 : ¬ nx = n2 + 1 := by omega
  have d3 : nx ≤ n2 := by omega
  have d4 : nx ≤ n2 + 1 := by omega
  have hm : how.tmod 4 = how % 4 := Int.tmod_eq_emod_of_nonneg h0
  obtain ⟨z, ln, mi, ho⟩ := x
  have hrest := fun y hy => holdsValid_rest (nx := nx) (X := n2) (Y := n2 + 1) hhv hrv haw c ⟨z, ln, mi, ho⟩ y hcw hxw hy hxv
  rcases (by omega : how % 4 = 0 ∨ how % 4 = 1 ∨ how % 4 = 2 ∨ how % 4 = 3) with h | h | h | h
  · simp [Ctx.v, Ctx.cells, hm, h, d1, d2, d3, d4]
    refine hrest ⟨n, ln, mi, ho⟩ hxw _ ?_ ?_ ?_ ?_ ?_ ?_ ?_ ?_ <;> simp [hg, g1, g2, g3, g4, d1, d2, Ctx.cells]
    omega
  · simp [Ctx.v, Ctx.cells, hm, h, d1, d2, d3, d4]
    refine hrest ⟨z, n, mi, ho⟩ hxw _ ?_ ?_ ?_ ?_ ?_ ?_ ?_ ?_ <;> simp [hg, g1, g2, g3, g4, d1, d2, Ctx.cells]
    omega
  · simp [Ctx.v, Ctx.cells, hm, h, d1, d2, d3, d4]
    refine hrest ⟨z, ln, n, ho⟩ hxw _ ?_ ?_ ?_ ?_ ?_ ?_ ?_ ?_ <;> simp [hg, g1, g2, g3, g4, d1, d2, Ctx.cells]
    omega
  · simp [Ctx.v, Ctx.cells, hm, h, d1, d2, d3, d4]
    refine wCall_eq (Q := fun r => r = .int .i64 (within n 4)) (hwi n 4 (by omega) _ _) fun r n3 hr hn3 => ?_
    subst hr
    simp at hn3
    have hr := within_range (x := n) (n := 4) (by omega) (by omega)
    generalize within n 4 = k at hr
    obtain ⟨S, hS, hSz⟩ : ∃ S : ByteArray, elemAt [Value.string ⟨#[]⟩, Value.string ⟨#[65]⟩, Value.string ⟨#[97, 110, 110]⟩, Value.string ⟨#[97, 98, 99, 100, 101, 102, 103, 104, 105, 106, 107, 108, 109, 110, 111, 112, 113]⟩] k 1 = some (dptr 0 [.string S]) ∧ (S.size : Int) ≤ 9223372036854775807 := by
      rcases (by omega : k = 0 ∨ k = 1 ∨ k = 2 ∨ k = 3) with rfl | rfl | rfl | rfl
      · exact ⟨⟨#[]⟩, by simp [elemAt], by decide +kernel⟩
      · exact ⟨⟨#[65]⟩, by simp [elemAt], by decide +kernel⟩
      · exact ⟨⟨#[97, 110, 110]⟩, by simp [elemAt], by decide +kernel⟩
      · exact ⟨⟨#[97, 98, 99, 100, 101, 102, 103, 104, 105, 106, 107, 108, 109, 110, 111, 112, 113]⟩, by simp [elemAt], by decide +kernel⟩
    simp [hS, d1, d2, d3, d4]
    refine hrest ⟨z, ln, mi, S⟩ hSz _ ?_ ?_ ?_ ?_ ?_ ?_ ?_ ?_ <;> simp [hg, g1, g2, g3, g4, d1, d2, Ctx.cells]
    omega
end
end Go.PE
namespace Go.PE
open Go
theorem max_len : (maxLen : Int) = 9223372036854775807 := rfl
theorem pred_of {P : Program} {t : Nat} (h : ∃ fs, P.underlying t = some (.struct fs)) (hf : flat P 3 t = some [.int .i64, .int .u64, .int .i64, .int .i64, .str, .int .i64]) {cs : List Value} (hp : PTy P t cs) : ∃ q : Pred, toV P t cs = q.v ∧ q.wf := by
  obtain ⟨fs, h⟩ := h
  obtain ⟨v1, w1, rfl, ⟨k, rfl, _, _⟩, k1⟩ := fk_cons (flat_ok 3 t _ cs hf hp)
  obtain ⟨v2, w2, rfl, ⟨m, rfl, hm0, hm1⟩, k2⟩ := fk_cons k1
  obtain ⟨v3, w3, rfl, ⟨fr, rfl, _, _⟩, k3⟩ := fk_cons k2
  obtain ⟨v4, w4, rfl, ⟨to, rfl, _, _⟩, k4⟩ := fk_cons k3
  obtain ⟨v5, w5, rfl, ⟨s, rfl, hs⟩, k5⟩ := fk_cons k4
  obtain ⟨v6, w6, rfl, ⟨n, rfl, _, _⟩, k6⟩ := fk_cons k5
  obtain rfl := fk_nil k6
  refine ⟨⟨k, m, fr, to, s, n⟩, toV_ag h _, ?_, ?_, ?_⟩
  · have := max_len; show (s.size : Int) ≤ _; omega
  · exact hm0
  · have : IntKind.u64.max = 18446744073709551615 := rfl
    show m < _; omega
theorem ctx_of {P : Program} {t : Nat} (h : ∃ fs, P.underlying t = some (.struct fs)) (hf : flat P 3 t = some [.int .i64, .int .i64, .int .i64, .str]) {cs : List Value} (hp : PTy P t cs) : ∃ q : Ctx, toV P t cs = q.v ∧ q.wf := by
  obtain ⟨fs, h⟩ := h
  obtain ⟨v7, w7, rfl, ⟨z, rfl, _, _⟩, k1⟩ := fk_cons (flat_ok 3 t _ cs hf hp)
  obtain ⟨v8, w8, rfl, ⟨l, rfl, hm0, hm1⟩, k2⟩ := fk_cons k1
  obtain ⟨v9, w9, rfl, ⟨m, rfl, _, _⟩, k3⟩ := fk_cons k2
  obtain ⟨v10, w10, rfl, ⟨s, rfl, hs⟩, k4⟩ := fk_cons k3
  obtain rfl := fk_nil k4
  refine ⟨⟨z, l, m, s⟩, toV_ag h _, ?_⟩
  have := max_len; show (s.size : Int) ≤ _; omega
theorem pargs_nil {P : Program} {ps : List Value} (h : Pargs P [] ps) : ps = [] := by
  cases ps with
  | nil => rfl
  | cons => cases h
theorem pargs_cons {P : Program} {t : Nat} {ts : List TypeId} {ps : List Value} (h : Pargs P (t :: ts) ps) : ∃ cs qs, ps = toV P t cs :: qs ∧ PTy P t cs ∧ Pargs P ts qs := by
  cases ps with
  | nil => cases h
  | cons p ps =>
    obtain ⟨⟨cs, h1, h2⟩, h3⟩ := h
    exact ⟨cs, ps, by rw [h2], h1, h3⟩
end Go.PE
