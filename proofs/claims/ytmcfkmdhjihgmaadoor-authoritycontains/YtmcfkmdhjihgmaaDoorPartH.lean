/- AuthorityContains: the law. DONE. -/
import Derived.Test.YtmcfkmdhjihgmaaDoorPartG
set_option linter.all false
namespace Go.PE
open Go
set_option maxHeartbeats 4000000 in
theorem authorityContains_ok {P : Program} {f g aw md tS cx ne sp ac rc : Nat} (hc : compFn P f = some (68, law08_AuthorityContainsC aw md tS cx ne sp ac rc, [.t 8])) (haw : Aw08OK P aw g) (hac : AConOK P ac g) (hrc : RConOK P rc) (hmd : MadeOK P md) (hcx : Draws P cx [] isCtx) (hne : NewOK P ne) (hsp : SpoiltOK P sp)
    (a : Aut) (c : Ctx) (l how : List Int) (ha : a.daily.length ≤ 60 → a.wf) (hcw : c.wf) (hl : l.length ≤ maxLen) (hh : how.length ≤ maxLen) (H : Nat → Option (List Value)) (nx : Nat) (hg : H g = some bitsRow) (hgn : g < nx) :
    PCalls P f [a.v, c.v, deep (l.map (.int .i64)), deep (how.map (.int .i64))] H nx (fun _ => False) (fun r H' _ => r = .bool true) := by
  refine PCalls_of hc (by simp) fun hw => ?_
  have hmx : (maxLen : Int) = 9223372036854775807 := rfl
  have g1 : ¬ g = nx := by omega
  have g2 : ¬ g = nx + 1 := by omega
  have b1 : ¬ nx = nx + 1 := by omega
  have b2 : nx ≤ nx + 1 := by omega
  have b3 : ¬ nx + 1 = nx := by omega
  by_cases h60 : 60 < a.daily.length
  · simp [law08_AuthorityContainsC, show (60 : Int) < a.daily.length by omega, h60, b1, b2, b3]
    refine wCall_eq (Q := fun r => r = .bool true) (haw _ _ (by simp [g1, g2, hg]) (by show g < nx + 1 + 1; omega)) fun r n hr hn => ?_
    subst hr
    simp
    exact wF_of rfl
  replace ha := ha (by omega)
  simp [law08_AuthorityContainsC, law08_AuthorityContainsC_j2, show ¬ (60 : Int) < a.daily.length by omega, h60, b1, b2, b3]
  refine wCall_le (hmd l hl _ _) fun r H1 n1 hR hn1 hown => ?_
  obtain ⟨x, y0, nd, at1, rfl, hx, hy0, h4, h5, h6, rfl⟩ := hR
  obtain ⟨hxv, hxs⟩ := hx.ok
  simp at hn1
  simp at h4 h5
  have d1 : ¬ nx = nd := by omega
  have d1' : ¬ nx + 1 = nd := by omega
  have d2 : ¬ nx = n1 := by omega
  have d2' : ¬ nx + 1 = n1 := by omega
  have d3 : ¬ nx = n1 + 1 := by omega
  have d3' : ¬ nx + 1 = n1 + 1 := by omega
  have d4 : ¬ n1 = nd := by omega
  have d4' : ¬ nd = n1 := by omega
  have d5 : ¬ n1 + 1 = nd := by omega
  have d5' : ¬ nd = n1 + 1 := by omega
  have d6 : ¬ n1 = n1 + 1 := by omega
  have d7 : ¬ g = nd := by omega
  have d8 : ¬ g = n1 := by omega
  have d9 : ¬ g = n1 + 1 := by omega
  have d10 : ¬ n1 + 1 = n1 := by omega
  have p1 : nx ≤ n1 := by omega
  have p2 : nx ≤ n1 + 1 := by omega
  simp [p1, p2, d1, d2, d3, d4, d4', d5, d5', d6, d7, d8, d9, d10]
  refine wCall_drawL hcx (l := l) (at_ := at1) h6 hl (by simp [d4', d5']) (.inl (by omega)) fun v at2 n2 hv ha2 hn2 => ?_
  obtain ⟨w, rfl, hwv, hww⟩ := isCtx_ok hv
  simp at hn2
  have e1 : ¬ nx = n2 := by omega
  have e1' : ¬ nx + 1 = n2 := by omega
  have e2 : ¬ n1 = n2 := by omega
  have e3 : ¬ n2 = nd := by omega
  have e4 : ¬ g = n2 := by omega
  have e5 : ¬ n1 + 1 = n2 := by omega
  have q1 : ¬ n2 + 1 = n1 := by omega
  have q3 : ¬ n1 = n2 + 1 := by omega
  have q4 : ¬ nx = n2 + 1 := by omega
  have q4' : ¬ nx + 1 = n2 + 1 := by omega
  have q5 : ¬ g = n2 + 1 := by omega
  have q6 : ¬ n2 + 1 + 1 = n2 + 1 := by omega
  have q7 : ¬ n1 = n2 + 1 + 1 := by omega
  have q8 : ¬ nx = n2 + 1 + 1 := by omega
  have q8' : ¬ nx + 1 = n2 + 1 + 1 := by omega
  have q9 : ¬ g = n2 + 1 + 1 := by omega
  have q10 : ¬ n2 + 1 = n2 + 1 + 1 := by omega
  have q11 : ¬ n2 = n2 + 1 := by omega
  have q12 : ¬ n2 = n2 + 1 + 1 := by omega
  have q13 : ¬ n2 + 1 = nd := by omega
  have q14 : ¬ n2 + 1 + 1 = nd := by omega
  have q15 : ¬ nx = n2 + 1 + 1 := by omega
  have p3 : nx ≤ n2 + 1 := by omega
  have p4 : nx ≤ n2 + 1 + 1 := by omega
  have p5 : nx ≤ n2 := by omega
  have nw : ∀ {s : PS} {d : Option Nat} {K : PS → Prop}, K ⟨(s.putO d (ptr s.nx 0)).t, upd s.H s.nx (some (dk how 0)), s.nx + 1⟩ → wCall (PCalls P) (fun _ => False) nx ne [deep (how.map (.int .i64))] d s K := by
    intro s d K hK
    refine wCall_le (hne how _ _) fun r H1 n1 hR hn1 _ => ?_
    obtain ⟨rfl, rfl, rfl⟩ := hR
    exact hK
  have spc : ∀ {s : PS} {d : Option Nat} {K : PS → Prop} {k : Nat}, s.H k = some (dk how 0) → nx ≤ k → (∀ (y : Aut) n at', y.wf → s.nx ≤ n → K ⟨(s.putO d y.v).t, upd s.H k (some (dk how at')), n⟩) → wCall (PCalls P) (fun _ => False) nx sp [x.v, ptr k 0] d s K := by
    intro s d K k h1 h2 hK
    refine wCall_leT (hsp x hxs k how 0 (by omega) hh s.H s.nx h1) (fun j hj => by subst hj; exact .inl h2) (fun j row hj hr => ?_) fun p H' nx' hR hn => ?_
    · subst hj
      rw [h1] at hr
      obtain rfl := Option.some.inj hr
      exact dk_noLin how 0
    · obtain ⟨⟨y, rfl, hy⟩, at', ha', rfl⟩ := hR
      exact hK y nx' at' hy hn
  simp [p1, p2, p3, p4, p5, b1, b2, b3, d1, d2, d3, d4, d4', d5, d5', d6, d7, d8, d9, d10, e1, e2, e3, e4, e5, q1, q3, q4, q5, q6, q7, q8, q9, q10, q11, q12, q13, q14, d1', d2', d3', e1', q4', q8', Aut.ag]
  repeat' first
    | refine And.intro ?_ ?_
    | (refine nw ?_
       simp [p1, p2, p3, p4, p5, b1, b2, b3, d1, d2, d3, d4, d4', d5, d5', d6, d7, d8, d9, d10, e1, e2, e3, e4, e5, q1, q3, q4, q5, q6, q7, q8, q9, q10, q11, q12, q13, q14, d1', d2', d3', e1', q4', q8', Aut.ag])
    | (refine spc (by simp [q6, q10]) (by first | exact p3 | exact p4) fun y n at' hy hn => ?_
       simp at hn
       have r1 : ¬ n = n2 + 1 := by omega
       have r3 : ¬ n1 = n := by omega
       have r4 : ¬ nx = n := by omega
       have r4' : ¬ nx + 1 = n := by omega
       have r5 : ¬ g = n := by omega
       have r6 : nx ≤ n := by omega
       have r7 : ¬ n2 = n := by omega
       simp [p1, p2, p3, p4, p5, b1, b2, b3, d1, d2, d3, d4, d4', d5, d5', d6, d7, d8, d9, d10, e1, e2, e3, e4, e5, q1, q3, q4, q5, q6, q7, q8, q9, q10, q11, q12, q13, q14, d1', d2', d3', e1', q4', q8', r1, r3, r4, r4', r5, r6, r7, Aut.ag])
    | fail "stuck"
  all_goals
    refine ac8_j1 haw hac hrc (ka := nx) (kc := nx + 1) (kx := n1) (kw := n2) (a := a) (x := x) (y := y) (c := c) (w := w) ha hxs.1 hy hcw hww (by simp) (by simp) (by simp) (by simp) rfl ?_ ?_ ?_ ?_ ?_ ?_ ?_ (fun _ _ => rfl)
    · simp [b1, d1, d2, d3, e1, q4, q8, r4]
    · simp [b3, d1', d2', d3', e1', q4', q8', r4', d2, e1, q4, q8]
    · simp [d4, d6, e2, q3, q7, r3]
    · simp [q11, q12, r7]
    · simp [q6, q10, r1]
    · simp [g1, g2, d7, d8, d9, e4, q5, q9, r5, hg]
    · simp; omega
end Go.PE
