/- Pure code: the law AuthorityOf, awake. AuthorityOf: the law. -/
import Derived.Test.YtmcfkmdhjihgmaaDoorPartC
import Derived.Test.YtmcfkmdhjihgmaaDoorPartF
import Derived.Test.YtmcfkmdhjihgmaaDoorPartE
set_option linter.all false
namespace Go.PE
open Go
/-- macaroon/macaroonlaw08.AuthorityOf: 103 slots, results [(.t 6)] -/
def law08_AuthorityOfC_j1 (t_api_Predicate : Nat) : PC :=
  (.seq (.block 1 (.reg [((some 58), (none, (.steal 16))),
       ((some 59), (none, (.build [(.inr ((.const (.int .i64 1)), 1)), (.inr ((.const (.int .u64 3)), 1)), (.inl [(.int .i64 0)]), (.inl [(.int .i64 0)]), (.inl [(.string ⟨#[]⟩)]), (.inl [(.int .i64 0)])]))),
       ((some 60), (none, (.mks t_api_Predicate 6 false [(.tmp 59)]))),
       ((some 61), (none, (.app t_api_Predicate 6 56 58 (.tmp 60)))),
       ((some 16), (none, (.steal 61)))]))
  (.reg [((some 56), (none, (.mv (.tmp 17)))),
      ((some 57), (none, (.bi .add (.tmp 56) (.const (.int .i64 1))))),
      ((some 17), (none, (.mv (.tmp 57))))]))
def law08_AuthorityOfC_j2 (f_authority_Of : Nat) (t_api_Span : Nat) (f_ref06_Of : Nat) (f_ref06_SameAuthority : Nat) (f_law08_awake : Nat) : PC :=
  (.seq (.reg [((some 63), (none, (.mv (.tmp 16)))),
    ((some 64), (none, (.call f_authority_Of [(.tmp 63)]))),
    ((some 62), (none, (.steal 64))),
    ((some 65), (none, (.extr 62 0))),
    ((some 66), (none, (.extr 62 1))),
    ((some 18), (none, (.alloc [(.bool false), (.int .u64 0), (.int .u64 0), (.int .u64 0), (.int .i64 0), (.int .i64 0), (lin t_api_Span []), (.string ⟨#[]⟩)]))),
    (none, (none, (.st 8 (.tmp 18) (.tmp 65)))),
    ((some 19), (none, (.mv (.tmp 66))))])
  (.seq (.reg [((some 68), (none, (.mv (.tmp 16)))),
    ((some 69), (none, (.call f_ref06_Of [(.tmp 68)]))),
    ((some 67), (none, (.steal 69))),
    ((some 70), (none, (.extr 67 0))),
    ((some 71), (none, (.extr 67 1))),
    ((some 20), (none, (.alloc [(.bool false), (.int .u64 0), (.int .u64 0), (.int .u64 0), (.int .i64 0), (.int .i64 0), (lin t_api_Span []), (.string ⟨#[]⟩)]))),
    (none, (none, (.st 8 (.tmp 20) (.tmp 70)))),
    ((some 21), (none, (.mv (.tmp 71))))])
  (.seq (.reg [((some 72), (none, (.ldA 8 (.tmp 8)))),
    ((some 73), (none, (.ldA 8 (.tmp 10)))),
    ((some 74), (none, (.call f_ref06_SameAuthority [(.tmp 72), (.tmp 73)]))),
    ((some 75), (none, (.mv (.tmp 74)))),
    ((some 76), ((some (75, true)), (.mv (.tmp 9)))),
    ((some 77), ((some (75, true)), (.mv (.tmp 11)))),
    ((some 78), ((some (75, true)), (.bi .eql (.tmp 76) (.tmp 77)))),
    ((some 79), (none, (.pick (.tmp 75) (.tmp 78) (.const (.bool false))))),
    ((some 80), (none, (.mv (.tmp 79)))),
    ((some 81), ((some (80, true)), (.ldA 8 (.tmp 12)))),
    ((some 82), ((some (80, true)), (.ldA 8 (.tmp 14)))),
    ((some 83), ((some (80, true)), (.call f_ref06_SameAuthority [(.tmp 81), (.tmp 82)]))),
    ((some 84), (none, (.pick (.tmp 80) (.tmp 83) (.const (.bool false))))),
    ((some 85), (none, (.mv (.tmp 84)))),
    ((some 86), ((some (85, true)), (.mv (.tmp 13)))),
    ((some 87), ((some (85, true)), (.mv (.tmp 15)))),
    ((some 88), ((some (85, true)), (.bi .eql (.tmp 86) (.tmp 87)))),
    ((some 89), (none, (.pick (.tmp 85) (.tmp 88) (.const (.bool false))))),
    ((some 90), (none, (.mv (.tmp 89)))),
    ((some 91), ((some (90, true)), (.ldA 8 (.tmp 18)))),
    ((some 92), ((some (90, true)), (.ldA 8 (.tmp 20)))),
    ((some 93), ((some (90, true)), (.call f_ref06_SameAuthority [(.tmp 91), (.tmp 92)]))),
    ((some 94), (none, (.pick (.tmp 90) (.tmp 93) (.const (.bool false))))),
    ((some 95), (none, (.mv (.tmp 94)))),
    ((some 96), ((some (95, true)), (.mv (.tmp 19)))),
    ((some 97), ((some (95, true)), (.mv (.tmp 21)))),
    ((some 98), ((some (95, true)), (.bi .eql (.tmp 96) (.tmp 97)))),
    ((some 99), (none, (.pick (.tmp 95) (.tmp 98) (.const (.bool false))))),
    ((some 100), (none, (.mv (.tmp 99)))),
    ((some 101), ((some (100, true)), (.call f_law08_awake []))),
    ((some 102), (none, (.pick (.tmp 100) (.tmp 101) (.const (.bool false))))),
    ((some 6), (none, (.mv (.tmp 102))))])
  .ret)))
def law08_AuthorityOfC (f_made_New : Nat) (f_made_Deck_Predicates : Nat) (f_authority_Of : Nat) (t_api_Span : Nat) (f_ref06_Of : Nat) (t_api_Predicate : Nat) (f_ref06_SameAuthority : Nat) (f_law08_awake : Nat) : PC :=
  (.seq (.reg [((some 6), (none, (.mv (.const (.bool false)))))])
  (.seq (.reg [((some 22), (none, (.mv (.tmp 0)))),
    ((some 23), (none, (.mv (.tmp 0)))),
    ((some 24), (none, (.len (.tmp 23)))),
    ((some 25), (none, (.mm false (.tmp 24) (.const (.int .i64 80))))),
    ((some 26), (none, (.slS 6 (.tmp 22) none (some (.tmp 25)) none))),
    ((some 0), (none, (.steal 26)))])
  (.seq (.reg [((some 27), (none, (.mv (.tmp 1)))),
    ((some 28), (none, (.call f_made_New [(.tmp 27)]))),
    ((some 29), (none, (.call f_made_Deck_Predicates [(.tmp 28), (.const (.int .i64 5)), (.const (.bool true))]))),
    ((some 7), (none, (.steal 29)))])
  (.seq (.reg [((some 31), (none, (.mv (.tmp 7)))),
    ((some 32), (none, (.call f_authority_Of [(.tmp 31)]))),
    ((some 30), (none, (.steal 32))),
    ((some 33), (none, (.extr 30 0))),
    ((some 34), (none, (.extr 30 1))),
    ((some 8), (none, (.alloc [(.bool false), (.int .u64 0), (.int .u64 0), (.int .u64 0), (.int .i64 0), (.int .i64 0), (lin t_api_Span []), (.string ⟨#[]⟩)]))),
    (none, (none, (.st 8 (.tmp 8) (.tmp 33)))),
    ((some 9), (none, (.mv (.tmp 34))))])
  (.seq (.reg [((some 36), (none, (.mv (.tmp 7)))),
    ((some 37), (none, (.call f_ref06_Of [(.tmp 36)]))),
    ((some 35), (none, (.steal 37))),
    ((some 38), (none, (.extr 35 0))),
    ((some 39), (none, (.extr 35 1))),
    ((some 10), (none, (.alloc [(.bool false), (.int .u64 0), (.int .u64 0), (.int .u64 0), (.int .i64 0), (.int .i64 0), (lin t_api_Span []), (.string ⟨#[]⟩)]))),
    (none, (none, (.st 8 (.tmp 10) (.tmp 38)))),
    ((some 11), (none, (.mv (.tmp 39))))])
  (.seq (.reg [((some 41), (none, (.mv (.tmp 0)))),
    ((some 42), (none, (.call f_authority_Of [(.tmp 41)]))),
    ((some 40), (none, (.steal 42))),
    ((some 43), (none, (.extr 40 0))),
    ((some 44), (none, (.extr 40 1))),
    ((some 12), (none, (.alloc [(.bool false), (.int .u64 0), (.int .u64 0), (.int .u64 0), (.int .i64 0), (.int .i64 0), (lin t_api_Span []), (.string ⟨#[]⟩)]))),
    (none, (none, (.st 8 (.tmp 12) (.tmp 43)))),
    ((some 13), (none, (.mv (.tmp 44))))])
  (.seq (.reg [((some 46), (none, (.mv (.tmp 0)))),
    ((some 47), (none, (.call f_ref06_Of [(.tmp 46)]))),
    ((some 45), (none, (.steal 47))),
    ((some 48), (none, (.extr 45 0))),
    ((some 49), (none, (.extr 45 1))),
    ((some 14), (none, (.alloc [(.bool false), (.int .u64 0), (.int .u64 0), (.int .u64 0), (.int .i64 0), (.int .i64 0), (lin t_api_Span []), (.string ⟨#[]⟩)]))),
    (none, (none, (.st 8 (.tmp 14) (.tmp 48)))),
    ((some 15), (none, (.mv (.tmp 49))))])
  (.seq (.reg [((some 16), (none, (.cnil t_api_Predicate)))])
  (.seq (.seq (.reg [((some 17), (none, (.mv (.const (.int .i64 0)))))])
  (.block 0 (.loop (.seq (.seq (.reg [((some 50), (none, (.mv (.tmp 17)))),
      ((some 51), (none, (.mv (.tmp 2)))),
      ((some 52), (none, (.cv .i64 (.tmp 51)))),
      ((some 53), (none, (.bi .rem (.tmp 52) (.const (.int .i64 5))))),
      ((some 54), (none, (.bi .add (.const (.int .i64 62)) (.tmp 53)))),
      ((some 55), (none, (.bi .lss (.tmp 50) (.tmp 54))))])
  (.cond (.tmp 55)
      .skip
      (.exit 0)))
  (law08_AuthorityOfC_j1 t_api_Predicate)))))
  (law08_AuthorityOfC_j2 f_authority_Of t_api_Span f_ref06_Of f_ref06_SameAuthority f_law08_awake))))))))))
/-- macaroon/macaroonlaw08.awake: 58 slots, results [(.t 0)] -/
def law08_awakeC (t_api_Predicate : Nat) (f_authority_Of : Nat) (t_api_Span : Nat) : PC :=
  (.seq (.reg [((some 0), (none, (.mv (.const (.bool false)))))])
  (.seq (.reg [((some 6), (none, (.build [(.inr ((.const (.int .i64 4)), 1)), (.inl [(.int .u64 0)]), (.inr ((.const (.int .i64 0)), 1)), (.inr ((.const (.int .i64 1439)), 1)), (.inl [(.string ⟨#[]⟩)]), (.inl [(.int .i64 0)])]))),
    ((some 7), (none, (.build [(.inr ((.const (.int .i64 5)), 1)), (.inl [(.int .u64 0)]), (.inr ((.const (.int .i64 1380)), 1)), (.inr ((.const (.int .i64 300)), 1)), (.inl [(.string ⟨#[]⟩)]), (.inl [(.int .i64 0)])]))),
    ((some 8), (none, (.mks t_api_Predicate 6 false [(.tmp 6), (.tmp 7)]))),
    ((some 9), (none, (.call f_authority_Of [(.tmp 8)]))),
    ((some 5), (none, (.steal 9))),
    ((some 10), (none, (.extr 5 0))),
    ((some 11), (none, (.extr 5 1))),
    ((some 1), (none, (.alloc [(.bool false), (.int .u64 0), (.int .u64 0), (.int .u64 0), (.int .i64 0), (.int .i64 0), (lin t_api_Span []), (.string ⟨#[]⟩)]))),
    (none, (none, (.st 8 (.tmp 1) (.tmp 10)))),
    ((some 2), (none, (.mv (.tmp 11))))])
  (.seq (.reg [((some 13), (none, (.build [(.inr ((.const (.int .i64 4)), 1)), (.inl [(.int .u64 0)]), (.inr ((.const (.int .i64 0)), 1)), (.inr ((.const (.int .i64 1439)), 1)), (.inl [(.string ⟨#[]⟩)]), (.inl [(.int .i64 0)])]))),
    ((some 14), (none, (.build [(.inr ((.const (.int .i64 3)), 1)), (.inr ((.const (.int .u64 2)), 1)), (.inl [(.int .i64 0)]), (.inl [(.int .i64 0)]), (.inl [(.string ⟨#[]⟩)]), (.inl [(.int .i64 0)])]))),
    ((some 15), (none, (.mks t_api_Predicate 6 false [(.tmp 13), (.tmp 14)]))),
    ((some 16), (none, (.call f_authority_Of [(.tmp 15)]))),
    ((some 12), (none, (.steal 16))),
    ((some 17), (none, (.extr 12 0))),
    ((some 18), (none, (.extr 12 1))),
    ((some 3), (none, (.alloc [(.bool false), (.int .u64 0), (.int .u64 0), (.int .u64 0), (.int .i64 0), (.int .i64 0), (lin t_api_Span []), (.string ⟨#[]⟩)]))),
    (none, (none, (.st 8 (.tmp 3) (.tmp 17)))),
    ((some 4), (none, (.mv (.tmp 18))))])
  (.seq (.reg [((some 19), (none, (.mv (.tmp 2)))),
    ((some 20), (none, (.bi .eql (.tmp 19) (.const (.int .i64 0))))),
    ((some 21), (none, (.mv (.tmp 20)))),
    ((some 22), ((some (21, true)), (.mv (.tmp 4)))),
    ((some 23), ((some (21, true)), (.bi .eql (.tmp 22) (.const (.int .i64 0))))),
    ((some 24), (none, (.pick (.tmp 21) (.tmp 23) (.const (.bool false))))),
    ((some 25), (none, (.mv (.tmp 24)))),
    ((some 26), ((some (25, true)), (.fa 3 (.tmp 1)))),
    ((some 27), ((some (25, true)), (.ld false (.tmp 26)))),
    ((some 28), ((some (25, true)), (.bi .eql (.tmp 27) (.const (.int .u64 1))))),
    ((some 29), (none, (.pick (.tmp 25) (.tmp 28) (.const (.bool false))))),
    ((some 30), (none, (.mv (.tmp 29)))),
    ((some 31), ((some (30, true)), (.fa 6 (.tmp 1)))),
    ((some 32), ((some (30, true)), (.ld false (.tmp 31)))),
    ((some 33), ((some (30, true)), (.len (.tmp 32)))),
    ((some 34), ((some (30, true)), (.bi .eql (.tmp 33) (.const (.int .i64 2))))),
    ((some 35), (none, (.pick (.tmp 30) (.tmp 34) (.const (.bool false))))),
    ((some 36), (none, (.mv (.tmp 35)))),
    ((some 37), ((some (36, true)), (.fa 6 (.tmp 1)))),
    ((some 38), ((some (36, true)), (.ld false (.tmp 37)))),
    ((some 39), ((some (36, true)), (.ixS 2 (.tmp 38) (.const (.int .i64 0))))),
    ((some 40), ((some (36, true)), (.fa 1 (.tmp 39)))),
    ((some 41), ((some (36, true)), (.ld false (.tmp 40)))),
    ((some 42), ((some (36, true)), (.bi .eql (.tmp 41) (.const (.int .i64 300))))),
    ((some 43), (none, (.pick (.tmp 36) (.tmp 42) (.const (.bool false))))),
    ((some 44), (none, (.mv (.tmp 43)))),
    ((some 45), ((some (44, true)), (.fa 4 (.tmp 1)))),
    ((some 46), ((some (44, true)), (.ld false (.tmp 45)))),
    ((some 47), ((some (44, true)), (.bi .eql (.tmp 46) (.const (.int .i64 0))))),
    ((some 48), (none, (.pick (.tmp 44) (.tmp 47) (.const (.bool false))))),
    ((some 49), (none, (.mv (.tmp 48)))),
    ((some 50), ((some (49, true)), (.fa 5 (.tmp 1)))),
    ((some 51), ((some (49, true)), (.ld false (.tmp 50)))),
    ((some 52), ((some (49, true)), (.bi .eql (.tmp 51) (.const (.int .i64 1439))))),
    ((some 53), (none, (.pick (.tmp 49) (.tmp 52) (.const (.bool false))))),
    ((some 54), (none, (.mv (.tmp 53)))),
    ((some 55), ((some (54, true)), (.fa 0 (.tmp 3)))),
    ((some 56), ((some (54, true)), (.ld false (.tmp 55)))),
    ((some 57), (none, (.pick (.tmp 54) (.tmp 56) (.const (.bool false))))),
    ((some 0), (none, (.mv (.tmp 57))))])
  .ret))))
end Go.PE
namespace Go.PE
open Go
section
variable {P : Program} {g of_ : Nat} (hof : AOfOK P of_ g)
include hof
def Aw08OK (P : Program) (f g : Nat) : Prop := ∀ (H : Nat → Option (List Value)) (nx : Nat), H g = some bitsRow → g < nx → PCalls P f [] H nx (fun _ => False) (fun r H' _ => r = .bool true ∧ H' = H)
theorem awake08_ok {f tP tS : Nat} (hc : compFn P f = some (58, law08_awakeC tP of_ tS, [.t 0])) : Aw08OK P f g := by
  intro H nx hg hgn
  refine PCalls_of hc (by simp) fun hw => ?_
  obtain ⟨w1, w2, w3, _⟩ := exs_wf
  obtain ⟨v1, v2, v3⟩ := exs_valid
  have t1 : [exT, exD].map Pred.v = [exT.v, exD.v] := rfl
  have t2 : [exT, exW].map Pred.v = [exT.v, exW.v] := rfl
  have b1 : (ag [.int .i64 4, .int .u64 0, .int .i64 0, .int .i64 1439, .string ⟨#[]⟩, .int .i64 0] : Value) = exT.v := rfl
  have b2 : (ag [.int .i64 5, .int .u64 0, .int .i64 1380, .int .i64 300, .string ⟨#[]⟩, .int .i64 0] : Value) = exD.v := rfl
  have b3 : (ag [.int .i64 3, .int .u64 2, .int .i64 0, .int .i64 0, .string ⟨#[]⟩, .int .i64 0] : Value) = exW.v := rfl
  simp [law08_awakeC, b1, b2, b3]
  refine wCall_eq (Q := fun r => ofR [exT, exD] r) (hof [exT, exD] (by simp [w1, w2]) (by simp [maxLen]) _ _ hg hgn) fun r n1 hr hn1 => ?_
  obtain ⟨a, e, rfl, hE⟩ := ofR_E hr
  obtain ⟨hA, rfl⟩ := ofE_valid hE (by simp) (by simp [v1, v2])
  obtain rfl := hA.uniq exA_of fun _ => Iff.rfl
  simp at hn1
  have c1 : ¬ g = n1 := by omega
  simp [b1, b3, show nx ≤ n1 by omega]
  refine wCall_eq (Q := fun r => ofR [exT, exW] r) (hof [exT, exW] (by simp [w1, w3]) (by simp [maxLen]) _ _ (by simp [c1, hg]) (by show g < n1 + 1; omega)) fun r n2 hr hn2 => ?_
  obtain ⟨a, e, rfl, hE⟩ := ofR_E hr
  obtain ⟨hA, rfl⟩ := ofE_valid hE (by simp) (by simp [v1, v3])
  obtain rfl := hA.uniq exW_of fun _ => Iff.rfl
  simp at hn2
  have c2 : ¬ n1 = n2 := by omega
  have q0 : exA.days = 1 := rfl
  have q1 : exA.fr = 0 := rfl
  have q2 : exA.to = 1439 := rfl
  have q3 : exA.daily = [⟨0, 300⟩, ⟨1380, 1439⟩] := rfl
  have q4 : noneA.none = true := rfl
  have q5 : elemAt [Spn.v ⟨0, 300⟩, Spn.v ⟨1380, 1439⟩] 0 2 = some (dptr 0 (Spn.cells ⟨0, 300⟩)) := rfl
  simp [show nx ≤ n2 by omega, c2, q0, q1, q2, q3, q4, q5]
  exact wF_own hw (by simp [show nx ≤ n1 by omega, show nx ≤ n2 by omega]) ⟨rfl, rfl⟩
end
theorem min80 (n : Nat) : (if (80 : Int) < n then (80 : Int) else n).toNat = min n 80 := by split <;> omega
theorem authorityOf_ok {P : Program} {g f ne ps of_ tS ro tP sa aw : Nat} (hc : compFn P f = some (103, law08_AuthorityOfC ne ps of_ tS ro tP sa aw, [.t 6])) (hne : NewOK P ne)
    (hps : ∀ n b, 0 ≤ n → n ≤ 1000000 → Draws P ps [.int .i64 n, .bool b] (isPreds tP n b)) (hof : AOfOK P of_ g) (hro : ROfOK P ro) (hsa : SameAOK P sa) (haw : Aw08OK P aw g)
    (ls : List Pred) (l : List Int) (n : Int) (hls : ∀ p ∈ ls, p.wf) (hlsl : ls.length ≤ maxLen) (hl : l.length ≤ maxLen) (hn : 0 ≤ n ∧ n < 256) (H : Nat → Option (List Value)) (nx : Nat) (hg : H g = some bitsRow) (hgn : g < nx) :
    PCalls P f [deep (ls.map Pred.v), deep (l.map (.int .i64)), .int .u8 n] H nx (fun _ => False) (fun r H' _ => r = .bool true) := by
  refine PCalls_of hc (by simp) fun hw => ?_
  have hmx : (maxLen : Int) = 9223372036854775807 := rfl
  have hmn := min80 ls.length
  have hmn0 : 0 ≤ (if (80 : Int) < ls.length then (80 : Int) else ls.length) := by split <;> omega
  have hcut : cutV (ls.map Pred.v) 0 (min ls.length 80) ls.length 6 = some (deep ((ls.take (min ls.length 80)).map Pred.v)) := by
    unfold cutV
    rw [if_pos ⟨by omega, by omega, by simp, by simp⟩]
    simp
  have htw : ∀ p ∈ ls.take (min ls.length 80), p.wf := fun p hp => hls p (List.mem_of_mem_take hp)
  have htm : (ls.take (min ls.length 80)).length ≤ maxLen := by simp; omega
  generalize ls.take (min ls.length 80) = ts at *
  simp [law08_AuthorityOfC, hmn, hmn0, hcut]
  refine wCall_le (hne l _ _) fun r H1 n1 hR hn1 _ => ?_
  obtain ⟨rfl, rfl, rfl⟩ := hR
  simp
  refine wCall_drawL (hps 5 true (by omega) (by omega)) (l := l) (at_ := 0) (by omega) hl (by simp) (.inl (by omega)) fun v at2 n3 hv ha2 hn3 => ?_
  obtain ⟨qs, rfl, hql, hqs⟩ := hv
  simp at hn3
  have g1 : ¬ g = nx := by omega
  have hqw : ∀ q ∈ qs, q.wf := fun q hq => (hqs q hq).2.1
  have hqm : qs.length ≤ maxLen := by omega
  simp
  refine wCall_eq (Q := fun r => ofR qs r) (hof qs hqw hqm _ _ (by simp [g1, hg]) (by show g < n3; omega)) fun r n4 hr hn4 => ?_
  obtain ⟨a, e, rfl, hE1⟩ := ofR_E hr
  simp at hn4
  have g4 : ¬ g = n4 := by omega
  simp [show nx ≤ n4 by omega]
  refine wCall_eq (Q := fun r => ofR qs r) (hro qs hqw hqm _ _) fun r n5 hr hn5 => ?_
  obtain ⟨b, f2, rfl, hE2⟩ := ofR_E hr
  simp at hn5
  have g5 : ¬ g = n5 := by omega
  simp [show nx ≤ n5 by omega]
  refine wCall_eq (Q := fun r => ofR ts r) (hof ts htw htm _ _ (by simp [g1, g4, g5, hg]) (by show g < n5 + 1; omega)) fun r n6 hr hn6 => ?_
  obtain ⟨c, e3, rfl, hE3⟩ := ofR_E hr
  simp at hn6
  have g6 : ¬ g = n6 := by omega
  simp [show nx ≤ n6 by omega]
  refine wCall_eq (Q := fun r => ofR ts r) (hro ts htw htm _ _) fun r n7 hr hn7 => ?_
  obtain ⟨d, f4, rfl, hE4⟩ := ofR_E hr
  simp at hn7
  have g7 : ¬ g = n7 := by omega
  simp [show nx ≤ n7 by omega]
  obtain ⟨rfl, rfl⟩ := ofE_uniq hE1 hE2
  obtain ⟨rfl, rfl⟩ := ofE_uniq hE3 hE4
  have hsz1 := ofE_small hE1
  have hsz3 := ofE_small hE3
  have k1 : ¬ n4 = n5 := by omega
  have k2 : ¬ n4 = n6 := by omega
  have k3 : ¬ n4 = n7 := by omega
  have k4 : ¬ n5 = n6 := by omega
  have k5 : ¬ n5 = n7 := by omega
  have k6 : ¬ n6 = n7 := by omega
  obtain ⟨I, hI⟩ : ∃ I : PS → Prop, ∀ s, I s ↔ (s.t 2 = .int .u8 n ∧ s.t 8 = ptr n4 0 ∧ s.t 9 = .int .i64 e ∧ s.t 10 = ptr n5 0 ∧ s.t 11 = .int .i64 e ∧ s.t 12 = ptr n6 0 ∧ s.t 13 = .int .i64 e3 ∧ s.t 14 = ptr n7 0 ∧ s.t 15 = .int .i64 e3) ∧ s.H g = some bitsRow ∧ s.H n4 = some a.cells ∧ s.H n5 = some a.cells ∧ s.H n6 = some c.cells ∧ s.H n7 = some c.cells ∧ n7 < s.nx ∧ ∃ i : Nat, i ≤ 66 ∧ s.t 17 = .int .i64 i ∧ s.t 16 = lin tP ((List.replicate i exZ).map Pred.v) := ⟨_, fun _ => Iff.rfl⟩
  refine wpc_loop _ _ _ _ _ _ I (fun s => match s.t 17 with | .int _ i => (66 - i).toNat | _ => 0) _ ((hI _).2 ⟨by simp, by simp [g1, g4, g5, g6, g7, hg], by simp [k1, k2, k3], by simp [k4, k5], by simp [k6], by simp, by simp, 0, by omega, by simp, by simp⟩) ?_
  intro s hs
  obtain ⟨⟨x2, x8, x9, x10, x11, x12, x13, x14, x15⟩, hgH, h4, h5, h6, h7, hnx, i, hi, x17, x16⟩ := (hI _).1 hs
  obtain ⟨T, H', nx'⟩ := s
  simp only at x2 x8 x9 x10 x11 x12 x13 x14 x15 x16 x17 hgH h4 h5 h6 h7 hnx
  have hwn := w64 (x := n) (by omega) (by omega)
  have hmod : n.tmod 5 = n % 5 := Int.tmod_eq_emod_of_nonneg hn.1
  have hw2 := w64 (x := 62 + n % 5) (by omega) (by omega)
  have hw5 := w64 (x := n % 5) (by omega) (by omega)
  have bz : (ag [.int .i64 1, .int .u64 3, .int .i64 0, .int .i64 0, .string ⟨#[]⟩, .int .i64 0] : Value) = exZ.v := rfl
  simp [x2, x17, hwn, hmod, hw2, hw5]
  refine wB_of (fun hlt => ?_) (fun hlt => ?_)
  · simp at hlt
    have hw1 := w64 (x := (i : Int) + 1) (by omega) (by omega)
    simp [law08_AuthorityOfC_j1, x16, x17, bz, hw1, maxLen]
    refine ⟨by omega, by omega, ?_⟩
    refine kLoop_nrm _ _ _ _ (Sub_refl _ _) ((hI _).2 ⟨by simp [x2, x8, x9, x10, x11, x12, x13, x14, x15], hgH, h4, h5, h6, h7, hnx, i + 1, by omega, by simp, ?_⟩) (by simp; omega)
    simp [List.replicate_succ']
  · have hzw : ∀ p ∈ List.replicate i exZ, p.wf := fun p hp => by rw [List.eq_of_mem_replicate hp]; exact exs_wf.2.2.2
    have hzm : (List.replicate i exZ).length ≤ maxLen := by simp; omega
    generalize List.replicate i exZ = zs at hzw hzm x16
    simp [law08_AuthorityOfC_j2, x16]
    refine wCall_eq (Q := fun r => ofR zs r) (hof zs hzw hzm _ _ hgH (by show g < nx'; omega)) fun r n8 hr hn8 => ?_
    obtain ⟨u, e5, rfl, hE5⟩ := ofR_E hr
    simp at hn8
    simp [show nx ≤ n8 by omega, x16]
    refine wCall_eq (Q := fun r => ofR zs r) (hro zs hzw hzm _ _) fun r n9 hr hn9 => ?_
    obtain ⟨v, e6, rfl, hE6⟩ := ofR_E hr
    simp at hn9
    obtain ⟨rfl, rfl⟩ := ofE_uniq hE5 hE6
    have hsz5 := ofE_small hE5
    have q1 : ¬ n4 = n8 := by omega
    have q2 : ¬ n4 = n9 := by omega
    have q3 : ¬ n5 = n8 := by omega
    have q4 : ¬ n5 = n9 := by omega
    have q5 : ¬ n6 = n8 := by omega
    have q6 : ¬ n6 = n9 := by omega
    have q7 : ¬ n7 = n8 := by omega
    have q8 : ¬ n7 = n9 := by omega
    have q9 : ¬ n8 = n9 := by omega
    have q10 : ¬ g = n8 := by omega
    have q11 : ¬ g = n9 := by omega
    have p1 : nx ≤ n8 := by omega
    have p2 : nx ≤ n9 := by omega
    simp [p1, p2, q1, q2, q3, q4, q5, q6, q7, q8, q9, x8, x9, x10, x11, x12, x13, x14, x15, h4, h5, h6, h7, Aut.ag]
    refine wCall_eq (Q := fun r => r = .bool (decide (a = a))) (hsa a a (by omega) (by omega) _ _) fun r m1 hr hm1 => ?_
    subst hr
    simp at hm1
    simp [p1, p2, q1, q2, q3, q4, q5, q6, q7, q8, q9, x8, x9, x10, x11, x12, x13, x14, x15, h4, h5, h6, h7, Aut.ag]
    refine wCall_eq (Q := fun r => r = .bool (decide (c = c))) (hsa c c (by omega) (by omega) _ _) fun r m2 hr hm2 => ?_
    subst hr
    simp at hm2
    simp [p1, p2, q1, q2, q3, q4, q5, q6, q7, q8, q9, x8, x9, x10, x11, x12, x13, x14, x15, h4, h5, h6, h7, Aut.ag]
    refine wCall_eq (Q := fun r => r = .bool (decide (u = u))) (hsa u u (by omega) (by omega) _ _) fun r m3 hr hm3 => ?_
    subst hr
    simp at hm3
    simp [p1, p2, q1, q2, q3, q4, q5, q6, q7, q8, q9, x8, x9, x10, x11, x12, x13, x14, x15, h4, h5, h6, h7, Aut.ag]
    refine wCall_eq (Q := fun r => r = .bool true) (haw _ _ (by simp [q10, q11, hgH]) (by show g < m3; omega)) fun r m4 hr hm4 => ?_
    subst hr
    simp
    exact wF_of rfl
end Go.PE
