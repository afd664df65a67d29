/- Pure code, printed by a program: predicates, what holds for a ride, the deck. Pure code, printed by a program: the statements about layer 7. -/
import Derived.Test.YtnighgphfomlkaaDoorDeck
set_option linter.all false
namespace Go.PE
open Go
/-- macaroon/macaroonmade.New: 6 slots, results [(.t 2)] -/
def made_NewC : PC :=
  (.seq (.reg [((some 2), (none, (.mv (.const (.pointer none)))))])
  (.seq (.reg [((some 3), (none, (.mv (.tmp 0)))),
    ((some 4), (none, (.build [(.inr ((.tmp 3), 1)), (.inl [(.int .i64 0)])]))),
    ((some 5), (none, (.box 2 (.tmp 4)))),
    ((some 2), (none, (.mv (.tmp 5))))])
  .ret))
/-- (*macaroon/macaroonmade.Deck).Context: 15 slots, results [(.cA 2 4)] -/
def made_Deck_ContextC (f_made_Deck_Next : Nat) (f_made_Deck_Range : Nat) (f_made_Deck_Minute : Nat) (f_made_Deck_Name : Nat) : PC :=
  (.seq (.reg [((some 2), (none, (.alloc [(.int .i64 0), (.int .i64 0), (.int .i64 0), (.string ⟨#[]⟩)])))])
  (.seq (.reg [((some 3), (none, (.mv (.tmp 0)))),
    ((some 4), (none, (.call f_made_Deck_Next [(.tmp 3), (.const (.int .i64 4))]))),
    ((some 5), (none, (.mv (.tmp 0)))),
    ((some 6), (none, (.call f_made_Deck_Range [(.tmp 5), (.const (.int .i64 1)), (.const (.int .i64 21))]))),
    ((some 7), (none, (.bi .mul (.tmp 4) (.tmp 6)))),
    ((some 8), (none, (.mv (.tmp 0)))),
    ((some 9), (none, (.call f_made_Deck_Next [(.tmp 8), (.const (.int .i64 32))]))),
    ((some 10), (none, (.mv (.tmp 0)))),
    ((some 11), (none, (.call f_made_Deck_Minute [(.tmp 10)]))),
    ((some 12), (none, (.mv (.tmp 0)))),
    ((some 13), (none, (.call f_made_Deck_Name [(.tmp 12)]))),
    ((some 14), (none, (.build [(.inr ((.tmp 7), 1)), (.inr ((.tmp 9), 1)), (.inr ((.tmp 11), 1)), (.inr ((.tmp 13), 1))]))),
    (none, (none, (.st 4 (.tmp 2) (.tmp 14))))])
  .ret))
/-- macaroon/macaroonmade.Within: 12 slots, results [(.t 4)] -/
def made_WithinC : PC :=
  (.seq (.reg [((some 4), (none, (.mv (.const (.int .i64 0)))))])
  (.seq (.reg [((some 5), (none, (.mv (.tmp 0)))),
    ((some 6), (none, (.mv (.tmp 1)))),
    ((some 7), (none, (.bi .rem (.tmp 5) (.tmp 6)))),
    ((some 8), (none, (.mv (.tmp 1)))),
    ((some 9), (none, (.bi .add (.tmp 7) (.tmp 8)))),
    ((some 10), (none, (.mv (.tmp 1)))),
    ((some 11), (none, (.bi .rem (.tmp 9) (.tmp 10)))),
    ((some 4), (none, (.mv (.tmp 11))))])
  .ret))
/-- macaroon/holds.Valid: 37 slots, results [(.t 2)] -/
def holds_ValidC (f_predicate_Valid : Nat) : PC :=
  (.seq (.reg [((some 1), (none, (.box 4 (.tmp 0)))),
    ((some 2), (none, (.mv (.const (.bool false)))))])
  (.seq (.reg [((some 3), (none, (.fa 0 (.tmp 1)))),
    ((some 4), (none, (.ld false (.tmp 3)))),
    ((some 5), (none, (.bi .geq (.tmp 4) (.const (.int .i64 0))))),
    ((some 6), (none, (.mv (.tmp 5)))),
    ((some 7), ((some (6, true)), (.fa 0 (.tmp 1)))),
    ((some 8), ((some (6, true)), (.ld false (.tmp 7)))),
    ((some 9), ((some (6, true)), (.bi .leq (.tmp 8) (.const (.int .i64 63))))),
    ((some 10), (none, (.pick (.tmp 6) (.tmp 9) (.const (.bool false))))),
    ((some 11), (none, (.mv (.tmp 10)))),
    ((some 12), ((some (11, true)), (.fa 1 (.tmp 1)))),
    ((some 13), ((some (11, true)), (.ld false (.tmp 12)))),
    ((some 14), ((some (11, true)), (.bi .geq (.tmp 13) (.const (.int .i64 0))))),
    ((some 15), (none, (.pick (.tmp 11) (.tmp 14) (.const (.bool false))))),
    ((some 16), (none, (.mv (.tmp 15)))),
    ((some 17), ((some (16, true)), (.fa 1 (.tmp 1)))),
    ((some 18), ((some (16, true)), (.ld false (.tmp 17)))),
    ((some 19), ((some (16, true)), (.bi .leq (.tmp 18) (.const (.int .i64 31))))),
    ((some 20), (none, (.pick (.tmp 16) (.tmp 19) (.const (.bool false))))),
    ((some 21), (none, (.mv (.tmp 20)))),
    ((some 22), ((some (21, true)), (.fa 2 (.tmp 1)))),
    ((some 23), ((some (21, true)), (.ld false (.tmp 22)))),
    ((some 24), ((some (21, true)), (.bi .geq (.tmp 23) (.const (.int .i64 0))))),
    ((some 25), (none, (.pick (.tmp 21) (.tmp 24) (.const (.bool false))))),
    ((some 26), (none, (.mv (.tmp 25)))),
    ((some 27), ((some (26, true)), (.fa 2 (.tmp 1)))),
    ((some 28), ((some (26, true)), (.ld false (.tmp 27)))),
    ((some 29), ((some (26, true)), (.bi .leq (.tmp 28) (.const (.int .i64 67108864))))),
    ((some 30), (none, (.pick (.tmp 26) (.tmp 29) (.const (.bool false))))),
    ((some 31), (none, (.mv (.tmp 30)))),
    ((some 32), ((some (31, true)), (.fa 3 (.tmp 1)))),
    ((some 33), ((some (31, true)), (.ld false (.tmp 32)))),
    ((some 34), ((some (31, true)), (.build [(.inr ((.const (.int .i64 6)), 1)), (.inl [(.int .u64 0)]), (.inl [(.int .i64 0)]), (.inl [(.int .i64 0)]), (.inr ((.tmp 33), 1)), (.inl [(.int .i64 0)])]))),
    ((some 35), ((some (31, true)), (.call f_predicate_Valid [(.tmp 34)]))),
    ((some 36), (none, (.pick (.tmp 31) (.tmp 35) (.const (.bool false))))),
    ((some 2), (none, (.mv (.tmp 36))))])
  .ret))
/-- macaroon/macaroonref06.ContextOk: 36 slots, results [(.t 2)] -/
def ref06_ContextOkC (f_ref01_Name : Nat) : PC :=
  (.seq (.reg [((some 1), (none, (.box 4 (.tmp 0)))),
    ((some 2), (none, (.mv (.const (.bool false)))))])
  (.seq (.reg [((some 3), (none, (.fa 0 (.tmp 1)))),
    ((some 4), (none, (.ld false (.tmp 3)))),
    ((some 5), (none, (.bi .geq (.tmp 4) (.const (.int .i64 0))))),
    ((some 6), (none, (.mv (.tmp 5)))),
    ((some 7), ((some (6, true)), (.fa 0 (.tmp 1)))),
    ((some 8), ((some (6, true)), (.ld false (.tmp 7)))),
    ((some 9), ((some (6, true)), (.bi .leq (.tmp 8) (.const (.int .i64 63))))),
    ((some 10), (none, (.pick (.tmp 6) (.tmp 9) (.const (.bool false))))),
    ((some 11), (none, (.mv (.tmp 10)))),
    ((some 12), ((some (11, true)), (.fa 1 (.tmp 1)))),
    ((some 13), ((some (11, true)), (.ld false (.tmp 12)))),
    ((some 14), ((some (11, true)), (.bi .geq (.tmp 13) (.const (.int .i64 0))))),
    ((some 15), (none, (.pick (.tmp 11) (.tmp 14) (.const (.bool false))))),
    ((some 16), (none, (.mv (.tmp 15)))),
    ((some 17), ((some (16, true)), (.fa 1 (.tmp 1)))),
    ((some 18), ((some (16, true)), (.ld false (.tmp 17)))),
    ((some 19), ((some (16, true)), (.bi .leq (.tmp 18) (.const (.int .i64 31))))),
    ((some 20), (none, (.pick (.tmp 16) (.tmp 19) (.const (.bool false))))),
    ((some 21), (none, (.mv (.tmp 20)))),
    ((some 22), ((some (21, true)), (.fa 2 (.tmp 1)))),
    ((some 23), ((some (21, true)), (.ld false (.tmp 22)))),
    ((some 24), ((some (21, true)), (.bi .geq (.tmp 23) (.const (.int .i64 0))))),
    ((some 25), (none, (.pick (.tmp 21) (.tmp 24) (.const (.bool false))))),
    ((some 26), (none, (.mv (.tmp 25)))),
    ((some 27), ((some (26, true)), (.fa 2 (.tmp 1)))),
    ((some 28), ((some (26, true)), (.ld false (.tmp 27)))),
    ((some 29), ((some (26, true)), (.bi .leq (.tmp 28) (.const (.int .i64 67108864))))),
    ((some 30), (none, (.pick (.tmp 26) (.tmp 29) (.const (.bool false))))),
    ((some 31), (none, (.mv (.tmp 30)))),
    ((some 32), ((some (31, true)), (.fa 3 (.tmp 1)))),
    ((some 33), ((some (31, true)), (.ld false (.tmp 32)))),
    ((some 34), ((some (31, true)), (.call f_ref01_Name [(.tmp 33)]))),
    ((some 35), (none, (.pick (.tmp 31) (.tmp 34) (.const (.bool false))))),
    ((some 2), (none, (.mv (.tmp 35))))])
  .ret))
/-- (*macaroon/macaroonmade.Deck).Predicate: 81 slots, results [(.cA 4 6)] -/
def made_Deck_PredicateC (f_made_Deck_Range : Nat) (f_made_Deck_mask : Nat) (f_made_Deck_Minute : Nat) (f_made_Deck_Next : Nat) (f_made_Deck_Name : Nat) (f_made_Deck_Upto : Nat) : PC :=
  (.seq (.reg [((some 4), (none, (.alloc [(.int .i64 0), (.int .u64 0), (.int .i64 0), (.int .i64 0), (.string ⟨#[]⟩), (.int .i64 0)])))])
  (.seq (.reg [((some 8), (none, (.mv (.tmp 0)))),
    ((some 9), (none, (.call f_made_Deck_Range [(.tmp 8), (.const (.int .i64 1)), (.const (.int .i64 7))]))),
    ((some 10), (none, (.build [(.inr ((.tmp 9), 1)), (.inl [(.int .u64 0)]), (.inl [(.int .i64 0)]), (.inl [(.int .i64 0)]), (.inl [(.string ⟨#[]⟩)]), (.inl [(.int .i64 0)])]))),
    ((some 5), (none, (.alloc [(.int .i64 0), (.int .u64 0), (.int .i64 0), (.int .i64 0), (.string ⟨#[]⟩), (.int .i64 0)]))),
    (none, (none, (.st 6 (.tmp 5) (.tmp 10))))])
  (.seq (.seq (.reg [((some 11), (none, (.fa 0 (.tmp 5)))),
    ((some 12), (none, (.ld false (.tmp 11)))),
    ((some 13), (none, (.bi .eql (.tmp 12) (.const (.int .i64 7))))),
    ((some 14), (none, (.mv (.tmp 13)))),
    ((some 15), ((some (14, true)), (.mv (.tmp 1)))),
    ((some 16), ((some (14, true)), (.un .not (.tmp 15)))),
    ((some 17), (none, (.pick (.tmp 14) (.tmp 16) (.const (.bool false)))))])
  (.cond (.tmp 17)
    (.reg [((some 18), (none, (.fa 0 (.tmp 5)))),
      (none, (none, (.st 1 (.tmp 18) (.const (.int .i64 4)))))])
    .skip))
  (.seq (.seq (.reg [((some 19), (none, (.fa 0 (.tmp 5)))),
    ((some 20), (none, (.ld false (.tmp 19))))])
  (.block 0 (.seq (.reg [((some 22), (none, (.bi .eql (.tmp 20) (.const (.int .i64 1))))),
     ((some 21), (none, (.mv (.tmp 22))))])
   (.cond (.tmp 21)
     (.reg [((some 23), (none, (.mv (.tmp 0)))),
       ((some 24), (none, (.call f_made_Deck_mask [(.tmp 23), (.const (.int .i64 64))]))),
       ((some 25), (none, (.fa 1 (.tmp 5)))),
       (none, (none, (.st 1 (.tmp 25) (.tmp 24))))])
     (.seq (.reg [((some 27), (none, (.bi .eql (.tmp 20) (.const (.int .i64 2))))),
       ((some 26), (none, (.mv (.tmp 27))))])
     (.cond (.tmp 26)
       (.reg [((some 28), (none, (.mv (.tmp 0)))),
         ((some 29), (none, (.call f_made_Deck_mask [(.tmp 28), (.const (.int .i64 32))]))),
         ((some 30), (none, (.fa 1 (.tmp 5)))),
         (none, (none, (.st 1 (.tmp 30) (.tmp 29))))])
       (.seq (.reg [((some 32), (none, (.bi .eql (.tmp 20) (.const (.int .i64 3))))),
         ((some 31), (none, (.mv (.tmp 32))))])
       (.cond (.tmp 31)
         (.reg [((some 33), (none, (.mv (.tmp 0)))),
           ((some 34), (none, (.call f_made_Deck_mask [(.tmp 33), (.const (.int .i64 7))]))),
           ((some 35), (none, (.fa 1 (.tmp 5)))),
           (none, (none, (.st 1 (.tmp 35) (.tmp 34))))])
         (.seq (.reg [((some 37), (none, (.bi .eql (.tmp 20) (.const (.int .i64 4))))),
           ((some 36), (none, (.mv (.tmp 37))))])
         (.cond (.tmp 36)
           (.seq (.reg [((some 38), (none, (.mv (.tmp 0)))),
             ((some 39), (none, (.call f_made_Deck_Minute [(.tmp 38)]))),
             ((some 40), (none, (.mv (.tmp 0)))),
             ((some 41), (none, (.call f_made_Deck_Minute [(.tmp 40)]))),
             ((some 6), (none, (.mv (.tmp 39)))),
             ((some 7), (none, (.mv (.tmp 41))))])
           (.reg [((some 42), (none, (.mv (.tmp 6)))),
             ((some 43), (none, (.mv (.tmp 7)))),
             ((some 44), (none, (.mm false (.tmp 42) (.tmp 43)))),
             ((some 45), (none, (.mv (.tmp 6)))),
             ((some 46), (none, (.mv (.tmp 7)))),
             ((some 47), (none, (.mm true (.tmp 45) (.tmp 46)))),
             ((some 48), (none, (.fa 2 (.tmp 5)))),
             (none, (none, (.st 1 (.tmp 48) (.tmp 44)))),
             ((some 49), (none, (.fa 3 (.tmp 5)))),
             (none, (none, (.st 1 (.tmp 49) (.tmp 47))))]))
           (.seq (.reg [((some 51), (none, (.bi .eql (.tmp 20) (.const (.int .i64 5))))),
             ((some 50), (none, (.mv (.tmp 51))))])
           (.cond (.tmp 50)
             (.seq (.reg [((some 52), (none, (.mv (.tmp 0)))),
               ((some 53), (none, (.call f_made_Deck_Next [(.tmp 52), (.const (.int .i64 1440))]))),
               ((some 54), (none, (.mv (.tmp 0)))),
               ((some 55), (none, (.call f_made_Deck_Next [(.tmp 54), (.const (.int .i64 1440))]))),
               ((some 56), (none, (.fa 2 (.tmp 5)))),
               (none, (none, (.st 1 (.tmp 56) (.tmp 53)))),
               ((some 57), (none, (.fa 3 (.tmp 5)))),
               (none, (none, (.st 1 (.tmp 57) (.tmp 55))))])
             (.seq (.reg [((some 58), (none, (.mv (.tmp 0)))),
               ((some 59), (none, (.call f_made_Deck_Next [(.tmp 58), (.const (.int .i64 3))]))),
               ((some 60), (none, (.bi .eql (.tmp 59) (.const (.int .i64 0)))))])
             (.cond (.tmp 60)
               (.ord (.one ((some 61), (none, (.fa 2 (.tmp 5))))
                 (.one ((some 63), (none, (.mv (.tmp 0))))
                 (.alt (.one ((some 62), (none, (.ld false (.tmp 61))))
                  (.one ((some 64), (none, (.call f_made_Deck_Next [(.tmp 63), (.const (.int .i64 3))])))
                  (.one ((some 65), (none, (.bi .add (.tmp 62) (.tmp 64))))
                  (.one ((some 66), (none, (.bi .add (.tmp 65) (.const (.int .i64 1440)))))
                  (.one ((some 67), (none, (.bi .sub (.tmp 66) (.const (.int .i64 1)))))
                  (.one ((some 68), (none, (.bi .rem (.tmp 67) (.const (.int .i64 1440)))))
                  (.one ((some 69), (none, (.fa 3 (.tmp 5))))
                  (.one (none, (none, (.st 1 (.tmp 69) (.tmp 68))))
                  .done))))))))
                 (.one ((some 64), (none, (.call f_made_Deck_Next [(.tmp 63), (.const (.int .i64 3))])))
                  (.one ((some 62), (none, (.ld false (.tmp 61))))
                  (.one ((some 65), (none, (.bi .add (.tmp 62) (.tmp 64))))
                  (.one ((some 66), (none, (.bi .add (.tmp 65) (.const (.int .i64 1440)))))
                  (.one ((some 67), (none, (.bi .sub (.tmp 66) (.const (.int .i64 1)))))
                  (.one ((some 68), (none, (.bi .rem (.tmp 67) (.const (.int .i64 1440)))))
                  (.one ((some 69), (none, (.fa 3 (.tmp 5))))
                  (.one (none, (none, (.st 1 (.tmp 69) (.tmp 68))))
                  .done))))))))))))
               .skip)))
             (.seq (.reg [((some 71), (none, (.bi .eql (.tmp 20) (.const (.int .i64 6))))),
               ((some 70), (none, (.mv (.tmp 71))))])
             (.cond (.tmp 70)
               (.reg [((some 72), (none, (.mv (.tmp 0)))),
                 ((some 73), (none, (.call f_made_Deck_Name [(.tmp 72)]))),
                 ((some 74), (none, (.fa 4 (.tmp 5)))),
                 (none, (none, (.st 1 (.tmp 74) (.tmp 73))))])
               (.seq (.reg [((some 76), (none, (.bi .eql (.tmp 20) (.const (.int .i64 7))))),
                 ((some 75), (none, (.mv (.tmp 76))))])
               (.cond (.tmp 75)
                 (.reg [((some 77), (none, (.mv (.tmp 0)))),
                   ((some 78), (none, (.call f_made_Deck_Upto [(.tmp 77), (.const (.int .i64 1000000))]))),
                   ((some 79), (none, (.fa 5 (.tmp 5)))),
                   (none, (none, (.st 1 (.tmp 79) (.tmp 78))))])
                 .skip))))))))))))))))
  (.seq (.reg [((some 80), (none, (.ldA 6 (.tmp 5)))),
    (none, (none, (.st 6 (.tmp 4) (.tmp 80))))])
  .ret)))))
/-- macaroon/holds.Holds: 37 slots, results [(.t 4)] -/
def holds_HoldsC (f_predicate_Valid : Nat) (f_holds_Valid : Nat) (f_holds_ride_zone : Nat) (f_holds_ride_line : Nat) (f_holds_ride_days : Nat) (f_holds_ride_time : Nat) (f_holds_ride_daily : Nat) (f_holds_ride_holder : Nat) (f_holds_ride_rides : Nat) : PC :=
  (.seq (.reg [((some 2), (none, (.box 6 (.tmp 0)))),
    ((some 3), (none, (.box 4 (.tmp 1)))),
    ((some 4), (none, (.mv (.const (.bool false)))))])
  (.seq (.seq (.reg [((some 7), (none, (.ldA 6 (.tmp 2)))),
    ((some 8), (none, (.call f_predicate_Valid [(.tmp 7)]))),
    ((some 9), (none, (.un .not (.tmp 8)))),
    ((some 10), (none, (.mv (.tmp 9)))),
    ((some 11), ((some (10, false)), (.ldA 4 (.tmp 3)))),
    ((some 12), ((some (10, false)), (.call f_holds_Valid [(.tmp 11)]))),
    ((some 13), ((some (10, false)), (.un .not (.tmp 12)))),
    ((some 14), (none, (.pick (.tmp 10) (.const (.bool true)) (.tmp 13))))])
  (.cond (.tmp 14)
    (.seq (.reg [((some 4), (none, (.mv (.const (.bool false)))))])
    .ret)
    .skip))
  (.seq (.reg [((some 15), (none, (.ldA 4 (.tmp 3)))),
    ((some 5), (none, (.alloc [(.int .i64 0), (.int .i64 0), (.int .i64 0), (.string ⟨#[]⟩)]))),
    (none, (none, (.st 4 (.tmp 5) (.tmp 15))))])
  (.seq (.reg [((some 16), (none, (.ldA 4 (.tmp 5)))),
    ((some 17), (none, (.mkf f_holds_ride_zone [(.tmp 16)] []))),
    ((some 18), (none, (.ldA 4 (.tmp 5)))),
    ((some 19), (none, (.mkf f_holds_ride_line [(.tmp 18)] []))),
    ((some 20), (none, (.ldA 4 (.tmp 5)))),
    ((some 21), (none, (.mkf f_holds_ride_days [(.tmp 20)] []))),
    ((some 22), (none, (.ldA 4 (.tmp 5)))),
    ((some 23), (none, (.mkf f_holds_ride_time [(.tmp 22)] []))),
    ((some 24), (none, (.ldA 4 (.tmp 5)))),
    ((some 25), (none, (.mkf f_holds_ride_daily [(.tmp 24)] []))),
    ((some 26), (none, (.ldA 4 (.tmp 5)))),
    ((some 27), (none, (.mkf f_holds_ride_holder [(.tmp 26)] []))),
    ((some 28), (none, (.ldA 4 (.tmp 5)))),
    ((some 29), (none, (.mkf f_holds_ride_rides [(.tmp 28)] []))),
    ((some 30), (none, (.build [(.inl [.nilFunc]), (.inr ((.tmp 17), 1)), (.inr ((.tmp 19), 1)), (.inr ((.tmp 21), 1)), (.inr ((.tmp 23), 1)), (.inr ((.tmp 25), 1)), (.inr ((.tmp 27), 1)), (.inr ((.tmp 29), 1))]))),
    ((some 6), (none, (.alloc (List.replicate 8 .nilFunc)))),
    (none, (none, (.st 8 (.tmp 6) (.tmp 30))))])
  (.seq (.ord (.one ((some 31), (none, (.fa 0 (.tmp 2))))
    (.one ((some 35), (none, (.ldA 6 (.tmp 2))))
    (.one ((some 32), (none, (.ld false (.tmp 31))))
    (.one ((some 33), (none, (.ixP 8 1 (.tmp 6) (.tmp 32))))
    (.one ((some 34), (none, (.ld false (.tmp 33))))
    (.one ((some 36), (none, (.callv (.tmp 34) [(.tmp 35)])))
    (.one ((some 4), (none, (.mv (.tmp 36))))
    .done))))))))
  .ret)))))
/-- macaroon/macaroonref06.Holds: 99 slots, results [(.t 4)] -/
def ref06_HoldsC (f_ref06_Valid : Nat) (f_ref06_ContextOk : Nat) : PC :=
  (.seq (.reg [((some 2), (none, (.box 6 (.tmp 0)))),
    ((some 3), (none, (.box 4 (.tmp 1)))),
    ((some 4), (none, (.mv (.const (.bool false)))))])
  (.seq (.seq (.reg [((some 6), (none, (.ldA 6 (.tmp 2)))),
    ((some 7), (none, (.call f_ref06_Valid [(.tmp 6)]))),
    ((some 8), (none, (.un .not (.tmp 7)))),
    ((some 9), (none, (.mv (.tmp 8)))),
    ((some 10), ((some (9, false)), (.ldA 4 (.tmp 3)))),
    ((some 11), ((some (9, false)), (.call f_ref06_ContextOk [(.tmp 10)]))),
    ((some 12), ((some (9, false)), (.un .not (.tmp 11)))),
    ((some 13), (none, (.pick (.tmp 9) (.const (.bool true)) (.tmp 12))))])
  (.cond (.tmp 13)
    (.seq (.reg [((some 4), (none, (.mv (.const (.bool false)))))])
    .ret)
    .skip))
  (.seq (.seq (.reg [((some 14), (none, (.fa 0 (.tmp 2)))),
    ((some 15), (none, (.ld false (.tmp 14))))])
  (.block 0 (.seq (.reg [((some 17), (none, (.bi .eql (.tmp 15) (.const (.int .i64 1))))),
     ((some 16), (none, (.mv (.tmp 17))))])
   (.cond (.tmp 16)
     (.seq (.reg [((some 18), (none, (.fa 1 (.tmp 2)))),
       ((some 19), (none, (.ld false (.tmp 18)))),
       ((some 20), (none, (.fa 0 (.tmp 3)))),
       ((some 21), (none, (.ld false (.tmp 20)))),
       ((some 22), (none, (.cv .u64 (.tmp 21)))),
       ((some 23), (none, (.bi .shr (.tmp 19) (.tmp 22)))),
       ((some 24), (none, (.bi .rem (.tmp 23) (.const (.int .u64 2))))),
       ((some 25), (none, (.bi .eql (.tmp 24) (.const (.int .u64 1))))),
       ((some 4), (none, (.mv (.tmp 25))))])
     .ret)
     (.seq (.reg [((some 27), (none, (.bi .eql (.tmp 15) (.const (.int .i64 2))))),
       ((some 26), (none, (.mv (.tmp 27))))])
     (.cond (.tmp 26)
       (.seq (.reg [((some 28), (none, (.fa 1 (.tmp 2)))),
         ((some 29), (none, (.ld false (.tmp 28)))),
         ((some 30), (none, (.fa 1 (.tmp 3)))),
         ((some 31), (none, (.ld false (.tmp 30)))),
         ((some 32), (none, (.cv .u64 (.tmp 31)))),
         ((some 33), (none, (.bi .shr (.tmp 29) (.tmp 32)))),
         ((some 34), (none, (.bi .rem (.tmp 33) (.const (.int .u64 2))))),
         ((some 35), (none, (.bi .eql (.tmp 34) (.const (.int .u64 1))))),
         ((some 4), (none, (.mv (.tmp 35))))])
       .ret)
       (.seq (.reg [((some 37), (none, (.bi .eql (.tmp 15) (.const (.int .i64 3))))),
         ((some 36), (none, (.mv (.tmp 37))))])
       (.cond (.tmp 36)
         (.seq (.reg [((some 38), (none, (.fa 1 (.tmp 2)))),
           ((some 39), (none, (.ld false (.tmp 38)))),
           ((some 40), (none, (.fa 2 (.tmp 3)))),
           ((some 41), (none, (.ld false (.tmp 40)))),
           ((some 42), (none, (.bi .quo (.tmp 41) (.const (.int .i64 1440))))),
           ((some 43), (none, (.bi .rem (.tmp 42) (.const (.int .i64 7))))),
           ((some 44), (none, (.cv .u64 (.tmp 43)))),
           ((some 45), (none, (.bi .shr (.tmp 39) (.tmp 44)))),
           ((some 46), (none, (.bi .rem (.tmp 45) (.const (.int .u64 2))))),
           ((some 47), (none, (.bi .eql (.tmp 46) (.const (.int .u64 1))))),
           ((some 4), (none, (.mv (.tmp 47))))])
         .ret)
         (.seq (.reg [((some 49), (none, (.bi .eql (.tmp 15) (.const (.int .i64 4))))),
           ((some 48), (none, (.mv (.tmp 49))))])
         (.cond (.tmp 48)
           (.seq (.reg [((some 50), (none, (.fa 2 (.tmp 3)))),
             ((some 51), (none, (.ld false (.tmp 50)))),
             ((some 52), (none, (.fa 2 (.tmp 2)))),
             ((some 53), (none, (.ld false (.tmp 52)))),
             ((some 54), (none, (.bi .geq (.tmp 51) (.tmp 53)))),
             ((some 55), (none, (.mv (.tmp 54)))),
             ((some 56), ((some (55, true)), (.fa 2 (.tmp 3)))),
             ((some 57), ((some (55, true)), (.ld false (.tmp 56)))),
             ((some 58), ((some (55, true)), (.fa 3 (.tmp 2)))),
             ((some 59), ((some (55, true)), (.ld false (.tmp 58)))),
             ((some 60), ((some (55, true)), (.bi .leq (.tmp 57) (.tmp 59)))),
             ((some 61), (none, (.pick (.tmp 55) (.tmp 60) (.const (.bool false))))),
             ((some 4), (none, (.mv (.tmp 61))))])
           .ret)
           (.seq (.reg [((some 63), (none, (.bi .eql (.tmp 15) (.const (.int .i64 5))))),
             ((some 62), (none, (.mv (.tmp 63))))])
           (.cond (.tmp 62)
             (.seq (.reg [((some 64), (none, (.fa 2 (.tmp 3)))),
               ((some 65), (none, (.ld false (.tmp 64)))),
               ((some 66), (none, (.bi .rem (.tmp 65) (.const (.int .i64 1440))))),
               ((some 5), (none, (.mv (.tmp 66))))])
             (.seq (.seq (.reg [((some 67), (none, (.fa 2 (.tmp 2)))),
               ((some 68), (none, (.ld false (.tmp 67)))),
               ((some 69), (none, (.fa 3 (.tmp 2)))),
               ((some 70), (none, (.ld false (.tmp 69)))),
               ((some 71), (none, (.bi .leq (.tmp 68) (.tmp 70))))])
             (.cond (.tmp 71)
               (.seq (.reg [((some 72), (none, (.mv (.tmp 5)))),
                 ((some 73), (none, (.fa 2 (.tmp 2)))),
                 ((some 74), (none, (.ld false (.tmp 73)))),
                 ((some 75), (none, (.bi .geq (.tmp 72) (.tmp 74)))),
                 ((some 76), (none, (.mv (.tmp 75)))),
                 ((some 77), ((some (76, true)), (.mv (.tmp 5)))),
                 ((some 78), ((some (76, true)), (.fa 3 (.tmp 2)))),
                 ((some 79), ((some (76, true)), (.ld false (.tmp 78)))),
                 ((some 80), ((some (76, true)), (.bi .leq (.tmp 77) (.tmp 79)))),
                 ((some 81), (none, (.pick (.tmp 76) (.tmp 80) (.const (.bool false))))),
                 ((some 4), (none, (.mv (.tmp 81))))])
               .ret)
               .skip))
             (.seq (.reg [((some 82), (none, (.mv (.tmp 5)))),
               ((some 83), (none, (.fa 2 (.tmp 2)))),
               ((some 84), (none, (.ld false (.tmp 83)))),
               ((some 85), (none, (.bi .geq (.tmp 82) (.tmp 84)))),
               ((some 86), (none, (.mv (.tmp 85)))),
               ((some 87), ((some (86, false)), (.mv (.tmp 5)))),
               ((some 88), ((some (86, false)), (.fa 3 (.tmp 2)))),
               ((some 89), ((some (86, false)), (.ld false (.tmp 88)))),
               ((some 90), ((some (86, false)), (.bi .leq (.tmp 87) (.tmp 89)))),
               ((some 91), (none, (.pick (.tmp 86) (.const (.bool true)) (.tmp 90)))),
               ((some 4), (none, (.mv (.tmp 91))))])
             .ret)))
             (.seq (.reg [((some 93), (none, (.bi .eql (.tmp 15) (.const (.int .i64 6))))),
               ((some 92), (none, (.mv (.tmp 93))))])
             (.cond (.tmp 92)
               (.seq (.reg [((some 94), (none, (.fa 3 (.tmp 3)))),
                 ((some 95), (none, (.ld false (.tmp 94)))),
                 ((some 96), (none, (.fa 4 (.tmp 2)))),
                 ((some 97), (none, (.ld false (.tmp 96)))),
                 ((some 98), (none, (.bi .eql (.tmp 95) (.tmp 97)))),
                 ((some 4), (none, (.mv (.tmp 98))))])
               .ret)
               .skip))))))))))))))
  (.seq (.reg [((some 4), (none, (.mv (.const (.bool true)))))])
  .ret))))
/-- (*macaroon/macaroonmade.Deck).Predicates: 24 slots, results [(.t 6)] -/
def made_Deck_PredicatesC (t_api_Predicate : Nat) (f_made_Deck_Next : Nat) (f_made_Deck_Predicate : Nat) : PC :=
  (.seq (.reg [((some 6), (none, (.cnil t_api_Predicate)))])
  (.seq (.reg [((some 7), (none, (.cnil t_api_Predicate)))])
  (.seq (.seq (.reg [((some 9), (none, (.mv (.tmp 0)))),
    ((some 10), (none, (.mv (.tmp 1)))),
    ((some 11), (none, (.bi .add (.tmp 10) (.const (.int .i64 1))))),
    ((some 12), (none, (.call f_made_Deck_Next [(.tmp 9), (.tmp 11)]))),
    ((some 8), (none, (.mv (.tmp 12))))])
  (.block 0 (.loop (.seq (.seq (.reg [((some 13), (none, (.mv (.tmp 8)))),
      ((some 14), (none, (.bi .gtr (.tmp 13) (.const (.int .i64 0)))))])
    (.cond (.tmp 14)
      .skip
      (.exit 0)))
    (.seq (.block 1 (.reg [((some 17), (none, (.steal 7))),
       ((some 18), (none, (.mv (.tmp 0)))),
       ((some 19), (none, (.mv (.tmp 2)))),
       ((some 20), (none, (.call f_made_Deck_Predicate [(.tmp 18), (.tmp 19)]))),
       ((some 21), (none, (.mks t_api_Predicate 6 false [(.tmp 20)]))),
       ((some 22), (none, (.app t_api_Predicate 6 56 17 (.tmp 21)))),
       ((some 7), (none, (.steal 22)))]))
    (.reg [((some 15), (none, (.mv (.tmp 8)))),
      ((some 16), (none, (.bi .sub (.tmp 15) (.const (.int .i64 1))))),
      ((some 8), (none, (.mv (.tmp 16))))]))))))
  (.seq (.reg [((some 23), (none, (.steal 7))),
    ((some 6), (none, (.steal 23)))])
  .ret))))
/-- macaroon/holds.All: 21 slots, results [(.t 4), (.t 5)] -/
def holds_AllC (f_holds_Holds : Nat) : PC :=
  (.seq (.reg [((some 3), (none, (.box 4 (.tmp 1)))),
    ((some 4), (none, (.mv (.const (.int .i64 0))))),
    ((some 5), (none, (.mv (.const (.bool false)))))])
  (.seq (.seq (.reg [((some 8), (none, (.mv (.tmp 0)))),
    ((some 9), (none, (.len (.tmp 8)))),
    ((some 10), (none, (.mv (.const (.int .i64 0)))))])
  (.block 0 (.loop (.seq (.reg [((some 11), (none, (.bi .lss (.tmp 10) (.tmp 9))))])
    (.seq (.cond (.tmp 11)
      .skip
      (.exit 0))
    (.seq (.block 1 (.seq (.reg [((some 12), (none, (.mv (.tmp 10)))),
       ((some 13), (none, (.ixS 6 (.tmp 8) (.tmp 10)))),
       ((some 14), (none, (.ldA 6 (.tmp 13)))),
       ((some 7), (none, (.alloc [(.int .i64 0), (.int .u64 0), (.int .i64 0), (.int .i64 0), (.string ⟨#[]⟩), (.int .i64 0)]))),
       ((some 6), (none, (.mv (.tmp 12)))),
       (none, (none, (.st 6 (.tmp 7) (.tmp 14))))])
     (.seq (.reg [((some 15), (none, (.ldA 6 (.tmp 7)))),
       ((some 16), (none, (.ldA 4 (.tmp 3)))),
       ((some 17), (none, (.call f_holds_Holds [(.tmp 15), (.tmp 16)]))),
       ((some 18), (none, (.un .not (.tmp 17))))])
     (.cond (.tmp 18)
       (.seq (.reg [((some 19), (none, (.mv (.tmp 6)))),
         ((some 4), (none, (.mv (.tmp 19)))),
         ((some 5), (none, (.mv (.const (.bool false)))))])
       .ret)
       .skip))))
    (.reg [((some 20), (none, (.bi .add (.tmp 10) (.const (.int .i64 1))))),
      ((some 10), (none, (.mv (.tmp 20))))])))))))
  (.seq (.reg [((some 4), (none, (.mv (.const (.int .i64 0))))),
    ((some 5), (none, (.mv (.const (.bool true)))))])
  .ret)))
/-- macaroon/macaroonref06.All: 21 slots, results [(.t 4), (.t 5)] -/
def ref06_AllC (f_ref06_Holds : Nat) : PC :=
  (.seq (.reg [((some 3), (none, (.box 4 (.tmp 1)))),
    ((some 4), (none, (.mv (.const (.int .i64 0))))),
    ((some 5), (none, (.mv (.const (.bool false)))))])
  (.seq (.seq (.reg [((some 6), (none, (.mv (.const (.int .i64 0)))))])
  (.block 0 (.loop (.seq (.seq (.reg [((some 7), (none, (.mv (.tmp 6)))),
      ((some 8), (none, (.mv (.tmp 0)))),
      ((some 9), (none, (.len (.tmp 8)))),
      ((some 10), (none, (.bi .lss (.tmp 7) (.tmp 9))))])
    (.cond (.tmp 10)
      .skip
      (.exit 0)))
    (.seq (.block 1 (.seq (.drw [((some 13), (none, (.mv (.tmp 0)))),
       ((some 14), (none, (.mv (.tmp 6)))),
       ((some 15), (none, (.ixS 6 (.tmp 13) (.tmp 14)))),
       ((some 16), (none, (.ldA 6 (.tmp 15)))),
       ((some 17), (none, (.ldA 4 (.tmp 3)))),
       ((some 18), (none, (.call f_ref06_Holds [(.tmp 16), (.tmp 17)]))),
       ((some 19), (none, (.un .not (.tmp 18))))])
     (.cond (.tmp 19)
       (.seq (.reg [((some 20), (none, (.mv (.tmp 6)))),
         ((some 4), (none, (.mv (.tmp 20)))),
         ((some 5), (none, (.mv (.const (.bool false)))))])
       .ret)
       .skip)))
    (.reg [((some 11), (none, (.mv (.tmp 6)))),
      ((some 12), (none, (.bi .add (.tmp 11) (.const (.int .i64 1))))),
      ((some 6), (none, (.mv (.tmp 12))))]))))))
  (.seq (.reg [((some 4), (none, (.mv (.const (.int .i64 0))))),
    ((some 5), (none, (.mv (.const (.bool true)))))])
  .ret)))
/-- (*macaroon/macaroonmade.Deck).Next: 35 slots, results [(.t 4)] -/
def made_Deck_NextC (f_made_Within : Nat) : PC :=
  (.seq (.reg [((some 4), (none, (.mv (.const (.int .i64 0)))))])
  (.seq (.seq (.drw [((some 5), (none, (.mv (.tmp 0)))),
    ((some 6), (none, (.nilc (.tmp 5)))),
    ((some 7), (none, (.fa 1 (.tmp 6)))),
    ((some 8), (none, (.ld false (.tmp 7)))),
    ((some 9), (none, (.mv (.tmp 0)))),
    ((some 10), (none, (.nilc (.tmp 9)))),
    ((some 11), (none, (.fa 0 (.tmp 10)))),
    ((some 12), (none, (.ld false (.tmp 11)))),
    ((some 13), (none, (.len (.tmp 12)))),
    ((some 14), (none, (.bi .geq (.tmp 8) (.tmp 13))))])
  (.cond (.tmp 14)
    (.seq (.reg [((some 4), (none, (.mv (.const (.int .i64 0)))))])
    .ret)
    .skip))
  (.seq (.reg [((some 15), (none, (.mv (.tmp 0)))),
    ((some 16), (none, (.nilc (.tmp 15)))),
    ((some 17), (none, (.fa 1 (.tmp 16)))),
    ((some 18), (none, (.ld false (.tmp 17)))),
    ((some 19), (none, (.bi .add (.tmp 18) (.const (.int .i64 1))))),
    ((some 20), (none, (.nilc (.tmp 15)))),
    ((some 21), (none, (.fa 1 (.tmp 20)))),
    (none, (none, (.st 1 (.tmp 21) (.tmp 19))))])
  (.seq (.drw [((some 22), (none, (.mv (.tmp 0)))),
    ((some 23), (none, (.nilc (.tmp 22)))),
    ((some 24), (none, (.fa 0 (.tmp 23)))),
    ((some 25), (none, (.ld false (.tmp 24)))),
    ((some 26), (none, (.mv (.tmp 0)))),
    ((some 27), (none, (.nilc (.tmp 26)))),
    ((some 28), (none, (.fa 1 (.tmp 27)))),
    ((some 29), (none, (.ld false (.tmp 28)))),
    ((some 30), (none, (.bi .sub (.tmp 29) (.const (.int .i64 1))))),
    ((some 31), (none, (.ixS 1 (.tmp 25) (.tmp 30)))),
    ((some 32), (none, (.ld false (.tmp 31)))),
    ((some 33), (none, (.mv (.tmp 1)))),
    ((some 34), (none, (.call f_made_Within [(.tmp 32), (.tmp 33)]))),
    ((some 4), (none, (.mv (.tmp 34))))])
  .ret))))
/-- (*macaroon/macaroonmade.Deck).Range: 15 slots, results [(.t 6)] -/
def made_Deck_RangeC (f_made_Deck_Next : Nat) : PC :=
  (.seq (.reg [((some 6), (none, (.mv (.const (.int .i64 0)))))])
  (.seq (.reg [((some 7), (none, (.mv (.tmp 1)))),
    ((some 8), (none, (.mv (.tmp 0)))),
    ((some 9), (none, (.mv (.tmp 2)))),
    ((some 10), (none, (.mv (.tmp 1)))),
    ((some 11), (none, (.bi .sub (.tmp 9) (.tmp 10)))),
    ((some 12), (none, (.bi .add (.tmp 11) (.const (.int .i64 1))))),
    ((some 13), (none, (.call f_made_Deck_Next [(.tmp 8), (.tmp 12)]))),
    ((some 14), (none, (.bi .add (.tmp 7) (.tmp 13)))),
    ((some 6), (none, (.mv (.tmp 14))))])
  .ret))
/-- (*macaroon/macaroonmade.Deck).Minute: 25 slots, results [(.t 2)] -/
def made_Deck_MinuteC (f_made_Deck_Next : Nat) : PC :=
  (.seq (.reg [((some 2), (none, (.mv (.const (.int .i64 0)))))])
  (.seq (.seq (.reg [((some 3), (none, (.mv (.tmp 0)))),
    ((some 4), (none, (.call f_made_Deck_Next [(.tmp 3), (.const (.int .i64 4))])))])
  (.block 0 (.seq (.reg [((some 6), (none, (.bi .eql (.tmp 4) (.const (.int .i64 0))))),
     ((some 5), (none, (.mv (.tmp 6))))])
   (.cond (.tmp 5)
     (.seq (.reg [((some 7), (none, (.mv (.tmp 0)))),
       ((some 8), (none, (.call f_made_Deck_Next [(.tmp 7), (.const (.int .i64 4320))]))),
       ((some 2), (none, (.mv (.tmp 8))))])
     .ret)
     (.seq (.reg [((some 10), (none, (.bi .eql (.tmp 4) (.const (.int .i64 1))))),
       ((some 9), (none, (.mv (.tmp 10))))])
     (.cond (.tmp 9)
       (.seq (.reg [((some 11), (none, (.mv (.tmp 0)))),
         ((some 12), (none, (.call f_made_Deck_Next [(.tmp 11), (.const (.int .i64 60))]))),
         ((some 13), (none, (.bi .mul (.tmp 12) (.const (.int .i64 1440))))),
         ((some 14), (none, (.mv (.tmp 0)))),
         ((some 15), (none, (.call f_made_Deck_Next [(.tmp 14), (.const (.int .i64 3))]))),
         ((some 16), (none, (.bi .add (.tmp 13) (.tmp 15)))),
         ((some 17), (none, (.mm false (.tmp 16) (.const (.int .i64 67108864))))),
         ((some 2), (none, (.mv (.tmp 17))))])
       .ret)
       (.seq (.reg [((some 19), (none, (.bi .eql (.tmp 4) (.const (.int .i64 2))))),
         ((some 18), (none, (.mv (.tmp 19))))])
       (.cond (.tmp 18)
         (.seq (.reg [((some 20), (none, (.mv (.tmp 0)))),
           ((some 21), (none, (.call f_made_Deck_Next [(.tmp 20), (.const (.int .i64 4320))]))),
           ((some 22), (none, (.bi .sub (.const (.int .i64 67108864)) (.tmp 21)))),
           ((some 2), (none, (.mv (.tmp 22))))])
         .ret)
         .skip))))))))
  (.seq (.reg [((some 23), (none, (.mv (.tmp 0)))),
    ((some 24), (none, (.call f_made_Deck_Next [(.tmp 23), (.const (.int .i64 67108865))]))),
    ((some 2), (none, (.mv (.tmp 24))))])
  .ret)))
/-- (*macaroon/macaroonmade.Deck).Name: 8 slots, results [(.t 2)] -/
def made_Deck_NameC (t_string : Nat) (f_made_Deck_Next : Nat) : PC :=
  (.seq (.reg [((some 2), (none, (.mv (.const (.string ⟨#[]⟩)))))])
  (.seq (.reg [((some 3), (none, (.mks t_string 1 false [(.const (.string ⟨#[97]⟩)), (.const (.string ⟨#[98]⟩)), (.const (.string ⟨#[97, 110, 110]⟩)), (.const (.string ⟨#[98, 111, 98]⟩)), (.const (.string ⟨#[99, 105, 100]⟩)), (.const (.string ⟨#[122, 111, 101]⟩)), (.const (.string ⟨#[97, 97]⟩)), (.const (.string ⟨#[97, 98, 99, 100, 101, 102, 103, 104, 105, 106, 107, 108, 109, 110, 111, 112]⟩))]))),
    ((some 4), (none, (.mv (.tmp 0)))),
    ((some 5), (none, (.call f_made_Deck_Next [(.tmp 4), (.const (.int .i64 8))]))),
    ((some 6), (none, (.ixS 1 (.tmp 3) (.tmp 5)))),
    ((some 7), (none, (.ld false (.tmp 6)))),
    ((some 2), (none, (.mv (.tmp 7))))])
  .ret))
/-- macaroon/predicate.Valid: 118 slots, results [(.t 2)] -/
def predicate_ValidC (g_predicate_bits : Nat) (f_predicate_mask : Nat) (f_predicate_name : Nat) : PC :=
  (.seq (.reg [((some 1), (none, (.box 6 (.tmp 0)))),
    ((some 2), (none, (.mv (.const (.bool false)))))])
  (.seq (.reg [((some 4), (none, (.fa 0 (.tmp 1)))),
    ((some 5), (none, (.ld false (.tmp 4)))),
    ((some 6), (none, (.build [(.inr ((.tmp 5), 1)), (.inl [(.int .u64 0)]), (.inl [(.int .i64 0)]), (.inl [(.int .i64 0)]), (.inl [(.string ⟨#[]⟩)]), (.inl [(.int .i64 0)])]))),
    ((some 3), (none, (.alloc [(.int .i64 0), (.int .u64 0), (.int .i64 0), (.int .i64 0), (.string ⟨#[]⟩), (.int .i64 0)]))),
    (none, (none, (.st 6 (.tmp 3) (.tmp 6))))])
  (.seq (.seq (.reg [((some 7), (none, (.fa 0 (.tmp 1)))),
    ((some 8), (none, (.ld false (.tmp 7))))])
  (.block 0 (.seq (.seq (.reg [((some 10), (none, (.bi .eql (.tmp 8) (.const (.int .i64 1))))),
     ((some 9), (none, (.mv (.tmp 10))))])
   (.cond (.tmp 9)
     .skip
     (.seq (.reg [((some 11), (none, (.bi .eql (.tmp 8) (.const (.int .i64 2))))),
       ((some 9), (none, (.mv (.tmp 11))))])
     (.cond (.tmp 9)
       .skip
       (.reg [((some 12), (none, (.bi .eql (.tmp 8) (.const (.int .i64 3))))),
         ((some 9), (none, (.mv (.tmp 12))))])))))
   (.cond (.tmp 9)
     (.seq (.reg [((some 13), (none, (.fa 1 (.tmp 1)))),
       ((some 14), (none, (.ld false (.tmp 13)))),
       ((some 15), (none, (.fa 1 (.tmp 3)))),
       (none, (none, (.st 1 (.tmp 15) (.tmp 14))))])
     (.seq (.drw [((some 16), (none, (.fa 1 (.tmp 1)))),
       ((some 17), (none, (.ld false (.tmp 16)))),
       ((some 18), (none, (.fa 0 (.tmp 1)))),
       ((some 19), (none, (.ld false (.tmp 18)))),
       ((some 20), (none, (.ixP 8 1 (.global g_predicate_bits) (.tmp 19)))),
       ((some 21), (none, (.ld false (.tmp 20)))),
       ((some 22), (none, (.call f_predicate_mask [(.tmp 17), (.tmp 21)]))),
       ((some 23), (none, (.mv (.tmp 22)))),
       ((some 24), ((some (23, true)), (.ldA 6 (.tmp 1)))),
       ((some 25), ((some (23, true)), (.ldA 6 (.tmp 3)))),
       ((some 26), ((some (23, true)), (.eqA false [(.int .i64), (.int .u64), (.int .i64), (.int .i64), .string, (.int .i64)] (.tmp 24) (.tmp 25)))),
       ((some 27), (none, (.pick (.tmp 23) (.tmp 26) (.const (.bool false))))),
       ((some 2), (none, (.mv (.tmp 27))))])
     .ret))
     (.seq (.reg [((some 29), (none, (.bi .eql (.tmp 8) (.const (.int .i64 4))))),
       ((some 28), (none, (.mv (.tmp 29))))])
     (.cond (.tmp 28)
       (.seq (.ord (.one ((some 30), (none, (.fa 2 (.tmp 1))))
         (.one ((some 31), (none, (.ld false (.tmp 30))))
         (.one ((some 32), (none, (.fa 3 (.tmp 1))))
         (.one ((some 34), (none, (.fa 2 (.tmp 3))))
         (.alt (.one ((some 33), (none, (.ld false (.tmp 32))))
          (.one (none, (none, (.st 1 (.tmp 34) (.tmp 31))))
          (.one ((some 35), (none, (.fa 3 (.tmp 3))))
          (.one (none, (none, (.st 1 (.tmp 35) (.tmp 33))))
          .done))))
         (.one (none, (none, (.st 1 (.tmp 34) (.tmp 31))))
          (.one ((some 33), (none, (.ld false (.tmp 32))))
          (.one ((some 35), (none, (.fa 3 (.tmp 3))))
          (.one (none, (none, (.st 1 (.tmp 35) (.tmp 33))))
          .done))))))))))
       (.seq (.reg [((some 36), (none, (.fa 2 (.tmp 1)))),
         ((some 37), (none, (.ld false (.tmp 36)))),
         ((some 38), (none, (.bi .geq (.tmp 37) (.const (.int .i64 0))))),
         ((some 39), (none, (.mv (.tmp 38)))),
         ((some 40), ((some (39, true)), (.fa 2 (.tmp 1)))),
         ((some 41), ((some (39, true)), (.ld false (.tmp 40)))),
         ((some 42), ((some (39, true)), (.fa 3 (.tmp 1)))),
         ((some 43), ((some (39, true)), (.ld false (.tmp 42)))),
         ((some 44), ((some (39, true)), (.bi .leq (.tmp 41) (.tmp 43)))),
         ((some 45), (none, (.pick (.tmp 39) (.tmp 44) (.const (.bool false))))),
         ((some 46), (none, (.mv (.tmp 45)))),
         ((some 47), ((some (46, true)), (.fa 3 (.tmp 1)))),
         ((some 48), ((some (46, true)), (.ld false (.tmp 47)))),
         ((some 49), ((some (46, true)), (.bi .leq (.tmp 48) (.const (.int .i64 67108864))))),
         ((some 50), (none, (.pick (.tmp 46) (.tmp 49) (.const (.bool false))))),
         ((some 51), (none, (.mv (.tmp 50)))),
         ((some 52), ((some (51, true)), (.ldA 6 (.tmp 1)))),
         ((some 53), ((some (51, true)), (.ldA 6 (.tmp 3)))),
         ((some 54), ((some (51, true)), (.eqA false [(.int .i64), (.int .u64), (.int .i64), (.int .i64), .string, (.int .i64)] (.tmp 52) (.tmp 53)))),
         ((some 55), (none, (.pick (.tmp 51) (.tmp 54) (.const (.bool false))))),
         ((some 2), (none, (.mv (.tmp 55))))])
       .ret))
       (.seq (.reg [((some 57), (none, (.bi .eql (.tmp 8) (.const (.int .i64 5))))),
         ((some 56), (none, (.mv (.tmp 57))))])
       (.cond (.tmp 56)
         (.seq (.ord (.one ((some 58), (none, (.fa 2 (.tmp 1))))
           (.one ((some 59), (none, (.ld false (.tmp 58))))
           (.one ((some 60), (none, (.fa 3 (.tmp 1))))
           (.one ((some 62), (none, (.fa 2 (.tmp 3))))
           (.alt (.one ((some 61), (none, (.ld false (.tmp 60))))
            (.one (none, (none, (.st 1 (.tmp 62) (.tmp 59))))
            (.one ((some 63), (none, (.fa 3 (.tmp 3))))
            (.one (none, (none, (.st 1 (.tmp 63) (.tmp 61))))
            .done))))
           (.one (none, (none, (.st 1 (.tmp 62) (.tmp 59))))
            (.one ((some 61), (none, (.ld false (.tmp 60))))
            (.one ((some 63), (none, (.fa 3 (.tmp 3))))
            (.one (none, (none, (.st 1 (.tmp 63) (.tmp 61))))
            .done))))))))))
         (.seq (.reg [((some 64), (none, (.fa 2 (.tmp 1)))),
           ((some 65), (none, (.ld false (.tmp 64)))),
           ((some 66), (none, (.bi .geq (.tmp 65) (.const (.int .i64 0))))),
           ((some 67), (none, (.mv (.tmp 66)))),
           ((some 68), ((some (67, true)), (.fa 2 (.tmp 1)))),
           ((some 69), ((some (67, true)), (.ld false (.tmp 68)))),
           ((some 70), ((some (67, true)), (.bi .lss (.tmp 69) (.const (.int .i64 1440))))),
           ((some 71), (none, (.pick (.tmp 67) (.tmp 70) (.const (.bool false))))),
           ((some 72), (none, (.mv (.tmp 71)))),
           ((some 73), ((some (72, true)), (.fa 3 (.tmp 1)))),
           ((some 74), ((some (72, true)), (.ld false (.tmp 73)))),
           ((some 75), ((some (72, true)), (.bi .geq (.tmp 74) (.const (.int .i64 0))))),
           ((some 76), (none, (.pick (.tmp 72) (.tmp 75) (.const (.bool false))))),
           ((some 77), (none, (.mv (.tmp 76)))),
           ((some 78), ((some (77, true)), (.fa 3 (.tmp 1)))),
           ((some 79), ((some (77, true)), (.ld false (.tmp 78)))),
           ((some 80), ((some (77, true)), (.bi .lss (.tmp 79) (.const (.int .i64 1440))))),
           ((some 81), (none, (.pick (.tmp 77) (.tmp 80) (.const (.bool false))))),
           ((some 82), (none, (.mv (.tmp 81)))),
           ((some 83), ((some (82, true)), (.ldA 6 (.tmp 1)))),
           ((some 84), ((some (82, true)), (.ldA 6 (.tmp 3)))),
           ((some 85), ((some (82, true)), (.eqA false [(.int .i64), (.int .u64), (.int .i64), (.int .i64), .string, (.int .i64)] (.tmp 83) (.tmp 84)))),
           ((some 86), (none, (.pick (.tmp 82) (.tmp 85) (.const (.bool false))))),
           ((some 2), (none, (.mv (.tmp 86))))])
         .ret))
         (.seq (.reg [((some 88), (none, (.bi .eql (.tmp 8) (.const (.int .i64 6))))),
           ((some 87), (none, (.mv (.tmp 88))))])
         (.cond (.tmp 87)
           (.seq (.reg [((some 89), (none, (.fa 4 (.tmp 1)))),
             ((some 90), (none, (.ld false (.tmp 89)))),
             ((some 91), (none, (.fa 4 (.tmp 3)))),
             (none, (none, (.st 1 (.tmp 91) (.tmp 90))))])
           (.seq (.reg [((some 92), (none, (.fa 4 (.tmp 1)))),
             ((some 93), (none, (.ld false (.tmp 92)))),
             ((some 94), (none, (.call f_predicate_name [(.tmp 93)]))),
             ((some 95), (none, (.mv (.tmp 94)))),
             ((some 96), ((some (95, true)), (.ldA 6 (.tmp 1)))),
             ((some 97), ((some (95, true)), (.ldA 6 (.tmp 3)))),
             ((some 98), ((some (95, true)), (.eqA false [(.int .i64), (.int .u64), (.int .i64), (.int .i64), .string, (.int .i64)] (.tmp 96) (.tmp 97)))),
             ((some 99), (none, (.pick (.tmp 95) (.tmp 98) (.const (.bool false))))),
             ((some 2), (none, (.mv (.tmp 99))))])
           .ret))
           (.seq (.reg [((some 101), (none, (.bi .eql (.tmp 8) (.const (.int .i64 7))))),
             ((some 100), (none, (.mv (.tmp 101))))])
           (.cond (.tmp 100)
             (.seq (.reg [((some 102), (none, (.fa 5 (.tmp 1)))),
               ((some 103), (none, (.ld false (.tmp 102)))),
               ((some 104), (none, (.fa 5 (.tmp 3)))),
               (none, (none, (.st 1 (.tmp 104) (.tmp 103))))])
             (.seq (.reg [((some 105), (none, (.fa 5 (.tmp 1)))),
               ((some 106), (none, (.ld false (.tmp 105)))),
               ((some 107), (none, (.bi .geq (.tmp 106) (.const (.int .i64 0))))),
               ((some 108), (none, (.mv (.tmp 107)))),
               ((some 109), ((some (108, true)), (.fa 5 (.tmp 1)))),
               ((some 110), ((some (108, true)), (.ld false (.tmp 109)))),
               ((some 111), ((some (108, true)), (.bi .leq (.tmp 110) (.const (.int .i64 1000000))))),
               ((some 112), (none, (.pick (.tmp 108) (.tmp 111) (.const (.bool false))))),
               ((some 113), (none, (.mv (.tmp 112)))),
               ((some 114), ((some (113, true)), (.ldA 6 (.tmp 1)))),
               ((some 115), ((some (113, true)), (.ldA 6 (.tmp 3)))),
               ((some 116), ((some (113, true)), (.eqA false [(.int .i64), (.int .u64), (.int .i64), (.int .i64), .string, (.int .i64)] (.tmp 114) (.tmp 115)))),
               ((some 117), (none, (.pick (.tmp 113) (.tmp 116) (.const (.bool false))))),
               ((some 2), (none, (.mv (.tmp 117))))])
             .ret))
             .skip))))))))))))
  (.seq (.reg [((some 2), (none, (.mv (.const (.bool false)))))])
  .ret))))
/-- macaroon/macaroonref01.Name: 28 slots, results [(.t 2)] -/
def ref01_NameC : PC :=
  (.seq (.reg [((some 2), (none, (.mv (.const (.bool false)))))])
  (.seq (.seq (.reg [((some 4), (none, (.mv (.tmp 0)))),
    ((some 5), (none, (.slen (.tmp 4)))),
    ((some 6), (none, (.bi .lss (.tmp 5) (.const (.int .i64 1))))),
    ((some 7), (none, (.mv (.tmp 6)))),
    ((some 8), ((some (7, false)), (.mv (.tmp 0)))),
    ((some 9), ((some (7, false)), (.slen (.tmp 8)))),
    ((some 10), ((some (7, false)), (.bi .gtr (.tmp 9) (.const (.int .i64 16))))),
    ((some 11), (none, (.pick (.tmp 7) (.const (.bool true)) (.tmp 10))))])
  (.cond (.tmp 11)
    (.seq (.reg [((some 2), (none, (.mv (.const (.bool false)))))])
    .ret)
    .skip))
  (.seq (.seq (.reg [((some 3), (none, (.mv (.const (.int .i64 0)))))])
  (.block 0 (.loop (.seq (.seq (.reg [((some 12), (none, (.mv (.tmp 3)))),
      ((some 13), (none, (.mv (.tmp 0)))),
      ((some 14), (none, (.slen (.tmp 13)))),
      ((some 15), (none, (.bi .lss (.tmp 12) (.tmp 14))))])
    (.cond (.tmp 15)
      .skip
      (.exit 0)))
    (.seq (.block 1 (.seq (.reg [((some 18), (none, (.mv (.tmp 0)))),
       ((some 19), (none, (.mv (.tmp 3)))),
       ((some 20), (none, (.six (.tmp 18) (.tmp 19)))),
       ((some 21), (none, (.bi .lss (.tmp 20) (.const (.int .u8 97))))),
       ((some 22), (none, (.mv (.tmp 21)))),
       ((some 23), ((some (22, false)), (.mv (.tmp 0)))),
       ((some 24), ((some (22, false)), (.mv (.tmp 3)))),
       ((some 25), ((some (22, false)), (.six (.tmp 23) (.tmp 24)))),
       ((some 26), ((some (22, false)), (.bi .gtr (.tmp 25) (.const (.int .u8 122))))),
       ((some 27), (none, (.pick (.tmp 22) (.const (.bool true)) (.tmp 26))))])
     (.cond (.tmp 27)
       (.seq (.reg [((some 2), (none, (.mv (.const (.bool false)))))])
       .ret)
       .skip)))
    (.reg [((some 16), (none, (.mv (.tmp 3)))),
      ((some 17), (none, (.bi .add (.tmp 16) (.const (.int .i64 1))))),
      ((some 3), (none, (.mv (.tmp 17))))]))))))
  (.seq (.reg [((some 2), (none, (.mv (.const (.bool true)))))])
  .ret))))
/-- (*macaroon/macaroonmade.Deck).mask: 45 slots, results [(.t 4)] -/
def made_Deck_maskC (f_made_Deck_Next : Nat) : PC :=
  (.seq (.reg [((some 4), (none, (.mv (.const (.int .u64 0)))))])
  (.seq (.reg [((some 5), (none, (.mv (.const (.int .u64 0)))))])
  (.seq (.seq (.reg [((some 6), (none, (.mv (.tmp 0)))),
    ((some 7), (none, (.call f_made_Deck_Next [(.tmp 6), (.const (.int .i64 3))])))])
  (.block 0 (.seq (.reg [((some 9), (none, (.bi .eql (.tmp 7) (.const (.int .i64 0))))),
     ((some 8), (none, (.mv (.tmp 9))))])
   (.cond (.tmp 8)
     (.reg [((some 10), (none, (.mv (.tmp 0)))),
       ((some 11), (none, (.call f_made_Deck_Next [(.tmp 10), (.const (.int .i64 16))]))),
       ((some 12), (none, (.cv .u64 (.tmp 11)))),
       ((some 5), (none, (.mv (.tmp 12))))])
     (.seq (.reg [((some 14), (none, (.bi .eql (.tmp 7) (.const (.int .i64 1))))),
       ((some 13), (none, (.mv (.tmp 14))))])
     (.cond (.tmp 13)
       (.reg [((some 15), (none, (.mv (.tmp 0)))),
         ((some 16), (none, (.call f_made_Deck_Next [(.tmp 15), (.const (.int .i64 65536))]))),
         ((some 17), (none, (.cv .u64 (.tmp 16)))),
         ((some 18), (none, (.mv (.tmp 0)))),
         ((some 19), (none, (.call f_made_Deck_Next [(.tmp 18), (.const (.int .i64 65536))]))),
         ((some 20), (none, (.cv .u64 (.tmp 19)))),
         ((some 21), (none, (.bi .shl (.tmp 20) (.const (.int .u64 48))))),
         ((some 22), (none, (.bi .or (.tmp 17) (.tmp 21)))),
         ((some 5), (none, (.mv (.tmp 22))))])
       (.seq (.reg [((some 24), (none, (.bi .eql (.tmp 7) (.const (.int .i64 2))))),
         ((some 23), (none, (.mv (.tmp 24))))])
       (.cond (.tmp 23)
         (.reg [((some 25), (none, (.mv (.tmp 0)))),
           ((some 26), (none, (.call f_made_Deck_Next [(.tmp 25), (.const (.int .i64 65536))]))),
           ((some 27), (none, (.cv .u64 (.tmp 26)))),
           ((some 28), (none, (.un .xor (.tmp 27)))),
           ((some 5), (none, (.mv (.tmp 28))))])
         .skip))))))))
  (.seq (.seq (.reg [((some 29), (none, (.mv (.tmp 1)))),
    ((some 30), (none, (.bi .lss (.tmp 29) (.const (.int .i64 64)))))])
  (.cond (.tmp 30)
    (.reg [((some 31), (none, (.mv (.tmp 5)))),
      ((some 32), (none, (.mv (.tmp 1)))),
      ((some 33), (none, (.cv .u64 (.tmp 32)))),
      ((some 34), (none, (.bi .shl (.const (.int .u64 1)) (.tmp 33)))),
      ((some 35), (none, (.bi .sub (.tmp 34) (.const (.int .u64 1))))),
      ((some 36), (none, (.bi .and (.tmp 31) (.tmp 35)))),
      ((some 5), (none, (.mv (.tmp 36))))])
    .skip))
  (.seq (.seq (.reg [((some 37), (none, (.mv (.tmp 5)))),
    ((some 38), (none, (.bi .eql (.tmp 37) (.const (.int .u64 0)))))])
  (.cond (.tmp 38)
    (.seq (.reg [((some 39), (none, (.mv (.tmp 0)))),
      ((some 40), (none, (.mv (.tmp 1)))),
      ((some 41), (none, (.call f_made_Deck_Next [(.tmp 39), (.tmp 40)]))),
      ((some 42), (none, (.cv .u64 (.tmp 41)))),
      ((some 43), (none, (.bi .shl (.const (.int .u64 1)) (.tmp 42)))),
      ((some 4), (none, (.mv (.tmp 43))))])
    .ret)
    .skip))
  (.seq (.reg [((some 44), (none, (.mv (.tmp 5)))),
    ((some 4), (none, (.mv (.tmp 44))))])
  .ret))))))
/-- (*macaroon/macaroonmade.Deck).Upto: 32 slots, results [(.t 4)] -/
def made_Deck_UptoC (f_made_Deck_Next : Nat) : PC :=
  (.seq (.reg [((some 4), (none, (.mv (.const (.int .i64 0)))))])
  (.seq (.seq (.reg [((some 5), (none, (.mv (.tmp 0)))),
    ((some 6), (none, (.call f_made_Deck_Next [(.tmp 5), (.const (.int .i64 4))])))])
  (.block 0 (.seq (.reg [((some 8), (none, (.bi .eql (.tmp 6) (.const (.int .i64 0))))),
     ((some 7), (none, (.mv (.tmp 8))))])
   (.cond (.tmp 7)
     (.seq (.reg [((some 9), (none, (.mv (.tmp 0)))),
       ((some 10), (none, (.call f_made_Deck_Next [(.tmp 9), (.const (.int .i64 4))]))),
       ((some 11), (none, (.mv (.tmp 1)))),
       ((some 12), (none, (.mm false (.tmp 10) (.tmp 11)))),
       ((some 4), (none, (.mv (.tmp 12))))])
     .ret)
     (.seq (.reg [((some 14), (none, (.bi .eql (.tmp 6) (.const (.int .i64 1))))),
       ((some 13), (none, (.mv (.tmp 14))))])
     (.cond (.tmp 13)
       (.seq (.reg [((some 15), (none, (.mv (.tmp 0)))),
         ((some 16), (none, (.call f_made_Deck_Next [(.tmp 15), (.const (.int .i64 300))]))),
         ((some 17), (none, (.mv (.tmp 1)))),
         ((some 18), (none, (.mm false (.tmp 16) (.tmp 17)))),
         ((some 4), (none, (.mv (.tmp 18))))])
       .ret)
       (.seq (.reg [((some 20), (none, (.bi .eql (.tmp 6) (.const (.int .i64 2))))),
         ((some 19), (none, (.mv (.tmp 20))))])
       (.cond (.tmp 19)
         (.seq (.reg [((some 21), (none, (.mv (.tmp 1)))),
           ((some 22), (none, (.mv (.tmp 0)))),
           ((some 23), (none, (.mv (.tmp 1)))),
           ((some 24), (none, (.bi .add (.tmp 23) (.const (.int .i64 1))))),
           ((some 25), (none, (.mm false (.const (.int .i64 3)) (.tmp 24)))),
           ((some 26), (none, (.call f_made_Deck_Next [(.tmp 22), (.tmp 25)]))),
           ((some 27), (none, (.bi .sub (.tmp 21) (.tmp 26)))),
           ((some 4), (none, (.mv (.tmp 27))))])
         .ret)
         .skip))))))))
  (.seq (.reg [((some 28), (none, (.mv (.tmp 0)))),
    ((some 29), (none, (.mv (.tmp 1)))),
    ((some 30), (none, (.bi .add (.tmp 29) (.const (.int .i64 1))))),
    ((some 31), (none, (.call f_made_Deck_Next [(.tmp 28), (.tmp 30)]))),
    ((some 4), (none, (.mv (.tmp 31))))])
  .ret)))
/-- (macaroon/holds.ride).zone: 12 slots, results [(.t 4)] -/
def holds_ride_zoneC : PC :=
  (.seq (.reg [((some 2), (none, (.box 4 (.tmp 0)))),
    ((some 3), (none, (.box 6 (.tmp 1)))),
    ((some 4), (none, (.mv (.const (.bool false)))))])
  (.seq (.reg [((some 5), (none, (.fa 1 (.tmp 3)))),
    ((some 6), (none, (.ld false (.tmp 5)))),
    ((some 7), (none, (.fa 0 (.tmp 2)))),
    ((some 8), (none, (.ld false (.tmp 7)))),
    ((some 9), (none, (.bi .shr (.tmp 6) (.tmp 8)))),
    ((some 10), (none, (.bi .and (.tmp 9) (.const (.int .u64 1))))),
    ((some 11), (none, (.bi .eql (.tmp 10) (.const (.int .u64 1))))),
    ((some 4), (none, (.mv (.tmp 11))))])
  .ret))
/-- (macaroon/holds.ride).line: 12 slots, results [(.t 4)] -/
def holds_ride_lineC : PC :=
  (.seq (.reg [((some 2), (none, (.box 4 (.tmp 0)))),
    ((some 3), (none, (.box 6 (.tmp 1)))),
    ((some 4), (none, (.mv (.const (.bool false)))))])
  (.seq (.reg [((some 5), (none, (.fa 1 (.tmp 3)))),
    ((some 6), (none, (.ld false (.tmp 5)))),
    ((some 7), (none, (.fa 1 (.tmp 2)))),
    ((some 8), (none, (.ld false (.tmp 7)))),
    ((some 9), (none, (.bi .shr (.tmp 6) (.tmp 8)))),
    ((some 10), (none, (.bi .and (.tmp 9) (.const (.int .u64 1))))),
    ((some 11), (none, (.bi .eql (.tmp 10) (.const (.int .u64 1))))),
    ((some 4), (none, (.mv (.tmp 11))))])
  .ret))
/-- (macaroon/holds.ride).days: 14 slots, results [(.t 4)] -/
def holds_ride_daysC : PC :=
  (.seq (.reg [((some 2), (none, (.box 4 (.tmp 0)))),
    ((some 3), (none, (.box 6 (.tmp 1)))),
    ((some 4), (none, (.mv (.const (.bool false)))))])
  (.seq (.reg [((some 5), (none, (.fa 1 (.tmp 3)))),
    ((some 6), (none, (.ld false (.tmp 5)))),
    ((some 7), (none, (.fa 2 (.tmp 2)))),
    ((some 8), (none, (.ld false (.tmp 7)))),
    ((some 9), (none, (.bi .quo (.tmp 8) (.const (.int .i64 1440))))),
    ((some 10), (none, (.bi .rem (.tmp 9) (.const (.int .i64 7))))),
    ((some 11), (none, (.bi .shr (.tmp 6) (.tmp 10)))),
    ((some 12), (none, (.bi .and (.tmp 11) (.const (.int .u64 1))))),
    ((some 13), (none, (.bi .eql (.tmp 12) (.const (.int .u64 1))))),
    ((some 4), (none, (.mv (.tmp 13))))])
  .ret))
/-- (macaroon/holds.ride).time: 17 slots, results [(.t 4)] -/
def holds_ride_timeC : PC :=
  (.seq (.reg [((some 2), (none, (.box 4 (.tmp 0)))),
    ((some 3), (none, (.box 6 (.tmp 1)))),
    ((some 4), (none, (.mv (.const (.bool false)))))])
  (.seq (.reg [((some 5), (none, (.fa 2 (.tmp 2)))),
    ((some 6), (none, (.ld false (.tmp 5)))),
    ((some 7), (none, (.fa 2 (.tmp 3)))),
    ((some 8), (none, (.ld false (.tmp 7)))),
    ((some 9), (none, (.bi .geq (.tmp 6) (.tmp 8)))),
    ((some 10), (none, (.mv (.tmp 9)))),
    ((some 11), ((some (10, true)), (.fa 2 (.tmp 2)))),
    ((some 12), ((some (10, true)), (.ld false (.tmp 11)))),
    ((some 13), ((some (10, true)), (.fa 3 (.tmp 3)))),
    ((some 14), ((some (10, true)), (.ld false (.tmp 13)))),
    ((some 15), ((some (10, true)), (.bi .leq (.tmp 12) (.tmp 14)))),
    ((some 16), (none, (.pick (.tmp 10) (.tmp 15) (.const (.bool false))))),
    ((some 4), (none, (.mv (.tmp 16))))])
  .ret))
/-- (macaroon/holds.ride).daily: 34 slots, results [(.t 4)] -/
def holds_ride_dailyC : PC :=
  (.seq (.reg [((some 2), (none, (.box 4 (.tmp 0)))),
    ((some 3), (none, (.box 6 (.tmp 1)))),
    ((some 4), (none, (.mv (.const (.bool false)))))])
  (.seq (.reg [((some 6), (none, (.fa 2 (.tmp 2)))),
    ((some 7), (none, (.ld false (.tmp 6)))),
    ((some 8), (none, (.bi .rem (.tmp 7) (.const (.int .i64 1440))))),
    ((some 5), (none, (.mv (.tmp 8))))])
  (.seq (.seq (.reg [((some 9), (none, (.fa 2 (.tmp 3)))),
    ((some 10), (none, (.ld false (.tmp 9)))),
    ((some 11), (none, (.fa 3 (.tmp 3)))),
    ((some 12), (none, (.ld false (.tmp 11)))),
    ((some 13), (none, (.bi .leq (.tmp 10) (.tmp 12))))])
  (.cond (.tmp 13)
    (.seq (.reg [((some 14), (none, (.mv (.tmp 5)))),
      ((some 15), (none, (.fa 2 (.tmp 3)))),
      ((some 16), (none, (.ld false (.tmp 15)))),
      ((some 17), (none, (.bi .geq (.tmp 14) (.tmp 16)))),
      ((some 18), (none, (.mv (.tmp 17)))),
      ((some 19), ((some (18, true)), (.mv (.tmp 5)))),
      ((some 20), ((some (18, true)), (.fa 3 (.tmp 3)))),
      ((some 21), ((some (18, true)), (.ld false (.tmp 20)))),
      ((some 22), ((some (18, true)), (.bi .leq (.tmp 19) (.tmp 21)))),
      ((some 23), (none, (.pick (.tmp 18) (.tmp 22) (.const (.bool false))))),
      ((some 4), (none, (.mv (.tmp 23))))])
    .ret)
    .skip))
  (.seq (.reg [((some 24), (none, (.mv (.tmp 5)))),
    ((some 25), (none, (.fa 2 (.tmp 3)))),
    ((some 26), (none, (.ld false (.tmp 25)))),
    ((some 27), (none, (.bi .geq (.tmp 24) (.tmp 26)))),
    ((some 28), (none, (.mv (.tmp 27)))),
    ((some 29), ((some (28, false)), (.mv (.tmp 5)))),
    ((some 30), ((some (28, false)), (.fa 3 (.tmp 3)))),
    ((some 31), ((some (28, false)), (.ld false (.tmp 30)))),
    ((some 32), ((some (28, false)), (.bi .leq (.tmp 29) (.tmp 31)))),
    ((some 33), (none, (.pick (.tmp 28) (.const (.bool true)) (.tmp 32)))),
    ((some 4), (none, (.mv (.tmp 33))))])
  .ret))))
/-- (macaroon/holds.ride).holder: 10 slots, results [(.t 4)] -/
def holds_ride_holderC : PC :=
  (.seq (.reg [((some 2), (none, (.box 4 (.tmp 0)))),
    ((some 3), (none, (.box 6 (.tmp 1)))),
    ((some 4), (none, (.mv (.const (.bool false)))))])
  (.seq (.reg [((some 5), (none, (.fa 4 (.tmp 3)))),
    ((some 6), (none, (.ld false (.tmp 5)))),
    ((some 7), (none, (.fa 3 (.tmp 2)))),
    ((some 8), (none, (.ld false (.tmp 7)))),
    ((some 9), (none, (.bi .eql (.tmp 6) (.tmp 8)))),
    ((some 4), (none, (.mv (.tmp 9))))])
  .ret))
/-- (macaroon/holds.ride).rides: 5 slots, results [(.t 4)] -/
def holds_ride_ridesC : PC :=
  (.seq (.reg [((some 2), (none, (.box 4 (.tmp 0)))),
    ((some 3), (none, (.box 6 (.tmp 1)))),
    ((some 4), (none, (.mv (.const (.bool false)))))])
  (.seq (.reg [((some 4), (none, (.mv (.const (.bool true)))))])
  .ret))
/-- macaroon/macaroonref06.Valid: 120 slots, results [(.t 2)] -/
def ref06_ValidC (f_ref01_Name : Nat) : PC :=
  (.seq (.reg [((some 1), (none, (.box 6 (.tmp 0)))),
    ((some 2), (none, (.mv (.const (.bool false)))))])
  (.seq (.reg [((some 5), (none, (.fa 0 (.tmp 1)))),
    ((some 6), (none, (.ld false (.tmp 5)))),
    ((some 7), (none, (.build [(.inr ((.tmp 6), 1)), (.inl [(.int .u64 0)]), (.inl [(.int .i64 0)]), (.inl [(.int .i64 0)]), (.inl [(.string ⟨#[]⟩)]), (.inl [(.int .i64 0)])]))),
    ((some 3), (none, (.alloc [(.int .i64 0), (.int .u64 0), (.int .i64 0), (.int .i64 0), (.string ⟨#[]⟩), (.int .i64 0)]))),
    (none, (none, (.st 6 (.tmp 3) (.tmp 7))))])
  (.seq (.reg [((some 4), (none, (.mv (.const (.bool false)))))])
  (.seq (.seq (.reg [((some 8), (none, (.fa 0 (.tmp 1)))),
    ((some 9), (none, (.ld false (.tmp 8))))])
  (.block 0 (.seq (.reg [((some 11), (none, (.bi .eql (.tmp 9) (.const (.int .i64 1))))),
     ((some 10), (none, (.mv (.tmp 11))))])
   (.cond (.tmp 10)
     (.ord (.one ((some 12), (none, (.fa 1 (.tmp 1))))
       (.one ((some 13), (none, (.ld false (.tmp 12))))
       (.one ((some 14), (none, (.fa 1 (.tmp 1))))
       (.one ((some 17), (none, (.fa 1 (.tmp 3))))
       (.alt (.one ((some 15), (none, (.ld false (.tmp 14))))
        (.one ((some 16), (none, (.bi .neq (.tmp 15) (.const (.int .u64 0)))))
        (.one (none, (none, (.st 1 (.tmp 17) (.tmp 13))))
        (.one ((some 4), (none, (.mv (.tmp 16))))
        .done))))
       (.one (none, (none, (.st 1 (.tmp 17) (.tmp 13))))
        (.one ((some 15), (none, (.ld false (.tmp 14))))
        (.one ((some 16), (none, (.bi .neq (.tmp 15) (.const (.int .u64 0)))))
        (.one ((some 4), (none, (.mv (.tmp 16))))
        .done))))))))))
     (.seq (.reg [((some 19), (none, (.bi .eql (.tmp 9) (.const (.int .i64 2))))),
       ((some 18), (none, (.mv (.tmp 19))))])
     (.cond (.tmp 18)
       (.ord (.one ((some 20), (none, (.fa 1 (.tmp 1))))
         (.one ((some 21), (none, (.ld false (.tmp 20))))
         (.one ((some 22), (none, (.fa 1 (.tmp 1))))
         (.one ((some 30), (none, (.fa 1 (.tmp 3))))
         (.one ((some 23), (none, (.ld false (.tmp 22))))
         (.one ((some 24), (none, (.bi .neq (.tmp 23) (.const (.int .u64 0)))))
         (.one ((some 25), (none, (.mv (.tmp 24))))
         (.one ((some 26), ((some (25, true)), (.fa 1 (.tmp 1))))
         (.alt (.one ((some 27), ((some (25, true)), (.ld false (.tmp 26))))
          (.one ((some 28), ((some (25, true)), (.bi .lss (.tmp 27) (.const (.int .u64 4294967296)))))
          (.one ((some 29), (none, (.pick (.tmp 25) (.tmp 28) (.const (.bool false)))))
          (.one (none, (none, (.st 1 (.tmp 30) (.tmp 21))))
          (.one ((some 4), (none, (.mv (.tmp 29))))
          .done)))))
         (.one (none, (none, (.st 1 (.tmp 30) (.tmp 21))))
          (.one ((some 27), ((some (25, true)), (.ld false (.tmp 26))))
          (.one ((some 28), ((some (25, true)), (.bi .lss (.tmp 27) (.const (.int .u64 4294967296)))))
          (.one ((some 29), (none, (.pick (.tmp 25) (.tmp 28) (.const (.bool false)))))
          (.one ((some 4), (none, (.mv (.tmp 29))))
          .done)))))))))))))))
       (.seq (.reg [((some 32), (none, (.bi .eql (.tmp 9) (.const (.int .i64 3))))),
         ((some 31), (none, (.mv (.tmp 32))))])
       (.cond (.tmp 31)
         (.ord (.one ((some 33), (none, (.fa 1 (.tmp 1))))
           (.one ((some 34), (none, (.ld false (.tmp 33))))
           (.one ((some 35), (none, (.fa 1 (.tmp 1))))
           (.one ((some 43), (none, (.fa 1 (.tmp 3))))
           (.one ((some 36), (none, (.ld false (.tmp 35))))
           (.one ((some 37), (none, (.bi .neq (.tmp 36) (.const (.int .u64 0)))))
           (.one ((some 38), (none, (.mv (.tmp 37))))
           (.one ((some 39), ((some (38, true)), (.fa 1 (.tmp 1))))
           (.alt (.one ((some 40), ((some (38, true)), (.ld false (.tmp 39))))
            (.one ((some 41), ((some (38, true)), (.bi .lss (.tmp 40) (.const (.int .u64 128)))))
            (.one ((some 42), (none, (.pick (.tmp 38) (.tmp 41) (.const (.bool false)))))
            (.one (none, (none, (.st 1 (.tmp 43) (.tmp 34))))
            (.one ((some 4), (none, (.mv (.tmp 42))))
            .done)))))
           (.one (none, (none, (.st 1 (.tmp 43) (.tmp 34))))
            (.one ((some 40), ((some (38, true)), (.ld false (.tmp 39))))
            (.one ((some 41), ((some (38, true)), (.bi .lss (.tmp 40) (.const (.int .u64 128)))))
            (.one ((some 42), (none, (.pick (.tmp 38) (.tmp 41) (.const (.bool false)))))
            (.one ((some 4), (none, (.mv (.tmp 42))))
            .done)))))))))))))))
         (.seq (.reg [((some 45), (none, (.bi .eql (.tmp 9) (.const (.int .i64 4))))),
           ((some 44), (none, (.mv (.tmp 45))))])
         (.cond (.tmp 44)
           (.ord (.one ((some 46), (none, (.fa 2 (.tmp 1))))
             (.one ((some 47), (none, (.ld false (.tmp 46))))
             (.one ((some 48), (none, (.fa 3 (.tmp 1))))
             (.one ((some 50), (none, (.fa 2 (.tmp 1))))
             (.one ((some 65), (none, (.fa 2 (.tmp 3))))
             (.alt (.one ((some 49), (none, (.ld false (.tmp 48))))
              (.one ((some 51), (none, (.ld false (.tmp 50))))
              (.one ((some 52), (none, (.bi .geq (.tmp 51) (.const (.int .i64 0)))))
              (.one ((some 53), (none, (.mv (.tmp 52))))
              (.one ((some 54), ((some (53, true)), (.fa 2 (.tmp 1))))
              (.one ((some 56), ((some (53, true)), (.fa 3 (.tmp 1))))
              (.alt (.one ((some 55), ((some (53, true)), (.ld false (.tmp 54))))
               (.one ((some 57), ((some (53, true)), (.ld false (.tmp 56))))
               (.one ((some 58), ((some (53, true)), (.bi .leq (.tmp 55) (.tmp 57))))
               (.one ((some 59), (none, (.pick (.tmp 53) (.tmp 58) (.const (.bool false)))))
               (.one ((some 60), (none, (.mv (.tmp 59))))
               (.one ((some 61), ((some (60, true)), (.fa 3 (.tmp 1))))
               (.alt (.one ((some 62), ((some (60, true)), (.ld false (.tmp 61))))
                (.one ((some 63), ((some (60, true)), (.bi .leq (.tmp 62) (.const (.int .i64 67108864)))))
                (.one ((some 64), (none, (.pick (.tmp 60) (.tmp 63) (.const (.bool false)))))
                (.one (none, (none, (.st 1 (.tmp 65) (.tmp 47))))
                (.one ((some 66), (none, (.fa 3 (.tmp 3))))
                (.one (none, (none, (.st 1 (.tmp 66) (.tmp 49))))
                (.one ((some 4), (none, (.mv (.tmp 64))))
                .done)))))))
               (.one (none, (none, (.st 1 (.tmp 65) (.tmp 47))))
                (.one ((some 66), (none, (.fa 3 (.tmp 3))))
                (.alt (.one ((some 62), ((some (60, true)), (.ld false (.tmp 61))))
                 (.one ((some 63), ((some (60, true)), (.bi .leq (.tmp 62) (.const (.int .i64 67108864)))))
                 (.one ((some 64), (none, (.pick (.tmp 60) (.tmp 63) (.const (.bool false)))))
                 (.one (none, (none, (.st 1 (.tmp 66) (.tmp 49))))
                 (.one ((some 4), (none, (.mv (.tmp 64))))
                 .done)))))
                (.one (none, (none, (.st 1 (.tmp 66) (.tmp 49))))
                 (.one ((some 62), ((some (60, true)), (.ld false (.tmp 61))))
                 (.one ((some 63), ((some (60, true)), (.bi .leq (.tmp 62) (.const (.int .i64 67108864)))))
                 (.one ((some 64), (none, (.pick (.tmp 60) (.tmp 63) (.const (.bool false)))))
                 (.one ((some 4), (none, (.mv (.tmp 64))))
                 .done)))))))))))))))
              (.one ((some 57), ((some (53, true)), (.ld false (.tmp 56))))
               (.one ((some 55), ((some (53, true)), (.ld false (.tmp 54))))
               (.one ((some 58), ((some (53, true)), (.bi .leq (.tmp 55) (.tmp 57))))
               (.one ((some 59), (none, (.pick (.tmp 53) (.tmp 58) (.const (.bool false)))))
               (.one ((some 60), (none, (.mv (.tmp 59))))
               (.one ((some 61), ((some (60, true)), (.fa 3 (.tmp 1))))
               (.alt (.one ((some 62), ((some (60, true)), (.ld false (.tmp 61))))
                (.one ((some 63), ((some (60, true)), (.bi .leq (.tmp 62) (.const (.int .i64 67108864)))))
                (.one ((some 64), (none, (.pick (.tmp 60) (.tmp 63) (.const (.bool false)))))
                (.one (none, (none, (.st 1 (.tmp 65) (.tmp 47))))
                (.one ((some 66), (none, (.fa 3 (.tmp 3))))
                (.one (none, (none, (.st 1 (.tmp 66) (.tmp 49))))
                (.one ((some 4), (none, (.mv (.tmp 64))))
                .done)))))))
               (.one (none, (none, (.st 1 (.tmp 65) (.tmp 47))))
                (.one ((some 66), (none, (.fa 3 (.tmp 3))))
                (.alt (.one ((some 62), ((some (60, true)), (.ld false (.tmp 61))))
                 (.one ((some 63), ((some (60, true)), (.bi .leq (.tmp 62) (.const (.int .i64 67108864)))))
                 (.one ((some 64), (none, (.pick (.tmp 60) (.tmp 63) (.const (.bool false)))))
                 (.one (none, (none, (.st 1 (.tmp 66) (.tmp 49))))
                 (.one ((some 4), (none, (.mv (.tmp 64))))
                 .done)))))
                (.one (none, (none, (.st 1 (.tmp 66) (.tmp 49))))
                 (.one ((some 62), ((some (60, true)), (.ld false (.tmp 61))))
                 (.one ((some 63), ((some (60, true)), (.bi .leq (.tmp 62) (.const (.int .i64 67108864)))))
                 (.one ((some 64), (none, (.pick (.tmp 60) (.tmp 63) (.const (.bool false)))))
                 (.one ((some 4), (none, (.mv (.tmp 64))))
                 .done))))))))))))))))))))))
             (.one ((some 51), (none, (.ld false (.tmp 50))))
              (.one ((some 52), (none, (.bi .geq (.tmp 51) (.const (.int .i64 0)))))
              (.one ((some 53), (none, (.mv (.tmp 52))))
              (.one ((some 54), ((some (53, true)), (.fa 2 (.tmp 1))))
              (.one ((some 56), ((some (53, true)), (.fa 3 (.tmp 1))))
              (.alt (.one ((some 49), (none, (.ld false (.tmp 48))))
               (.alt (.one ((some 55), ((some (53, true)), (.ld false (.tmp 54))))
                (.one ((some 57), ((some (53, true)), (.ld false (.tmp 56))))
                (.one ((some 58), ((some (53, true)), (.bi .leq (.tmp 55) (.tmp 57))))
                (.one ((some 59), (none, (.pick (.tmp 53) (.tmp 58) (.const (.bool false)))))
                (.one ((some 60), (none, (.mv (.tmp 59))))
                (.one ((some 61), ((some (60, true)), (.fa 3 (.tmp 1))))
                (.alt (.one ((some 62), ((some (60, true)), (.ld false (.tmp 61))))
                 (.one ((some 63), ((some (60, true)), (.bi .leq (.tmp 62) (.const (.int .i64 67108864)))))
                 (.one ((some 64), (none, (.pick (.tmp 60) (.tmp 63) (.const (.bool false)))))
                 (.one (none, (none, (.st 1 (.tmp 65) (.tmp 47))))
                 (.one ((some 66), (none, (.fa 3 (.tmp 3))))
                 (.one (none, (none, (.st 1 (.tmp 66) (.tmp 49))))
                 (.one ((some 4), (none, (.mv (.tmp 64))))
                 .done)))))))
                (.one (none, (none, (.st 1 (.tmp 65) (.tmp 47))))
                 (.one ((some 66), (none, (.fa 3 (.tmp 3))))
                 (.alt (.one ((some 62), ((some (60, true)), (.ld false (.tmp 61))))
                  (.one ((some 63), ((some (60, true)), (.bi .leq (.tmp 62) (.const (.int .i64 67108864)))))
                  (.one ((some 64), (none, (.pick (.tmp 60) (.tmp 63) (.const (.bool false)))))
                  (.one (none, (none, (.st 1 (.tmp 66) (.tmp 49))))
                  (.one ((some 4), (none, (.mv (.tmp 64))))
                  .done)))))
                 (.one (none, (none, (.st 1 (.tmp 66) (.tmp 49))))
                  (.one ((some 62), ((some (60, true)), (.ld false (.tmp 61))))
                  (.one ((some 63), ((some (60, true)), (.bi .leq (.tmp 62) (.const (.int .i64 67108864)))))
                  (.one ((some 64), (none, (.pick (.tmp 60) (.tmp 63) (.const (.bool false)))))
                  (.one ((some 4), (none, (.mv (.tmp 64))))
                  .done)))))))))))))))
               (.one ((some 57), ((some (53, true)), (.ld false (.tmp 56))))
                (.one ((some 55), ((some (53, true)), (.ld false (.tmp 54))))
                (.one ((some 58), ((some (53, true)), (.bi .leq (.tmp 55) (.tmp 57))))
                (.one ((some 59), (none, (.pick (.tmp 53) (.tmp 58) (.const (.bool false)))))
                (.one ((some 60), (none, (.mv (.tmp 59))))
                (.one ((some 61), ((some (60, true)), (.fa 3 (.tmp 1))))
                (.alt (.one ((some 62), ((some (60, true)), (.ld false (.tmp 61))))
                 (.one ((some 63), ((some (60, true)), (.bi .leq (.tmp 62) (.const (.int .i64 67108864)))))
                 (.one ((some 64), (none, (.pick (.tmp 60) (.tmp 63) (.const (.bool false)))))
                 (.one (none, (none, (.st 1 (.tmp 65) (.tmp 47))))
                 (.one ((some 66), (none, (.fa 3 (.tmp 3))))
                 (.one (none, (none, (.st 1 (.tmp 66) (.tmp 49))))
                 (.one ((some 4), (none, (.mv (.tmp 64))))
                 .done)))))))
                (.one (none, (none, (.st 1 (.tmp 65) (.tmp 47))))
                 (.one ((some 66), (none, (.fa 3 (.tmp 3))))
                 (.alt (.one ((some 62), ((some (60, true)), (.ld false (.tmp 61))))
                  (.one ((some 63), ((some (60, true)), (.bi .leq (.tmp 62) (.const (.int .i64 67108864)))))
                  (.one ((some 64), (none, (.pick (.tmp 60) (.tmp 63) (.const (.bool false)))))
                  (.one (none, (none, (.st 1 (.tmp 66) (.tmp 49))))
                  (.one ((some 4), (none, (.mv (.tmp 64))))
                  .done)))))
                 (.one (none, (none, (.st 1 (.tmp 66) (.tmp 49))))
                  (.one ((some 62), ((some (60, true)), (.ld false (.tmp 61))))
                  (.one ((some 63), ((some (60, true)), (.bi .leq (.tmp 62) (.const (.int .i64 67108864)))))
                  (.one ((some 64), (none, (.pick (.tmp 60) (.tmp 63) (.const (.bool false)))))
                  (.one ((some 4), (none, (.mv (.tmp 64))))
                  .done)))))))))))))))))
              (.alt (.one ((some 55), ((some (53, true)), (.ld false (.tmp 54))))
                (.alt (.one ((some 49), (none, (.ld false (.tmp 48))))
                 (.one ((some 57), ((some (53, true)), (.ld false (.tmp 56))))
                 (.one ((some 58), ((some (53, true)), (.bi .leq (.tmp 55) (.tmp 57))))
                 (.one ((some 59), (none, (.pick (.tmp 53) (.tmp 58) (.const (.bool false)))))
                 (.one ((some 60), (none, (.mv (.tmp 59))))
                 (.one ((some 61), ((some (60, true)), (.fa 3 (.tmp 1))))
                 (.alt (.one ((some 62), ((some (60, true)), (.ld false (.tmp 61))))
                  (.one ((some 63), ((some (60, true)), (.bi .leq (.tmp 62) (.const (.int .i64 67108864)))))
                  (.one ((some 64), (none, (.pick (.tmp 60) (.tmp 63) (.const (.bool false)))))
                  (.one (none, (none, (.st 1 (.tmp 65) (.tmp 47))))
                  (.one ((some 66), (none, (.fa 3 (.tmp 3))))
                  (.one (none, (none, (.st 1 (.tmp 66) (.tmp 49))))
                  (.one ((some 4), (none, (.mv (.tmp 64))))
                  .done)))))))
                 (.one (none, (none, (.st 1 (.tmp 65) (.tmp 47))))
                  (.one ((some 66), (none, (.fa 3 (.tmp 3))))
                  (.alt (.one ((some 62), ((some (60, true)), (.ld false (.tmp 61))))
                   (.one ((some 63), ((some (60, true)), (.bi .leq (.tmp 62) (.const (.int .i64 67108864)))))
                   (.one ((some 64), (none, (.pick (.tmp 60) (.tmp 63) (.const (.bool false)))))
                   (.one (none, (none, (.st 1 (.tmp 66) (.tmp 49))))
                   (.one ((some 4), (none, (.mv (.tmp 64))))
                   .done)))))
                  (.one (none, (none, (.st 1 (.tmp 66) (.tmp 49))))
                   (.one ((some 62), ((some (60, true)), (.ld false (.tmp 61))))
                   (.one ((some 63), ((some (60, true)), (.bi .leq (.tmp 62) (.const (.int .i64 67108864)))))
                   (.one ((some 64), (none, (.pick (.tmp 60) (.tmp 63) (.const (.bool false)))))
                   (.one ((some 4), (none, (.mv (.tmp 64))))
                   .done)))))))))))))))
                (.one ((some 57), ((some (53, true)), (.ld false (.tmp 56))))
                 (.one ((some 58), ((some (53, true)), (.bi .leq (.tmp 55) (.tmp 57))))
                 (.one ((some 59), (none, (.pick (.tmp 53) (.tmp 58) (.const (.bool false)))))
                 (.one ((some 60), (none, (.mv (.tmp 59))))
                 (.one ((some 61), ((some (60, true)), (.fa 3 (.tmp 1))))
                 (.alt (.one ((some 49), (none, (.ld false (.tmp 48))))
                  (.alt (.one ((some 62), ((some (60, true)), (.ld false (.tmp 61))))
                   (.one ((some 63), ((some (60, true)), (.bi .leq (.tmp 62) (.const (.int .i64 67108864)))))
                   (.one ((some 64), (none, (.pick (.tmp 60) (.tmp 63) (.const (.bool false)))))
                   (.one (none, (none, (.st 1 (.tmp 65) (.tmp 47))))
                   (.one ((some 66), (none, (.fa 3 (.tmp 3))))
                   (.one (none, (none, (.st 1 (.tmp 66) (.tmp 49))))
                   (.one ((some 4), (none, (.mv (.tmp 64))))
                   .done)))))))
                  (.one (none, (none, (.st 1 (.tmp 65) (.tmp 47))))
                   (.one ((some 66), (none, (.fa 3 (.tmp 3))))
                   (.alt (.one ((some 62), ((some (60, true)), (.ld false (.tmp 61))))
                    (.one ((some 63), ((some (60, true)), (.bi .leq (.tmp 62) (.const (.int .i64 67108864)))))
                    (.one ((some 64), (none, (.pick (.tmp 60) (.tmp 63) (.const (.bool false)))))
                    (.one (none, (none, (.st 1 (.tmp 66) (.tmp 49))))
                    (.one ((some 4), (none, (.mv (.tmp 64))))
                    .done)))))
                   (.one (none, (none, (.st 1 (.tmp 66) (.tmp 49))))
                    (.one ((some 62), ((some (60, true)), (.ld false (.tmp 61))))
                    (.one ((some 63), ((some (60, true)), (.bi .leq (.tmp 62) (.const (.int .i64 67108864)))))
                    (.one ((some 64), (none, (.pick (.tmp 60) (.tmp 63) (.const (.bool false)))))
                    (.one ((some 4), (none, (.mv (.tmp 64))))
                    .done))))))))))
                 (.alt (.one ((some 62), ((some (60, true)), (.ld false (.tmp 61))))
                   (.one ((some 63), ((some (60, true)), (.bi .leq (.tmp 62) (.const (.int .i64 67108864)))))
                   (.one ((some 64), (none, (.pick (.tmp 60) (.tmp 63) (.const (.bool false)))))
                   (.alt (.one ((some 49), (none, (.ld false (.tmp 48))))
                    (.one (none, (none, (.st 1 (.tmp 65) (.tmp 47))))
                    (.one ((some 66), (none, (.fa 3 (.tmp 3))))
                    (.one (none, (none, (.st 1 (.tmp 66) (.tmp 49))))
                    (.one ((some 4), (none, (.mv (.tmp 64))))
                    .done)))))
                   (.one (none, (none, (.st 1 (.tmp 65) (.tmp 47))))
                    (.one ((some 49), (none, (.ld false (.tmp 48))))
                    (.one ((some 66), (none, (.fa 3 (.tmp 3))))
                    (.one (none, (none, (.st 1 (.tmp 66) (.tmp 49))))
                    (.one ((some 4), (none, (.mv (.tmp 64))))
                    .done)))))))))
                  (.one (none, (none, (.st 1 (.tmp 65) (.tmp 47))))
                   (.one ((some 49), (none, (.ld false (.tmp 48))))
                   (.one ((some 66), (none, (.fa 3 (.tmp 3))))
                   (.alt (.one ((some 62), ((some (60, true)), (.ld false (.tmp 61))))
                    (.one ((some 63), ((some (60, true)), (.bi .leq (.tmp 62) (.const (.int .i64 67108864)))))
                    (.one ((some 64), (none, (.pick (.tmp 60) (.tmp 63) (.const (.bool false)))))
                    (.one (none, (none, (.st 1 (.tmp 66) (.tmp 49))))
                    (.one ((some 4), (none, (.mv (.tmp 64))))
                    .done)))))
                   (.one (none, (none, (.st 1 (.tmp 66) (.tmp 49))))
                    (.one ((some 62), ((some (60, true)), (.ld false (.tmp 61))))
                    (.one ((some 63), ((some (60, true)), (.bi .leq (.tmp 62) (.const (.int .i64 67108864)))))
                    (.one ((some 64), (none, (.pick (.tmp 60) (.tmp 63) (.const (.bool false)))))
                    (.one ((some 4), (none, (.mv (.tmp 64))))
                    .done))))))))))))))))))
               (.one ((some 57), ((some (53, true)), (.ld false (.tmp 56))))
                (.alt (.one ((some 49), (none, (.ld false (.tmp 48))))
                 (.one ((some 55), ((some (53, true)), (.ld false (.tmp 54))))
                 (.one ((some 58), ((some (53, true)), (.bi .leq (.tmp 55) (.tmp 57))))
                 (.one ((some 59), (none, (.pick (.tmp 53) (.tmp 58) (.const (.bool false)))))
                 (.one ((some 60), (none, (.mv (.tmp 59))))
                 (.one ((some 61), ((some (60, true)), (.fa 3 (.tmp 1))))
                 (.alt (.one ((some 62), ((some (60, true)), (.ld false (.tmp 61))))
                  (.one ((some 63), ((some (60, true)), (.bi .leq (.tmp 62) (.const (.int .i64 67108864)))))
                  (.one ((some 64), (none, (.pick (.tmp 60) (.tmp 63) (.const (.bool false)))))
                  (.one (none, (none, (.st 1 (.tmp 65) (.tmp 47))))
                  (.one ((some 66), (none, (.fa 3 (.tmp 3))))
                  (.one (none, (none, (.st 1 (.tmp 66) (.tmp 49))))
                  (.one ((some 4), (none, (.mv (.tmp 64))))
                  .done)))))))
                 (.one (none, (none, (.st 1 (.tmp 65) (.tmp 47))))
                  (.one ((some 66), (none, (.fa 3 (.tmp 3))))
                  (.alt (.one ((some 62), ((some (60, true)), (.ld false (.tmp 61))))
                   (.one ((some 63), ((some (60, true)), (.bi .leq (.tmp 62) (.const (.int .i64 67108864)))))
                   (.one ((some 64), (none, (.pick (.tmp 60) (.tmp 63) (.const (.bool false)))))
                   (.one (none, (none, (.st 1 (.tmp 66) (.tmp 49))))
                   (.one ((some 4), (none, (.mv (.tmp 64))))
                   .done)))))
                  (.one (none, (none, (.st 1 (.tmp 66) (.tmp 49))))
                   (.one ((some 62), ((some (60, true)), (.ld false (.tmp 61))))
                   (.one ((some 63), ((some (60, true)), (.bi .leq (.tmp 62) (.const (.int .i64 67108864)))))
                   (.one ((some 64), (none, (.pick (.tmp 60) (.tmp 63) (.const (.bool false)))))
                   (.one ((some 4), (none, (.mv (.tmp 64))))
                   .done)))))))))))))))
                (.one ((some 55), ((some (53, true)), (.ld false (.tmp 54))))
                 (.one ((some 58), ((some (53, true)), (.bi .leq (.tmp 55) (.tmp 57))))
                 (.one ((some 59), (none, (.pick (.tmp 53) (.tmp 58) (.const (.bool false)))))
                 (.one ((some 60), (none, (.mv (.tmp 59))))
                 (.one ((some 61), ((some (60, true)), (.fa 3 (.tmp 1))))
                 (.alt (.one ((some 49), (none, (.ld false (.tmp 48))))
                  (.alt (.one ((some 62), ((some (60, true)), (.ld false (.tmp 61))))
                   (.one ((some 63), ((some (60, true)), (.bi .leq (.tmp 62) (.const (.int .i64 67108864)))))
                   (.one ((some 64), (none, (.pick (.tmp 60) (.tmp 63) (.const (.bool false)))))
                   (.one (none, (none, (.st 1 (.tmp 65) (.tmp 47))))
                   (.one ((some 66), (none, (.fa 3 (.tmp 3))))
                   (.one (none, (none, (.st 1 (.tmp 66) (.tmp 49))))
                   (.one ((some 4), (none, (.mv (.tmp 64))))
                   .done)))))))
                  (.one (none, (none, (.st 1 (.tmp 65) (.tmp 47))))
                   (.one ((some 66), (none, (.fa 3 (.tmp 3))))
                   (.alt (.one ((some 62), ((some (60, true)), (.ld false (.tmp 61))))
                    (.one ((some 63), ((some (60, true)), (.bi .leq (.tmp 62) (.const (.int .i64 67108864)))))
                    (.one ((some 64), (none, (.pick (.tmp 60) (.tmp 63) (.const (.bool false)))))
                    (.one (none, (none, (.st 1 (.tmp 66) (.tmp 49))))
                    (.one ((some 4), (none, (.mv (.tmp 64))))
                    .done)))))
                   (.one (none, (none, (.st 1 (.tmp 66) (.tmp 49))))
                    (.one ((some 62), ((some (60, true)), (.ld false (.tmp 61))))
                    (.one ((some 63), ((some (60, true)), (.bi .leq (.tmp 62) (.const (.int .i64 67108864)))))
                    (.one ((some 64), (none, (.pick (.tmp 60) (.tmp 63) (.const (.bool false)))))
                    (.one ((some 4), (none, (.mv (.tmp 64))))
                    .done))))))))))
                 (.alt (.one ((some 62), ((some (60, true)), (.ld false (.tmp 61))))
                   (.one ((some 63), ((some (60, true)), (.bi .leq (.tmp 62) (.const (.int .i64 67108864)))))
                   (.one ((some 64), (none, (.pick (.tmp 60) (.tmp 63) (.const (.bool false)))))
                   (.alt (.one ((some 49), (none, (.ld false (.tmp 48))))
                    (.one (none, (none, (.st 1 (.tmp 65) (.tmp 47))))
                    (.one ((some 66), (none, (.fa 3 (.tmp 3))))
                    (.one (none, (none, (.st 1 (.tmp 66) (.tmp 49))))
                    (.one ((some 4), (none, (.mv (.tmp 64))))
                    .done)))))
                   (.one (none, (none, (.st 1 (.tmp 65) (.tmp 47))))
                    (.one ((some 49), (none, (.ld false (.tmp 48))))
                    (.one ((some 66), (none, (.fa 3 (.tmp 3))))
                    (.one (none, (none, (.st 1 (.tmp 66) (.tmp 49))))
                    (.one ((some 4), (none, (.mv (.tmp 64))))
                    .done)))))))))
                  (.one (none, (none, (.st 1 (.tmp 65) (.tmp 47))))
                   (.one ((some 49), (none, (.ld false (.tmp 48))))
                   (.one ((some 66), (none, (.fa 3 (.tmp 3))))
                   (.alt (.one ((some 62), ((some (60, true)), (.ld false (.tmp 61))))
                    (.one ((some 63), ((some (60, true)), (.bi .leq (.tmp 62) (.const (.int .i64 67108864)))))
                    (.one ((some 64), (none, (.pick (.tmp 60) (.tmp 63) (.const (.bool false)))))
                    (.one (none, (none, (.st 1 (.tmp 66) (.tmp 49))))
                    (.one ((some 4), (none, (.mv (.tmp 64))))
                    .done)))))
                   (.one (none, (none, (.st 1 (.tmp 66) (.tmp 49))))
                    (.one ((some 62), ((some (60, true)), (.ld false (.tmp 61))))
                    (.one ((some 63), ((some (60, true)), (.bi .leq (.tmp 62) (.const (.int .i64 67108864)))))
                    (.one ((some 64), (none, (.pick (.tmp 60) (.tmp 63) (.const (.bool false)))))
                    (.one ((some 4), (none, (.mv (.tmp 64))))
                    .done))))))))))))))))))))))))))))))))
           (.seq (.reg [((some 68), (none, (.bi .eql (.tmp 9) (.const (.int .i64 5))))),
             ((some 67), (none, (.mv (.tmp 68))))])
           (.cond (.tmp 67)
             (.ord (.one ((some 69), (none, (.fa 2 (.tmp 1))))
               (.one ((some 70), (none, (.ld false (.tmp 69))))
               (.one ((some 71), (none, (.fa 3 (.tmp 1))))
               (.one ((some 73), (none, (.fa 2 (.tmp 1))))
               (.one ((some 91), (none, (.fa 2 (.tmp 3))))
               (.alt (.one ((some 72), (none, (.ld false (.tmp 71))))
                (.one ((some 74), (none, (.ld false (.tmp 73))))
                (.one ((some 75), (none, (.bi .geq (.tmp 74) (.const (.int .i64 0)))))
                (.one ((some 76), (none, (.mv (.tmp 75))))
                (.one ((some 77), ((some (76, true)), (.fa 2 (.tmp 1))))
                (.one ((some 78), ((some (76, true)), (.ld false (.tmp 77))))
                (.one ((some 79), ((some (76, true)), (.bi .lss (.tmp 78) (.const (.int .i64 1440)))))
                (.one ((some 80), (none, (.pick (.tmp 76) (.tmp 79) (.const (.bool false)))))
                (.one ((some 81), (none, (.mv (.tmp 80))))
                (.one ((some 82), ((some (81, true)), (.fa 3 (.tmp 1))))
                (.one ((some 83), ((some (81, true)), (.ld false (.tmp 82))))
                (.one ((some 84), ((some (81, true)), (.bi .geq (.tmp 83) (.const (.int .i64 0)))))
                (.one ((some 85), (none, (.pick (.tmp 81) (.tmp 84) (.const (.bool false)))))
                (.one ((some 86), (none, (.mv (.tmp 85))))
                (.one ((some 87), ((some (86, true)), (.fa 3 (.tmp 1))))
                (.alt (.one ((some 88), ((some (86, true)), (.ld false (.tmp 87))))
                 (.one ((some 89), ((some (86, true)), (.bi .lss (.tmp 88) (.const (.int .i64 1440)))))
                 (.one ((some 90), (none, (.pick (.tmp 86) (.tmp 89) (.const (.bool false)))))
                 (.one (none, (none, (.st 1 (.tmp 91) (.tmp 70))))
                 (.one ((some 92), (none, (.fa 3 (.tmp 3))))
                 (.one (none, (none, (.st 1 (.tmp 92) (.tmp 72))))
                 (.one ((some 4), (none, (.mv (.tmp 90))))
                 .done)))))))
                (.one (none, (none, (.st 1 (.tmp 91) (.tmp 70))))
                 (.one ((some 92), (none, (.fa 3 (.tmp 3))))
                 (.alt (.one ((some 88), ((some (86, true)), (.ld false (.tmp 87))))
                  (.one ((some 89), ((some (86, true)), (.bi .lss (.tmp 88) (.const (.int .i64 1440)))))
                  (.one ((some 90), (none, (.pick (.tmp 86) (.tmp 89) (.const (.bool false)))))
                  (.one (none, (none, (.st 1 (.tmp 92) (.tmp 72))))
                  (.one ((some 4), (none, (.mv (.tmp 90))))
                  .done)))))
                 (.one (none, (none, (.st 1 (.tmp 92) (.tmp 72))))
                  (.one ((some 88), ((some (86, true)), (.ld false (.tmp 87))))
                  (.one ((some 89), ((some (86, true)), (.bi .lss (.tmp 88) (.const (.int .i64 1440)))))
                  (.one ((some 90), (none, (.pick (.tmp 86) (.tmp 89) (.const (.bool false)))))
                  (.one ((some 4), (none, (.mv (.tmp 90))))
                  .done))))))))))))))))))))))))
               (.one ((some 74), (none, (.ld false (.tmp 73))))
                (.one ((some 75), (none, (.bi .geq (.tmp 74) (.const (.int .i64 0)))))
                (.one ((some 76), (none, (.mv (.tmp 75))))
                (.one ((some 77), ((some (76, true)), (.fa 2 (.tmp 1))))
                (.alt (.one ((some 72), (none, (.ld false (.tmp 71))))
                 (.one ((some 78), ((some (76, true)), (.ld false (.tmp 77))))
                 (.one ((some 79), ((some (76, true)), (.bi .lss (.tmp 78) (.const (.int .i64 1440)))))
                 (.one ((some 80), (none, (.pick (.tmp 76) (.tmp 79) (.const (.bool false)))))
                 (.one ((some 81), (none, (.mv (.tmp 80))))
                 (.one ((some 82), ((some (81, true)), (.fa 3 (.tmp 1))))
                 (.one ((some 83), ((some (81, true)), (.ld false (.tmp 82))))
                 (.one ((some 84), ((some (81, true)), (.bi .geq (.tmp 83) (.const (.int .i64 0)))))
                 (.one ((some 85), (none, (.pick (.tmp 81) (.tmp 84) (.const (.bool false)))))
                 (.one ((some 86), (none, (.mv (.tmp 85))))
                 (.one ((some 87), ((some (86, true)), (.fa 3 (.tmp 1))))
                 (.alt (.one ((some 88), ((some (86, true)), (.ld false (.tmp 87))))
                  (.one ((some 89), ((some (86, true)), (.bi .lss (.tmp 88) (.const (.int .i64 1440)))))
                  (.one ((some 90), (none, (.pick (.tmp 86) (.tmp 89) (.const (.bool false)))))
                  (.one (none, (none, (.st 1 (.tmp 91) (.tmp 70))))
                  (.one ((some 92), (none, (.fa 3 (.tmp 3))))
                  (.one (none, (none, (.st 1 (.tmp 92) (.tmp 72))))
                  (.one ((some 4), (none, (.mv (.tmp 90))))
                  .done)))))))
                 (.one (none, (none, (.st 1 (.tmp 91) (.tmp 70))))
                  (.one ((some 92), (none, (.fa 3 (.tmp 3))))
                  (.alt (.one ((some 88), ((some (86, true)), (.ld false (.tmp 87))))
                   (.one ((some 89), ((some (86, true)), (.bi .lss (.tmp 88) (.const (.int .i64 1440)))))
                   (.one ((some 90), (none, (.pick (.tmp 86) (.tmp 89) (.const (.bool false)))))
                   (.one (none, (none, (.st 1 (.tmp 92) (.tmp 72))))
                   (.one ((some 4), (none, (.mv (.tmp 90))))
                   .done)))))
                  (.one (none, (none, (.st 1 (.tmp 92) (.tmp 72))))
                   (.one ((some 88), ((some (86, true)), (.ld false (.tmp 87))))
                   (.one ((some 89), ((some (86, true)), (.bi .lss (.tmp 88) (.const (.int .i64 1440)))))
                   (.one ((some 90), (none, (.pick (.tmp 86) (.tmp 89) (.const (.bool false)))))
                   (.one ((some 4), (none, (.mv (.tmp 90))))
                   .done))))))))))))))))))))
                (.one ((some 78), ((some (76, true)), (.ld false (.tmp 77))))
                 (.one ((some 79), ((some (76, true)), (.bi .lss (.tmp 78) (.const (.int .i64 1440)))))
                 (.one ((some 80), (none, (.pick (.tmp 76) (.tmp 79) (.const (.bool false)))))
                 (.one ((some 81), (none, (.mv (.tmp 80))))
                 (.one ((some 82), ((some (81, true)), (.fa 3 (.tmp 1))))
                 (.alt (.one ((some 72), (none, (.ld false (.tmp 71))))
                  (.one ((some 83), ((some (81, true)), (.ld false (.tmp 82))))
                  (.one ((some 84), ((some (81, true)), (.bi .geq (.tmp 83) (.const (.int .i64 0)))))
                  (.one ((some 85), (none, (.pick (.tmp 81) (.tmp 84) (.const (.bool false)))))
                  (.one ((some 86), (none, (.mv (.tmp 85))))
                  (.one ((some 87), ((some (86, true)), (.fa 3 (.tmp 1))))
                  (.alt (.one ((some 88), ((some (86, true)), (.ld false (.tmp 87))))
                   (.one ((some 89), ((some (86, true)), (.bi .lss (.tmp 88) (.const (.int .i64 1440)))))
                   (.one ((some 90), (none, (.pick (.tmp 86) (.tmp 89) (.const (.bool false)))))
                   (.one (none, (none, (.st 1 (.tmp 91) (.tmp 70))))
                   (.one ((some 92), (none, (.fa 3 (.tmp 3))))
                   (.one (none, (none, (.st 1 (.tmp 92) (.tmp 72))))
                   (.one ((some 4), (none, (.mv (.tmp 90))))
                   .done)))))))
                  (.one (none, (none, (.st 1 (.tmp 91) (.tmp 70))))
                   (.one ((some 92), (none, (.fa 3 (.tmp 3))))
                   (.alt (.one ((some 88), ((some (86, true)), (.ld false (.tmp 87))))
                    (.one ((some 89), ((some (86, true)), (.bi .lss (.tmp 88) (.const (.int .i64 1440)))))
                    (.one ((some 90), (none, (.pick (.tmp 86) (.tmp 89) (.const (.bool false)))))
                    (.one (none, (none, (.st 1 (.tmp 92) (.tmp 72))))
                    (.one ((some 4), (none, (.mv (.tmp 90))))
                    .done)))))
                   (.one (none, (none, (.st 1 (.tmp 92) (.tmp 72))))
                    (.one ((some 88), ((some (86, true)), (.ld false (.tmp 87))))
                    (.one ((some 89), ((some (86, true)), (.bi .lss (.tmp 88) (.const (.int .i64 1440)))))
                    (.one ((some 90), (none, (.pick (.tmp 86) (.tmp 89) (.const (.bool false)))))
                    (.one ((some 4), (none, (.mv (.tmp 90))))
                    .done)))))))))))))))
                 (.one ((some 83), ((some (81, true)), (.ld false (.tmp 82))))
                  (.one ((some 84), ((some (81, true)), (.bi .geq (.tmp 83) (.const (.int .i64 0)))))
                  (.one ((some 85), (none, (.pick (.tmp 81) (.tmp 84) (.const (.bool false)))))
                  (.one ((some 86), (none, (.mv (.tmp 85))))
                  (.one ((some 87), ((some (86, true)), (.fa 3 (.tmp 1))))
                  (.alt (.one ((some 72), (none, (.ld false (.tmp 71))))
                   (.alt (.one ((some 88), ((some (86, true)), (.ld false (.tmp 87))))
                    (.one ((some 89), ((some (86, true)), (.bi .lss (.tmp 88) (.const (.int .i64 1440)))))
                    (.one ((some 90), (none, (.pick (.tmp 86) (.tmp 89) (.const (.bool false)))))
                    (.one (none, (none, (.st 1 (.tmp 91) (.tmp 70))))
                    (.one ((some 92), (none, (.fa 3 (.tmp 3))))
                    (.one (none, (none, (.st 1 (.tmp 92) (.tmp 72))))
                    (.one ((some 4), (none, (.mv (.tmp 90))))
                    .done)))))))
                   (.one (none, (none, (.st 1 (.tmp 91) (.tmp 70))))
                    (.one ((some 92), (none, (.fa 3 (.tmp 3))))
                    (.alt (.one ((some 88), ((some (86, true)), (.ld false (.tmp 87))))
                     (.one ((some 89), ((some (86, true)), (.bi .lss (.tmp 88) (.const (.int .i64 1440)))))
                     (.one ((some 90), (none, (.pick (.tmp 86) (.tmp 89) (.const (.bool false)))))
                     (.one (none, (none, (.st 1 (.tmp 92) (.tmp 72))))
                     (.one ((some 4), (none, (.mv (.tmp 90))))
                     .done)))))
                    (.one (none, (none, (.st 1 (.tmp 92) (.tmp 72))))
                     (.one ((some 88), ((some (86, true)), (.ld false (.tmp 87))))
                     (.one ((some 89), ((some (86, true)), (.bi .lss (.tmp 88) (.const (.int .i64 1440)))))
                     (.one ((some 90), (none, (.pick (.tmp 86) (.tmp 89) (.const (.bool false)))))
                     (.one ((some 4), (none, (.mv (.tmp 90))))
                     .done))))))))))
                  (.alt (.one ((some 88), ((some (86, true)), (.ld false (.tmp 87))))
                    (.one ((some 89), ((some (86, true)), (.bi .lss (.tmp 88) (.const (.int .i64 1440)))))
                    (.one ((some 90), (none, (.pick (.tmp 86) (.tmp 89) (.const (.bool false)))))
                    (.alt (.one ((some 72), (none, (.ld false (.tmp 71))))
                     (.one (none, (none, (.st 1 (.tmp 91) (.tmp 70))))
                     (.one ((some 92), (none, (.fa 3 (.tmp 3))))
                     (.one (none, (none, (.st 1 (.tmp 92) (.tmp 72))))
                     (.one ((some 4), (none, (.mv (.tmp 90))))
                     .done)))))
                    (.one (none, (none, (.st 1 (.tmp 91) (.tmp 70))))
                     (.one ((some 72), (none, (.ld false (.tmp 71))))
                     (.one ((some 92), (none, (.fa 3 (.tmp 3))))
                     (.one (none, (none, (.st 1 (.tmp 92) (.tmp 72))))
                     (.one ((some 4), (none, (.mv (.tmp 90))))
                     .done)))))))))
                   (.one (none, (none, (.st 1 (.tmp 91) (.tmp 70))))
                    (.one ((some 72), (none, (.ld false (.tmp 71))))
                    (.one ((some 92), (none, (.fa 3 (.tmp 3))))
                    (.alt (.one ((some 88), ((some (86, true)), (.ld false (.tmp 87))))
                     (.one ((some 89), ((some (86, true)), (.bi .lss (.tmp 88) (.const (.int .i64 1440)))))
                     (.one ((some 90), (none, (.pick (.tmp 86) (.tmp 89) (.const (.bool false)))))
                     (.one (none, (none, (.st 1 (.tmp 92) (.tmp 72))))
                     (.one ((some 4), (none, (.mv (.tmp 90))))
                     .done)))))
                    (.one (none, (none, (.st 1 (.tmp 92) (.tmp 72))))
                     (.one ((some 88), ((some (86, true)), (.ld false (.tmp 87))))
                     (.one ((some 89), ((some (86, true)), (.bi .lss (.tmp 88) (.const (.int .i64 1440)))))
                     (.one ((some 90), (none, (.pick (.tmp 86) (.tmp 89) (.const (.bool false)))))
                     (.one ((some 4), (none, (.mv (.tmp 90))))
                     .done))))))))))))))))))))))))))))))))))
             (.seq (.reg [((some 94), (none, (.bi .eql (.tmp 9) (.const (.int .i64 6))))),
               ((some 93), (none, (.mv (.tmp 94))))])
             (.cond (.tmp 93)
               (.ord (.one ((some 95), (none, (.fa 4 (.tmp 1))))
                 (.one ((some 97), (none, (.fa 4 (.tmp 1))))
                 (.alt (.one ((some 96), (none, (.ld false (.tmp 95))))
                  (.one ((some 100), (none, (.fa 4 (.tmp 3))))
                  (.one ((some 98), (none, (.ld false (.tmp 97))))
                  (.one ((some 99), (none, (.call f_ref01_Name [(.tmp 98)])))
                  (.one (none, (none, (.st 1 (.tmp 100) (.tmp 96))))
                  (.one ((some 4), (none, (.mv (.tmp 99))))
                  .done))))))
                 (.one ((some 98), (none, (.ld false (.tmp 97))))
                  (.alt (.one ((some 96), (none, (.ld false (.tmp 95))))
                   (.one ((some 100), (none, (.fa 4 (.tmp 3))))
                   (.one ((some 99), (none, (.call f_ref01_Name [(.tmp 98)])))
                   (.one (none, (none, (.st 1 (.tmp 100) (.tmp 96))))
                   (.one ((some 4), (none, (.mv (.tmp 99))))
                   .done)))))
                  (.one ((some 99), (none, (.call f_ref01_Name [(.tmp 98)])))
                   (.one ((some 96), (none, (.ld false (.tmp 95))))
                   (.one ((some 100), (none, (.fa 4 (.tmp 3))))
                   (.one (none, (none, (.st 1 (.tmp 100) (.tmp 96))))
                   (.one ((some 4), (none, (.mv (.tmp 99))))
                   .done)))))))))))
               (.seq (.reg [((some 102), (none, (.bi .eql (.tmp 9) (.const (.int .i64 7))))),
                 ((some 101), (none, (.mv (.tmp 102))))])
               (.cond (.tmp 101)
                 (.ord (.one ((some 103), (none, (.fa 5 (.tmp 1))))
                   (.one ((some 104), (none, (.ld false (.tmp 103))))
                   (.one ((some 105), (none, (.fa 5 (.tmp 1))))
                   (.one ((some 113), (none, (.fa 5 (.tmp 3))))
                   (.one ((some 106), (none, (.ld false (.tmp 105))))
                   (.one ((some 107), (none, (.bi .geq (.tmp 106) (.const (.int .i64 0)))))
                   (.one ((some 108), (none, (.mv (.tmp 107))))
                   (.one ((some 109), ((some (108, true)), (.fa 5 (.tmp 1))))
                   (.alt (.one ((some 110), ((some (108, true)), (.ld false (.tmp 109))))
                    (.one ((some 111), ((some (108, true)), (.bi .leq (.tmp 110) (.const (.int .i64 1000000)))))
                    (.one ((some 112), (none, (.pick (.tmp 108) (.tmp 111) (.const (.bool false)))))
                    (.one (none, (none, (.st 1 (.tmp 113) (.tmp 104))))
                    (.one ((some 4), (none, (.mv (.tmp 112))))
                    .done)))))
                   (.one (none, (none, (.st 1 (.tmp 113) (.tmp 104))))
                    (.one ((some 110), ((some (108, true)), (.ld false (.tmp 109))))
                    (.one ((some 111), ((some (108, true)), (.bi .leq (.tmp 110) (.const (.int .i64 1000000)))))
                    (.one ((some 112), (none, (.pick (.tmp 108) (.tmp 111) (.const (.bool false)))))
                    (.one ((some 4), (none, (.mv (.tmp 112))))
                    .done)))))))))))))))
                 .skip))))))))))))))))
  (.seq (.reg [((some 114), (none, (.mv (.tmp 4)))),
    ((some 115), (none, (.mv (.tmp 114)))),
    ((some 116), ((some (115, true)), (.ldA 6 (.tmp 1)))),
    ((some 117), ((some (115, true)), (.ldA 6 (.tmp 3)))),
    ((some 118), ((some (115, true)), (.eqA false [(.int .i64), (.int .u64), (.int .i64), (.int .i64), .string, (.int .i64)] (.tmp 116) (.tmp 117)))),
    ((some 119), (none, (.pick (.tmp 115) (.tmp 118) (.const (.bool false))))),
    ((some 2), (none, (.mv (.tmp 119))))])
  .ret)))))
/-- macaroon/predicate.mask: 17 slots, results [(.t 4)] -/
def predicate_maskC : PC :=
  (.seq (.reg [((some 4), (none, (.mv (.const (.bool false)))))])
  (.seq (.reg [((some 5), (none, (.mv (.tmp 0)))),
    ((some 6), (none, (.bi .neq (.tmp 5) (.const (.int .u64 0))))),
    ((some 7), (none, (.mv (.tmp 6)))),
    ((some 8), ((some (7, true)), (.mv (.tmp 1)))),
    ((some 9), ((some (7, true)), (.bi .eql (.tmp 8) (.const (.int .i64 64))))),
    ((some 10), ((some (7, true)), (.mv (.tmp 9)))),
    ((some 11), ((some (10, false)), (.mv (.tmp 0)))),
    ((some 12), ((some (10, false)), (.mv (.tmp 1)))),
    ((some 13), ((some (10, false)), (.bi .shr (.tmp 11) (.tmp 12)))),
    ((some 14), ((some (10, false)), (.bi .eql (.tmp 13) (.const (.int .u64 0))))),
    ((some 15), ((some (7, true)), (.pick (.tmp 10) (.const (.bool true)) (.tmp 14)))),
    ((some 16), (none, (.pick (.tmp 7) (.tmp 15) (.const (.bool false))))),
    ((some 4), (none, (.mv (.tmp 16))))])
  .ret))
/-- macaroon/predicate.name: 28 slots, results [(.t 2)] -/
def predicate_nameC : PC :=
  (.seq (.reg [((some 2), (none, (.mv (.const (.bool false)))))])
  (.seq (.seq (.reg [((some 4), (none, (.mv (.tmp 0)))),
    ((some 5), (none, (.slen (.tmp 4)))),
    ((some 6), (none, (.bi .lss (.tmp 5) (.const (.int .i64 1))))),
    ((some 7), (none, (.mv (.tmp 6)))),
    ((some 8), ((some (7, false)), (.mv (.tmp 0)))),
    ((some 9), ((some (7, false)), (.slen (.tmp 8)))),
    ((some 10), ((some (7, false)), (.bi .gtr (.tmp 9) (.const (.int .i64 16))))),
    ((some 11), (none, (.pick (.tmp 7) (.const (.bool true)) (.tmp 10))))])
  (.cond (.tmp 11)
    (.seq (.reg [((some 2), (none, (.mv (.const (.bool false)))))])
    .ret)
    .skip))
  (.seq (.seq (.reg [((some 12), (none, (.mv (.tmp 0)))),
    ((some 13), (none, (.slen (.tmp 12)))),
    ((some 14), (none, (.mv (.const (.int .i64 0)))))])
  (.block 0 (.loop (.seq (.reg [((some 15), (none, (.bi .lss (.tmp 14) (.tmp 13))))])
    (.seq (.cond (.tmp 15)
      .skip
      (.exit 0))
    (.seq (.block 1 (.seq (.reg [((some 16), (none, (.mv (.tmp 14)))),
       ((some 3), (none, (.mv (.tmp 16))))])
     (.seq (.reg [((some 17), (none, (.mv (.tmp 0)))),
       ((some 18), (none, (.mv (.tmp 3)))),
       ((some 19), (none, (.six (.tmp 17) (.tmp 18)))),
       ((some 20), (none, (.bi .lss (.tmp 19) (.const (.int .u8 97))))),
       ((some 21), (none, (.mv (.tmp 20)))),
       ((some 22), ((some (21, false)), (.mv (.tmp 0)))),
       ((some 23), ((some (21, false)), (.mv (.tmp 3)))),
       ((some 24), ((some (21, false)), (.six (.tmp 22) (.tmp 23)))),
       ((some 25), ((some (21, false)), (.bi .gtr (.tmp 24) (.const (.int .u8 122))))),
       ((some 26), (none, (.pick (.tmp 21) (.const (.bool true)) (.tmp 25))))])
     (.cond (.tmp 26)
       (.seq (.reg [((some 2), (none, (.mv (.const (.bool false)))))])
       .ret)
       .skip))))
    (.reg [((some 27), (none, (.bi .add (.tmp 14) (.const (.int .i64 1))))),
      ((some 14), (none, (.mv (.tmp 27))))])))))))
  (.seq (.reg [((some 2), (none, (.mv (.const (.bool true)))))])
  .ret))))
end Go.PE
namespace Go.PE
open Go
/-- macaroon/macaroonlaw07.HoldsValid: 56 slots, results [(.t 8)] -/
def law07_HoldsValidC_j1 (f_holds_Valid : Nat) (f_ref06_ContextOk : Nat) (f_law07_awake : Nat) : PC :=
  (.seq (.drw [((some 37), (none, (.ldA 4 (.tmp 9)))),
    ((some 38), (none, (.call f_holds_Valid [(.tmp 37)]))),
    ((some 39), (none, (.mv (.tmp 38)))),
    ((some 40), ((some (39, true)), (.ldA 4 (.tmp 4)))),
    ((some 41), ((some (39, true)), (.call f_holds_Valid [(.tmp 40)]))),
    ((some 42), ((some (39, true)), (.ldA 4 (.tmp 4)))),
    ((some 43), ((some (39, true)), (.call f_ref06_ContextOk [(.tmp 42)]))),
    ((some 44), ((some (39, true)), (.bb false (.tmp 41) (.tmp 43)))),
    ((some 45), (none, (.pick (.tmp 39) (.tmp 44) (.const (.bool false))))),
    ((some 46), (none, (.mv (.tmp 45)))),
    ((some 47), ((some (46, true)), (.ldA 4 (.tmp 10)))),
    ((some 48), ((some (46, true)), (.call f_holds_Valid [(.tmp 47)]))),
    ((some 49), ((some (46, true)), (.ldA 4 (.tmp 10)))),
    ((some 50), ((some (46, true)), (.call f_ref06_ContextOk [(.tmp 49)]))),
    ((some 51), ((some (46, true)), (.bb false (.tmp 48) (.tmp 50)))),
    ((some 52), (none, (.pick (.tmp 46) (.tmp 51) (.const (.bool false))))),
    ((some 53), (none, (.mv (.tmp 52)))),
    ((some 54), ((some (53, true)), (.call f_law07_awake []))),
    ((some 55), (none, (.pick (.tmp 53) (.tmp 54) (.const (.bool false))))),
    ((some 8), (none, (.mv (.tmp 55))))])
  .ret)
def law07_HoldsValidC (f_made_New : Nat) (f_made_Deck_Context : Nat) (t_string : Nat) (f_made_Within : Nat) (f_holds_Valid : Nat) (f_ref06_ContextOk : Nat) (f_law07_awake : Nat) : PC :=
  (.seq (.reg [((some 4), (none, (.box 4 (.tmp 0)))),
    ((some 8), (none, (.mv (.const (.bool false)))))])
  (.seq (.reg [((some 11), (none, (.mv (.tmp 1)))),
    ((some 12), (none, (.call f_made_New [(.tmp 11)]))),
    ((some 13), (none, (.call f_made_Deck_Context [(.tmp 12)]))),
    ((some 9), (none, (.alloc [(.int .i64 0), (.int .i64 0), (.int .i64 0), (.string ⟨#[]⟩)]))),
    (none, (none, (.st 4 (.tmp 9) (.tmp 13))))])
  (.seq (.reg [((some 14), (none, (.ldA 4 (.tmp 9)))),
    ((some 10), (none, (.alloc [(.int .i64 0), (.int .i64 0), (.int .i64 0), (.string ⟨#[]⟩)]))),
    (none, (none, (.st 4 (.tmp 10) (.tmp 14))))])
  (.seq (.seq (.reg [((some 15), (none, (.mv (.tmp 2)))),
    ((some 16), (none, (.bi .rem (.tmp 15) (.const (.int .u8 4)))))])
  (.block 0 (.seq (.reg [((some 18), (none, (.bi .eql (.tmp 16) (.const (.int .u8 0))))),
     ((some 17), (none, (.mv (.tmp 18))))])
  (.cond (.tmp 17)
     (.reg [((some 19), (none, (.mv (.tmp 3)))),
       ((some 20), (none, (.fa 0 (.tmp 10)))),
       (none, (none, (.st 1 (.tmp 20) (.tmp 19))))])
     (.seq (.reg [((some 22), (none, (.bi .eql (.tmp 16) (.const (.int .u8 1))))),
       ((some 21), (none, (.mv (.tmp 22))))])
  (.cond (.tmp 21)
       (.reg [((some 23), (none, (.mv (.tmp 3)))),
         ((some 24), (none, (.fa 1 (.tmp 10)))),
         (none, (none, (.st 1 (.tmp 24) (.tmp 23))))])
       (.seq (.reg [((some 26), (none, (.bi .eql (.tmp 16) (.const (.int .u8 2))))),
         ((some 25), (none, (.mv (.tmp 26))))])
  (.cond (.tmp 25)
         (.reg [((some 27), (none, (.mv (.tmp 3)))),
           ((some 28), (none, (.fa 2 (.tmp 10)))),
           (none, (none, (.st 1 (.tmp 28) (.tmp 27))))])
         (.seq (.reg [((some 30), (none, (.bi .eql (.tmp 16) (.const (.int .u8 3))))),
           ((some 29), (none, (.mv (.tmp 30))))])
  (.cond (.tmp 29)
           (.reg [((some 31), (none, (.mks t_string 1 false [(.const (.string ⟨#[]⟩)), (.const (.string ⟨#[65]⟩)), (.const (.string ⟨#[97, 110, 110]⟩)), (.const (.string ⟨#[97, 98, 99, 100, 101, 102, 103, 104, 105, 106, 107, 108, 109, 110, 111, 112, 113]⟩))]))),
             ((some 32), (none, (.mv (.tmp 3)))),
             ((some 33), (none, (.call f_made_Within [(.tmp 32), (.const (.int .i64 4))]))),
             ((some 34), (none, (.ixS 1 (.tmp 31) (.tmp 33)))),
             ((some 35), (none, (.ld false (.tmp 34)))),
             ((some 36), (none, (.fa 3 (.tmp 10)))),
             (none, (none, (.st 1 (.tmp 36) (.tmp 35))))])
           .skip))))))))))
  (law07_HoldsValidC_j1 f_holds_Valid f_ref06_ContextOk f_law07_awake)))))
/-- macaroon/macaroonlaw07.HoldsOne: 53 slots, results [(.t 6)] -/
def law07_HoldsOneC (f_made_New : Nat) (f_made_Deck_Predicate : Nat) (f_made_Deck_Context : Nat) (f_holds_Holds : Nat) (f_ref06_Holds : Nat) (f_law07_awake : Nat) : PC :=
  (.seq (.reg [((some 3), (none, (.box 6 (.tmp 0)))),
    ((some 4), (none, (.box 4 (.tmp 1)))),
    ((some 6), (none, (.mv (.const (.bool false)))))])
  (.seq (.reg [((some 10), (none, (.mv (.tmp 2)))),
    ((some 11), (none, (.call f_made_New [(.tmp 10)]))),
    ((some 7), (none, (.mv (.tmp 11))))])
  (.seq (.reg [((some 12), (none, (.mv (.tmp 7)))),
    ((some 13), (none, (.call f_made_Deck_Predicate [(.tmp 12), (.const (.bool true))]))),
    ((some 14), (none, (.mv (.tmp 7)))),
    ((some 15), (none, (.call f_made_Deck_Context [(.tmp 14)]))),
    ((some 8), (none, (.alloc [(.int .i64 0), (.int .u64 0), (.int .i64 0), (.int .i64 0), (.string ⟨#[]⟩), (.int .i64 0)]))),
    ((some 9), (none, (.alloc [(.int .i64 0), (.int .i64 0), (.int .i64 0), (.string ⟨#[]⟩)]))),
    (none, (none, (.st 6 (.tmp 8) (.tmp 13)))),
    (none, (none, (.st 4 (.tmp 9) (.tmp 15))))])
  (.seq (.drw [((some 16), (none, (.ldA 6 (.tmp 8)))),
    ((some 17), (none, (.ldA 4 (.tmp 9)))),
    ((some 18), (none, (.call f_holds_Holds [(.tmp 16), (.tmp 17)]))),
    ((some 19), (none, (.ldA 6 (.tmp 8)))),
    ((some 20), (none, (.ldA 4 (.tmp 9)))),
    ((some 21), (none, (.call f_ref06_Holds [(.tmp 19), (.tmp 20)]))),
    ((some 22), (none, (.bb false (.tmp 18) (.tmp 21)))),
    ((some 23), (none, (.mv (.tmp 22)))),
    ((some 24), ((some (23, true)), (.ldA 6 (.tmp 3)))),
    ((some 25), ((some (23, true)), (.ldA 4 (.tmp 9)))),
    ((some 26), ((some (23, true)), (.call f_holds_Holds [(.tmp 24), (.tmp 25)]))),
    ((some 27), ((some (23, true)), (.ldA 6 (.tmp 3)))),
    ((some 28), ((some (23, true)), (.ldA 4 (.tmp 9)))),
    ((some 29), ((some (23, true)), (.call f_ref06_Holds [(.tmp 27), (.tmp 28)]))),
    ((some 30), ((some (23, true)), (.bb false (.tmp 26) (.tmp 29)))),
    ((some 31), (none, (.pick (.tmp 23) (.tmp 30) (.const (.bool false))))),
    ((some 32), (none, (.mv (.tmp 31)))),
    ((some 33), ((some (32, true)), (.ldA 6 (.tmp 8)))),
    ((some 34), ((some (32, true)), (.ldA 4 (.tmp 4)))),
    ((some 35), ((some (32, true)), (.call f_holds_Holds [(.tmp 33), (.tmp 34)]))),
    ((some 36), ((some (32, true)), (.ldA 6 (.tmp 8)))),
    ((some 37), ((some (32, true)), (.ldA 4 (.tmp 4)))),
    ((some 38), ((some (32, true)), (.call f_ref06_Holds [(.tmp 36), (.tmp 37)]))),
    ((some 39), ((some (32, true)), (.bb false (.tmp 35) (.tmp 38)))),
    ((some 40), (none, (.pick (.tmp 32) (.tmp 39) (.const (.bool false))))),
    ((some 41), (none, (.mv (.tmp 40)))),
    ((some 42), ((some (41, true)), (.ldA 6 (.tmp 3)))),
    ((some 43), ((some (41, true)), (.ldA 4 (.tmp 4)))),
    ((some 44), ((some (41, true)), (.call f_holds_Holds [(.tmp 42), (.tmp 43)]))),
    ((some 45), ((some (41, true)), (.ldA 6 (.tmp 3)))),
    ((some 46), ((some (41, true)), (.ldA 4 (.tmp 4)))),
    ((some 47), ((some (41, true)), (.call f_ref06_Holds [(.tmp 45), (.tmp 46)]))),
    ((some 48), ((some (41, true)), (.bb false (.tmp 44) (.tmp 47)))),
    ((some 49), (none, (.pick (.tmp 41) (.tmp 48) (.const (.bool false))))),
    ((some 50), (none, (.mv (.tmp 49)))),
    ((some 51), ((some (50, true)), (.call f_law07_awake []))),
    ((some 52), (none, (.pick (.tmp 50) (.tmp 51) (.const (.bool false))))),
    ((some 6), (none, (.mv (.tmp 52))))])
  .ret))))
/-- macaroon/macaroonlaw07.HoldsDaily: 54 slots, results [(.t 6)] -/
def law07_HoldsDailyC_j1 (f_law07_awake : Nat) (f_holds_Holds : Nat) : PC :=
  (.seq (.reg [((some 33), (none, (.mv (.tmp 7)))),
    ((some 34), (none, (.mv (.tmp 8)))),
    ((some 35), (none, (.build [(.inr ((.const (.int .i64 5)), 1)), (.inl [(.int .u64 0)]), (.inr ((.tmp 33), 1)), (.inr ((.tmp 34), 1)), (.inl [(.string ⟨#[]⟩)]), (.inl [(.int .i64 0)])]))),
    ((some 10), (none, (.alloc [(.int .i64 0), (.int .u64 0), (.int .i64 0), (.int .i64 0), (.string ⟨#[]⟩), (.int .i64 0)]))),
    (none, (none, (.st 6 (.tmp 10) (.tmp 35))))])
  (.seq (.reg [((some 36), (none, (.mv (.tmp 8)))),
    ((some 37), (none, (.bi .add (.tmp 36) (.const (.int .i64 1))))),
    ((some 38), (none, (.bi .rem (.tmp 37) (.const (.int .i64 1440))))),
    ((some 39), (none, (.mv (.tmp 7)))),
    ((some 40), (none, (.bi .add (.tmp 39) (.const (.int .i64 1440))))),
    ((some 41), (none, (.bi .sub (.tmp 40) (.const (.int .i64 1))))),
    ((some 42), (none, (.bi .rem (.tmp 41) (.const (.int .i64 1440))))),
    ((some 43), (none, (.build [(.inr ((.const (.int .i64 5)), 1)), (.inl [(.int .u64 0)]), (.inr ((.tmp 38), 1)), (.inr ((.tmp 42), 1)), (.inl [(.string ⟨#[]⟩)]), (.inl [(.int .i64 0)])]))),
    ((some 11), (none, (.alloc [(.int .i64 0), (.int .u64 0), (.int .i64 0), (.int .i64 0), (.string ⟨#[]⟩), (.int .i64 0)]))),
    (none, (none, (.st 6 (.tmp 11) (.tmp 43))))])
  (.seq (.drw [((some 44), (none, (.ldA 6 (.tmp 10)))),
    ((some 45), (none, (.ldA 4 (.tmp 9)))),
    ((some 46), (none, (.call f_holds_Holds [(.tmp 44), (.tmp 45)]))),
    ((some 47), (none, (.ldA 6 (.tmp 11)))),
    ((some 48), (none, (.ldA 4 (.tmp 9)))),
    ((some 49), (none, (.call f_holds_Holds [(.tmp 47), (.tmp 48)]))),
    ((some 50), (none, (.bb true (.tmp 46) (.tmp 49)))),
    ((some 51), (none, (.mv (.tmp 50)))),
    ((some 52), ((some (51, true)), (.call f_law07_awake []))),
    ((some 53), (none, (.pick (.tmp 51) (.tmp 52) (.const (.bool false))))),
    ((some 6), (none, (.mv (.tmp 53))))])
  .ret)))
def law07_HoldsDailyC (f_made_New : Nat) (f_made_Deck_Context : Nat) (f_law07_awake : Nat) (f_holds_Holds : Nat) : PC :=
  (.seq (.reg [((some 6), (none, (.mv (.const (.bool false)))))])
  (.seq (.reg [((some 12), (none, (.mv (.tmp 0)))),
    ((some 13), (none, (.cv .i64 (.tmp 12)))),
    ((some 14), (none, (.bi .rem (.tmp 13) (.const (.int .i64 1440))))),
    ((some 15), (none, (.mv (.tmp 1)))),
    ((some 16), (none, (.cv .i64 (.tmp 15)))),
    ((some 17), (none, (.bi .rem (.tmp 16) (.const (.int .i64 1440))))),
    ((some 7), (none, (.mv (.tmp 14)))),
    ((some 8), (none, (.mv (.tmp 17))))])
  (.seq (.reg [((some 18), (none, (.mv (.tmp 2)))),
    ((some 19), (none, (.call f_made_New [(.tmp 18)]))),
    ((some 20), (none, (.call f_made_Deck_Context [(.tmp 19)]))),
    ((some 9), (none, (.alloc [(.int .i64 0), (.int .i64 0), (.int .i64 0), (.string ⟨#[]⟩)]))),
    (none, (none, (.st 4 (.tmp 9) (.tmp 20))))])
  (.seq (.seq (.reg [((some 21), (none, (.mv (.tmp 7)))),
    ((some 22), (none, (.mv (.tmp 8)))),
    ((some 23), (none, (.bi .geq (.tmp 21) (.tmp 22)))),
    ((some 24), (none, (.mv (.tmp 23)))),
    ((some 25), ((some (24, false)), (.mv (.tmp 8)))),
    ((some 26), ((some (24, false)), (.bi .eql (.tmp 25) (.const (.int .i64 1439))))),
    ((some 27), ((some (24, false)), (.mv (.tmp 26)))),
    ((some 28), ((some (27, true)), (.mv (.tmp 7)))),
    ((some 29), ((some (27, true)), (.bi .eql (.tmp 28) (.const (.int .i64 0))))),
    ((some 30), ((some (24, false)), (.pick (.tmp 27) (.tmp 29) (.const (.bool false))))),
    ((some 31), (none, (.pick (.tmp 24) (.const (.bool true)) (.tmp 30))))])
  (.cond (.tmp 31)
    (.seq (.reg [((some 32), (none, (.call f_law07_awake []))),
      ((some 6), (none, (.mv (.tmp 32))))])
  .ret)
    .skip))
  (law07_HoldsDailyC_j1 f_law07_awake f_holds_Holds)))))
/-- macaroon/macaroonlaw07.HoldsAll: 100 slots, results [(.t 6)] -/
def law07_HoldsAllC (f_made_New : Nat) (f_made_Deck_Context : Nat) (f_made_Deck_Predicates : Nat) (f_holds_All : Nat) (f_ref06_All : Nat) (f_law07_awake : Nat) : PC :=
  (.seq (.reg [((some 4), (none, (.box 4 (.tmp 1)))),
    ((some 6), (none, (.mv (.const (.bool false)))))])
  (.seq (.reg [((some 22), (none, (.mv (.tmp 0)))),
    ((some 23), (none, (.mv (.tmp 0)))),
    ((some 24), (none, (.len (.tmp 23)))),
    ((some 25), (none, (.mm false (.tmp 24) (.const (.int .i64 60))))),
    ((some 26), (none, (.slS 6 (.tmp 22) none (some (.tmp 25)) none))),
    ((some 0), (none, (.steal 26)))])
  (.seq (.reg [((some 27), (none, (.mv (.tmp 2)))),
    ((some 28), (none, (.call f_made_New [(.tmp 27)]))),
    ((some 7), (none, (.mv (.tmp 28))))])
  (.seq (.reg [((some 29), (none, (.mv (.tmp 7)))),
    ((some 30), (none, (.call f_made_Deck_Context [(.tmp 29)]))),
    ((some 8), (none, (.alloc [(.int .i64 0), (.int .i64 0), (.int .i64 0), (.string ⟨#[]⟩)]))),
    (none, (none, (.st 4 (.tmp 8) (.tmp 30))))])
  (.seq (.reg [((some 31), (none, (.mv (.tmp 7)))),
    ((some 32), (none, (.call f_made_Deck_Predicates [(.tmp 31), (.const (.int .i64 6)), (.const (.bool true))]))),
    ((some 9), (none, (.steal 32)))])
  (.seq (.reg [((some 34), (none, (.mv (.tmp 9)))),
    ((some 35), (none, (.ldA 4 (.tmp 8)))),
    ((some 36), (none, (.call f_holds_All [(.tmp 34), (.tmp 35)]))),
    ((some 33), (none, (.steal 36))),
    ((some 37), (none, (.extr 33 0))),
    ((some 38), (none, (.extr 33 1))),
    ((some 10), (none, (.mv (.tmp 37)))),
    ((some 11), (none, (.mv (.tmp 38))))])
  (.seq (.reg [((some 40), (none, (.mv (.tmp 9)))),
    ((some 41), (none, (.ldA 4 (.tmp 8)))),
    ((some 42), (none, (.call f_ref06_All [(.tmp 40), (.tmp 41)]))),
    ((some 39), (none, (.steal 42))),
    ((some 43), (none, (.extr 39 0))),
    ((some 44), (none, (.extr 39 1))),
    ((some 12), (none, (.mv (.tmp 43)))),
    ((some 13), (none, (.mv (.tmp 44))))])
  (.seq (.reg [((some 46), (none, (.mv (.tmp 0)))),
    ((some 47), (none, (.ldA 4 (.tmp 4)))),
    ((some 48), (none, (.call f_holds_All [(.tmp 46), (.tmp 47)]))),
    ((some 45), (none, (.steal 48))),
    ((some 49), (none, (.extr 45 0))),
    ((some 50), (none, (.extr 45 1))),
    ((some 14), (none, (.mv (.tmp 49)))),
    ((some 15), (none, (.mv (.tmp 50))))])
  (.seq (.reg [((some 52), (none, (.mv (.tmp 0)))),
    ((some 53), (none, (.ldA 4 (.tmp 4)))),
    ((some 54), (none, (.call f_ref06_All [(.tmp 52), (.tmp 53)]))),
    ((some 51), (none, (.steal 54))),
    ((some 55), (none, (.extr 51 0))),
    ((some 56), (none, (.extr 51 1))),
    ((some 16), (none, (.mv (.tmp 55)))),
    ((some 17), (none, (.mv (.tmp 56))))])
  (.seq (.reg [((some 58), (none, (.mv (.tmp 9)))),
    ((some 59), (none, (.ldA 4 (.tmp 4)))),
    ((some 60), (none, (.call f_holds_All [(.tmp 58), (.tmp 59)]))),
    ((some 57), (none, (.steal 60))),
    ((some 61), (none, (.extr 57 0))),
    ((some 62), (none, (.extr 57 1))),
    ((some 18), (none, (.mv (.tmp 61)))),
    ((some 19), (none, (.mv (.tmp 62))))])
  (.seq (.reg [((some 64), (none, (.mv (.tmp 9)))),
    ((some 65), (none, (.ldA 4 (.tmp 4)))),
    ((some 66), (none, (.call f_ref06_All [(.tmp 64), (.tmp 65)]))),
    ((some 63), (none, (.steal 66))),
    ((some 67), (none, (.extr 63 0))),
    ((some 68), (none, (.extr 63 1))),
    ((some 20), (none, (.mv (.tmp 67)))),
    ((some 21), (none, (.mv (.tmp 68))))])
  (.seq (.reg [((some 69), (none, (.mv (.tmp 10)))),
    ((some 70), (none, (.mv (.tmp 12)))),
    ((some 71), (none, (.bi .eql (.tmp 69) (.tmp 70)))),
    ((some 72), (none, (.mv (.tmp 71)))),
    ((some 73), ((some (72, true)), (.mv (.tmp 11)))),
    ((some 74), ((some (72, true)), (.mv (.tmp 13)))),
    ((some 75), ((some (72, true)), (.bb false (.tmp 73) (.tmp 74)))),
    ((some 76), (none, (.pick (.tmp 72) (.tmp 75) (.const (.bool false))))),
    ((some 77), (none, (.mv (.tmp 76)))),
    ((some 78), ((some (77, true)), (.mv (.tmp 14)))),
    ((some 79), ((some (77, true)), (.mv (.tmp 16)))),
    ((some 80), ((some (77, true)), (.bi .eql (.tmp 78) (.tmp 79)))),
    ((some 81), (none, (.pick (.tmp 77) (.tmp 80) (.const (.bool false))))),
    ((some 82), (none, (.mv (.tmp 81)))),
    ((some 83), ((some (82, true)), (.mv (.tmp 15)))),
    ((some 84), ((some (82, true)), (.mv (.tmp 17)))),
    ((some 85), ((some (82, true)), (.bb false (.tmp 83) (.tmp 84)))),
    ((some 86), (none, (.pick (.tmp 82) (.tmp 85) (.const (.bool false))))),
    ((some 87), (none, (.mv (.tmp 86)))),
    ((some 88), ((some (87, true)), (.mv (.tmp 18)))),
    ((some 89), ((some (87, true)), (.mv (.tmp 20)))),
    ((some 90), ((some (87, true)), (.bi .eql (.tmp 88) (.tmp 89)))),
    ((some 91), (none, (.pick (.tmp 87) (.tmp 90) (.const (.bool false))))),
    ((some 92), (none, (.mv (.tmp 91)))),
    ((some 93), ((some (92, true)), (.mv (.tmp 19)))),
    ((some 94), ((some (92, true)), (.mv (.tmp 21)))),
    ((some 95), ((some (92, true)), (.bb false (.tmp 93) (.tmp 94)))),
    ((some 96), (none, (.pick (.tmp 92) (.tmp 95) (.const (.bool false))))),
    ((some 97), (none, (.mv (.tmp 96)))),
    ((some 98), ((some (97, true)), (.call f_law07_awake []))),
    ((some 99), (none, (.pick (.tmp 97) (.tmp 98) (.const (.bool false))))),
    ((some 6), (none, (.mv (.tmp 99))))])
  .ret))))))))))))
/-- macaroon/macaroonlaw07.HoldsMore: 63 slots, results [(.t 4)] -/
def law07_HoldsMoreC (f_made_New : Nat) (f_made_Deck_Context : Nat) (f_made_Deck_Predicate : Nat) (f_made_Deck_Predicates : Nat) (f_made_Within : Nat) (t_api_Predicate : Nat) (f_holds_All : Nat) (f_holds_Holds : Nat) (f_law07_awake : Nat) : PC :=
  (.seq (.reg [((some 4), (none, (.mv (.const (.bool false)))))])
  (.seq (.reg [((some 15), (none, (.mv (.tmp 0)))),
    ((some 16), (none, (.call f_made_New [(.tmp 15)]))),
    ((some 5), (none, (.mv (.tmp 16))))])
  (.seq (.reg [((some 17), (none, (.mv (.tmp 5)))),
    ((some 18), (none, (.call f_made_Deck_Context [(.tmp 17)]))),
    ((some 19), (none, (.mv (.tmp 5)))),
    ((some 20), (none, (.call f_made_Deck_Predicate [(.tmp 19), (.const (.bool true))]))),
    ((some 6), (none, (.alloc [(.int .i64 0), (.int .i64 0), (.int .i64 0), (.string ⟨#[]⟩)]))),
    ((some 7), (none, (.alloc [(.int .i64 0), (.int .u64 0), (.int .i64 0), (.int .i64 0), (.string ⟨#[]⟩), (.int .i64 0)]))),
    (none, (none, (.st 4 (.tmp 6) (.tmp 18)))),
    (none, (none, (.st 6 (.tmp 7) (.tmp 20))))])
  (.seq (.reg [((some 21), (none, (.mv (.tmp 5)))),
    ((some 22), (none, (.call f_made_Deck_Predicates [(.tmp 21), (.const (.int .i64 5)), (.const (.bool true))]))),
    ((some 8), (none, (.steal 22)))])
  (.seq (.reg [((some 23), (none, (.mv (.tmp 1)))),
    ((some 24), (none, (.mv (.tmp 8)))),
    ((some 25), (none, (.len (.tmp 24)))),
    ((some 26), (none, (.bi .add (.tmp 25) (.const (.int .i64 1))))),
    ((some 27), (none, (.call f_made_Within [(.tmp 23), (.tmp 26)]))),
    ((some 9), (none, (.mv (.tmp 27))))])
  (.seq (.ord (.one ((some 28), (none, (.mks t_api_Predicate 6 true [])))
    (.one ((some 29), (none, (.mv (.tmp 8))))
    (.one ((some 30), (none, (.mv (.tmp 9))))
    (.one ((some 31), (none, (.slS 6 (.tmp 29) none (some (.tmp 30)) none)))
    (.one ((some 32), (none, (.app t_api_Predicate 6 56 28 (.tmp 31))))
    (.one ((some 33), (none, (.ldA 6 (.tmp 7))))
    (.one ((some 34), (none, (.mks t_api_Predicate 6 false [(.tmp 33)])))
    (.one ((some 35), (none, (.app t_api_Predicate 6 56 32 (.tmp 34))))
    (.one ((some 36), (none, (.mv (.tmp 8))))
    (.one ((some 37), (none, (.mv (.tmp 9))))
    (.one ((some 38), (none, (.slS 6 (.tmp 36) (some (.tmp 37)) none none)))
    (.one ((some 39), (none, (.app t_api_Predicate 6 56 35 (.tmp 38))))
    (.one ((some 10), (none, (.steal 39)))
    .done))))))))))))))
  (.seq (.reg [((some 41), (none, (.mv (.tmp 8)))),
    ((some 42), (none, (.ldA 4 (.tmp 6)))),
    ((some 43), (none, (.call f_holds_All [(.tmp 41), (.tmp 42)]))),
    ((some 40), (none, (.steal 43))),
    ((some 44), (none, (.extr 40 0))),
    ((some 45), (none, (.extr 40 1))),
    ((some 11), (none, (.mv (.tmp 44)))),
    ((some 12), (none, (.mv (.tmp 45))))])
  (.seq (.reg [((some 47), (none, (.mv (.tmp 10)))),
    ((some 48), (none, (.ldA 4 (.tmp 6)))),
    ((some 49), (none, (.call f_holds_All [(.tmp 47), (.tmp 48)]))),
    ((some 46), (none, (.steal 49))),
    ((some 50), (none, (.extr 46 0))),
    ((some 51), (none, (.extr 46 1))),
    ((some 13), (none, (.mv (.tmp 50)))),
    ((some 14), (none, (.mv (.tmp 51))))])
  (.seq (.reg [((some 52), (none, (.mv (.tmp 14)))),
    ((some 53), (none, (.mv (.tmp 12)))),
    ((some 54), (none, (.mv (.tmp 53)))),
    ((some 55), ((some (54, true)), (.ldA 6 (.tmp 7)))),
    ((some 56), ((some (54, true)), (.ldA 4 (.tmp 6)))),
    ((some 57), ((some (54, true)), (.call f_holds_Holds [(.tmp 55), (.tmp 56)]))),
    ((some 58), (none, (.pick (.tmp 54) (.tmp 57) (.const (.bool false))))),
    ((some 59), (none, (.bb false (.tmp 52) (.tmp 58)))),
    ((some 60), (none, (.mv (.tmp 59)))),
    ((some 61), ((some (60, true)), (.call f_law07_awake []))),
    ((some 62), (none, (.pick (.tmp 60) (.tmp 61) (.const (.bool false))))),
    ((some 4), (none, (.mv (.tmp 62))))])
  .ret)))))))))
/-- macaroon/macaroonlaw07.awake: 12 slots, results [(.t 0)] -/
def law07_awakeC (f_holds_Holds : Nat) : PC :=
  (.seq (.reg [((some 0), (none, (.mv (.const (.bool false)))))])
  (.seq (.reg [((some 2), (none, (.build [(.inr ((.const (.int .i64 5)), 1)), (.inl [(.int .u64 0)]), (.inr ((.const (.int .i64 1380)), 1)), (.inr ((.const (.int .i64 300)), 1)), (.inl [(.string ⟨#[]⟩)]), (.inl [(.int .i64 0)])]))),
    ((some 1), (none, (.alloc [(.int .i64 0), (.int .u64 0), (.int .i64 0), (.int .i64 0), (.string ⟨#[]⟩), (.int .i64 0)]))),
    (none, (none, (.st 6 (.tmp 1) (.tmp 2))))])
  (.seq (.reg [((some 3), (none, (.ldA 6 (.tmp 1)))),
    ((some 4), (none, (.build [(.inl [(.int .i64 0)]), (.inl [(.int .i64 0)]), (.inr ((.const (.int .i64 10)), 1)), (.inr ((.const (.string ⟨#[97]⟩)), 1))]))),
    ((some 5), (none, (.call f_holds_Holds [(.tmp 3), (.tmp 4)]))),
    ((some 6), (none, (.mv (.tmp 5)))),
    ((some 7), ((some (6, true)), (.ldA 6 (.tmp 1)))),
    ((some 8), ((some (6, true)), (.build [(.inl [(.int .i64 0)]), (.inl [(.int .i64 0)]), (.inr ((.const (.int .i64 600)), 1)), (.inr ((.const (.string ⟨#[97]⟩)), 1))]))),
    ((some 9), ((some (6, true)), (.call f_holds_Holds [(.tmp 7), (.tmp 8)]))),
    ((some 10), ((some (6, true)), (.un .not (.tmp 9)))),
    ((some 11), (none, (.pick (.tmp 6) (.tmp 10) (.const (.bool false))))),
    ((some 0), (none, (.mv (.tmp 11))))])
  .ret)))
end Go.PE
