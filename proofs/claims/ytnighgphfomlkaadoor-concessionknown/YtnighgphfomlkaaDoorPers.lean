/- Pure code, printed by a program: concession authorities. Pure code, printed by a program: the statements about layer 27. Tags and counts as plain data. Tags and counts among the arguments. Persons and concession authorities as plain data; maps of names. Concession authorities: names, births; is an authority valid? Concession authorities: the reference's Valid, Find, Register, New; what the deck gives. Concession authorities: Find, New, Register; are two equal? Concession authorities: Register; equal ones; the sanity check. The deck: persons, concession authorities; the sanity check of layer 27. Concession authorities: the sanity check; every person that was registered is found. Concession authorities: every person that was registered is found. -/
import Derived.Test.YtnighgphfomlkaaDoorCode
import Derived.Test.YtnighgphfomlkaaDoorCoun
import Derived.Test.YtnighgphfomlkaaDoorPred
import Derived.Test.YtnighgphfomlkaaDoorEngC
import Derived.Test.YtnighgphfomlkaaDoorDeck
set_option linter.all false
namespace Go.PE
open Go
/-- macaroon/macaroonlaw27.awake: 45 slots, results [(.t 0)] -/
def law27_awakeC (f_concession_New : Nat) (t_api_Person : Nat) (f_concession_Register : Nat) : PC :=
  (.seq (.reg [((some 0), (none, (.mv (.const (.bool false)))))])
  (.seq (.reg [((some 7), (none, (.build [(.inr ((.const (.int .u8 5)), 1)), (.inl [(.int .u8 0)]), (.inl [(.int .u8 0)]), (.inl [(.int .u8 0)]), (.inl [(.int .u8 0)]), (.inl [(.int .u8 0)]), (.inl [(.int .u8 0)]), (.inl [(.int .u8 0)]), (.inl [(.int .u8 0)]), (.inl [(.int .u8 0)]), (.inl [(.int .u8 0)]), (.inl [(.int .u8 0)]), (.inl [(.int .u8 0)]), (.inl [(.int .u8 0)]), (.inl [(.int .u8 0)]), (.inl [(.int .u8 0)]), (.inl [(.int .u8 0)]), (.inl [(.int .u8 0)]), (.inl [(.int .u8 0)]), (.inl [(.int .u8 0)]), (.inl [(.int .u8 0)]), (.inl [(.int .u8 0)]), (.inl [(.int .u8 0)]), (.inl [(.int .u8 0)]), (.inl [(.int .u8 0)]), (.inl [(.int .u8 0)]), (.inl [(.int .u8 0)]), (.inl [(.int .u8 0)]), (.inl [(.int .u8 0)]), (.inl [(.int .u8 0)]), (.inl [(.int .u8 0)]), (.inl [(.int .u8 0)])]))),
    ((some 8), (none, (.call f_concession_New [(.const (.int .i64 1)), (.tmp 7)]))),
    ((some 6), (none, (.steal 8))),
    ((some 9), (none, (.extr 6 0))),
    ((some 10), (none, (.extr 6 1))),
    ((some 1), (none, (.alloc [(.int .i64 0), (.int .u8 0), (.int .u8 0), (.int .u8 0), (.int .u8 0), (.int .u8 0), (.int .u8 0), (.int .u8 0), (.int .u8 0), (.int .u8 0), (.int .u8 0), (.int .u8 0), (.int .u8 0), (.int .u8 0), (.int .u8 0), (.int .u8 0), (.int .u8 0), (.int .u8 0), (.int .u8 0), (.int .u8 0), (.int .u8 0), (.int .u8 0), (.int .u8 0), (.int .u8 0), (.int .u8 0), (.int .u8 0), (.int .u8 0), (.int .u8 0), (.int .u8 0), (.int .u8 0), (.int .u8 0), (.int .u8 0), (.int .u8 0), (lin t_api_Person [])]))),
    (none, (none, (.st 34 (.tmp 1) (.tmp 9)))),
    ((some 2), (none, (.mv (.tmp 10))))])
  (.seq (.reg [((some 12), (none, (.ldA 34 (.tmp 1)))),
    ((some 13), (none, (.build [(.inr ((.const (.string ⟨#[97, 110, 110]⟩)), 1)), (.inl [(.int .i64 0)])]))),
    ((some 14), (none, (.call f_concession_Register [(.tmp 12), (.tmp 13)]))),
    ((some 11), (none, (.steal 14))),
    ((some 15), (none, (.extr 11 0))),
    ((some 16), (none, (.extr 11 1))),
    (none, (none, (.st 34 (.tmp 1) (.tmp 15)))),
    ((some 3), (none, (.mv (.tmp 16))))])
  (.seq (.reg [((some 18), (none, (.ldA 34 (.tmp 1)))),
    ((some 19), (none, (.build [(.inr ((.const (.string ⟨#[97, 110, 110]⟩)), 1)), (.inr ((.const (.int .i64 3)), 1))]))),
    ((some 20), (none, (.call f_concession_Register [(.tmp 18), (.tmp 19)]))),
    ((some 17), (none, (.steal 20))),
    ((some 21), (none, (.extr 17 0))),
    ((some 22), (none, (.extr 17 1))),
    ((some 4), (none, (.alloc [(.int .i64 0), (.int .u8 0), (.int .u8 0), (.int .u8 0), (.int .u8 0), (.int .u8 0), (.int .u8 0), (.int .u8 0), (.int .u8 0), (.int .u8 0), (.int .u8 0), (.int .u8 0), (.int .u8 0), (.int .u8 0), (.int .u8 0), (.int .u8 0), (.int .u8 0), (.int .u8 0), (.int .u8 0), (.int .u8 0), (.int .u8 0), (.int .u8 0), (.int .u8 0), (.int .u8 0), (.int .u8 0), (.int .u8 0), (.int .u8 0), (.int .u8 0), (.int .u8 0), (.int .u8 0), (.int .u8 0), (.int .u8 0), (.int .u8 0), (lin t_api_Person [])]))),
    (none, (none, (.st 34 (.tmp 4) (.tmp 21)))),
    ((some 5), (none, (.mv (.tmp 22))))])
  (.seq (.reg [((some 23), (none, (.mv (.tmp 2)))),
    ((some 24), (none, (.bi .eql (.tmp 23) (.const (.int .i64 0))))),
    ((some 25), (none, (.mv (.tmp 24)))),
    ((some 26), ((some (25, true)), (.mv (.tmp 3)))),
    ((some 27), ((some (25, true)), (.bi .eql (.tmp 26) (.const (.int .i64 0))))),
    ((some 28), (none, (.pick (.tmp 25) (.tmp 27) (.const (.bool false))))),
    ((some 29), (none, (.mv (.tmp 28)))),
    ((some 30), ((some (29, true)), (.mv (.tmp 5)))),
    ((some 31), ((some (29, true)), (.bi .eql (.tmp 30) (.const (.int .i64 10))))),
    ((some 32), (none, (.pick (.tmp 29) (.tmp 31) (.const (.bool false))))),
    ((some 33), (none, (.mv (.tmp 32)))),
    ((some 34), ((some (33, true)), (.fa 33 (.tmp 1)))),
    ((some 35), ((some (33, true)), (.ld false (.tmp 34)))),
    ((some 36), ((some (33, true)), (.len (.tmp 35)))),
    ((some 37), ((some (33, true)), (.bi .eql (.tmp 36) (.const (.int .i64 1))))),
    ((some 38), (none, (.pick (.tmp 33) (.tmp 37) (.const (.bool false))))),
    ((some 39), (none, (.mv (.tmp 38)))),
    ((some 40), ((some (39, true)), (.fa 1 (.tmp 1)))),
    ((some 41), ((some (39, true)), (.ldA 32 (.tmp 40)))),
    ((some 42), ((some (39, true)), (.build [(.inr ((.const (.int .u8 5)), 1)), (.inl [(.int .u8 0)]), (.inl [(.int .u8 0)]), (.inl [(.int .u8 0)]), (.inl [(.int .u8 0)]), (.inl [(.int .u8 0)]), (.inl [(.int .u8 0)]), (.inl [(.int .u8 0)]), (.inl [(.int .u8 0)]), (.inl [(.int .u8 0)]), (.inl [(.int .u8 0)]), (.inl [(.int .u8 0)]), (.inl [(.int .u8 0)]), (.inl [(.int .u8 0)]), (.inl [(.int .u8 0)]), (.inl [(.int .u8 0)]), (.inl [(.int .u8 0)]), (.inl [(.int .u8 0)]), (.inl [(.int .u8 0)]), (.inl [(.int .u8 0)]), (.inl [(.int .u8 0)]), (.inl [(.int .u8 0)]), (.inl [(.int .u8 0)]), (.inl [(.int .u8 0)]), (.inl [(.int .u8 0)]), (.inl [(.int .u8 0)]), (.inl [(.int .u8 0)]), (.inl [(.int .u8 0)]), (.inl [(.int .u8 0)]), (.inl [(.int .u8 0)]), (.inl [(.int .u8 0)]), (.inl [(.int .u8 0)])]))),
    ((some 43), ((some (39, true)), (.eqA false (List.replicate 32 (.int .u8)) (.tmp 41) (.tmp 42)))),
    ((some 44), (none, (.pick (.tmp 39) (.tmp 43) (.const (.bool false))))),
    ((some 0), (none, (.mv (.tmp 44))))])
  .ret)))))
/-- macaroon/concession.New: 16 slots, results [(.cA 4 34), (.t 5)] -/
def concession_NewC_j1 : PC :=
  (.seq (.reg [((some 13), (none, (.mv (.tmp 0)))),
    ((some 14), (none, (.ldA 32 (.tmp 3)))),
    ((some 15), (none, (.build [(.inr ((.tmp 13), 1)), (.inr ((.tmp 14), 32)), (.inl [(deep [])])]))),
    (none, (none, (.st 34 (.tmp 4) (.tmp 15)))),
    ((some 5), (none, (.mv (.const (.int .i64 0)))))])
  .ret)
def concession_NewC (t_api_Person : Nat) : PC :=
  (.seq (.reg [((some 3), (none, (.box 32 (.tmp 1)))),
    ((some 4), (none, (.alloc [(.int .i64 0), (.int .u8 0), (.int .u8 0), (.int .u8 0), (.int .u8 0), (.int .u8 0), (.int .u8 0), (.int .u8 0), (.int .u8 0), (.int .u8 0), (.int .u8 0), (.int .u8 0), (.int .u8 0), (.int .u8 0), (.int .u8 0), (.int .u8 0), (.int .u8 0), (.int .u8 0), (.int .u8 0), (.int .u8 0), (.int .u8 0), (.int .u8 0), (.int .u8 0), (.int .u8 0), (.int .u8 0), (.int .u8 0), (.int .u8 0), (.int .u8 0), (.int .u8 0), (.int .u8 0), (.int .u8 0), (.int .u8 0), (.int .u8 0), (lin t_api_Person [])]))),
    ((some 5), (none, (.mv (.const (.int .i64 0)))))])
  (.seq (.seq (.reg [((some 6), (none, (.mv (.tmp 0)))),
    ((some 7), (none, (.bi .lss (.tmp 6) (.const (.int .i64 0))))),
    ((some 8), (none, (.mv (.tmp 7)))),
    ((some 9), ((some (8, false)), (.mv (.tmp 0)))),
    ((some 10), ((some (8, false)), (.bi .gtr (.tmp 9) (.const (.int .i64 7))))),
    ((some 11), (none, (.pick (.tmp 8) (.const (.bool true)) (.tmp 10))))])
  (.cond (.tmp 11)
    (.seq (.reg [((some 12), (none, (.build [(.inl [(.int .i64 0)]), (.inl (List.replicate 32 (.int .u8 0))), (.inl [(deep [])])]))),
      (none, (none, (.st 34 (.tmp 4) (.tmp 12)))),
      ((some 5), (none, (.mv (.const (.int .i64 1)))))])
  .ret)
    .skip))
  concession_NewC_j1))
/-- macaroon/macaroonref26.SameConcession: 45 slots, results [(.t 4)] -/
def ref26_SameConcessionC_j1 : PC :=
  (.seq (.block 1 (.seq (.drw [((some 34), (none, (.fa 33 (.tmp 2)))),
       ((some 35), (none, (.ld false (.tmp 34)))),
       ((some 36), (none, (.mv (.tmp 5)))),
       ((some 37), (none, (.ixS 2 (.tmp 35) (.tmp 36)))),
       ((some 38), (none, (.ldA 2 (.tmp 37)))),
       ((some 39), (none, (.fa 33 (.tmp 3)))),
       ((some 40), (none, (.ld false (.tmp 39)))),
       ((some 41), (none, (.mv (.tmp 5)))),
       ((some 42), (none, (.ixS 2 (.tmp 40) (.tmp 41)))),
       ((some 43), (none, (.ldA 2 (.tmp 42)))),
       ((some 44), (none, (.eqA true [.string, (.int .i64)] (.tmp 38) (.tmp 43))))])
  (.cond (.tmp 44)
       (.seq (.reg [((some 4), (none, (.mv (.const (.bool false)))))])
  .ret)
       .skip)))
  (.reg [((some 32), (none, (.mv (.tmp 5)))),
      ((some 33), (none, (.bi .add (.tmp 32) (.const (.int .i64 1))))),
      ((some 5), (none, (.mv (.tmp 33))))]))
def ref26_SameConcessionC_j2 : PC :=
  (.seq (.seq (.reg [((some 5), (none, (.mv (.const (.int .i64 0)))))])
  (.block 0 (.loop (.seq (.seq (.reg [((some 27), (none, (.mv (.tmp 5)))),
      ((some 28), (none, (.fa 33 (.tmp 2)))),
      ((some 29), (none, (.ld false (.tmp 28)))),
      ((some 30), (none, (.len (.tmp 29)))),
      ((some 31), (none, (.bi .lss (.tmp 27) (.tmp 30))))])
  (.cond (.tmp 31)
      .skip
      (.exit 0)))
  ref26_SameConcessionC_j1))))
  (.seq (.reg [((some 4), (none, (.mv (.const (.bool true)))))])
  .ret))
def ref26_SameConcessionC : PC :=
  (.seq (.reg [((some 2), (none, (.box 34 (.tmp 0)))),
    ((some 3), (none, (.box 34 (.tmp 1)))),
    ((some 4), (none, (.mv (.const (.bool false)))))])
  (.seq (.seq (.reg [((some 6), (none, (.fa 0 (.tmp 2)))),
    ((some 7), (none, (.ld false (.tmp 6)))),
    ((some 8), (none, (.fa 0 (.tmp 3)))),
    ((some 9), (none, (.ld false (.tmp 8)))),
    ((some 10), (none, (.bi .neq (.tmp 7) (.tmp 9)))),
    ((some 11), (none, (.mv (.tmp 10)))),
    ((some 12), ((some (11, false)), (.fa 1 (.tmp 2)))),
    ((some 13), ((some (11, false)), (.ldA 32 (.tmp 12)))),
    ((some 14), ((some (11, false)), (.fa 1 (.tmp 3)))),
    ((some 15), ((some (11, false)), (.ldA 32 (.tmp 14)))),
    ((some 16), ((some (11, false)), (.eqA true (List.replicate 32 (.int .u8)) (.tmp 13) (.tmp 15)))),
    ((some 17), (none, (.pick (.tmp 11) (.const (.bool true)) (.tmp 16)))),
    ((some 18), (none, (.mv (.tmp 17)))),
    ((some 19), ((some (18, false)), (.fa 33 (.tmp 2)))),
    ((some 20), ((some (18, false)), (.ld false (.tmp 19)))),
    ((some 21), ((some (18, false)), (.len (.tmp 20)))),
    ((some 22), ((some (18, false)), (.fa 33 (.tmp 3)))),
    ((some 23), ((some (18, false)), (.ld false (.tmp 22)))),
    ((some 24), ((some (18, false)), (.len (.tmp 23)))),
    ((some 25), ((some (18, false)), (.bi .neq (.tmp 21) (.tmp 24)))),
    ((some 26), (none, (.pick (.tmp 18) (.const (.bool true)) (.tmp 25))))])
  (.cond (.tmp 26)
    (.seq (.reg [((some 4), (none, (.mv (.const (.bool false)))))])
  .ret)
    .skip))
  ref26_SameConcessionC_j2))
/-- (*macaroon/macaroonmade.Deck).Concession: 11 slots, results [(.cA 4 34)] -/
def made_Deck_ConcessionC (t_api_Person : Nat) (f_made_Deck_Next : Nat) (f_made_Deck_Persons : Nat) : PC :=
  (.seq (.reg [((some 3), (none, (.box 32 (.tmp 1)))),
    ((some 4), (none, (.alloc [(.int .i64 0), (.int .u8 0), (.int .u8 0), (.int .u8 0), (.int .u8 0), (.int .u8 0), (.int .u8 0), (.int .u8 0), (.int .u8 0), (.int .u8 0), (.int .u8 0), (.int .u8 0), (.int .u8 0), (.int .u8 0), (.int .u8 0), (.int .u8 0), (.int .u8 0), (.int .u8 0), (.int .u8 0), (.int .u8 0), (.int .u8 0), (.int .u8 0), (.int .u8 0), (.int .u8 0), (.int .u8 0), (.int .u8 0), (.int .u8 0), (.int .u8 0), (.int .u8 0), (.int .u8 0), (.int .u8 0), (.int .u8 0), (.int .u8 0), (lin t_api_Person [])])))])
  (.seq (.ord (.one ((some 5), (none, (.mv (.tmp 0))))
    (.one ((some 8), (none, (.mv (.tmp 0))))
    (.alt (.one ((some 6), (none, (.call f_made_Deck_Next [(.tmp 5), (.const (.int .i64 8))])))
     (.alt (.one ((some 7), (none, (.ldA 32 (.tmp 3))))
      (.one ((some 9), (none, (.call f_made_Deck_Persons [(.tmp 8)])))
      (.one ((some 10), (none, (.build [(.inr ((.tmp 6), 1)), (.inr ((.tmp 7), 32)), (.inr ((.tmp 9), 1))])))
      (.one (none, (none, (.st 34 (.tmp 4) (.tmp 10))))
      .done))))
     (.one ((some 9), (none, (.call f_made_Deck_Persons [(.tmp 8)])))
      (.one ((some 7), (none, (.ldA 32 (.tmp 3))))
      (.one ((some 10), (none, (.build [(.inr ((.tmp 6), 1)), (.inr ((.tmp 7), 32)), (.inr ((.tmp 9), 1))])))
      (.one (none, (none, (.st 34 (.tmp 4) (.tmp 10))))
      .done))))))
    (.one ((some 7), (none, (.ldA 32 (.tmp 3))))
     (.one ((some 6), (none, (.call f_made_Deck_Next [(.tmp 5), (.const (.int .i64 8))])))
     (.one ((some 9), (none, (.call f_made_Deck_Persons [(.tmp 8)])))
     (.one ((some 10), (none, (.build [(.inr ((.tmp 6), 1)), (.inr ((.tmp 7), 32)), (.inr ((.tmp 9), 1))])))
     (.one (none, (none, (.st 34 (.tmp 4) (.tmp 10))))
     .done)))))))))
  .ret))
/-- macaroon/concession.Register: 43 slots, results [(.cA 4 34), (.t 5)] -/
def concession_RegisterC_j1 (t_api_Person : Nat) (f_slices_Clone_api_Person_api_Person : Nat) : PC :=
  (.seq (.ord (.one ((some 35), (none, (.fa 33 (.tmp 2))))
    (.one ((some 36), (none, (.ld false (.tmp 35))))
    (.alt (.one ((some 37), (none, (.call f_slices_Clone_api_Person_api_Person [(.tmp 36)])))
     (.one ((some 38), (none, (.ldA 2 (.tmp 3))))
     (.one ((some 39), (none, (.mks t_api_Person 2 false [(.tmp 38)])))
     (.one ((some 40), (none, (.app t_api_Person 2 24 37 (.tmp 39))))
     (.one ((some 41), (none, (.fa 33 (.tmp 2))))
     (.one (none, (none, (.sts (.tmp 41) 40)))
     .done))))))
    (.one ((some 38), (none, (.ldA 2 (.tmp 3))))
     (.one ((some 39), (none, (.mks t_api_Person 2 false [(.tmp 38)])))
     (.one ((some 37), (none, (.call f_slices_Clone_api_Person_api_Person [(.tmp 36)])))
     (.one ((some 40), (none, (.app t_api_Person 2 24 37 (.tmp 39))))
     (.one ((some 41), (none, (.fa 33 (.tmp 2))))
     (.one (none, (none, (.sts (.tmp 41) 40)))
     .done))))))))))
  (.seq (.reg [((some 42), (none, (.ldA 34 (.tmp 2)))),
    (none, (none, (.st 34 (.tmp 4) (.tmp 42)))),
    ((some 5), (none, (.mv (.const (.int .i64 0)))))])
  .ret))
def concession_RegisterC (t_api_Person : Nat) (f_concession_Valid : Nat) (f_concession_name : Nat) (f_concession_born : Nat) (f_concession_Register_1 : Nat) (f_slices_ContainsFunc_api_Person_api_Person : Nat) (f_slices_Clone_api_Person_api_Person : Nat) : PC :=
  (.seq (.reg [((some 2), (none, (.box 34 (.tmp 0)))),
    ((some 3), (none, (.box 2 (.tmp 1)))),
    ((some 4), (none, (.alloc [(.int .i64 0), (.int .u8 0), (.int .u8 0), (.int .u8 0), (.int .u8 0), (.int .u8 0), (.int .u8 0), (.int .u8 0), (.int .u8 0), (.int .u8 0), (.int .u8 0), (.int .u8 0), (.int .u8 0), (.int .u8 0), (.int .u8 0), (.int .u8 0), (.int .u8 0), (.int .u8 0), (.int .u8 0), (.int .u8 0), (.int .u8 0), (.int .u8 0), (.int .u8 0), (.int .u8 0), (.int .u8 0), (.int .u8 0), (.int .u8 0), (.int .u8 0), (.int .u8 0), (.int .u8 0), (.int .u8 0), (.int .u8 0), (.int .u8 0), (lin t_api_Person [])]))),
    ((some 5), (none, (.mv (.const (.int .i64 0)))))])
  (.seq (.block 0 (.seq (.reg [((some 7), (none, (.ldA 34 (.tmp 2)))),
     ((some 8), (none, (.call f_concession_Valid [(.tmp 7)]))),
     ((some 9), (none, (.un .not (.tmp 8)))),
     ((some 6), (none, (.mv (.tmp 9))))])
  (.cond (.tmp 6)
     (.seq (.reg [((some 10), (none, (.build [(.inl [(.int .i64 0)]), (.inl (List.replicate 32 (.int .u8 0))), (.inl [(deep [])])]))),
       (none, (none, (.st 34 (.tmp 4) (.tmp 10)))),
       ((some 5), (none, (.mv (.const (.int .i64 5)))))])
  .ret)
     (.seq (.reg [((some 12), (none, (.fa 0 (.tmp 3)))),
       ((some 13), (none, (.ld false (.tmp 12)))),
       ((some 14), (none, (.call f_concession_name [(.tmp 13)]))),
       ((some 15), (none, (.un .not (.tmp 14)))),
       ((some 11), (none, (.mv (.tmp 15))))])
  (.cond (.tmp 11)
       (.seq (.reg [((some 16), (none, (.build [(.inl [(.int .i64 0)]), (.inl (List.replicate 32 (.int .u8 0))), (.inl [(deep [])])]))),
         (none, (none, (.st 34 (.tmp 4) (.tmp 16)))),
         ((some 5), (none, (.mv (.const (.int .i64 7)))))])
  .ret)
       (.seq (.reg [((some 18), (none, (.fa 1 (.tmp 3)))),
         ((some 19), (none, (.ld false (.tmp 18)))),
         ((some 20), (none, (.call f_concession_born [(.tmp 19)]))),
         ((some 21), (none, (.un .not (.tmp 20)))),
         ((some 17), (none, (.mv (.tmp 21))))])
  (.cond (.tmp 17)
         (.seq (.reg [((some 22), (none, (.build [(.inl [(.int .i64 0)]), (.inl (List.replicate 32 (.int .u8 0))), (.inl [(deep [])])]))),
           (none, (none, (.st 34 (.tmp 4) (.tmp 22)))),
           ((some 5), (none, (.mv (.const (.int .i64 1)))))])
  .ret)
         (.seq (.reg [((some 24), (none, (.fa 33 (.tmp 2)))),
           ((some 25), (none, (.ld false (.tmp 24)))),
           ((some 26), (none, (.mkf f_concession_Register_1 [] [(.tmp 3)]))),
           ((some 27), (none, (.call f_slices_ContainsFunc_api_Person_api_Person [(.tmp 25), (.tmp 26)]))),
           ((some 23), (none, (.mv (.tmp 27))))])
  (.cond (.tmp 23)
           (.seq (.reg [((some 28), (none, (.build [(.inl [(.int .i64 0)]), (.inl (List.replicate 32 (.int .u8 0))), (.inl [(deep [])])]))),
             (none, (none, (.st 34 (.tmp 4) (.tmp 28)))),
             ((some 5), (none, (.mv (.const (.int .i64 10)))))])
  .ret)
           (.seq (.reg [((some 30), (none, (.fa 33 (.tmp 2)))),
             ((some 31), (none, (.ld false (.tmp 30)))),
             ((some 32), (none, (.len (.tmp 31)))),
             ((some 33), (none, (.bi .geq (.tmp 32) (.const (.int .i64 64))))),
             ((some 29), (none, (.mv (.tmp 33))))])
  (.cond (.tmp 29)
             (.seq (.reg [((some 34), (none, (.build [(.inl [(.int .i64 0)]), (.inl (List.replicate 32 (.int .u8 0))), (.inl [(deep [])])]))),
               (none, (none, (.st 34 (.tmp 4) (.tmp 34)))),
               ((some 5), (none, (.mv (.const (.int .i64 2)))))])
  .ret)
             .skip)))))))))))
  (concession_RegisterC_j1 t_api_Person f_slices_Clone_api_Person_api_Person)))
/-- macaroon/macaroonref26.Register: 54 slots, results [(.cA 4 34), (.t 5)] -/
def ref26_RegisterC_j1 (t_api_Person : Nat) : PC :=
  (.seq (.ord (.one ((some 45), (none, (.mks t_api_Person 2 true [])))
    (.one ((some 46), (none, (.fa 33 (.tmp 2))))
    (.one ((some 47), (none, (.ld false (.tmp 46))))
    (.one ((some 48), (none, (.app t_api_Person 2 24 45 (.tmp 47))))
    (.one ((some 49), (none, (.ldA 2 (.tmp 3))))
    (.one ((some 50), (none, (.mks t_api_Person 2 false [(.tmp 49)])))
    (.one ((some 51), (none, (.app t_api_Person 2 24 48 (.tmp 50))))
    (.one ((some 52), (none, (.fa 33 (.tmp 2))))
    (.one (none, (none, (.sts (.tmp 52) 51)))
    .done))))))))))
  (.seq (.reg [((some 53), (none, (.ldA 34 (.tmp 2)))),
    (none, (none, (.st 34 (.tmp 4) (.tmp 53)))),
    ((some 5), (none, (.mv (.const (.int .i64 0)))))])
  .ret))
def ref26_RegisterC (t_api_Person : Nat) (f_ref10_Find : Nat) (f_ref26_ConcessionOk : Nat) (f_ref01_Name : Nat) : PC :=
  (.seq (.reg [((some 2), (none, (.box 34 (.tmp 0)))),
    ((some 3), (none, (.box 2 (.tmp 1)))),
    ((some 4), (none, (.alloc [(.int .i64 0), (.int .u8 0), (.int .u8 0), (.int .u8 0), (.int .u8 0), (.int .u8 0), (.int .u8 0), (.int .u8 0), (.int .u8 0), (.int .u8 0), (.int .u8 0), (.int .u8 0), (.int .u8 0), (.int .u8 0), (.int .u8 0), (.int .u8 0), (.int .u8 0), (.int .u8 0), (.int .u8 0), (.int .u8 0), (.int .u8 0), (.int .u8 0), (.int .u8 0), (.int .u8 0), (.int .u8 0), (.int .u8 0), (.int .u8 0), (.int .u8 0), (.int .u8 0), (.int .u8 0), (.int .u8 0), (.int .u8 0), (.int .u8 0), (lin t_api_Person [])]))),
    ((some 5), (none, (.mv (.const (.int .i64 0)))))])
  (.seq (.reg [((some 9), (none, (.ldA 34 (.tmp 2)))),
    ((some 10), (none, (.fa 0 (.tmp 3)))),
    ((some 11), (none, (.ld false (.tmp 10)))),
    ((some 12), (none, (.call f_ref10_Find [(.tmp 9), (.tmp 11)]))),
    ((some 8), (none, (.steal 12))),
    ((some 13), (none, (.extr 8 0))),
    ((some 14), (none, (.extr 8 1))),
    ((some 6), (none, (.alloc [(.string ⟨#[]⟩), (.int .i64 0)]))),
    (none, (none, (.st 2 (.tmp 6) (.tmp 13)))),
    ((some 7), (none, (.mv (.tmp 14))))])
  (.seq (.block 0 (.seq (.reg [((some 16), (none, (.ldA 34 (.tmp 2)))),
     ((some 17), (none, (.call f_ref26_ConcessionOk [(.tmp 16)]))),
     ((some 18), (none, (.un .not (.tmp 17)))),
     ((some 15), (none, (.mv (.tmp 18))))])
  (.cond (.tmp 15)
     (.seq (.reg [((some 19), (none, (.build [(.inl [(.int .i64 0)]), (.inl (List.replicate 32 (.int .u8 0))), (.inl [(deep [])])]))),
       (none, (none, (.st 34 (.tmp 4) (.tmp 19)))),
       ((some 5), (none, (.mv (.const (.int .i64 5)))))])
  .ret)
     (.seq (.reg [((some 21), (none, (.fa 0 (.tmp 3)))),
       ((some 22), (none, (.ld false (.tmp 21)))),
       ((some 23), (none, (.call f_ref01_Name [(.tmp 22)]))),
       ((some 24), (none, (.un .not (.tmp 23)))),
       ((some 20), (none, (.mv (.tmp 24))))])
  (.cond (.tmp 20)
       (.seq (.reg [((some 25), (none, (.build [(.inl [(.int .i64 0)]), (.inl (List.replicate 32 (.int .u8 0))), (.inl [(deep [])])]))),
         (none, (none, (.st 34 (.tmp 4) (.tmp 25)))),
         ((some 5), (none, (.mv (.const (.int .i64 7)))))])
  .ret)
       (.seq (.reg [((some 27), (none, (.fa 1 (.tmp 3)))),
         ((some 28), (none, (.ld false (.tmp 27)))),
         ((some 29), (none, (.bi .lss (.tmp 28) (.const (.int .i64 (-67108864)))))),
         ((some 30), (none, (.mv (.tmp 29)))),
         ((some 31), ((some (30, false)), (.fa 1 (.tmp 3)))),
         ((some 32), ((some (30, false)), (.ld false (.tmp 31)))),
         ((some 33), ((some (30, false)), (.bi .gtr (.tmp 32) (.const (.int .i64 67108864))))),
         ((some 34), (none, (.pick (.tmp 30) (.const (.bool true)) (.tmp 33)))),
         ((some 26), (none, (.mv (.tmp 34))))])
  (.cond (.tmp 26)
         (.seq (.reg [((some 35), (none, (.build [(.inl [(.int .i64 0)]), (.inl (List.replicate 32 (.int .u8 0))), (.inl [(deep [])])]))),
           (none, (none, (.st 34 (.tmp 4) (.tmp 35)))),
           ((some 5), (none, (.mv (.const (.int .i64 1)))))])
  .ret)
         (.seq (.reg [((some 37), (none, (.mv (.tmp 7)))),
           ((some 36), (none, (.mv (.tmp 37))))])
  (.cond (.tmp 36)
           (.seq (.reg [((some 38), (none, (.build [(.inl [(.int .i64 0)]), (.inl (List.replicate 32 (.int .u8 0))), (.inl [(deep [])])]))),
             (none, (none, (.st 34 (.tmp 4) (.tmp 38)))),
             ((some 5), (none, (.mv (.const (.int .i64 10)))))])
  .ret)
           (.seq (.reg [((some 40), (none, (.fa 33 (.tmp 2)))),
             ((some 41), (none, (.ld false (.tmp 40)))),
             ((some 42), (none, (.len (.tmp 41)))),
             ((some 43), (none, (.bi .geq (.tmp 42) (.const (.int .i64 64))))),
             ((some 39), (none, (.mv (.tmp 43))))])
  (.cond (.tmp 39)
             (.seq (.reg [((some 44), (none, (.build [(.inl [(.int .i64 0)]), (.inl (List.replicate 32 (.int .u8 0))), (.inl [(deep [])])]))),
               (none, (none, (.st 34 (.tmp 4) (.tmp 44)))),
               ((some 5), (none, (.mv (.const (.int .i64 2)))))])
  .ret)
             .skip)))))))))))
  (ref26_RegisterC_j1 t_api_Person))))
/-- macaroon/concession.Valid: 62 slots, results [(.t 2)] -/
def concession_ValidC_j1 : PC :=
  (.seq (.block 1 (.seq (.reg [((some 28), (none, (.ixS 2 (.tmp 24) (.tmp 26)))),
       ((some 29), (none, (.ldA 2 (.tmp 28)))),
       ((some 5), (none, (.alloc [(.string ⟨#[]⟩), (.int .i64 0)]))),
       (none, (none, (.st 2 (.tmp 5) (.tmp 29))))])
  (.reg [((some 30), (none, (.mv (.tmp 3)))),
       ((some 31), (none, (.fa 0 (.tmp 5)))),
       ((some 32), (none, (.ld false (.tmp 31)))),
       (none, (none, (.mset 62 (.tmp 30) (.tmp 32) (.const (.bool true)))))])))
  (.reg [((some 33), (none, (.bi .add (.tmp 26) (.const (.int .i64 1))))),
      ((some 26), (none, (.mv (.tmp 33))))]))
def concession_ValidC_j2 (f_concession_name : Nat) (f_concession_born : Nat) : PC :=
  (.seq (.block 3 (.seq (.reg [((some 39), (none, (.ixS 2 (.tmp 35) (.tmp 37)))),
       ((some 40), (none, (.ldA 2 (.tmp 39)))),
       ((some 7), (none, (.alloc [(.string ⟨#[]⟩), (.int .i64 0)]))),
       (none, (none, (.st 2 (.tmp 7) (.tmp 40))))])
  (.seq (.seq (.reg [((some 41), (none, (.fa 0 (.tmp 7)))),
       ((some 42), (none, (.ld false (.tmp 41)))),
       ((some 43), (none, (.call f_concession_name [(.tmp 42)]))),
       ((some 44), (none, (.un .not (.tmp 43)))),
       ((some 45), (none, (.mv (.tmp 44)))),
       ((some 46), ((some (45, false)), (.fa 1 (.tmp 7)))),
       ((some 47), ((some (45, false)), (.ld false (.tmp 46)))),
       ((some 48), ((some (45, false)), (.call f_concession_born [(.tmp 47)]))),
       ((some 49), ((some (45, false)), (.un .not (.tmp 48)))),
       ((some 50), (none, (.pick (.tmp 45) (.const (.bool true)) (.tmp 49)))),
       ((some 51), (none, (.mv (.tmp 50)))),
       ((some 52), ((some (51, false)), (.mv (.tmp 3)))),
       ((some 53), ((some (51, false)), (.fa 0 (.tmp 7)))),
       ((some 54), ((some (51, false)), (.ld false (.tmp 53)))),
       ((some 55), ((some (51, false)), (.mget 62 (.tmp 52) (.tmp 54)))),
       ((some 56), ((some (51, false)), (.un .not (.tmp 55)))),
       ((some 57), (none, (.pick (.tmp 51) (.const (.bool true)) (.tmp 56))))])
  (.cond (.tmp 57)
       (.seq (.reg [((some 2), (none, (.mv (.const (.bool false)))))])
  .ret)
       .skip))
  (.reg [((some 58), (none, (.mv (.tmp 3)))),
       ((some 59), (none, (.fa 0 (.tmp 7)))),
       ((some 60), (none, (.ld false (.tmp 59)))),
       (none, (none, (.mdel 62 (.tmp 58) (.tmp 60))))]))))
  (.reg [((some 61), (none, (.bi .add (.tmp 37) (.const (.int .i64 1))))),
      ((some 37), (none, (.mv (.tmp 61))))]))
def concession_ValidC_j3 (f_concession_name : Nat) (f_concession_born : Nat) : PC :=
  (.seq (.seq (.reg [((some 34), (none, (.fa 33 (.tmp 1)))),
    ((some 35), (none, (.ld false (.tmp 34)))),
    ((some 36), (none, (.len (.tmp 35)))),
    ((some 37), (none, (.mv (.const (.int .i64 0)))))])
  (.block 2 (.loop (.seq (.reg [((some 38), (none, (.bi .lss (.tmp 37) (.tmp 36))))])
  (.seq (.cond (.tmp 38)
      .skip
      (.exit 2))
  (concession_ValidC_j2 f_concession_name f_concession_born))))))
  (.seq (.reg [((some 2), (none, (.mv (.const (.bool true)))))])
  .ret))
def concession_ValidC_j4 (f_concession_name : Nat) (f_concession_born : Nat) : PC :=
  (.seq (.reg [((some 22), (none, (.mkM 62))),
    ((some 3), (none, (.mv (.tmp 22))))])
  (.seq (.seq (.reg [((some 23), (none, (.fa 33 (.tmp 1)))),
    ((some 24), (none, (.ld false (.tmp 23)))),
    ((some 25), (none, (.len (.tmp 24)))),
    ((some 26), (none, (.mv (.const (.int .i64 0)))))])
  (.block 0 (.loop (.seq (.reg [((some 27), (none, (.bi .lss (.tmp 26) (.tmp 25))))])
  (.seq (.cond (.tmp 27)
      .skip
      (.exit 0))
  concession_ValidC_j1)))))
  (concession_ValidC_j3 f_concession_name f_concession_born)))
def concession_ValidC (f_concession_name : Nat) (f_concession_born : Nat) : PC :=
  (.seq (.reg [((some 1), (none, (.box 34 (.tmp 0)))),
    ((some 2), (none, (.mv (.const (.bool false)))))])
  (.seq (.seq (.reg [((some 8), (none, (.fa 0 (.tmp 1)))),
    ((some 9), (none, (.ld false (.tmp 8)))),
    ((some 10), (none, (.bi .lss (.tmp 9) (.const (.int .i64 0))))),
    ((some 11), (none, (.mv (.tmp 10)))),
    ((some 12), ((some (11, false)), (.fa 0 (.tmp 1)))),
    ((some 13), ((some (11, false)), (.ld false (.tmp 12)))),
    ((some 14), ((some (11, false)), (.bi .gtr (.tmp 13) (.const (.int .i64 7))))),
    ((some 15), (none, (.pick (.tmp 11) (.const (.bool true)) (.tmp 14)))),
    ((some 16), (none, (.mv (.tmp 15)))),
    ((some 17), ((some (16, false)), (.fa 33 (.tmp 1)))),
    ((some 18), ((some (16, false)), (.ld false (.tmp 17)))),
    ((some 19), ((some (16, false)), (.len (.tmp 18)))),
    ((some 20), ((some (16, false)), (.bi .gtr (.tmp 19) (.const (.int .i64 64))))),
    ((some 21), (none, (.pick (.tmp 16) (.const (.bool true)) (.tmp 20))))])
  (.cond (.tmp 21)
    (.seq (.reg [((some 2), (none, (.mv (.const (.bool false)))))])
  .ret)
    .skip))
  (concession_ValidC_j4 f_concession_name f_concession_born)))
/-- macaroon/macaroonref26.ConcessionOk: 60 slots, results [(.t 2)] -/
def ref26_ConcessionOkC_j1 : PC :=
  (.seq (.block 3 (.seq (.drw [((some 51), (none, (.fa 33 (.tmp 1)))),
          ((some 52), (none, (.ld false (.tmp 51)))),
          ((some 53), (none, (.mv (.tmp 5)))),
          ((some 54), (none, (.ixS 2 (.tmp 52) (.tmp 53)))),
          ((some 55), (none, (.fa 0 (.tmp 54)))),
          ((some 56), (none, (.ld false (.tmp 55)))),
          ((some 57), (none, (.fa 0 (.tmp 4)))),
          ((some 58), (none, (.ld false (.tmp 57)))),
          ((some 59), (none, (.bi .eql (.tmp 56) (.tmp 58))))])
  (.cond (.tmp 59)
          (.seq (.reg [((some 2), (none, (.mv (.const (.bool false)))))])
  .ret)
          .skip)))
  (.reg [((some 49), (none, (.mv (.tmp 5)))),
         ((some 50), (none, (.bi .add (.tmp 49) (.const (.int .i64 1))))),
         ((some 5), (none, (.mv (.tmp 50))))]))
def ref26_ConcessionOkC_j2 : PC :=
  (.seq (.reg [((some 5), (none, (.mv (.const (.int .i64 0)))))])
  (.block 2 (.loop (.seq (.seq (.reg [((some 46), (none, (.mv (.tmp 5)))),
         ((some 47), (none, (.mv (.tmp 3)))),
         ((some 48), (none, (.bi .lss (.tmp 46) (.tmp 47))))])
  (.cond (.tmp 48)
         .skip
         (.exit 2)))
  ref26_ConcessionOkC_j1))))
def ref26_ConcessionOkC_j3 (f_ref01_Name : Nat) : PC :=
  (.seq (.block 1 (.seq (.reg [((some 27), (none, (.fa 33 (.tmp 1)))),
       ((some 28), (none, (.ld false (.tmp 27)))),
       ((some 29), (none, (.mv (.tmp 3)))),
       ((some 30), (none, (.ixS 2 (.tmp 28) (.tmp 29)))),
       ((some 31), (none, (.ldA 2 (.tmp 30)))),
       ((some 4), (none, (.alloc [(.string ⟨#[]⟩), (.int .i64 0)]))),
       (none, (none, (.st 2 (.tmp 4) (.tmp 31))))])
  (.seq (.seq (.reg [((some 32), (none, (.fa 0 (.tmp 4)))),
       ((some 33), (none, (.ld false (.tmp 32)))),
       ((some 34), (none, (.call f_ref01_Name [(.tmp 33)]))),
       ((some 35), (none, (.un .not (.tmp 34)))),
       ((some 36), (none, (.mv (.tmp 35)))),
       ((some 37), ((some (36, false)), (.fa 1 (.tmp 4)))),
       ((some 38), ((some (36, false)), (.ld false (.tmp 37)))),
       ((some 39), ((some (36, false)), (.bi .lss (.tmp 38) (.const (.int .i64 (-67108864)))))),
       ((some 40), (none, (.pick (.tmp 36) (.const (.bool true)) (.tmp 39)))),
       ((some 41), (none, (.mv (.tmp 40)))),
       ((some 42), ((some (41, false)), (.fa 1 (.tmp 4)))),
       ((some 43), ((some (41, false)), (.ld false (.tmp 42)))),
       ((some 44), ((some (41, false)), (.bi .gtr (.tmp 43) (.const (.int .i64 67108864))))),
       ((some 45), (none, (.pick (.tmp 41) (.const (.bool true)) (.tmp 44))))])
  (.cond (.tmp 45)
       (.seq (.reg [((some 2), (none, (.mv (.const (.bool false)))))])
  .ret)
       .skip))
  ref26_ConcessionOkC_j2)))
  (.reg [((some 25), (none, (.mv (.tmp 3)))),
      ((some 26), (none, (.bi .add (.tmp 25) (.const (.int .i64 1))))),
      ((some 3), (none, (.mv (.tmp 26))))]))
def ref26_ConcessionOkC_j4 (f_ref01_Name : Nat) : PC :=
  (.seq (.seq (.reg [((some 3), (none, (.mv (.const (.int .i64 0)))))])
  (.block 0 (.loop (.seq (.seq (.reg [((some 20), (none, (.mv (.tmp 3)))),
      ((some 21), (none, (.fa 33 (.tmp 1)))),
      ((some 22), (none, (.ld false (.tmp 21)))),
      ((some 23), (none, (.len (.tmp 22)))),
      ((some 24), (none, (.bi .lss (.tmp 20) (.tmp 23))))])
  (.cond (.tmp 24)
      .skip
      (.exit 0)))
  (ref26_ConcessionOkC_j3 f_ref01_Name)))))
  (.seq (.reg [((some 2), (none, (.mv (.const (.bool true)))))])
  .ret))
def ref26_ConcessionOkC (f_ref01_Name : Nat) : PC :=
  (.seq (.reg [((some 1), (none, (.box 34 (.tmp 0)))),
    ((some 2), (none, (.mv (.const (.bool false)))))])
  (.seq (.seq (.reg [((some 6), (none, (.fa 0 (.tmp 1)))),
    ((some 7), (none, (.ld false (.tmp 6)))),
    ((some 8), (none, (.bi .lss (.tmp 7) (.const (.int .i64 0))))),
    ((some 9), (none, (.mv (.tmp 8)))),
    ((some 10), ((some (9, false)), (.fa 0 (.tmp 1)))),
    ((some 11), ((some (9, false)), (.ld false (.tmp 10)))),
    ((some 12), ((some (9, false)), (.bi .gtr (.tmp 11) (.const (.int .i64 7))))),
    ((some 13), (none, (.pick (.tmp 9) (.const (.bool true)) (.tmp 12)))),
    ((some 14), (none, (.mv (.tmp 13)))),
    ((some 15), ((some (14, false)), (.fa 33 (.tmp 1)))),
    ((some 16), ((some (14, false)), (.ld false (.tmp 15)))),
    ((some 17), ((some (14, false)), (.len (.tmp 16)))),
    ((some 18), ((some (14, false)), (.bi .gtr (.tmp 17) (.const (.int .i64 64))))),
    ((some 19), (none, (.pick (.tmp 14) (.const (.bool true)) (.tmp 18))))])
  (.cond (.tmp 19)
    (.seq (.reg [((some 2), (none, (.mv (.const (.bool false)))))])
  .ret)
    .skip))
  (ref26_ConcessionOkC_j4 f_ref01_Name)))
/-- macaroon/discharge.Find: 24 slots, results [(.cA 4 2), (.t 5)] -/
def discharge_FindC_j1 : PC :=
  (.seq (.block 1 (.seq (.reg [((some 13), (none, (.ixS 2 (.tmp 9) (.tmp 11)))),
       ((some 14), (none, (.ldA 2 (.tmp 13)))),
       ((some 7), (none, (.alloc [(.string ⟨#[]⟩), (.int .i64 0)]))),
       (none, (none, (.st 2 (.tmp 7) (.tmp 14))))])
  (.seq (.reg [((some 15), (none, (.ldA 2 (.tmp 7)))),
       ((some 16), (none, (.mv (.tmp 1)))),
       ((some 17), (none, (.fa 1 (.tmp 7)))),
       ((some 18), (none, (.ld false (.tmp 17)))),
       ((some 19), (none, (.build [(.inr ((.tmp 16), 1)), (.inr ((.tmp 18), 1))]))),
       ((some 20), (none, (.eqA false [.string, (.int .i64)] (.tmp 15) (.tmp 19))))])
  (.cond (.tmp 20)
       (.seq (.reg [((some 21), (none, (.ldA 2 (.tmp 7)))),
         (none, (none, (.st 2 (.tmp 4) (.tmp 21)))),
         ((some 5), (none, (.mv (.const (.bool true)))))])
  .ret)
       .skip))))
  (.reg [((some 22), (none, (.bi .add (.tmp 11) (.const (.int .i64 1))))),
      ((some 11), (none, (.mv (.tmp 22))))]))
def discharge_FindC : PC :=
  (.seq (.reg [((some 2), (none, (.box 34 (.tmp 0)))),
    ((some 4), (none, (.alloc [(.string ⟨#[]⟩), (.int .i64 0)]))),
    ((some 5), (none, (.mv (.const (.bool false)))))])
  (.seq (.seq (.reg [((some 8), (none, (.fa 33 (.tmp 2)))),
    ((some 9), (none, (.ld false (.tmp 8)))),
    ((some 10), (none, (.len (.tmp 9)))),
    ((some 11), (none, (.mv (.const (.int .i64 0)))))])
  (.block 0 (.loop (.seq (.reg [((some 12), (none, (.bi .lss (.tmp 11) (.tmp 10))))])
  (.seq (.cond (.tmp 12)
      .skip
      (.exit 0))
  discharge_FindC_j1)))))
  (.seq (.reg [((some 23), (none, (.build [(.inl [(.string ⟨#[]⟩)]), (.inl [(.int .i64 0)])]))),
    (none, (none, (.st 2 (.tmp 4) (.tmp 23)))),
    ((some 5), (none, (.mv (.const (.bool false)))))])
  .ret)))
/-- (*macaroon/macaroonmade.Deck).Persons: 34 slots, results [(.t 2)] -/
def made_Deck_PersonsC_j1 (t_api_Person : Nat) (f_made_Deck_Next : Nat) : PC :=
  (.seq (.block 1 (.ord (.one ((some 20), (none, (.steal 3)))
       (.one ((some 21), (none, (.mv (.tmp 4))))
       (.one ((some 22), (none, (.mv (.tmp 5))))
       (.one ((some 23), (none, (.ixS 1 (.tmp 21) (.tmp 22))))
       (.one ((some 25), (none, (.mv (.tmp 0))))
       (.alt (.one ((some 24), (none, (.ld false (.tmp 23))))
        (.one ((some 26), (none, (.call f_made_Deck_Next [(.tmp 25), (.const (.int .i64 100))])))
        (.one ((some 27), (none, (.un .neg (.tmp 26))))
        (.one ((some 28), (none, (.bi .mul (.tmp 27) (.const (.int .i64 365)))))
        (.one ((some 29), (none, (.bi .mul (.tmp 28) (.const (.int .i64 1440)))))
        (.one ((some 30), (none, (.build [(.inr ((.tmp 24), 1)), (.inr ((.tmp 29), 1))])))
        (.one ((some 31), (none, (.mks t_api_Person 2 false [(.tmp 30)])))
        (.one ((some 32), (none, (.app t_api_Person 2 24 20 (.tmp 31))))
        (.one ((some 3), (none, (.steal 32)))
        .done)))))))))
       (.one ((some 26), (none, (.call f_made_Deck_Next [(.tmp 25), (.const (.int .i64 100))])))
        (.one ((some 24), (none, (.ld false (.tmp 23))))
        (.one ((some 27), (none, (.un .neg (.tmp 26))))
        (.one ((some 28), (none, (.bi .mul (.tmp 27) (.const (.int .i64 365)))))
        (.one ((some 29), (none, (.bi .mul (.tmp 28) (.const (.int .i64 1440)))))
        (.one ((some 30), (none, (.build [(.inr ((.tmp 24), 1)), (.inr ((.tmp 29), 1))])))
        (.one ((some 31), (none, (.mks t_api_Person 2 false [(.tmp 30)])))
        (.one ((some 32), (none, (.app t_api_Person 2 24 20 (.tmp 31))))
        (.one ((some 3), (none, (.steal 32)))
        .done)))))))))))))))))
  (.reg [((some 18), (none, (.mv (.tmp 5)))),
      ((some 19), (none, (.bi .add (.tmp 18) (.const (.int .i64 1))))),
      ((some 5), (none, (.mv (.tmp 19))))]))
def made_Deck_PersonsC (t_api_Person : Nat) (t_string : Nat) (f_made_Deck_Next : Nat) : PC :=
  (.seq (.reg [((some 2), (none, (.cnil t_api_Person)))])
  (.seq (.reg [((some 3), (none, (.cnil t_api_Person)))])
  (.seq (.reg [((some 6), (none, (.mks t_string 1 true [(.const (.string ⟨#[97, 110, 110]⟩)), (.const (.string ⟨#[98, 111, 98]⟩)), (.const (.string ⟨#[99, 105, 100]⟩)), (.const (.string ⟨#[122, 111, 101]⟩)), (.const (.string ⟨#[97]⟩))]))),
    ((some 4), (none, (.steal 6)))])
  (.seq (.seq (.reg [((some 5), (none, (.mv (.const (.int .i64 0)))))])
  (.block 0 (.loop (.seq (.seq (.reg [((some 7), (none, (.mv (.tmp 5)))),
      ((some 8), (none, (.mv (.tmp 4)))),
      ((some 9), (none, (.len (.tmp 8)))),
      ((some 10), (none, (.bi .lss (.tmp 7) (.tmp 9)))),
      ((some 11), (none, (.mv (.tmp 10)))),
      ((some 12), ((some (11, true)), (.mv (.tmp 5)))),
      ((some 13), ((some (11, true)), (.mv (.tmp 0)))),
      ((some 14), ((some (11, true)), (.call f_made_Deck_Next [(.tmp 13), (.const (.int .i64 5))]))),
      ((some 15), ((some (11, true)), (.bi .add (.const (.int .i64 1)) (.tmp 14)))),
      ((some 16), ((some (11, true)), (.bi .lss (.tmp 12) (.tmp 15)))),
      ((some 17), (none, (.pick (.tmp 11) (.tmp 16) (.const (.bool false)))))])
  (.cond (.tmp 17)
      .skip
      (.exit 0)))
  (made_Deck_PersonsC_j1 t_api_Person f_made_Deck_Next)))))
  (.seq (.reg [((some 33), (none, (.steal 3))),
    ((some 2), (none, (.steal 33)))])
  .ret)))))
/-- macaroon/concession.name: 6 slots, results [(.t 2)] -/
def concession_nameC (f_predicate_Valid : Nat) : PC :=
  (.seq (.reg [((some 2), (none, (.mv (.const (.bool false)))))])
  (.seq (.reg [((some 3), (none, (.mv (.tmp 0)))),
    ((some 4), (none, (.build [(.inr ((.const (.int .i64 6)), 1)), (.inl [(.int .u64 0)]), (.inl [(.int .i64 0)]), (.inl [(.int .i64 0)]), (.inr ((.tmp 3), 1)), (.inl [(.int .i64 0)])]))),
    ((some 5), (none, (.call f_predicate_Valid [(.tmp 4)]))),
    ((some 2), (none, (.mv (.tmp 5))))])
  .ret))
/-- macaroon/concession.born: 9 slots, results [(.t 2)] -/
def concession_bornC : PC :=
  (.seq (.reg [((some 2), (none, (.mv (.const (.bool false)))))])
  (.seq (.reg [((some 3), (none, (.mv (.tmp 0)))),
    ((some 4), (none, (.bi .geq (.tmp 3) (.const (.int .i64 (-67108864)))))),
    ((some 5), (none, (.mv (.tmp 4)))),
    ((some 6), ((some (5, true)), (.mv (.tmp 0)))),
    ((some 7), ((some (5, true)), (.bi .leq (.tmp 6) (.const (.int .i64 67108864))))),
    ((some 8), (none, (.pick (.tmp 5) (.tmp 7) (.const (.bool false))))),
    ((some 2), (none, (.mv (.tmp 8))))])
  .ret))
/-- slices.ContainsFunc[[]macaroon/api.Person,macaroon/api.Person]: 9 slots, results [(.t 4)] -/
def slices_ContainsFunc_api_Person_api_PersonC (f_slices_IndexFunc_api_Person_api_Person : Nat) : PC :=
  (.seq (.reg [((some 4), (none, (.mv (.const (.bool false)))))])
  (.seq (.reg [((some 5), (none, (.mv (.tmp 0)))),
    ((some 6), (none, (.mv (.tmp 1)))),
    ((some 7), (none, (.call f_slices_IndexFunc_api_Person_api_Person [(.tmp 5), (.tmp 6)]))),
    ((some 8), (none, (.bi .geq (.tmp 7) (.const (.int .i64 0))))),
    ((some 4), (none, (.mv (.tmp 8))))])
  .ret))
/-- macaroon/concession.Register$1: 9 slots, results [(.t 3)] -/
def concession_Register_1C : PC :=
  (.seq (.reg [((some 2), (none, (.box 2 (.tmp 0)))),
    ((some 3), (none, (.mv (.const (.bool false)))))])
  (.seq (.reg [((some 4), (none, (.fa 0 (.tmp 2)))),
    ((some 5), (none, (.ld false (.tmp 4)))),
    ((some 6), (none, (.fa 0 (.tmp 1)))),
    ((some 7), (none, (.ld false (.tmp 6)))),
    ((some 8), (none, (.bi .eql (.tmp 5) (.tmp 7)))),
    ((some 3), (none, (.mv (.tmp 8))))])
  .ret))
/-- slices.Clone[[]macaroon/api.Person,macaroon/api.Person]: 8 slots, results [(.t 2)] -/
def slices_Clone_api_Person_api_PersonC (t_api_Person : Nat) : PC :=
  (.seq (.reg [((some 2), (none, (.cnil t_api_Person)))])
  (.seq (.seq (.reg [((some 3), (none, (.mv (.tmp 0)))),
    ((some 4), (none, (.nilS false (.tmp 3))))])
  (.cond (.tmp 4)
    (.seq (.reg [((some 2), (none, (.cnil t_api_Person)))])
  .ret)
    .skip))
  (.seq (.reg [((some 5), (none, (.mks t_api_Person 2 true []))),
    ((some 6), (none, (.mv (.tmp 0)))),
    ((some 7), (none, (.app t_api_Person 2 24 5 (.tmp 6)))),
    ((some 2), (none, (.steal 7)))])
  .ret)))
/-- macaroon/macaroonref10.Find: 28 slots, results [(.cA 4 2), (.t 5)] -/
def ref10_FindC_j1 : PC :=
  (.seq (.block 1 (.seq (.reg [((some 14), (none, (.fa 33 (.tmp 2)))),
       ((some 15), (none, (.ld false (.tmp 14)))),
       ((some 16), (none, (.mv (.tmp 6)))),
       ((some 17), (none, (.ixS 2 (.tmp 15) (.tmp 16)))),
       ((some 18), (none, (.fa 0 (.tmp 17)))),
       ((some 19), (none, (.ld false (.tmp 18)))),
       ((some 20), (none, (.mv (.tmp 1)))),
       ((some 21), (none, (.bi .eql (.tmp 19) (.tmp 20))))])
  (.cond (.tmp 21)
       (.seq (.reg [((some 22), (none, (.fa 33 (.tmp 2)))),
         ((some 23), (none, (.ld false (.tmp 22)))),
         ((some 24), (none, (.mv (.tmp 6)))),
         ((some 25), (none, (.ixS 2 (.tmp 23) (.tmp 24)))),
         ((some 26), (none, (.ldA 2 (.tmp 25)))),
         (none, (none, (.st 2 (.tmp 4) (.tmp 26)))),
         ((some 5), (none, (.mv (.const (.bool true)))))])
  .ret)
       .skip)))
  (.reg [((some 12), (none, (.mv (.tmp 6)))),
      ((some 13), (none, (.bi .add (.tmp 12) (.const (.int .i64 1))))),
      ((some 6), (none, (.mv (.tmp 13))))]))
def ref10_FindC : PC :=
  (.seq (.reg [((some 2), (none, (.box 34 (.tmp 0)))),
    ((some 4), (none, (.alloc [(.string ⟨#[]⟩), (.int .i64 0)]))),
    ((some 5), (none, (.mv (.const (.bool false)))))])
  (.seq (.seq (.reg [((some 6), (none, (.mv (.const (.int .i64 0)))))])
  (.block 0 (.loop (.seq (.seq (.reg [((some 7), (none, (.mv (.tmp 6)))),
      ((some 8), (none, (.fa 33 (.tmp 2)))),
      ((some 9), (none, (.ld false (.tmp 8)))),
      ((some 10), (none, (.len (.tmp 9)))),
      ((some 11), (none, (.bi .lss (.tmp 7) (.tmp 10))))])
  (.cond (.tmp 11)
      .skip
      (.exit 0)))
  ref10_FindC_j1))))
  (.seq (.reg [((some 27), (none, (.build [(.inl [(.string ⟨#[]⟩)]), (.inl [(.int .i64 0)])]))),
    (none, (none, (.st 2 (.tmp 4) (.tmp 27)))),
    ((some 5), (none, (.mv (.const (.bool false)))))])
  .ret)))
/-- slices.IndexFunc[[]macaroon/api.Person,macaroon/api.Person]: 19 slots, results [(.t 4)] -/
def slices_IndexFunc_api_Person_api_PersonC_j1 : PC :=
  (.seq (.block 1 (.seq (.reg [((some 10), (none, (.mv (.tmp 8)))),
       ((some 5), (none, (.mv (.tmp 10))))])
  (.seq (.reg [((some 11), (none, (.mv (.tmp 1)))),
       ((some 12), (none, (.mv (.tmp 0)))),
       ((some 13), (none, (.mv (.tmp 5)))),
       ((some 14), (none, (.ixS 2 (.tmp 12) (.tmp 13)))),
       ((some 15), (none, (.ldA 2 (.tmp 14)))),
       ((some 16), (none, (.callv (.tmp 11) [(.tmp 15)])))])
  (.cond (.tmp 16)
       (.seq (.reg [((some 17), (none, (.mv (.tmp 5)))),
         ((some 4), (none, (.mv (.tmp 17))))])
  .ret)
       .skip))))
  (.reg [((some 18), (none, (.bi .add (.tmp 8) (.const (.int .i64 1))))),
      ((some 8), (none, (.mv (.tmp 18))))]))
def slices_IndexFunc_api_Person_api_PersonC : PC :=
  (.seq (.reg [((some 4), (none, (.mv (.const (.int .i64 0)))))])
  (.seq (.seq (.reg [((some 6), (none, (.mv (.tmp 0)))),
    ((some 7), (none, (.len (.tmp 6)))),
    ((some 8), (none, (.mv (.const (.int .i64 0)))))])
  (.block 0 (.loop (.seq (.reg [((some 9), (none, (.bi .lss (.tmp 8) (.tmp 7))))])
  (.seq (.cond (.tmp 9)
      .skip
      (.exit 0))
  slices_IndexFunc_api_Person_api_PersonC_j1)))))
  (.seq (.reg [((some 4), (none, (.mv (.const (.int .i64 (-1))))))])
  .ret)))
end Go.PE
namespace Go.PE
open Go
/-- macaroon/macaroonlaw27.ConcessionSteps: 180 slots, results [(.t 12)] -/
def law27_ConcessionStepsC_j1 (t_api_Person : Nat) (t_uint8 : Nat) : PC :=
  (.seq (.block 1 (.ord (.one ((some 102), (none, (.mks t_api_Person 2 true [])))
       (.one ((some 103), (none, (.fa 33 (.tmp 20))))
       (.one ((some 104), (none, (.ld false (.tmp 103))))
       (.one ((some 105), (none, (.app t_api_Person 2 24 102 (.tmp 104))))
       (.one ((some 106), (none, (.mv (.tmp 21))))
       (.one ((some 107), (none, (.bi .quo (.tmp 106) (.const (.int .i64 8)))))
       (.one ((some 108), (none, (.bi .add (.const (.int .i64 97)) (.tmp 107))))
       (.one ((some 109), (none, (.cv .u8 (.tmp 108))))
       (.one ((some 110), (none, (.mv (.tmp 21))))
       (.one ((some 111), (none, (.bi .rem (.tmp 110) (.const (.int .i64 8)))))
       (.one ((some 112), (none, (.bi .add (.const (.int .i64 97)) (.tmp 111))))
       (.one ((some 113), (none, (.cv .u8 (.tmp 112))))
       (.one ((some 114), (none, (.mks t_uint8 1 false [(.tmp 109), (.tmp 113)])))
       (.one ((some 115), (none, (.b2s (.tmp 114))))
       (.one ((some 116), (none, (.bi .add (.const (.string ⟨#[113]⟩)) (.tmp 115))))
       (.one ((some 117), (none, (.build [(.inr ((.tmp 116), 1)), (.inl [(.int .i64 0)])])))
       (.one ((some 118), (none, (.mks t_api_Person 2 false [(.tmp 117)])))
       (.one ((some 119), (none, (.app t_api_Person 2 24 105 (.tmp 118))))
       (.one ((some 120), (none, (.fa 33 (.tmp 20))))
       (.one (none, (none, (.sts (.tmp 120) 119)))
       .done))))))))))))))))))))))
  (.reg [((some 100), (none, (.mv (.tmp 21)))),
      ((some 101), (none, (.bi .add (.tmp 100) (.const (.int .i64 1))))),
      ((some 21), (none, (.mv (.tmp 101))))]))
def law27_ConcessionStepsC_j2 (t_api_Person : Nat) (f_ref26_SameConcession : Nat) (f_concession_Register : Nat) (f_ref26_Register : Nat) (f_concession_Valid : Nat) (f_ref26_ConcessionOk : Nat) : PC :=
  (.seq (.block 5 (.seq (.reg [((some 147), (none, (.ixS 2 (.tmp 143) (.tmp 145)))),
          ((some 148), (none, (.ldA 2 (.tmp 147)))),
          ((some 25), (none, (.alloc [(.string ⟨#[]⟩), (.int .i64 0)]))),
          (none, (none, (.st 2 (.tmp 25) (.tmp 148))))])
  (.seq (.reg [((some 150), (none, (.ldA 34 (.tmp 23)))),
          ((some 151), (none, (.ldA 2 (.tmp 25)))),
          ((some 152), (none, (.call f_concession_Register [(.tmp 150), (.tmp 151)]))),
          ((some 149), (none, (.steal 152))),
          ((some 153), (none, (.extr 149 0))),
          ((some 154), (none, (.extr 149 1))),
          ((some 26), (none, (.alloc [(.int .i64 0), (.int .u8 0), (.int .u8 0), (.int .u8 0), (.int .u8 0), (.int .u8 0), (.int .u8 0), (.int .u8 0), (.int .u8 0), (.int .u8 0), (.int .u8 0), (.int .u8 0), (.int .u8 0), (.int .u8 0), (.int .u8 0), (.int .u8 0), (.int .u8 0), (.int .u8 0), (.int .u8 0), (.int .u8 0), (.int .u8 0), (.int .u8 0), (.int .u8 0), (.int .u8 0), (.int .u8 0), (.int .u8 0), (.int .u8 0), (.int .u8 0), (.int .u8 0), (.int .u8 0), (.int .u8 0), (.int .u8 0), (.int .u8 0), (lin t_api_Person [])]))),
          (none, (none, (.st 34 (.tmp 26) (.tmp 153)))),
          ((some 27), (none, (.mv (.tmp 154))))])
  (.seq (.reg [((some 156), (none, (.ldA 34 (.tmp 23)))),
          ((some 157), (none, (.ldA 2 (.tmp 25)))),
          ((some 158), (none, (.call f_ref26_Register [(.tmp 156), (.tmp 157)]))),
          ((some 155), (none, (.steal 158))),
          ((some 159), (none, (.extr 155 0))),
          ((some 160), (none, (.extr 155 1))),
          ((some 28), (none, (.alloc [(.int .i64 0), (.int .u8 0), (.int .u8 0), (.int .u8 0), (.int .u8 0), (.int .u8 0), (.int .u8 0), (.int .u8 0), (.int .u8 0), (.int .u8 0), (.int .u8 0), (.int .u8 0), (.int .u8 0), (.int .u8 0), (.int .u8 0), (.int .u8 0), (.int .u8 0), (.int .u8 0), (.int .u8 0), (.int .u8 0), (.int .u8 0), (.int .u8 0), (.int .u8 0), (.int .u8 0), (.int .u8 0), (.int .u8 0), (.int .u8 0), (.int .u8 0), (.int .u8 0), (.int .u8 0), (.int .u8 0), (.int .u8 0), (.int .u8 0), (lin t_api_Person [])]))),
          (none, (none, (.st 34 (.tmp 28) (.tmp 159)))),
          ((some 29), (none, (.mv (.tmp 160))))])
  (.seq (.drw [((some 161), (none, (.ldA 34 (.tmp 26)))),
          ((some 162), (none, (.ldA 34 (.tmp 28)))),
          ((some 163), (none, (.call f_ref26_SameConcession [(.tmp 161), (.tmp 162)]))),
          ((some 164), (none, (.un .not (.tmp 163)))),
          ((some 165), (none, (.mv (.tmp 164)))),
          ((some 166), ((some (165, false)), (.mv (.tmp 27)))),
          ((some 167), ((some (165, false)), (.mv (.tmp 29)))),
          ((some 168), ((some (165, false)), (.bi .neq (.tmp 166) (.tmp 167)))),
          ((some 169), (none, (.pick (.tmp 165) (.const (.bool true)) (.tmp 168)))),
          ((some 170), (none, (.mv (.tmp 169)))),
          ((some 171), ((some (170, false)), (.ldA 34 (.tmp 23)))),
          ((some 172), ((some (170, false)), (.call f_concession_Valid [(.tmp 171)]))),
          ((some 173), ((some (170, false)), (.ldA 34 (.tmp 23)))),
          ((some 174), ((some (170, false)), (.call f_ref26_ConcessionOk [(.tmp 173)]))),
          ((some 175), ((some (170, false)), (.bb true (.tmp 172) (.tmp 174)))),
          ((some 176), (none, (.pick (.tmp 170) (.const (.bool true)) (.tmp 175))))])
  (.cond (.tmp 176)
          (.seq (.reg [((some 12), (none, (.mv (.const (.bool false)))))])
  .ret)
          .skip))))))
  (.reg [((some 177), (none, (.bi .add (.tmp 145) (.const (.int .i64 1))))),
         ((some 145), (none, (.mv (.tmp 177))))]))
def law27_ConcessionStepsC_j3 (t_api_Person : Nat) (f_ref26_SameConcession : Nat) (f_made_Deck_Name : Nat) (f_made_Deck_Next : Nat) (f_concession_Register : Nat) (f_ref26_Register : Nat) (f_concession_Valid : Nat) (f_ref26_ConcessionOk : Nat) : PC :=
  (.seq (.block 3 (.seq (.reg [((some 128), (none, (.ixS 34 (.tmp 124) (.tmp 126)))),
       ((some 129), (none, (.ldA 34 (.tmp 128)))),
       ((some 23), (none, (.alloc [(.int .i64 0), (.int .u8 0), (.int .u8 0), (.int .u8 0), (.int .u8 0), (.int .u8 0), (.int .u8 0), (.int .u8 0), (.int .u8 0), (.int .u8 0), (.int .u8 0), (.int .u8 0), (.int .u8 0), (.int .u8 0), (.int .u8 0), (.int .u8 0), (.int .u8 0), (.int .u8 0), (.int .u8 0), (.int .u8 0), (.int .u8 0), (.int .u8 0), (.int .u8 0), (.int .u8 0), (.int .u8 0), (.int .u8 0), (.int .u8 0), (.int .u8 0), (.int .u8 0), (.int .u8 0), (.int .u8 0), (.int .u8 0), (.int .u8 0), (lin t_api_Person [])]))),
       (none, (none, (.st 34 (.tmp 23) (.tmp 129))))])
  (.seq (.ord (.one ((some 131), (none, (.mv (.tmp 13))))
       (.one ((some 133), (none, (.mv (.tmp 13))))
       (.one ((some 137), (none, (.fa 1 (.tmp 7))))
       (.one ((some 140), (none, (.fa 0 (.tmp 7))))
       (.one ((some 145), (none, (.mv (.const (.int .i64 0)))))
       (.alt (.one ((some 130), (none, (.ldA 2 (.tmp 7))))
        (.alt (.one ((some 132), (none, (.call f_made_Deck_Name [(.tmp 131)])))
         (.alt (.one ((some 134), (none, (.call f_made_Deck_Next [(.tmp 133), (.const (.int .i64 9))])))
          (.one ((some 135), (none, (.bi .sub (.tmp 134) (.const (.int .i64 4)))))
          (.one ((some 136), (none, (.build [(.inr ((.tmp 132), 1)), (.inr ((.tmp 135), 1))])))
          (.one ((some 138), (none, (.ld false (.tmp 137))))
          (.one ((some 139), (none, (.build [(.inr ((.const (.string ⟨#[110, 101, 119]⟩)), 1)), (.inr ((.tmp 138), 1))])))
          (.one ((some 141), (none, (.ld false (.tmp 140))))
          (.one ((some 142), (none, (.build [(.inr ((.tmp 141), 1)), (.inl [(.int .i64 0)])])))
          (.one ((some 143), (none, (.mks t_api_Person 2 false [(.tmp 130), (.tmp 136), (.tmp 139), (.tmp 142)])))
          (.one ((some 144), (none, (.len (.tmp 143))))
          .done)))))))))
         (.alt (.one ((some 138), (none, (.ld false (.tmp 137))))
           (.one ((some 139), (none, (.build [(.inr ((.const (.string ⟨#[110, 101, 119]⟩)), 1)), (.inr ((.tmp 138), 1))])))
           (.alt (.one ((some 134), (none, (.call f_made_Deck_Next [(.tmp 133), (.const (.int .i64 9))])))
            (.one ((some 135), (none, (.bi .sub (.tmp 134) (.const (.int .i64 4)))))
            (.one ((some 136), (none, (.build [(.inr ((.tmp 132), 1)), (.inr ((.tmp 135), 1))])))
            (.one ((some 141), (none, (.ld false (.tmp 140))))
            (.one ((some 142), (none, (.build [(.inr ((.tmp 141), 1)), (.inl [(.int .i64 0)])])))
            (.one ((some 143), (none, (.mks t_api_Person 2 false [(.tmp 130), (.tmp 136), (.tmp 139), (.tmp 142)])))
            (.one ((some 144), (none, (.len (.tmp 143))))
            .done)))))))
           (.one ((some 141), (none, (.ld false (.tmp 140))))
            (.one ((some 142), (none, (.build [(.inr ((.tmp 141), 1)), (.inl [(.int .i64 0)])])))
            (.one ((some 134), (none, (.call f_made_Deck_Next [(.tmp 133), (.const (.int .i64 9))])))
            (.one ((some 135), (none, (.bi .sub (.tmp 134) (.const (.int .i64 4)))))
            (.one ((some 136), (none, (.build [(.inr ((.tmp 132), 1)), (.inr ((.tmp 135), 1))])))
            (.one ((some 143), (none, (.mks t_api_Person 2 false [(.tmp 130), (.tmp 136), (.tmp 139), (.tmp 142)])))
            (.one ((some 144), (none, (.len (.tmp 143))))
            .done))))))))))
          (.one ((some 141), (none, (.ld false (.tmp 140))))
           (.one ((some 142), (none, (.build [(.inr ((.tmp 141), 1)), (.inl [(.int .i64 0)])])))
           (.alt (.one ((some 134), (none, (.call f_made_Deck_Next [(.tmp 133), (.const (.int .i64 9))])))
            (.one ((some 135), (none, (.bi .sub (.tmp 134) (.const (.int .i64 4)))))
            (.one ((some 136), (none, (.build [(.inr ((.tmp 132), 1)), (.inr ((.tmp 135), 1))])))
            (.one ((some 138), (none, (.ld false (.tmp 137))))
            (.one ((some 139), (none, (.build [(.inr ((.const (.string ⟨#[110, 101, 119]⟩)), 1)), (.inr ((.tmp 138), 1))])))
            (.one ((some 143), (none, (.mks t_api_Person 2 false [(.tmp 130), (.tmp 136), (.tmp 139), (.tmp 142)])))
            (.one ((some 144), (none, (.len (.tmp 143))))
            .done)))))))
           (.one ((some 138), (none, (.ld false (.tmp 137))))
            (.one ((some 139), (none, (.build [(.inr ((.const (.string ⟨#[110, 101, 119]⟩)), 1)), (.inr ((.tmp 138), 1))])))
            (.one ((some 134), (none, (.call f_made_Deck_Next [(.tmp 133), (.const (.int .i64 9))])))
            (.one ((some 135), (none, (.bi .sub (.tmp 134) (.const (.int .i64 4)))))
            (.one ((some 136), (none, (.build [(.inr ((.tmp 132), 1)), (.inr ((.tmp 135), 1))])))
            (.one ((some 143), (none, (.mks t_api_Person 2 false [(.tmp 130), (.tmp 136), (.tmp 139), (.tmp 142)])))
            (.one ((some 144), (none, (.len (.tmp 143))))
            .done)))))))))))))
        (.alt (.one ((some 138), (none, (.ld false (.tmp 137))))
          (.one ((some 139), (none, (.build [(.inr ((.const (.string ⟨#[110, 101, 119]⟩)), 1)), (.inr ((.tmp 138), 1))])))
          (.alt (.one ((some 132), (none, (.call f_made_Deck_Name [(.tmp 131)])))
           (.alt (.one ((some 134), (none, (.call f_made_Deck_Next [(.tmp 133), (.const (.int .i64 9))])))
            (.one ((some 135), (none, (.bi .sub (.tmp 134) (.const (.int .i64 4)))))
            (.one ((some 136), (none, (.build [(.inr ((.tmp 132), 1)), (.inr ((.tmp 135), 1))])))
            (.one ((some 141), (none, (.ld false (.tmp 140))))
            (.one ((some 142), (none, (.build [(.inr ((.tmp 141), 1)), (.inl [(.int .i64 0)])])))
            (.one ((some 143), (none, (.mks t_api_Person 2 false [(.tmp 130), (.tmp 136), (.tmp 139), (.tmp 142)])))
            (.one ((some 144), (none, (.len (.tmp 143))))
            .done)))))))
           (.one ((some 141), (none, (.ld false (.tmp 140))))
            (.one ((some 142), (none, (.build [(.inr ((.tmp 141), 1)), (.inl [(.int .i64 0)])])))
            (.one ((some 134), (none, (.call f_made_Deck_Next [(.tmp 133), (.const (.int .i64 9))])))
            (.one ((some 135), (none, (.bi .sub (.tmp 134) (.const (.int .i64 4)))))
            (.one ((some 136), (none, (.build [(.inr ((.tmp 132), 1)), (.inr ((.tmp 135), 1))])))
            (.one ((some 143), (none, (.mks t_api_Person 2 false [(.tmp 130), (.tmp 136), (.tmp 139), (.tmp 142)])))
            (.one ((some 144), (none, (.len (.tmp 143))))
            .done)))))))))
          (.one ((some 141), (none, (.ld false (.tmp 140))))
           (.one ((some 142), (none, (.build [(.inr ((.tmp 141), 1)), (.inl [(.int .i64 0)])])))
           (.one ((some 132), (none, (.call f_made_Deck_Name [(.tmp 131)])))
           (.one ((some 134), (none, (.call f_made_Deck_Next [(.tmp 133), (.const (.int .i64 9))])))
           (.one ((some 135), (none, (.bi .sub (.tmp 134) (.const (.int .i64 4)))))
           (.one ((some 136), (none, (.build [(.inr ((.tmp 132), 1)), (.inr ((.tmp 135), 1))])))
           (.one ((some 143), (none, (.mks t_api_Person 2 false [(.tmp 130), (.tmp 136), (.tmp 139), (.tmp 142)])))
           (.one ((some 144), (none, (.len (.tmp 143))))
           .done)))))))))))
         (.one ((some 141), (none, (.ld false (.tmp 140))))
          (.one ((some 142), (none, (.build [(.inr ((.tmp 141), 1)), (.inl [(.int .i64 0)])])))
          (.alt (.one ((some 132), (none, (.call f_made_Deck_Name [(.tmp 131)])))
           (.alt (.one ((some 134), (none, (.call f_made_Deck_Next [(.tmp 133), (.const (.int .i64 9))])))
            (.one ((some 135), (none, (.bi .sub (.tmp 134) (.const (.int .i64 4)))))
            (.one ((some 136), (none, (.build [(.inr ((.tmp 132), 1)), (.inr ((.tmp 135), 1))])))
            (.one ((some 138), (none, (.ld false (.tmp 137))))
            (.one ((some 139), (none, (.build [(.inr ((.const (.string ⟨#[110, 101, 119]⟩)), 1)), (.inr ((.tmp 138), 1))])))
            (.one ((some 143), (none, (.mks t_api_Person 2 false [(.tmp 130), (.tmp 136), (.tmp 139), (.tmp 142)])))
            (.one ((some 144), (none, (.len (.tmp 143))))
            .done)))))))
           (.one ((some 138), (none, (.ld false (.tmp 137))))
            (.one ((some 139), (none, (.build [(.inr ((.const (.string ⟨#[110, 101, 119]⟩)), 1)), (.inr ((.tmp 138), 1))])))
            (.one ((some 134), (none, (.call f_made_Deck_Next [(.tmp 133), (.const (.int .i64 9))])))
            (.one ((some 135), (none, (.bi .sub (.tmp 134) (.const (.int .i64 4)))))
            (.one ((some 136), (none, (.build [(.inr ((.tmp 132), 1)), (.inr ((.tmp 135), 1))])))
            (.one ((some 143), (none, (.mks t_api_Person 2 false [(.tmp 130), (.tmp 136), (.tmp 139), (.tmp 142)])))
            (.one ((some 144), (none, (.len (.tmp 143))))
            .done)))))))))
          (.one ((some 138), (none, (.ld false (.tmp 137))))
           (.one ((some 139), (none, (.build [(.inr ((.const (.string ⟨#[110, 101, 119]⟩)), 1)), (.inr ((.tmp 138), 1))])))
           (.one ((some 132), (none, (.call f_made_Deck_Name [(.tmp 131)])))
           (.one ((some 134), (none, (.call f_made_Deck_Next [(.tmp 133), (.const (.int .i64 9))])))
           (.one ((some 135), (none, (.bi .sub (.tmp 134) (.const (.int .i64 4)))))
           (.one ((some 136), (none, (.build [(.inr ((.tmp 132), 1)), (.inr ((.tmp 135), 1))])))
           (.one ((some 143), (none, (.mks t_api_Person 2 false [(.tmp 130), (.tmp 136), (.tmp 139), (.tmp 142)])))
           (.one ((some 144), (none, (.len (.tmp 143))))
           .done))))))))))))))
       (.alt (.one ((some 132), (none, (.call f_made_Deck_Name [(.tmp 131)])))
         (.alt (.one ((some 130), (none, (.ldA 2 (.tmp 7))))
          (.alt (.one ((some 134), (none, (.call f_made_Deck_Next [(.tmp 133), (.const (.int .i64 9))])))
           (.one ((some 135), (none, (.bi .sub (.tmp 134) (.const (.int .i64 4)))))
           (.one ((some 136), (none, (.build [(.inr ((.tmp 132), 1)), (.inr ((.tmp 135), 1))])))
           (.one ((some 138), (none, (.ld false (.tmp 137))))
           (.one ((some 139), (none, (.build [(.inr ((.const (.string ⟨#[110, 101, 119]⟩)), 1)), (.inr ((.tmp 138), 1))])))
           (.one ((some 141), (none, (.ld false (.tmp 140))))
           (.one ((some 142), (none, (.build [(.inr ((.tmp 141), 1)), (.inl [(.int .i64 0)])])))
           (.one ((some 143), (none, (.mks t_api_Person 2 false [(.tmp 130), (.tmp 136), (.tmp 139), (.tmp 142)])))
           (.one ((some 144), (none, (.len (.tmp 143))))
           .done)))))))))
          (.alt (.one ((some 138), (none, (.ld false (.tmp 137))))
            (.one ((some 139), (none, (.build [(.inr ((.const (.string ⟨#[110, 101, 119]⟩)), 1)), (.inr ((.tmp 138), 1))])))
            (.alt (.one ((some 134), (none, (.call f_made_Deck_Next [(.tmp 133), (.const (.int .i64 9))])))
             (.one ((some 135), (none, (.bi .sub (.tmp 134) (.const (.int .i64 4)))))
             (.one ((some 136), (none, (.build [(.inr ((.tmp 132), 1)), (.inr ((.tmp 135), 1))])))
             (.one ((some 141), (none, (.ld false (.tmp 140))))
             (.one ((some 142), (none, (.build [(.inr ((.tmp 141), 1)), (.inl [(.int .i64 0)])])))
             (.one ((some 143), (none, (.mks t_api_Person 2 false [(.tmp 130), (.tmp 136), (.tmp 139), (.tmp 142)])))
             (.one ((some 144), (none, (.len (.tmp 143))))
             .done)))))))
            (.one ((some 141), (none, (.ld false (.tmp 140))))
             (.one ((some 142), (none, (.build [(.inr ((.tmp 141), 1)), (.inl [(.int .i64 0)])])))
             (.one ((some 134), (none, (.call f_made_Deck_Next [(.tmp 133), (.const (.int .i64 9))])))
             (.one ((some 135), (none, (.bi .sub (.tmp 134) (.const (.int .i64 4)))))
             (.one ((some 136), (none, (.build [(.inr ((.tmp 132), 1)), (.inr ((.tmp 135), 1))])))
             (.one ((some 143), (none, (.mks t_api_Person 2 false [(.tmp 130), (.tmp 136), (.tmp 139), (.tmp 142)])))
             (.one ((some 144), (none, (.len (.tmp 143))))
             .done))))))))))
           (.one ((some 141), (none, (.ld false (.tmp 140))))
            (.one ((some 142), (none, (.build [(.inr ((.tmp 141), 1)), (.inl [(.int .i64 0)])])))
            (.alt (.one ((some 134), (none, (.call f_made_Deck_Next [(.tmp 133), (.const (.int .i64 9))])))
             (.one ((some 135), (none, (.bi .sub (.tmp 134) (.const (.int .i64 4)))))
             (.one ((some 136), (none, (.build [(.inr ((.tmp 132), 1)), (.inr ((.tmp 135), 1))])))
             (.one ((some 138), (none, (.ld false (.tmp 137))))
             (.one ((some 139), (none, (.build [(.inr ((.const (.string ⟨#[110, 101, 119]⟩)), 1)), (.inr ((.tmp 138), 1))])))
             (.one ((some 143), (none, (.mks t_api_Person 2 false [(.tmp 130), (.tmp 136), (.tmp 139), (.tmp 142)])))
             (.one ((some 144), (none, (.len (.tmp 143))))
             .done)))))))
            (.one ((some 138), (none, (.ld false (.tmp 137))))
             (.one ((some 139), (none, (.build [(.inr ((.const (.string ⟨#[110, 101, 119]⟩)), 1)), (.inr ((.tmp 138), 1))])))
             (.one ((some 134), (none, (.call f_made_Deck_Next [(.tmp 133), (.const (.int .i64 9))])))
             (.one ((some 135), (none, (.bi .sub (.tmp 134) (.const (.int .i64 4)))))
             (.one ((some 136), (none, (.build [(.inr ((.tmp 132), 1)), (.inr ((.tmp 135), 1))])))
             (.one ((some 143), (none, (.mks t_api_Person 2 false [(.tmp 130), (.tmp 136), (.tmp 139), (.tmp 142)])))
             (.one ((some 144), (none, (.len (.tmp 143))))
             .done)))))))))))))
         (.alt (.one ((some 134), (none, (.call f_made_Deck_Next [(.tmp 133), (.const (.int .i64 9))])))
           (.one ((some 130), (none, (.ldA 2 (.tmp 7))))
           (.one ((some 135), (none, (.bi .sub (.tmp 134) (.const (.int .i64 4)))))
           (.one ((some 136), (none, (.build [(.inr ((.tmp 132), 1)), (.inr ((.tmp 135), 1))])))
           (.one ((some 138), (none, (.ld false (.tmp 137))))
           (.one ((some 139), (none, (.build [(.inr ((.const (.string ⟨#[110, 101, 119]⟩)), 1)), (.inr ((.tmp 138), 1))])))
           (.one ((some 141), (none, (.ld false (.tmp 140))))
           (.one ((some 142), (none, (.build [(.inr ((.tmp 141), 1)), (.inl [(.int .i64 0)])])))
           (.one ((some 143), (none, (.mks t_api_Person 2 false [(.tmp 130), (.tmp 136), (.tmp 139), (.tmp 142)])))
           (.one ((some 144), (none, (.len (.tmp 143))))
           .done))))))))))
          (.alt (.one ((some 138), (none, (.ld false (.tmp 137))))
            (.one ((some 139), (none, (.build [(.inr ((.const (.string ⟨#[110, 101, 119]⟩)), 1)), (.inr ((.tmp 138), 1))])))
            (.alt (.one ((some 130), (none, (.ldA 2 (.tmp 7))))
             (.alt (.one ((some 134), (none, (.call f_made_Deck_Next [(.tmp 133), (.const (.int .i64 9))])))
              (.one ((some 135), (none, (.bi .sub (.tmp 134) (.const (.int .i64 4)))))
              (.one ((some 136), (none, (.build [(.inr ((.tmp 132), 1)), (.inr ((.tmp 135), 1))])))
              (.one ((some 141), (none, (.ld false (.tmp 140))))
              (.one ((some 142), (none, (.build [(.inr ((.tmp 141), 1)), (.inl [(.int .i64 0)])])))
              (.one ((some 143), (none, (.mks t_api_Person 2 false [(.tmp 130), (.tmp 136), (.tmp 139), (.tmp 142)])))
              (.one ((some 144), (none, (.len (.tmp 143))))
              .done)))))))
             (.one ((some 141), (none, (.ld false (.tmp 140))))
              (.one ((some 142), (none, (.build [(.inr ((.tmp 141), 1)), (.inl [(.int .i64 0)])])))
              (.one ((some 134), (none, (.call f_made_Deck_Next [(.tmp 133), (.const (.int .i64 9))])))
              (.one ((some 135), (none, (.bi .sub (.tmp 134) (.const (.int .i64 4)))))
              (.one ((some 136), (none, (.build [(.inr ((.tmp 132), 1)), (.inr ((.tmp 135), 1))])))
              (.one ((some 143), (none, (.mks t_api_Person 2 false [(.tmp 130), (.tmp 136), (.tmp 139), (.tmp 142)])))
              (.one ((some 144), (none, (.len (.tmp 143))))
              .done)))))))))
            (.alt (.one ((some 134), (none, (.call f_made_Deck_Next [(.tmp 133), (.const (.int .i64 9))])))
              (.one ((some 130), (none, (.ldA 2 (.tmp 7))))
              (.one ((some 135), (none, (.bi .sub (.tmp 134) (.const (.int .i64 4)))))
              (.one ((some 136), (none, (.build [(.inr ((.tmp 132), 1)), (.inr ((.tmp 135), 1))])))
              (.one ((some 141), (none, (.ld false (.tmp 140))))
              (.one ((some 142), (none, (.build [(.inr ((.tmp 141), 1)), (.inl [(.int .i64 0)])])))
              (.one ((some 143), (none, (.mks t_api_Person 2 false [(.tmp 130), (.tmp 136), (.tmp 139), (.tmp 142)])))
              (.one ((some 144), (none, (.len (.tmp 143))))
              .done))))))))
             (.one ((some 141), (none, (.ld false (.tmp 140))))
              (.one ((some 142), (none, (.build [(.inr ((.tmp 141), 1)), (.inl [(.int .i64 0)])])))
              (.alt (.one ((some 130), (none, (.ldA 2 (.tmp 7))))
               (.one ((some 134), (none, (.call f_made_Deck_Next [(.tmp 133), (.const (.int .i64 9))])))
               (.one ((some 135), (none, (.bi .sub (.tmp 134) (.const (.int .i64 4)))))
               (.one ((some 136), (none, (.build [(.inr ((.tmp 132), 1)), (.inr ((.tmp 135), 1))])))
               (.one ((some 143), (none, (.mks t_api_Person 2 false [(.tmp 130), (.tmp 136), (.tmp 139), (.tmp 142)])))
               (.one ((some 144), (none, (.len (.tmp 143))))
               .done))))))
              (.one ((some 134), (none, (.call f_made_Deck_Next [(.tmp 133), (.const (.int .i64 9))])))
               (.one ((some 130), (none, (.ldA 2 (.tmp 7))))
               (.one ((some 135), (none, (.bi .sub (.tmp 134) (.const (.int .i64 4)))))
               (.one ((some 136), (none, (.build [(.inr ((.tmp 132), 1)), (.inr ((.tmp 135), 1))])))
               (.one ((some 143), (none, (.mks t_api_Person 2 false [(.tmp 130), (.tmp 136), (.tmp 139), (.tmp 142)])))
               (.one ((some 144), (none, (.len (.tmp 143))))
               .done)))))))))))))
           (.one ((some 141), (none, (.ld false (.tmp 140))))
            (.one ((some 142), (none, (.build [(.inr ((.tmp 141), 1)), (.inl [(.int .i64 0)])])))
            (.alt (.one ((some 130), (none, (.ldA 2 (.tmp 7))))
             (.alt (.one ((some 134), (none, (.call f_made_Deck_Next [(.tmp 133), (.const (.int .i64 9))])))
              (.one ((some 135), (none, (.bi .sub (.tmp 134) (.const (.int .i64 4)))))
              (.one ((some 136), (none, (.build [(.inr ((.tmp 132), 1)), (.inr ((.tmp 135), 1))])))
              (.one ((some 138), (none, (.ld false (.tmp 137))))
              (.one ((some 139), (none, (.build [(.inr ((.const (.string ⟨#[110, 101, 119]⟩)), 1)), (.inr ((.tmp 138), 1))])))
              (.one ((some 143), (none, (.mks t_api_Person 2 false [(.tmp 130), (.tmp 136), (.tmp 139), (.tmp 142)])))
              (.one ((some 144), (none, (.len (.tmp 143))))
              .done)))))))
             (.one ((some 138), (none, (.ld false (.tmp 137))))
              (.one ((some 139), (none, (.build [(.inr ((.const (.string ⟨#[110, 101, 119]⟩)), 1)), (.inr ((.tmp 138), 1))])))
              (.one ((some 134), (none, (.call f_made_Deck_Next [(.tmp 133), (.const (.int .i64 9))])))
              (.one ((some 135), (none, (.bi .sub (.tmp 134) (.const (.int .i64 4)))))
              (.one ((some 136), (none, (.build [(.inr ((.tmp 132), 1)), (.inr ((.tmp 135), 1))])))
              (.one ((some 143), (none, (.mks t_api_Person 2 false [(.tmp 130), (.tmp 136), (.tmp 139), (.tmp 142)])))
              (.one ((some 144), (none, (.len (.tmp 143))))
              .done)))))))))
            (.alt (.one ((some 134), (none, (.call f_made_Deck_Next [(.tmp 133), (.const (.int .i64 9))])))
              (.one ((some 130), (none, (.ldA 2 (.tmp 7))))
              (.one ((some 135), (none, (.bi .sub (.tmp 134) (.const (.int .i64 4)))))
              (.one ((some 136), (none, (.build [(.inr ((.tmp 132), 1)), (.inr ((.tmp 135), 1))])))
              (.one ((some 138), (none, (.ld false (.tmp 137))))
              (.one ((some 139), (none, (.build [(.inr ((.const (.string ⟨#[110, 101, 119]⟩)), 1)), (.inr ((.tmp 138), 1))])))
              (.one ((some 143), (none, (.mks t_api_Person 2 false [(.tmp 130), (.tmp 136), (.tmp 139), (.tmp 142)])))
              (.one ((some 144), (none, (.len (.tmp 143))))
              .done))))))))
             (.one ((some 138), (none, (.ld false (.tmp 137))))
              (.one ((some 139), (none, (.build [(.inr ((.const (.string ⟨#[110, 101, 119]⟩)), 1)), (.inr ((.tmp 138), 1))])))
              (.alt (.one ((some 130), (none, (.ldA 2 (.tmp 7))))
               (.one ((some 134), (none, (.call f_made_Deck_Next [(.tmp 133), (.const (.int .i64 9))])))
               (.one ((some 135), (none, (.bi .sub (.tmp 134) (.const (.int .i64 4)))))
               (.one ((some 136), (none, (.build [(.inr ((.tmp 132), 1)), (.inr ((.tmp 135), 1))])))
               (.one ((some 143), (none, (.mks t_api_Person 2 false [(.tmp 130), (.tmp 136), (.tmp 139), (.tmp 142)])))
               (.one ((some 144), (none, (.len (.tmp 143))))
               .done))))))
              (.one ((some 134), (none, (.call f_made_Deck_Next [(.tmp 133), (.const (.int .i64 9))])))
               (.one ((some 130), (none, (.ldA 2 (.tmp 7))))
               (.one ((some 135), (none, (.bi .sub (.tmp 134) (.const (.int .i64 4)))))
               (.one ((some 136), (none, (.build [(.inr ((.tmp 132), 1)), (.inr ((.tmp 135), 1))])))
               (.one ((some 143), (none, (.mks t_api_Person 2 false [(.tmp 130), (.tmp 136), (.tmp 139), (.tmp 142)])))
               (.one ((some 144), (none, (.len (.tmp 143))))
               .done)))))))))))))))))
        (.alt (.one ((some 138), (none, (.ld false (.tmp 137))))
          (.one ((some 139), (none, (.build [(.inr ((.const (.string ⟨#[110, 101, 119]⟩)), 1)), (.inr ((.tmp 138), 1))])))
          (.alt (.one ((some 130), (none, (.ldA 2 (.tmp 7))))
           (.alt (.one ((some 132), (none, (.call f_made_Deck_Name [(.tmp 131)])))
            (.alt (.one ((some 134), (none, (.call f_made_Deck_Next [(.tmp 133), (.const (.int .i64 9))])))
             (.one ((some 135), (none, (.bi .sub (.tmp 134) (.const (.int .i64 4)))))
             (.one ((some 136), (none, (.build [(.inr ((.tmp 132), 1)), (.inr ((.tmp 135), 1))])))
             (.one ((some 141), (none, (.ld false (.tmp 140))))
             (.one ((some 142), (none, (.build [(.inr ((.tmp 141), 1)), (.inl [(.int .i64 0)])])))
             (.one ((some 143), (none, (.mks t_api_Person 2 false [(.tmp 130), (.tmp 136), (.tmp 139), (.tmp 142)])))
             (.one ((some 144), (none, (.len (.tmp 143))))
             .done)))))))
            (.one ((some 141), (none, (.ld false (.tmp 140))))
             (.one ((some 142), (none, (.build [(.inr ((.tmp 141), 1)), (.inl [(.int .i64 0)])])))
             (.one ((some 134), (none, (.call f_made_Deck_Next [(.tmp 133), (.const (.int .i64 9))])))
             (.one ((some 135), (none, (.bi .sub (.tmp 134) (.const (.int .i64 4)))))
             (.one ((some 136), (none, (.build [(.inr ((.tmp 132), 1)), (.inr ((.tmp 135), 1))])))
             (.one ((some 143), (none, (.mks t_api_Person 2 false [(.tmp 130), (.tmp 136), (.tmp 139), (.tmp 142)])))
             (.one ((some 144), (none, (.len (.tmp 143))))
             .done)))))))))
           (.one ((some 141), (none, (.ld false (.tmp 140))))
            (.one ((some 142), (none, (.build [(.inr ((.tmp 141), 1)), (.inl [(.int .i64 0)])])))
            (.one ((some 132), (none, (.call f_made_Deck_Name [(.tmp 131)])))
            (.one ((some 134), (none, (.call f_made_Deck_Next [(.tmp 133), (.const (.int .i64 9))])))
            (.one ((some 135), (none, (.bi .sub (.tmp 134) (.const (.int .i64 4)))))
            (.one ((some 136), (none, (.build [(.inr ((.tmp 132), 1)), (.inr ((.tmp 135), 1))])))
            (.one ((some 143), (none, (.mks t_api_Person 2 false [(.tmp 130), (.tmp 136), (.tmp 139), (.tmp 142)])))
            (.one ((some 144), (none, (.len (.tmp 143))))
            .done))))))))))
          (.alt (.one ((some 132), (none, (.call f_made_Deck_Name [(.tmp 131)])))
            (.alt (.one ((some 130), (none, (.ldA 2 (.tmp 7))))
             (.alt (.one ((some 134), (none, (.call f_made_Deck_Next [(.tmp 133), (.const (.int .i64 9))])))
              (.one ((some 135), (none, (.bi .sub (.tmp 134) (.const (.int .i64 4)))))
              (.one ((some 136), (none, (.build [(.inr ((.tmp 132), 1)), (.inr ((.tmp 135), 1))])))
              (.one ((some 141), (none, (.ld false (.tmp 140))))
              (.one ((some 142), (none, (.build [(.inr ((.tmp 141), 1)), (.inl [(.int .i64 0)])])))
              (.one ((some 143), (none, (.mks t_api_Person 2 false [(.tmp 130), (.tmp 136), (.tmp 139), (.tmp 142)])))
              (.one ((some 144), (none, (.len (.tmp 143))))
              .done)))))))
             (.one ((some 141), (none, (.ld false (.tmp 140))))
              (.one ((some 142), (none, (.build [(.inr ((.tmp 141), 1)), (.inl [(.int .i64 0)])])))
              (.one ((some 134), (none, (.call f_made_Deck_Next [(.tmp 133), (.const (.int .i64 9))])))
              (.one ((some 135), (none, (.bi .sub (.tmp 134) (.const (.int .i64 4)))))
              (.one ((some 136), (none, (.build [(.inr ((.tmp 132), 1)), (.inr ((.tmp 135), 1))])))
              (.one ((some 143), (none, (.mks t_api_Person 2 false [(.tmp 130), (.tmp 136), (.tmp 139), (.tmp 142)])))
              (.one ((some 144), (none, (.len (.tmp 143))))
              .done)))))))))
            (.alt (.one ((some 134), (none, (.call f_made_Deck_Next [(.tmp 133), (.const (.int .i64 9))])))
              (.one ((some 130), (none, (.ldA 2 (.tmp 7))))
              (.one ((some 135), (none, (.bi .sub (.tmp 134) (.const (.int .i64 4)))))
              (.one ((some 136), (none, (.build [(.inr ((.tmp 132), 1)), (.inr ((.tmp 135), 1))])))
              (.one ((some 141), (none, (.ld false (.tmp 140))))
              (.one ((some 142), (none, (.build [(.inr ((.tmp 141), 1)), (.inl [(.int .i64 0)])])))
              (.one ((some 143), (none, (.mks t_api_Person 2 false [(.tmp 130), (.tmp 136), (.tmp 139), (.tmp 142)])))
              (.one ((some 144), (none, (.len (.tmp 143))))
              .done))))))))
             (.one ((some 141), (none, (.ld false (.tmp 140))))
              (.one ((some 142), (none, (.build [(.inr ((.tmp 141), 1)), (.inl [(.int .i64 0)])])))
              (.alt (.one ((some 130), (none, (.ldA 2 (.tmp 7))))
               (.one ((some 134), (none, (.call f_made_Deck_Next [(.tmp 133), (.const (.int .i64 9))])))
               (.one ((some 135), (none, (.bi .sub (.tmp 134) (.const (.int .i64 4)))))
               (.one ((some 136), (none, (.build [(.inr ((.tmp 132), 1)), (.inr ((.tmp 135), 1))])))
               (.one ((some 143), (none, (.mks t_api_Person 2 false [(.tmp 130), (.tmp 136), (.tmp 139), (.tmp 142)])))
               (.one ((some 144), (none, (.len (.tmp 143))))
               .done))))))
              (.one ((some 134), (none, (.call f_made_Deck_Next [(.tmp 133), (.const (.int .i64 9))])))
               (.one ((some 130), (none, (.ldA 2 (.tmp 7))))
               (.one ((some 135), (none, (.bi .sub (.tmp 134) (.const (.int .i64 4)))))
               (.one ((some 136), (none, (.build [(.inr ((.tmp 132), 1)), (.inr ((.tmp 135), 1))])))
               (.one ((some 143), (none, (.mks t_api_Person 2 false [(.tmp 130), (.tmp 136), (.tmp 139), (.tmp 142)])))
               (.one ((some 144), (none, (.len (.tmp 143))))
               .done))))))))))))
           (.one ((some 141), (none, (.ld false (.tmp 140))))
            (.one ((some 142), (none, (.build [(.inr ((.tmp 141), 1)), (.inl [(.int .i64 0)])])))
            (.alt (.one ((some 130), (none, (.ldA 2 (.tmp 7))))
             (.one ((some 132), (none, (.call f_made_Deck_Name [(.tmp 131)])))
             (.one ((some 134), (none, (.call f_made_Deck_Next [(.tmp 133), (.const (.int .i64 9))])))
             (.one ((some 135), (none, (.bi .sub (.tmp 134) (.const (.int .i64 4)))))
             (.one ((some 136), (none, (.build [(.inr ((.tmp 132), 1)), (.inr ((.tmp 135), 1))])))
             (.one ((some 143), (none, (.mks t_api_Person 2 false [(.tmp 130), (.tmp 136), (.tmp 139), (.tmp 142)])))
             (.one ((some 144), (none, (.len (.tmp 143))))
             .done)))))))
            (.one ((some 132), (none, (.call f_made_Deck_Name [(.tmp 131)])))
             (.alt (.one ((some 130), (none, (.ldA 2 (.tmp 7))))
              (.one ((some 134), (none, (.call f_made_Deck_Next [(.tmp 133), (.const (.int .i64 9))])))
              (.one ((some 135), (none, (.bi .sub (.tmp 134) (.const (.int .i64 4)))))
              (.one ((some 136), (none, (.build [(.inr ((.tmp 132), 1)), (.inr ((.tmp 135), 1))])))
              (.one ((some 143), (none, (.mks t_api_Person 2 false [(.tmp 130), (.tmp 136), (.tmp 139), (.tmp 142)])))
              (.one ((some 144), (none, (.len (.tmp 143))))
              .done))))))
             (.one ((some 134), (none, (.call f_made_Deck_Next [(.tmp 133), (.const (.int .i64 9))])))
              (.one ((some 130), (none, (.ldA 2 (.tmp 7))))
              (.one ((some 135), (none, (.bi .sub (.tmp 134) (.const (.int .i64 4)))))
              (.one ((some 136), (none, (.build [(.inr ((.tmp 132), 1)), (.inr ((.tmp 135), 1))])))
              (.one ((some 143), (none, (.mks t_api_Person 2 false [(.tmp 130), (.tmp 136), (.tmp 139), (.tmp 142)])))
              (.one ((some 144), (none, (.len (.tmp 143))))
              .done)))))))))))))))
         (.one ((some 141), (none, (.ld false (.tmp 140))))
          (.one ((some 142), (none, (.build [(.inr ((.tmp 141), 1)), (.inl [(.int .i64 0)])])))
          (.alt (.one ((some 130), (none, (.ldA 2 (.tmp 7))))
           (.alt (.one ((some 132), (none, (.call f_made_Deck_Name [(.tmp 131)])))
            (.alt (.one ((some 134), (none, (.call f_made_Deck_Next [(.tmp 133), (.const (.int .i64 9))])))
             (.one ((some 135), (none, (.bi .sub (.tmp 134) (.const (.int .i64 4)))))
             (.one ((some 136), (none, (.build [(.inr ((.tmp 132), 1)), (.inr ((.tmp 135), 1))])))
             (.one ((some 138), (none, (.ld false (.tmp 137))))
             (.one ((some 139), (none, (.build [(.inr ((.const (.string ⟨#[110, 101, 119]⟩)), 1)), (.inr ((.tmp 138), 1))])))
             (.one ((some 143), (none, (.mks t_api_Person 2 false [(.tmp 130), (.tmp 136), (.tmp 139), (.tmp 142)])))
             (.one ((some 144), (none, (.len (.tmp 143))))
             .done)))))))
            (.one ((some 138), (none, (.ld false (.tmp 137))))
             (.one ((some 139), (none, (.build [(.inr ((.const (.string ⟨#[110, 101, 119]⟩)), 1)), (.inr ((.tmp 138), 1))])))
             (.one ((some 134), (none, (.call f_made_Deck_Next [(.tmp 133), (.const (.int .i64 9))])))
             (.one ((some 135), (none, (.bi .sub (.tmp 134) (.const (.int .i64 4)))))
             (.one ((some 136), (none, (.build [(.inr ((.tmp 132), 1)), (.inr ((.tmp 135), 1))])))
             (.one ((some 143), (none, (.mks t_api_Person 2 false [(.tmp 130), (.tmp 136), (.tmp 139), (.tmp 142)])))
             (.one ((some 144), (none, (.len (.tmp 143))))
             .done)))))))))
           (.one ((some 138), (none, (.ld false (.tmp 137))))
            (.one ((some 139), (none, (.build [(.inr ((.const (.string ⟨#[110, 101, 119]⟩)), 1)), (.inr ((.tmp 138), 1))])))
            (.one ((some 132), (none, (.call f_made_Deck_Name [(.tmp 131)])))
            (.one ((some 134), (none, (.call f_made_Deck_Next [(.tmp 133), (.const (.int .i64 9))])))
            (.one ((some 135), (none, (.bi .sub (.tmp 134) (.const (.int .i64 4)))))
            (.one ((some 136), (none, (.build [(.inr ((.tmp 132), 1)), (.inr ((.tmp 135), 1))])))
            (.one ((some 143), (none, (.mks t_api_Person 2 false [(.tmp 130), (.tmp 136), (.tmp 139), (.tmp 142)])))
            (.one ((some 144), (none, (.len (.tmp 143))))
            .done))))))))))
          (.alt (.one ((some 132), (none, (.call f_made_Deck_Name [(.tmp 131)])))
            (.alt (.one ((some 130), (none, (.ldA 2 (.tmp 7))))
             (.alt (.one ((some 134), (none, (.call f_made_Deck_Next [(.tmp 133), (.const (.int .i64 9))])))
              (.one ((some 135), (none, (.bi .sub (.tmp 134) (.const (.int .i64 4)))))
              (.one ((some 136), (none, (.build [(.inr ((.tmp 132), 1)), (.inr ((.tmp 135), 1))])))
              (.one ((some 138), (none, (.ld false (.tmp 137))))
              (.one ((some 139), (none, (.build [(.inr ((.const (.string ⟨#[110, 101, 119]⟩)), 1)), (.inr ((.tmp 138), 1))])))
              (.one ((some 143), (none, (.mks t_api_Person 2 false [(.tmp 130), (.tmp 136), (.tmp 139), (.tmp 142)])))
              (.one ((some 144), (none, (.len (.tmp 143))))
              .done)))))))
             (.one ((some 138), (none, (.ld false (.tmp 137))))
              (.one ((some 139), (none, (.build [(.inr ((.const (.string ⟨#[110, 101, 119]⟩)), 1)), (.inr ((.tmp 138), 1))])))
              (.one ((some 134), (none, (.call f_made_Deck_Next [(.tmp 133), (.const (.int .i64 9))])))
              (.one ((some 135), (none, (.bi .sub (.tmp 134) (.const (.int .i64 4)))))
              (.one ((some 136), (none, (.build [(.inr ((.tmp 132), 1)), (.inr ((.tmp 135), 1))])))
              (.one ((some 143), (none, (.mks t_api_Person 2 false [(.tmp 130), (.tmp 136), (.tmp 139), (.tmp 142)])))
              (.one ((some 144), (none, (.len (.tmp 143))))
              .done)))))))))
            (.alt (.one ((some 134), (none, (.call f_made_Deck_Next [(.tmp 133), (.const (.int .i64 9))])))
              (.one ((some 130), (none, (.ldA 2 (.tmp 7))))
              (.one ((some 135), (none, (.bi .sub (.tmp 134) (.const (.int .i64 4)))))
              (.one ((some 136), (none, (.build [(.inr ((.tmp 132), 1)), (.inr ((.tmp 135), 1))])))
              (.one ((some 138), (none, (.ld false (.tmp 137))))
              (.one ((some 139), (none, (.build [(.inr ((.const (.string ⟨#[110, 101, 119]⟩)), 1)), (.inr ((.tmp 138), 1))])))
              (.one ((some 143), (none, (.mks t_api_Person 2 false [(.tmp 130), (.tmp 136), (.tmp 139), (.tmp 142)])))
              (.one ((some 144), (none, (.len (.tmp 143))))
              .done))))))))
             (.one ((some 138), (none, (.ld false (.tmp 137))))
              (.one ((some 139), (none, (.build [(.inr ((.const (.string ⟨#[110, 101, 119]⟩)), 1)), (.inr ((.tmp 138), 1))])))
              (.alt (.one ((some 130), (none, (.ldA 2 (.tmp 7))))
               (.one ((some 134), (none, (.call f_made_Deck_Next [(.tmp 133), (.const (.int .i64 9))])))
               (.one ((some 135), (none, (.bi .sub (.tmp 134) (.const (.int .i64 4)))))
               (.one ((some 136), (none, (.build [(.inr ((.tmp 132), 1)), (.inr ((.tmp 135), 1))])))
               (.one ((some 143), (none, (.mks t_api_Person 2 false [(.tmp 130), (.tmp 136), (.tmp 139), (.tmp 142)])))
               (.one ((some 144), (none, (.len (.tmp 143))))
               .done))))))
              (.one ((some 134), (none, (.call f_made_Deck_Next [(.tmp 133), (.const (.int .i64 9))])))
               (.one ((some 130), (none, (.ldA 2 (.tmp 7))))
               (.one ((some 135), (none, (.bi .sub (.tmp 134) (.const (.int .i64 4)))))
               (.one ((some 136), (none, (.build [(.inr ((.tmp 132), 1)), (.inr ((.tmp 135), 1))])))
               (.one ((some 143), (none, (.mks t_api_Person 2 false [(.tmp 130), (.tmp 136), (.tmp 139), (.tmp 142)])))
               (.one ((some 144), (none, (.len (.tmp 143))))
               .done))))))))))))
           (.one ((some 138), (none, (.ld false (.tmp 137))))
            (.one ((some 139), (none, (.build [(.inr ((.const (.string ⟨#[110, 101, 119]⟩)), 1)), (.inr ((.tmp 138), 1))])))
            (.alt (.one ((some 130), (none, (.ldA 2 (.tmp 7))))
             (.one ((some 132), (none, (.call f_made_Deck_Name [(.tmp 131)])))
             (.one ((some 134), (none, (.call f_made_Deck_Next [(.tmp 133), (.const (.int .i64 9))])))
             (.one ((some 135), (none, (.bi .sub (.tmp 134) (.const (.int .i64 4)))))
             (.one ((some 136), (none, (.build [(.inr ((.tmp 132), 1)), (.inr ((.tmp 135), 1))])))
             (.one ((some 143), (none, (.mks t_api_Person 2 false [(.tmp 130), (.tmp 136), (.tmp 139), (.tmp 142)])))
             (.one ((some 144), (none, (.len (.tmp 143))))
             .done)))))))
            (.one ((some 132), (none, (.call f_made_Deck_Name [(.tmp 131)])))
             (.alt (.one ((some 130), (none, (.ldA 2 (.tmp 7))))
              (.one ((some 134), (none, (.call f_made_Deck_Next [(.tmp 133), (.const (.int .i64 9))])))
              (.one ((some 135), (none, (.bi .sub (.tmp 134) (.const (.int .i64 4)))))
              (.one ((some 136), (none, (.build [(.inr ((.tmp 132), 1)), (.inr ((.tmp 135), 1))])))
              (.one ((some 143), (none, (.mks t_api_Person 2 false [(.tmp 130), (.tmp 136), (.tmp 139), (.tmp 142)])))
              (.one ((some 144), (none, (.len (.tmp 143))))
              .done))))))
             (.one ((some 134), (none, (.call f_made_Deck_Next [(.tmp 133), (.const (.int .i64 9))])))
              (.one ((some 130), (none, (.ldA 2 (.tmp 7))))
              (.one ((some 135), (none, (.bi .sub (.tmp 134) (.const (.int .i64 4)))))
              (.one ((some 136), (none, (.build [(.inr ((.tmp 132), 1)), (.inr ((.tmp 135), 1))])))
              (.one ((some 143), (none, (.mks t_api_Person 2 false [(.tmp 130), (.tmp 136), (.tmp 139), (.tmp 142)])))
              (.one ((some 144), (none, (.len (.tmp 143))))
              .done))))))))))))))))))))))))
  (.block 4 (.loop (.seq (.reg [((some 146), (none, (.bi .lss (.tmp 145) (.tmp 144))))])
  (.seq (.cond (.tmp 146)
         .skip
         (.exit 4))
  (law27_ConcessionStepsC_j2 t_api_Person f_ref26_SameConcession f_concession_Register f_ref26_Register f_concession_Valid f_ref26_ConcessionOk))))))))
  (.reg [((some 178), (none, (.bi .add (.tmp 126) (.const (.int .i64 1))))),
      ((some 126), (none, (.mv (.tmp 178))))]))
def law27_ConcessionStepsC_j4 (f_law27_awake : Nat) (t_api_Person : Nat) (f_ref26_SameConcession : Nat) (t_api_Concession : Nat) (f_made_Deck_Name : Nat) (f_made_Deck_Next : Nat) (f_concession_Register : Nat) (f_ref26_Register : Nat) (f_concession_Valid : Nat) (f_ref26_ConcessionOk : Nat) : PC :=
  (.seq (.seq (.reg [((some 121), (none, (.ldA 34 (.tmp 19)))),
    ((some 122), (none, (.ldA 34 (.tmp 6)))),
    ((some 123), (none, (.ldA 34 (.tmp 20)))),
    ((some 124), (none, (.mks t_api_Concession 34 false [(.tmp 121), (.tmp 122), (.tmp 123)]))),
    ((some 125), (none, (.len (.tmp 124)))),
    ((some 126), (none, (.mv (.const (.int .i64 0)))))])
  (.block 2 (.loop (.seq (.reg [((some 127), (none, (.bi .lss (.tmp 126) (.tmp 125))))])
  (.seq (.cond (.tmp 127)
      .skip
      (.exit 2))
  (law27_ConcessionStepsC_j3 t_api_Person f_ref26_SameConcession f_made_Deck_Name f_made_Deck_Next f_concession_Register f_ref26_Register f_concession_Valid f_ref26_ConcessionOk))))))
  (.seq (.reg [((some 179), (none, (.call f_law27_awake []))),
    ((some 12), (none, (.mv (.tmp 179))))])
  .ret))
def law27_ConcessionStepsC_j5 (f_law27_awake : Nat) (t_api_Person : Nat) (f_ref26_SameConcession : Nat) (f_made_Deck_Concession : Nat) (t_uint8 : Nat) (t_api_Concession : Nat) (f_made_Deck_Name : Nat) (f_made_Deck_Next : Nat) (f_concession_Register : Nat) (f_ref26_Register : Nat) (f_concession_Valid : Nat) (f_ref26_ConcessionOk : Nat) : PC :=
  (.seq (.reg [((some 90), (none, (.mv (.tmp 13)))),
    ((some 91), (none, (.ldA 32 (.tmp 9)))),
    ((some 92), (none, (.call f_made_Deck_Concession [(.tmp 90), (.tmp 91)]))),
    ((some 19), (none, (.alloc [(.int .i64 0), (.int .u8 0), (.int .u8 0), (.int .u8 0), (.int .u8 0), (.int .u8 0), (.int .u8 0), (.int .u8 0), (.int .u8 0), (.int .u8 0), (.int .u8 0), (.int .u8 0), (.int .u8 0), (.int .u8 0), (.int .u8 0), (.int .u8 0), (.int .u8 0), (.int .u8 0), (.int .u8 0), (.int .u8 0), (.int .u8 0), (.int .u8 0), (.int .u8 0), (.int .u8 0), (.int .u8 0), (.int .u8 0), (.int .u8 0), (.int .u8 0), (.int .u8 0), (.int .u8 0), (.int .u8 0), (.int .u8 0), (.int .u8 0), (lin t_api_Person [])]))),
    (none, (none, (.st 34 (.tmp 19) (.tmp 92))))])
  (.seq (.reg [((some 93), (none, (.ldA 34 (.tmp 19)))),
    ((some 20), (none, (.alloc [(.int .i64 0), (.int .u8 0), (.int .u8 0), (.int .u8 0), (.int .u8 0), (.int .u8 0), (.int .u8 0), (.int .u8 0), (.int .u8 0), (.int .u8 0), (.int .u8 0), (.int .u8 0), (.int .u8 0), (.int .u8 0), (.int .u8 0), (.int .u8 0), (.int .u8 0), (.int .u8 0), (.int .u8 0), (.int .u8 0), (.int .u8 0), (.int .u8 0), (.int .u8 0), (.int .u8 0), (.int .u8 0), (.int .u8 0), (.int .u8 0), (.int .u8 0), (.int .u8 0), (.int .u8 0), (.int .u8 0), (.int .u8 0), (.int .u8 0), (lin t_api_Person [])]))),
    (none, (none, (.st 34 (.tmp 20) (.tmp 93))))])
  (.seq (.seq (.reg [((some 21), (none, (.mv (.const (.int .i64 0)))))])
  (.block 0 (.loop (.seq (.seq (.reg [((some 94), (none, (.mv (.tmp 21)))),
      ((some 95), (none, (.mv (.tmp 5)))),
      ((some 96), (none, (.cv .i64 (.tmp 95)))),
      ((some 97), (none, (.bi .rem (.tmp 96) (.const (.int .i64 8))))),
      ((some 98), (none, (.bi .add (.const (.int .i64 57)) (.tmp 97)))),
      ((some 99), (none, (.bi .lss (.tmp 94) (.tmp 98))))])
  (.cond (.tmp 99)
      .skip
      (.exit 0)))
  (law27_ConcessionStepsC_j1 t_api_Person t_uint8)))))
  (law27_ConcessionStepsC_j4 f_law27_awake t_api_Person f_ref26_SameConcession t_api_Concession f_made_Deck_Name f_made_Deck_Next f_concession_Register f_ref26_Register f_concession_Valid f_ref26_ConcessionOk))))
def law27_ConcessionStepsC_j6 (f_law27_awake : Nat) (t_api_Person : Nat) (f_made_Within : Nat) (f_ref26_SameConcession : Nat) (f_made_Deck_Concession : Nat) (t_uint8 : Nat) (t_api_Concession : Nat) (f_made_Deck_Name : Nat) (f_made_Deck_Next : Nat) (f_concession_Register : Nat) (f_ref26_Register : Nat) (f_concession_Valid : Nat) (f_ref26_ConcessionOk : Nat) : PC :=
  (.seq (.seq (.reg [((some 57), (none, (.mv (.tmp 15)))),
    ((some 58), (none, (.mv (.tmp 18)))),
    ((some 59), (none, (.bi .neq (.tmp 57) (.tmp 58)))),
    ((some 60), (none, (.mv (.tmp 59)))),
    ((some 61), ((some (60, false)), (.mv (.tmp 15)))),
    ((some 62), ((some (60, false)), (.bi .eql (.tmp 61) (.const (.int .i64 0))))),
    ((some 63), ((some (60, false)), (.mv (.tmp 62)))),
    ((some 64), ((some (63, true)), (.ldA 34 (.tmp 14)))),
    ((some 65), ((some (63, true)), (.mv (.tmp 2)))),
    ((some 66), ((some (63, true)), (.ldA 32 (.tmp 9)))),
    ((some 67), ((some (63, true)), (.build [(.inr ((.tmp 65), 1)), (.inr ((.tmp 66), 32)), (.inl [(deep [])])]))),
    ((some 68), ((some (63, true)), (.call f_ref26_SameConcession [(.tmp 64), (.tmp 67)]))),
    ((some 69), ((some (63, true)), (.un .not (.tmp 68)))),
    ((some 70), ((some (60, false)), (.pick (.tmp 63) (.tmp 69) (.const (.bool false))))),
    ((some 71), (none, (.pick (.tmp 60) (.const (.bool true)) (.tmp 70)))),
    ((some 72), (none, (.mv (.tmp 71)))),
    ((some 73), ((some (72, false)), (.mv (.tmp 17)))),
    ((some 74), ((some (72, false)), (.bi .eql (.tmp 73) (.const (.int .i64 0))))),
    ((some 75), ((some (72, false)), (.mv (.tmp 2)))),
    ((some 76), ((some (72, false)), (.call f_made_Within [(.tmp 75), (.const (.int .i64 10))]))),
    ((some 77), ((some (72, false)), (.bi .geq (.tmp 76) (.const (.int .i64 1))))),
    ((some 78), ((some (72, false)), (.mv (.tmp 77)))),
    ((some 79), ((some (78, true)), (.mv (.tmp 2)))),
    ((some 80), ((some (78, true)), (.call f_made_Within [(.tmp 79), (.const (.int .i64 10))]))),
    ((some 81), ((some (78, true)), (.bi .leq (.tmp 80) (.const (.int .i64 8))))),
    ((some 82), ((some (72, false)), (.pick (.tmp 78) (.tmp 81) (.const (.bool false))))),
    ((some 83), ((some (72, false)), (.bb true (.tmp 74) (.tmp 82)))),
    ((some 84), (none, (.pick (.tmp 72) (.const (.bool true)) (.tmp 83)))),
    ((some 85), (none, (.mv (.tmp 84)))),
    ((some 86), ((some (85, false)), (.fa 0 (.tmp 16)))),
    ((some 87), ((some (85, false)), (.ld false (.tmp 86)))),
    ((some 88), ((some (85, false)), (.bi .gtr (.tmp 87) (.const (.int .i64 7))))),
    ((some 89), (none, (.pick (.tmp 85) (.const (.bool true)) (.tmp 88))))])
  (.cond (.tmp 89)
    (.seq (.reg [((some 12), (none, (.mv (.const (.bool false)))))])
  .ret)
    .skip))
  (law27_ConcessionStepsC_j5 f_law27_awake t_api_Person f_ref26_SameConcession f_made_Deck_Concession t_uint8 t_api_Concession f_made_Deck_Name f_made_Deck_Next f_concession_Register f_ref26_Register f_concession_Valid f_ref26_ConcessionOk))
def law27_ConcessionStepsC_j7 (f_law27_awake : Nat) (t_api_Person : Nat) (f_made_Within : Nat) (f_ref26_SameConcession : Nat) (f_made_Deck_Concession : Nat) (t_uint8 : Nat) (t_api_Concession : Nat) (f_made_Deck_Name : Nat) (f_made_Deck_Next : Nat) (f_concession_Register : Nat) (f_ref26_Register : Nat) (f_concession_Valid : Nat) (f_ref26_ConcessionOk : Nat) : PC :=
  (.seq (.reg [((some 18), (none, (.mv (.const (.int .i64 0)))))])
  (.seq (.seq (.reg [((some 51), (none, (.mv (.tmp 2)))),
    ((some 52), (none, (.bi .lss (.tmp 51) (.const (.int .i64 0))))),
    ((some 53), (none, (.mv (.tmp 52)))),
    ((some 54), ((some (53, false)), (.mv (.tmp 2)))),
    ((some 55), ((some (53, false)), (.bi .gtr (.tmp 54) (.const (.int .i64 7))))),
    ((some 56), (none, (.pick (.tmp 53) (.const (.bool true)) (.tmp 55))))])
  (.cond (.tmp 56)
    (.reg [((some 18), (none, (.mv (.const (.int .i64 1)))))])
    .skip))
  (law27_ConcessionStepsC_j6 f_law27_awake t_api_Person f_made_Within f_ref26_SameConcession f_made_Deck_Concession t_uint8 t_api_Concession f_made_Deck_Name f_made_Deck_Next f_concession_Register f_ref26_Register f_concession_Valid f_ref26_ConcessionOk)))
def law27_ConcessionStepsC_j8 (f_law27_awake : Nat) (f_made_New : Nat) (f_concession_New : Nat) (t_api_Person : Nat) (f_made_Within : Nat) (f_ref26_SameConcession : Nat) (f_made_Deck_Concession : Nat) (t_uint8 : Nat) (t_api_Concession : Nat) (f_made_Deck_Name : Nat) (f_made_Deck_Next : Nat) (f_concession_Register : Nat) (f_ref26_Register : Nat) (f_concession_Valid : Nat) (f_ref26_ConcessionOk : Nat) : PC :=
  (.seq (.reg [((some 35), (none, (.mv (.tmp 4)))),
    ((some 36), (none, (.call f_made_New [(.tmp 35)]))),
    ((some 13), (none, (.mv (.tmp 36))))])
  (.seq (.reg [((some 38), (none, (.mv (.tmp 2)))),
    ((some 39), (none, (.ldA 32 (.tmp 9)))),
    ((some 40), (none, (.call f_concession_New [(.tmp 38), (.tmp 39)]))),
    ((some 37), (none, (.steal 40))),
    ((some 41), (none, (.extr 37 0))),
    ((some 42), (none, (.extr 37 1))),
    ((some 14), (none, (.alloc [(.int .i64 0), (.int .u8 0), (.int .u8 0), (.int .u8 0), (.int .u8 0), (.int .u8 0), (.int .u8 0), (.int .u8 0), (.int .u8 0), (.int .u8 0), (.int .u8 0), (.int .u8 0), (.int .u8 0), (.int .u8 0), (.int .u8 0), (.int .u8 0), (.int .u8 0), (.int .u8 0), (.int .u8 0), (.int .u8 0), (.int .u8 0), (.int .u8 0), (.int .u8 0), (.int .u8 0), (.int .u8 0), (.int .u8 0), (.int .u8 0), (.int .u8 0), (.int .u8 0), (.int .u8 0), (.int .u8 0), (.int .u8 0), (.int .u8 0), (lin t_api_Person [])]))),
    (none, (none, (.st 34 (.tmp 14) (.tmp 41)))),
    ((some 15), (none, (.mv (.tmp 42))))])
  (.seq (.ord (.one ((some 44), (none, (.mv (.tmp 2))))
    (.alt (.one ((some 45), (none, (.call f_made_Within [(.tmp 44), (.const (.int .i64 10))])))
     (.one ((some 46), (none, (.bi .sub (.tmp 45) (.const (.int .i64 1)))))
     (.alt (.one ((some 47), (none, (.ldA 32 (.tmp 9))))
      (.alt (.one ((some 48), (none, (.call f_concession_New [(.tmp 46), (.tmp 47)])))
       (.one ((some 43), (none, (.steal 48)))
       (.alt (.one ((some 49), (none, (.extr 43 0)))
        (.one ((some 50), (none, (.extr 43 1)))
        (.one ((some 16), (none, (.alloc [(.int .i64 0), (.int .u8 0), (.int .u8 0), (.int .u8 0), (.int .u8 0), (.int .u8 0), (.int .u8 0), (.int .u8 0), (.int .u8 0), (.int .u8 0), (.int .u8 0), (.int .u8 0), (.int .u8 0), (.int .u8 0), (.int .u8 0), (.int .u8 0), (.int .u8 0), (.int .u8 0), (.int .u8 0), (.int .u8 0), (.int .u8 0), (.int .u8 0), (.int .u8 0), (.int .u8 0), (.int .u8 0), (.int .u8 0), (.int .u8 0), (.int .u8 0), (.int .u8 0), (.int .u8 0), (.int .u8 0), (.int .u8 0), (.int .u8 0), (lin t_api_Person [])])))
        (.one (none, (none, (.st 34 (.tmp 16) (.tmp 49))))
        (.one ((some 17), (none, (.mv (.tmp 50))))
        .done)))))
       (.alt (.one ((some 50), (none, (.extr 43 1)))
         (.one ((some 49), (none, (.extr 43 0)))
         (.one ((some 16), (none, (.alloc [(.int .i64 0), (.int .u8 0), (.int .u8 0), (.int .u8 0), (.int .u8 0), (.int .u8 0), (.int .u8 0), (.int .u8 0), (.int .u8 0), (.int .u8 0), (.int .u8 0), (.int .u8 0), (.int .u8 0), (.int .u8 0), (.int .u8 0), (.int .u8 0), (.int .u8 0), (.int .u8 0), (.int .u8 0), (.int .u8 0), (.int .u8 0), (.int .u8 0), (.int .u8 0), (.int .u8 0), (.int .u8 0), (.int .u8 0), (.int .u8 0), (.int .u8 0), (.int .u8 0), (.int .u8 0), (.int .u8 0), (.int .u8 0), (.int .u8 0), (lin t_api_Person [])])))
         (.one (none, (none, (.st 34 (.tmp 16) (.tmp 49))))
         (.one ((some 17), (none, (.mv (.tmp 50))))
         .done)))))
        (.one ((some 16), (none, (.alloc [(.int .i64 0), (.int .u8 0), (.int .u8 0), (.int .u8 0), (.int .u8 0), (.int .u8 0), (.int .u8 0), (.int .u8 0), (.int .u8 0), (.int .u8 0), (.int .u8 0), (.int .u8 0), (.int .u8 0), (.int .u8 0), (.int .u8 0), (.int .u8 0), (.int .u8 0), (.int .u8 0), (.int .u8 0), (.int .u8 0), (.int .u8 0), (.int .u8 0), (.int .u8 0), (.int .u8 0), (.int .u8 0), (.int .u8 0), (.int .u8 0), (.int .u8 0), (.int .u8 0), (.int .u8 0), (.int .u8 0), (.int .u8 0), (.int .u8 0), (lin t_api_Person [])])))
         (.alt (.one ((some 49), (none, (.extr 43 0)))
          (.one ((some 50), (none, (.extr 43 1)))
          (.one (none, (none, (.st 34 (.tmp 16) (.tmp 49))))
          (.one ((some 17), (none, (.mv (.tmp 50))))
          .done))))
         (.one ((some 50), (none, (.extr 43 1)))
          (.one ((some 49), (none, (.extr 43 0)))
          (.one (none, (none, (.st 34 (.tmp 16) (.tmp 49))))
          (.one ((some 17), (none, (.mv (.tmp 50))))
          .done))))))))))
      (.one ((some 16), (none, (.alloc [(.int .i64 0), (.int .u8 0), (.int .u8 0), (.int .u8 0), (.int .u8 0), (.int .u8 0), (.int .u8 0), (.int .u8 0), (.int .u8 0), (.int .u8 0), (.int .u8 0), (.int .u8 0), (.int .u8 0), (.int .u8 0), (.int .u8 0), (.int .u8 0), (.int .u8 0), (.int .u8 0), (.int .u8 0), (.int .u8 0), (.int .u8 0), (.int .u8 0), (.int .u8 0), (.int .u8 0), (.int .u8 0), (.int .u8 0), (.int .u8 0), (.int .u8 0), (.int .u8 0), (.int .u8 0), (.int .u8 0), (.int .u8 0), (.int .u8 0), (lin t_api_Person [])])))
       (.one ((some 48), (none, (.call f_concession_New [(.tmp 46), (.tmp 47)])))
       (.one ((some 43), (none, (.steal 48)))
       (.alt (.one ((some 49), (none, (.extr 43 0)))
        (.one ((some 50), (none, (.extr 43 1)))
        (.one (none, (none, (.st 34 (.tmp 16) (.tmp 49))))
        (.one ((some 17), (none, (.mv (.tmp 50))))
        .done))))
       (.one ((some 50), (none, (.extr 43 1)))
        (.one ((some 49), (none, (.extr 43 0)))
        (.one (none, (none, (.st 34 (.tmp 16) (.tmp 49))))
        (.one ((some 17), (none, (.mv (.tmp 50))))
        .done))))))))))
     (.one ((some 16), (none, (.alloc [(.int .i64 0), (.int .u8 0), (.int .u8 0), (.int .u8 0), (.int .u8 0), (.int .u8 0), (.int .u8 0), (.int .u8 0), (.int .u8 0), (.int .u8 0), (.int .u8 0), (.int .u8 0), (.int .u8 0), (.int .u8 0), (.int .u8 0), (.int .u8 0), (.int .u8 0), (.int .u8 0), (.int .u8 0), (.int .u8 0), (.int .u8 0), (.int .u8 0), (.int .u8 0), (.int .u8 0), (.int .u8 0), (.int .u8 0), (.int .u8 0), (.int .u8 0), (.int .u8 0), (.int .u8 0), (.int .u8 0), (.int .u8 0), (.int .u8 0), (lin t_api_Person [])])))
      (.one ((some 47), (none, (.ldA 32 (.tmp 9))))
      (.one ((some 48), (none, (.call f_concession_New [(.tmp 46), (.tmp 47)])))
      (.one ((some 43), (none, (.steal 48)))
      (.alt (.one ((some 49), (none, (.extr 43 0)))
       (.one ((some 50), (none, (.extr 43 1)))
       (.one (none, (none, (.st 34 (.tmp 16) (.tmp 49))))
       (.one ((some 17), (none, (.mv (.tmp 50))))
       .done))))
      (.one ((some 50), (none, (.extr 43 1)))
       (.one ((some 49), (none, (.extr 43 0)))
       (.one (none, (none, (.st 34 (.tmp 16) (.tmp 49))))
       (.one ((some 17), (none, (.mv (.tmp 50))))
       .done))))))))))))
    (.alt (.one ((some 47), (none, (.ldA 32 (.tmp 9))))
      (.alt (.one ((some 45), (none, (.call f_made_Within [(.tmp 44), (.const (.int .i64 10))])))
       (.one ((some 46), (none, (.bi .sub (.tmp 45) (.const (.int .i64 1)))))
       (.alt (.one ((some 48), (none, (.call f_concession_New [(.tmp 46), (.tmp 47)])))
        (.one ((some 43), (none, (.steal 48)))
        (.alt (.one ((some 49), (none, (.extr 43 0)))
         (.one ((some 50), (none, (.extr 43 1)))
         (.one ((some 16), (none, (.alloc [(.int .i64 0), (.int .u8 0), (.int .u8 0), (.int .u8 0), (.int .u8 0), (.int .u8 0), (.int .u8 0), (.int .u8 0), (.int .u8 0), (.int .u8 0), (.int .u8 0), (.int .u8 0), (.int .u8 0), (.int .u8 0), (.int .u8 0), (.int .u8 0), (.int .u8 0), (.int .u8 0), (.int .u8 0), (.int .u8 0), (.int .u8 0), (.int .u8 0), (.int .u8 0), (.int .u8 0), (.int .u8 0), (.int .u8 0), (.int .u8 0), (.int .u8 0), (.int .u8 0), (.int .u8 0), (.int .u8 0), (.int .u8 0), (.int .u8 0), (lin t_api_Person [])])))
         (.one (none, (none, (.st 34 (.tmp 16) (.tmp 49))))
         (.one ((some 17), (none, (.mv (.tmp 50))))
         .done)))))
        (.alt (.one ((some 50), (none, (.extr 43 1)))
          (.one ((some 49), (none, (.extr 43 0)))
          (.one ((some 16), (none, (.alloc [(.int .i64 0), (.int .u8 0), (.int .u8 0), (.int .u8 0), (.int .u8 0), (.int .u8 0), (.int .u8 0), (.int .u8 0), (.int .u8 0), (.int .u8 0), (.int .u8 0), (.int .u8 0), (.int .u8 0), (.int .u8 0), (.int .u8 0), (.int .u8 0), (.int .u8 0), (.int .u8 0), (.int .u8 0), (.int .u8 0), (.int .u8 0), (.int .u8 0), (.int .u8 0), (.int .u8 0), (.int .u8 0), (.int .u8 0), (.int .u8 0), (.int .u8 0), (.int .u8 0), (.int .u8 0), (.int .u8 0), (.int .u8 0), (.int .u8 0), (lin t_api_Person [])])))
          (.one (none, (none, (.st 34 (.tmp 16) (.tmp 49))))
          (.one ((some 17), (none, (.mv (.tmp 50))))
          .done)))))
         (.one ((some 16), (none, (.alloc [(.int .i64 0), (.int .u8 0), (.int .u8 0), (.int .u8 0), (.int .u8 0), (.int .u8 0), (.int .u8 0), (.int .u8 0), (.int .u8 0), (.int .u8 0), (.int .u8 0), (.int .u8 0), (.int .u8 0), (.int .u8 0), (.int .u8 0), (.int .u8 0), (.int .u8 0), (.int .u8 0), (.int .u8 0), (.int .u8 0), (.int .u8 0), (.int .u8 0), (.int .u8 0), (.int .u8 0), (.int .u8 0), (.int .u8 0), (.int .u8 0), (.int .u8 0), (.int .u8 0), (.int .u8 0), (.int .u8 0), (.int .u8 0), (.int .u8 0), (lin t_api_Person [])])))
          (.alt (.one ((some 49), (none, (.extr 43 0)))
           (.one ((some 50), (none, (.extr 43 1)))
           (.one (none, (none, (.st 34 (.tmp 16) (.tmp 49))))
           (.one ((some 17), (none, (.mv (.tmp 50))))
           .done))))
          (.one ((some 50), (none, (.extr 43 1)))
           (.one ((some 49), (none, (.extr 43 0)))
           (.one (none, (none, (.st 34 (.tmp 16) (.tmp 49))))
           (.one ((some 17), (none, (.mv (.tmp 50))))
           .done))))))))))
       (.one ((some 16), (none, (.alloc [(.int .i64 0), (.int .u8 0), (.int .u8 0), (.int .u8 0), (.int .u8 0), (.int .u8 0), (.int .u8 0), (.int .u8 0), (.int .u8 0), (.int .u8 0), (.int .u8 0), (.int .u8 0), (.int .u8 0), (.int .u8 0), (.int .u8 0), (.int .u8 0), (.int .u8 0), (.int .u8 0), (.int .u8 0), (.int .u8 0), (.int .u8 0), (.int .u8 0), (.int .u8 0), (.int .u8 0), (.int .u8 0), (.int .u8 0), (.int .u8 0), (.int .u8 0), (.int .u8 0), (.int .u8 0), (.int .u8 0), (.int .u8 0), (.int .u8 0), (lin t_api_Person [])])))
        (.one ((some 48), (none, (.call f_concession_New [(.tmp 46), (.tmp 47)])))
        (.one ((some 43), (none, (.steal 48)))
        (.alt (.one ((some 49), (none, (.extr 43 0)))
         (.one ((some 50), (none, (.extr 43 1)))
         (.one (none, (none, (.st 34 (.tmp 16) (.tmp 49))))
         (.one ((some 17), (none, (.mv (.tmp 50))))
         .done))))
        (.one ((some 50), (none, (.extr 43 1)))
         (.one ((some 49), (none, (.extr 43 0)))
         (.one (none, (none, (.st 34 (.tmp 16) (.tmp 49))))
         (.one ((some 17), (none, (.mv (.tmp 50))))
         .done)))))))))))
      (.one ((some 16), (none, (.alloc [(.int .i64 0), (.int .u8 0), (.int .u8 0), (.int .u8 0), (.int .u8 0), (.int .u8 0), (.int .u8 0), (.int .u8 0), (.int .u8 0), (.int .u8 0), (.int .u8 0), (.int .u8 0), (.int .u8 0), (.int .u8 0), (.int .u8 0), (.int .u8 0), (.int .u8 0), (.int .u8 0), (.int .u8 0), (.int .u8 0), (.int .u8 0), (.int .u8 0), (.int .u8 0), (.int .u8 0), (.int .u8 0), (.int .u8 0), (.int .u8 0), (.int .u8 0), (.int .u8 0), (.int .u8 0), (.int .u8 0), (.int .u8 0), (.int .u8 0), (lin t_api_Person [])])))
       (.one ((some 45), (none, (.call f_made_Within [(.tmp 44), (.const (.int .i64 10))])))
       (.one ((some 46), (none, (.bi .sub (.tmp 45) (.const (.int .i64 1)))))
       (.one ((some 48), (none, (.call f_concession_New [(.tmp 46), (.tmp 47)])))
       (.one ((some 43), (none, (.steal 48)))
       (.alt (.one ((some 49), (none, (.extr 43 0)))
        (.one ((some 50), (none, (.extr 43 1)))
        (.one (none, (none, (.st 34 (.tmp 16) (.tmp 49))))
        (.one ((some 17), (none, (.mv (.tmp 50))))
        .done))))
       (.one ((some 50), (none, (.extr 43 1)))
        (.one ((some 49), (none, (.extr 43 0)))
        (.one (none, (none, (.st 34 (.tmp 16) (.tmp 49))))
        (.one ((some 17), (none, (.mv (.tmp 50))))
        .done))))))))))))
     (.one ((some 16), (none, (.alloc [(.int .i64 0), (.int .u8 0), (.int .u8 0), (.int .u8 0), (.int .u8 0), (.int .u8 0), (.int .u8 0), (.int .u8 0), (.int .u8 0), (.int .u8 0), (.int .u8 0), (.int .u8 0), (.int .u8 0), (.int .u8 0), (.int .u8 0), (.int .u8 0), (.int .u8 0), (.int .u8 0), (.int .u8 0), (.int .u8 0), (.int .u8 0), (.int .u8 0), (.int .u8 0), (.int .u8 0), (.int .u8 0), (.int .u8 0), (.int .u8 0), (.int .u8 0), (.int .u8 0), (.int .u8 0), (.int .u8 0), (.int .u8 0), (.int .u8 0), (lin t_api_Person [])])))
      (.alt (.one ((some 45), (none, (.call f_made_Within [(.tmp 44), (.const (.int .i64 10))])))
       (.one ((some 46), (none, (.bi .sub (.tmp 45) (.const (.int .i64 1)))))
       (.one ((some 47), (none, (.ldA 32 (.tmp 9))))
       (.one ((some 48), (none, (.call f_concession_New [(.tmp 46), (.tmp 47)])))
       (.one ((some 43), (none, (.steal 48)))
       (.alt (.one ((some 49), (none, (.extr 43 0)))
        (.one ((some 50), (none, (.extr 43 1)))
        (.one (none, (none, (.st 34 (.tmp 16) (.tmp 49))))
        (.one ((some 17), (none, (.mv (.tmp 50))))
        .done))))
       (.one ((some 50), (none, (.extr 43 1)))
        (.one ((some 49), (none, (.extr 43 0)))
        (.one (none, (none, (.st 34 (.tmp 16) (.tmp 49))))
        (.one ((some 17), (none, (.mv (.tmp 50))))
        .done))))))))))
      (.one ((some 47), (none, (.ldA 32 (.tmp 9))))
       (.one ((some 45), (none, (.call f_made_Within [(.tmp 44), (.const (.int .i64 10))])))
       (.one ((some 46), (none, (.bi .sub (.tmp 45) (.const (.int .i64 1)))))
       (.one ((some 48), (none, (.call f_concession_New [(.tmp 46), (.tmp 47)])))
       (.one ((some 43), (none, (.steal 48)))
       (.alt (.one ((some 49), (none, (.extr 43 0)))
        (.one ((some 50), (none, (.extr 43 1)))
        (.one (none, (none, (.st 34 (.tmp 16) (.tmp 49))))
        (.one ((some 17), (none, (.mv (.tmp 50))))
        .done))))
       (.one ((some 50), (none, (.extr 43 1)))
        (.one ((some 49), (none, (.extr 43 0)))
        (.one (none, (none, (.st 34 (.tmp 16) (.tmp 49))))
        (.one ((some 17), (none, (.mv (.tmp 50))))
        .done))))))))))))))))
  (law27_ConcessionStepsC_j7 f_law27_awake t_api_Person f_made_Within f_ref26_SameConcession f_made_Deck_Concession t_uint8 t_api_Concession f_made_Deck_Name f_made_Deck_Next f_concession_Register f_ref26_Register f_concession_Valid f_ref26_ConcessionOk))))
def law27_ConcessionStepsC (f_law27_awake : Nat) (f_made_New : Nat) (f_concession_New : Nat) (t_api_Person : Nat) (f_made_Within : Nat) (f_ref26_SameConcession : Nat) (f_made_Deck_Concession : Nat) (t_uint8 : Nat) (t_api_Concession : Nat) (f_made_Deck_Name : Nat) (f_made_Deck_Next : Nat) (f_concession_Register : Nat) (f_ref26_Register : Nat) (f_concession_Valid : Nat) (f_ref26_ConcessionOk : Nat) : PC :=
  (.seq (.reg [((some 6), (none, (.box 34 (.tmp 0)))),
    ((some 7), (none, (.box 2 (.tmp 1)))),
    ((some 9), (none, (.box 32 (.tmp 3)))),
    ((some 12), (none, (.mv (.const (.bool false)))))])
  (.seq (.seq (.reg [((some 30), (none, (.fa 33 (.tmp 6)))),
    ((some 31), (none, (.ld false (.tmp 30)))),
    ((some 32), (none, (.len (.tmp 31)))),
    ((some 33), (none, (.bi .gtr (.tmp 32) (.const (.int .i64 80)))))])
  (.cond (.tmp 33)
    (.seq (.reg [((some 34), (none, (.call f_law27_awake []))),
      ((some 12), (none, (.mv (.tmp 34))))])
  .ret)
    .skip))
  (law27_ConcessionStepsC_j8 f_law27_awake f_made_New f_concession_New t_api_Person f_made_Within f_ref26_SameConcession f_made_Deck_Concession t_uint8 t_api_Concession f_made_Deck_Name f_made_Deck_Next f_concession_Register f_ref26_Register f_concession_Valid f_ref26_ConcessionOk)))
/-- macaroon/macaroonlaw27.ConcessionKnown: 114 slots, results [(.t 2)] -/
def law27_ConcessionKnownC_j1 : PC :=
  (.seq (.block 3 (.drw [((some 40), (none, (.mv (.tmp 9)))),
          ((some 41), (none, (.mv (.tmp 40)))),
          ((some 42), ((some (41, false)), (.mv (.tmp 6)))),
          ((some 43), ((some (41, false)), (.mv (.tmp 10)))),
          ((some 44), ((some (41, false)), (.ixS 2 (.tmp 42) (.tmp 43)))),
          ((some 45), ((some (41, false)), (.fa 0 (.tmp 44)))),
          ((some 46), ((some (41, false)), (.ld false (.tmp 45)))),
          ((some 47), ((some (41, false)), (.fa 0 (.tmp 8)))),
          ((some 48), ((some (41, false)), (.ld false (.tmp 47)))),
          ((some 49), ((some (41, false)), (.bi .eql (.tmp 46) (.tmp 48)))),
          ((some 50), (none, (.pick (.tmp 41) (.const (.bool true)) (.tmp 49)))),
          ((some 9), (none, (.mv (.tmp 50))))]))
  (.reg [((some 38), (none, (.mv (.tmp 10)))),
         ((some 39), (none, (.bi .add (.tmp 38) (.const (.int .i64 1))))),
         ((some 10), (none, (.mv (.tmp 39))))]))
def law27_ConcessionKnownC_j2 (t_api_Person : Nat) : PC :=
  (.seq (.reg [((some 68), (none, (.mv (.tmp 9)))),
       ((some 69), (none, (.un .not (.tmp 68))))])
  (.cond (.tmp 69)
       (.ord (.one ((some 70), (none, (.ldA 34 (.tmp 11))))
         (.one ((some 71), (none, (.steal 6)))
         (.one ((some 72), (none, (.ldA 2 (.tmp 8))))
         (.one ((some 73), (none, (.mks t_api_Person 2 false [(.tmp 72)])))
         (.one ((some 74), (none, (.app t_api_Person 2 24 71 (.tmp 73))))
         (.one (none, (none, (.st 34 (.tmp 4) (.tmp 70))))
         (.one ((some 6), (none, (.steal 74)))
         .done))))))))
       .skip))
def law27_ConcessionKnownC_j3 (t_api_Person : Nat) (f_concession_Register : Nat) : PC :=
  (.seq (.reg [((some 52), (none, (.ldA 34 (.tmp 4)))),
       ((some 53), (none, (.ldA 2 (.tmp 8)))),
       ((some 54), (none, (.call f_concession_Register [(.tmp 52), (.tmp 53)]))),
       ((some 51), (none, (.steal 54))),
       ((some 55), (none, (.extr 51 0))),
       ((some 56), (none, (.extr 51 1))),
       ((some 11), (none, (.alloc [(.int .i64 0), (.int .u8 0), (.int .u8 0), (.int .u8 0), (.int .u8 0), (.int .u8 0), (.int .u8 0), (.int .u8 0), (.int .u8 0), (.int .u8 0), (.int .u8 0), (.int .u8 0), (.int .u8 0), (.int .u8 0), (.int .u8 0), (.int .u8 0), (.int .u8 0), (.int .u8 0), (.int .u8 0), (.int .u8 0), (.int .u8 0), (.int .u8 0), (.int .u8 0), (.int .u8 0), (.int .u8 0), (.int .u8 0), (.int .u8 0), (.int .u8 0), (.int .u8 0), (.int .u8 0), (.int .u8 0), (.int .u8 0), (.int .u8 0), (lin t_api_Person [])]))),
       (none, (none, (.st 34 (.tmp 11) (.tmp 55)))),
       ((some 12), (none, (.mv (.tmp 56))))])
  (.seq (.seq (.reg [((some 57), (none, (.mv (.tmp 12)))),
       ((some 58), (none, (.bi .eql (.tmp 57) (.const (.int .i64 0))))),
       ((some 59), (none, (.mv (.tmp 9)))),
       ((some 60), (none, (.bb false (.tmp 58) (.tmp 59)))),
       ((some 61), (none, (.mv (.tmp 60)))),
       ((some 62), ((some (61, false)), (.mv (.tmp 9)))),
       ((some 63), ((some (61, false)), (.mv (.tmp 62)))),
       ((some 64), ((some (63, true)), (.mv (.tmp 12)))),
       ((some 65), ((some (63, true)), (.bi .neq (.tmp 64) (.const (.int .i64 10))))),
       ((some 66), ((some (61, false)), (.pick (.tmp 63) (.tmp 65) (.const (.bool false))))),
       ((some 67), (none, (.pick (.tmp 61) (.const (.bool true)) (.tmp 66))))])
  (.cond (.tmp 67)
       (.seq (.reg [((some 2), (none, (.mv (.const (.bool false)))))])
  .ret)
       .skip))
  (law27_ConcessionKnownC_j2 t_api_Person)))
def law27_ConcessionKnownC_j4 (t_api_Person : Nat) (f_made_Deck_Name : Nat) (f_made_Deck_Next : Nat) (f_concession_Register : Nat) : PC :=
  (.seq (.block 1 (.seq (.reg [((some 29), (none, (.mv (.tmp 3)))),
       ((some 30), (none, (.call f_made_Deck_Name [(.tmp 29)]))),
       ((some 31), (none, (.mv (.tmp 3)))),
       ((some 32), (none, (.call f_made_Deck_Next [(.tmp 31), (.const (.int .i64 1000))]))),
       ((some 33), (none, (.build [(.inr ((.tmp 30), 1)), (.inr ((.tmp 32), 1))]))),
       ((some 8), (none, (.alloc [(.string ⟨#[]⟩), (.int .i64 0)]))),
       (none, (none, (.st 2 (.tmp 8) (.tmp 33))))])
  (.seq (.reg [((some 9), (none, (.mv (.const (.bool false)))))])
  (.seq (.seq (.reg [((some 10), (none, (.mv (.const (.int .i64 0)))))])
  (.block 2 (.loop (.seq (.seq (.reg [((some 34), (none, (.mv (.tmp 10)))),
         ((some 35), (none, (.mv (.tmp 6)))),
         ((some 36), (none, (.len (.tmp 35)))),
         ((some 37), (none, (.bi .lss (.tmp 34) (.tmp 36))))])
  (.cond (.tmp 37)
         .skip
         (.exit 2)))
  law27_ConcessionKnownC_j1))))
  (law27_ConcessionKnownC_j3 t_api_Person f_concession_Register)))))
  (.reg [((some 27), (none, (.mv (.tmp 7)))),
      ((some 28), (none, (.bi .add (.tmp 27) (.const (.int .i64 1))))),
      ((some 7), (none, (.mv (.tmp 28))))]))
def law27_ConcessionKnownC_j5 : PC :=
  (.seq (.drw [((some 91), (none, (.mv (.tmp 15)))),
       ((some 92), (none, (.un .not (.tmp 91)))),
       ((some 93), (none, (.mv (.tmp 92)))),
       ((some 94), ((some (93, false)), (.ldA 2 (.tmp 14)))),
       ((some 95), ((some (93, false)), (.mv (.tmp 6)))),
       ((some 96), ((some (93, false)), (.mv (.tmp 13)))),
       ((some 97), ((some (93, false)), (.ixS 2 (.tmp 95) (.tmp 96)))),
       ((some 98), ((some (93, false)), (.ldA 2 (.tmp 97)))),
       ((some 99), ((some (93, false)), (.eqA true [.string, (.int .i64)] (.tmp 94) (.tmp 98)))),
       ((some 100), (none, (.pick (.tmp 93) (.const (.bool true)) (.tmp 99))))])
  (.cond (.tmp 100)
       (.seq (.reg [((some 2), (none, (.mv (.const (.bool false)))))])
  .ret)
       .skip))
def law27_ConcessionKnownC_j6 (f_discharge_Find : Nat) : PC :=
  (.seq (.block 5 (.seq (.ord (.one ((some 83), (none, (.mv (.tmp 6))))
       (.one ((some 84), (none, (.mv (.tmp 13))))
       (.one ((some 85), (none, (.ixS 2 (.tmp 83) (.tmp 84))))
       (.one ((some 86), (none, (.fa 0 (.tmp 85))))
       (.alt (.one ((some 82), (none, (.ldA 34 (.tmp 4))))
        (.alt (.one ((some 87), (none, (.ld false (.tmp 86))))
         (.alt (.one ((some 88), (none, (.call f_discharge_Find [(.tmp 82), (.tmp 87)])))
          (.one ((some 81), (none, (.steal 88)))
          (.alt (.one ((some 89), (none, (.extr 81 0)))
           (.one ((some 90), (none, (.extr 81 1)))
           (.one ((some 14), (none, (.alloc [(.string ⟨#[]⟩), (.int .i64 0)])))
           (.one (none, (none, (.st 2 (.tmp 14) (.tmp 89))))
           (.one ((some 15), (none, (.mv (.tmp 90))))
           .done)))))
          (.alt (.one ((some 90), (none, (.extr 81 1)))
            (.one ((some 89), (none, (.extr 81 0)))
            (.one ((some 14), (none, (.alloc [(.string ⟨#[]⟩), (.int .i64 0)])))
            (.one (none, (none, (.st 2 (.tmp 14) (.tmp 89))))
            (.one ((some 15), (none, (.mv (.tmp 90))))
            .done)))))
           (.one ((some 14), (none, (.alloc [(.string ⟨#[]⟩), (.int .i64 0)])))
            (.alt (.one ((some 89), (none, (.extr 81 0)))
             (.one ((some 90), (none, (.extr 81 1)))
             (.one (none, (none, (.st 2 (.tmp 14) (.tmp 89))))
             (.one ((some 15), (none, (.mv (.tmp 90))))
             .done))))
            (.one ((some 90), (none, (.extr 81 1)))
             (.one ((some 89), (none, (.extr 81 0)))
             (.one (none, (none, (.st 2 (.tmp 14) (.tmp 89))))
             (.one ((some 15), (none, (.mv (.tmp 90))))
             .done))))))))))
         (.one ((some 14), (none, (.alloc [(.string ⟨#[]⟩), (.int .i64 0)])))
          (.one ((some 88), (none, (.call f_discharge_Find [(.tmp 82), (.tmp 87)])))
          (.one ((some 81), (none, (.steal 88)))
          (.alt (.one ((some 89), (none, (.extr 81 0)))
           (.one ((some 90), (none, (.extr 81 1)))
           (.one (none, (none, (.st 2 (.tmp 14) (.tmp 89))))
           (.one ((some 15), (none, (.mv (.tmp 90))))
           .done))))
          (.one ((some 90), (none, (.extr 81 1)))
           (.one ((some 89), (none, (.extr 81 0)))
           (.one (none, (none, (.st 2 (.tmp 14) (.tmp 89))))
           (.one ((some 15), (none, (.mv (.tmp 90))))
           .done))))))))))
        (.one ((some 14), (none, (.alloc [(.string ⟨#[]⟩), (.int .i64 0)])))
         (.one ((some 87), (none, (.ld false (.tmp 86))))
         (.one ((some 88), (none, (.call f_discharge_Find [(.tmp 82), (.tmp 87)])))
         (.one ((some 81), (none, (.steal 88)))
         (.alt (.one ((some 89), (none, (.extr 81 0)))
          (.one ((some 90), (none, (.extr 81 1)))
          (.one (none, (none, (.st 2 (.tmp 14) (.tmp 89))))
          (.one ((some 15), (none, (.mv (.tmp 90))))
          .done))))
         (.one ((some 90), (none, (.extr 81 1)))
          (.one ((some 89), (none, (.extr 81 0)))
          (.one (none, (none, (.st 2 (.tmp 14) (.tmp 89))))
          (.one ((some 15), (none, (.mv (.tmp 90))))
          .done)))))))))))
       (.alt (.one ((some 87), (none, (.ld false (.tmp 86))))
         (.alt (.one ((some 82), (none, (.ldA 34 (.tmp 4))))
          (.alt (.one ((some 88), (none, (.call f_discharge_Find [(.tmp 82), (.tmp 87)])))
           (.one ((some 81), (none, (.steal 88)))
           (.alt (.one ((some 89), (none, (.extr 81 0)))
            (.one ((some 90), (none, (.extr 81 1)))
            (.one ((some 14), (none, (.alloc [(.string ⟨#[]⟩), (.int .i64 0)])))
            (.one (none, (none, (.st 2 (.tmp 14) (.tmp 89))))
            (.one ((some 15), (none, (.mv (.tmp 90))))
            .done)))))
           (.alt (.one ((some 90), (none, (.extr 81 1)))
             (.one ((some 89), (none, (.extr 81 0)))
             (.one ((some 14), (none, (.alloc [(.string ⟨#[]⟩), (.int .i64 0)])))
             (.one (none, (none, (.st 2 (.tmp 14) (.tmp 89))))
             (.one ((some 15), (none, (.mv (.tmp 90))))
             .done)))))
            (.one ((some 14), (none, (.alloc [(.string ⟨#[]⟩), (.int .i64 0)])))
             (.alt (.one ((some 89), (none, (.extr 81 0)))
              (.one ((some 90), (none, (.extr 81 1)))
              (.one (none, (none, (.st 2 (.tmp 14) (.tmp 89))))
              (.one ((some 15), (none, (.mv (.tmp 90))))
              .done))))
             (.one ((some 90), (none, (.extr 81 1)))
              (.one ((some 89), (none, (.extr 81 0)))
              (.one (none, (none, (.st 2 (.tmp 14) (.tmp 89))))
              (.one ((some 15), (none, (.mv (.tmp 90))))
              .done))))))))))
          (.one ((some 14), (none, (.alloc [(.string ⟨#[]⟩), (.int .i64 0)])))
           (.one ((some 88), (none, (.call f_discharge_Find [(.tmp 82), (.tmp 87)])))
           (.one ((some 81), (none, (.steal 88)))
           (.alt (.one ((some 89), (none, (.extr 81 0)))
            (.one ((some 90), (none, (.extr 81 1)))
            (.one (none, (none, (.st 2 (.tmp 14) (.tmp 89))))
            (.one ((some 15), (none, (.mv (.tmp 90))))
            .done))))
           (.one ((some 90), (none, (.extr 81 1)))
            (.one ((some 89), (none, (.extr 81 0)))
            (.one (none, (none, (.st 2 (.tmp 14) (.tmp 89))))
            (.one ((some 15), (none, (.mv (.tmp 90))))
            .done))))))))))
         (.one ((some 14), (none, (.alloc [(.string ⟨#[]⟩), (.int .i64 0)])))
          (.one ((some 82), (none, (.ldA 34 (.tmp 4))))
          (.one ((some 88), (none, (.call f_discharge_Find [(.tmp 82), (.tmp 87)])))
          (.one ((some 81), (none, (.steal 88)))
          (.alt (.one ((some 89), (none, (.extr 81 0)))
           (.one ((some 90), (none, (.extr 81 1)))
           (.one (none, (none, (.st 2 (.tmp 14) (.tmp 89))))
           (.one ((some 15), (none, (.mv (.tmp 90))))
           .done))))
          (.one ((some 90), (none, (.extr 81 1)))
           (.one ((some 89), (none, (.extr 81 0)))
           (.one (none, (none, (.st 2 (.tmp 14) (.tmp 89))))
           (.one ((some 15), (none, (.mv (.tmp 90))))
           .done)))))))))))
        (.one ((some 14), (none, (.alloc [(.string ⟨#[]⟩), (.int .i64 0)])))
         (.one ((some 82), (none, (.ldA 34 (.tmp 4))))
         (.one ((some 87), (none, (.ld false (.tmp 86))))
         (.one ((some 88), (none, (.call f_discharge_Find [(.tmp 82), (.tmp 87)])))
         (.one ((some 81), (none, (.steal 88)))
         (.alt (.one ((some 89), (none, (.extr 81 0)))
          (.one ((some 90), (none, (.extr 81 1)))
          (.one (none, (none, (.st 2 (.tmp 14) (.tmp 89))))
          (.one ((some 15), (none, (.mv (.tmp 90))))
          .done))))
         (.one ((some 90), (none, (.extr 81 1)))
          (.one ((some 89), (none, (.extr 81 0)))
          (.one (none, (none, (.st 2 (.tmp 14) (.tmp 89))))
          (.one ((some 15), (none, (.mv (.tmp 90))))
          .done)))))))))))))))))
  law27_ConcessionKnownC_j5))
  (.reg [((some 79), (none, (.mv (.tmp 13)))),
      ((some 80), (none, (.bi .add (.tmp 79) (.const (.int .i64 1))))),
      ((some 13), (none, (.mv (.tmp 80))))]))
def law27_ConcessionKnownC_j7 (f_concession_Valid : Nat) (f_law27_awake : Nat) : PC :=
  (.seq (.reg [((some 101), (none, (.ldA 34 (.tmp 4)))),
    ((some 102), (none, (.call f_concession_Valid [(.tmp 101)]))),
    ((some 103), (none, (.mv (.tmp 102)))),
    ((some 104), ((some (103, true)), (.fa 33 (.tmp 4)))),
    ((some 105), ((some (103, true)), (.ld false (.tmp 104)))),
    ((some 106), ((some (103, true)), (.len (.tmp 105)))),
    ((some 107), ((some (103, true)), (.mv (.tmp 6)))),
    ((some 108), ((some (103, true)), (.len (.tmp 107)))),
    ((some 109), ((some (103, true)), (.bi .eql (.tmp 106) (.tmp 108)))),
    ((some 110), (none, (.pick (.tmp 103) (.tmp 109) (.const (.bool false))))),
    ((some 111), (none, (.mv (.tmp 110)))),
    ((some 112), ((some (111, true)), (.call f_law27_awake []))),
    ((some 113), (none, (.pick (.tmp 111) (.tmp 112) (.const (.bool false))))),
    ((some 2), (none, (.mv (.tmp 113))))])
  .ret)
def law27_ConcessionKnownC_j8 (f_discharge_Find : Nat) (f_concession_Valid : Nat) (f_law27_awake : Nat) : PC :=
  (.seq (.seq (.reg [((some 13), (none, (.mv (.const (.int .i64 0)))))])
  (.block 4 (.loop (.seq (.seq (.reg [((some 75), (none, (.mv (.tmp 13)))),
      ((some 76), (none, (.mv (.tmp 6)))),
      ((some 77), (none, (.len (.tmp 76)))),
      ((some 78), (none, (.bi .lss (.tmp 75) (.tmp 77))))])
  (.cond (.tmp 78)
      .skip
      (.exit 4)))
  (law27_ConcessionKnownC_j6 f_discharge_Find)))))
  (law27_ConcessionKnownC_j7 f_concession_Valid f_law27_awake))
def law27_ConcessionKnownC_j9 (t_api_Person : Nat) (f_made_Deck_Name : Nat) (f_made_Deck_Next : Nat) (f_concession_Register : Nat) (f_discharge_Find : Nat) (f_concession_Valid : Nat) (f_law27_awake : Nat) : PC :=
  (.seq (.reg [((some 6), (none, (.cnil t_api_Person)))])
  (.seq (.seq (.reg [((some 7), (none, (.mv (.const (.int .i64 0)))))])
  (.block 0 (.loop (.seq (.seq (.reg [((some 25), (none, (.mv (.tmp 7)))),
      ((some 26), (none, (.bi .lss (.tmp 25) (.const (.int .i64 12)))))])
  (.cond (.tmp 26)
      .skip
      (.exit 0)))
  (law27_ConcessionKnownC_j4 t_api_Person f_made_Deck_Name f_made_Deck_Next f_concession_Register)))))
  (law27_ConcessionKnownC_j8 f_discharge_Find f_concession_Valid f_law27_awake)))
def law27_ConcessionKnownC (f_made_New : Nat) (f_concession_New : Nat) (t_api_Person : Nat) (f_made_Deck_Name : Nat) (f_made_Deck_Next : Nat) (f_concession_Register : Nat) (f_discharge_Find : Nat) (f_concession_Valid : Nat) (f_law27_awake : Nat) : PC :=
  (.seq (.reg [((some 2), (none, (.mv (.const (.bool false)))))])
  (.seq (.reg [((some 16), (none, (.mv (.tmp 0)))),
    ((some 17), (none, (.call f_made_New [(.tmp 16)]))),
    ((some 3), (none, (.mv (.tmp 17))))])
  (.seq (.reg [((some 19), (none, (.build [(.inr ((.const (.int .u8 1)), 1)), (.inl [(.int .u8 0)]), (.inl [(.int .u8 0)]), (.inl [(.int .u8 0)]), (.inl [(.int .u8 0)]), (.inl [(.int .u8 0)]), (.inl [(.int .u8 0)]), (.inl [(.int .u8 0)]), (.inl [(.int .u8 0)]), (.inl [(.int .u8 0)]), (.inl [(.int .u8 0)]), (.inl [(.int .u8 0)]), (.inl [(.int .u8 0)]), (.inl [(.int .u8 0)]), (.inl [(.int .u8 0)]), (.inl [(.int .u8 0)]), (.inl [(.int .u8 0)]), (.inl [(.int .u8 0)]), (.inl [(.int .u8 0)]), (.inl [(.int .u8 0)]), (.inl [(.int .u8 0)]), (.inl [(.int .u8 0)]), (.inl [(.int .u8 0)]), (.inl [(.int .u8 0)]), (.inl [(.int .u8 0)]), (.inl [(.int .u8 0)]), (.inl [(.int .u8 0)]), (.inl [(.int .u8 0)]), (.inl [(.int .u8 0)]), (.inl [(.int .u8 0)]), (.inl [(.int .u8 0)]), (.inl [(.int .u8 0)])]))),
    ((some 20), (none, (.call f_concession_New [(.const (.int .i64 3)), (.tmp 19)]))),
    ((some 18), (none, (.steal 20))),
    ((some 21), (none, (.extr 18 0))),
    ((some 22), (none, (.extr 18 1))),
    ((some 4), (none, (.alloc [(.int .i64 0), (.int .u8 0), (.int .u8 0), (.int .u8 0), (.int .u8 0), (.int .u8 0), (.int .u8 0), (.int .u8 0), (.int .u8 0), (.int .u8 0), (.int .u8 0), (.int .u8 0), (.int .u8 0), (.int .u8 0), (.int .u8 0), (.int .u8 0), (.int .u8 0), (.int .u8 0), (.int .u8 0), (.int .u8 0), (.int .u8 0), (.int .u8 0), (.int .u8 0), (.int .u8 0), (.int .u8 0), (.int .u8 0), (.int .u8 0), (.int .u8 0), (.int .u8 0), (.int .u8 0), (.int .u8 0), (.int .u8 0), (.int .u8 0), (lin t_api_Person [])]))),
    (none, (none, (.st 34 (.tmp 4) (.tmp 21)))),
    ((some 5), (none, (.mv (.tmp 22))))])
  (.seq (.seq (.reg [((some 23), (none, (.mv (.tmp 5)))),
    ((some 24), (none, (.bi .neq (.tmp 23) (.const (.int .i64 0)))))])
  (.cond (.tmp 24)
    (.seq (.reg [((some 2), (none, (.mv (.const (.bool false)))))])
  .ret)
    .skip))
  (law27_ConcessionKnownC_j9 t_api_Person f_made_Deck_Name f_made_Deck_Next f_concession_Register f_discharge_Find f_concession_Valid f_law27_awake)))))
end Go.PE
namespace Go.PE
open Go
structure Tag where
  b : List Int
  hb : b.length = 32
theorem Tag.ext' {s t : Tag} (h : s.b = t.b) : s = t := by cases s; cases t; simp_all
instance tagDec : DecidableEq Tag := fun s t => if h : s.b = t.b then isTrue (Tag.ext' h) else isFalse fun e => h (by rw [e])
def Tag.cells (t : Tag) : List Value := t.b.map (.int .u8)
def Tag.v (t : Tag) : Value := ag t.cells
structure Cnt where
  tag : Tag
  n : Int
def Cnt.cells (c : Cnt) : List Value := c.tag.cells ++ [.int .i64 c.n]
def Cnt.v (c : Cnt) : Value := ag c.cells
@[simp] theorem Tag.len (t : Tag) : t.cells.length = 32 := by simp [Tag.cells, t.hb]
@[simp] theorem Cnt.len (c : Cnt) : c.cells.length = 33 := by simp [Cnt.cells]
theorem dg1_ints (k : IntKind) (l : List Int) : (l.map (Value.int k)).map dg1 = l.map (Value.int k) := by simp [Function.comp_def]
@[simp] theorem Tag.dg1s (t : Tag) : t.cells.map dg1 = t.cells := dg1_ints _ _
@[simp] theorem Cnt.dg1s (c : Cnt) : c.cells.map dg1 = c.cells := by simp [Cnt.cells]
@[simp] theorem Tag.take32 (t : Tag) : t.cells.take 32 = t.cells := List.take_of_length_le (by simp)
@[simp] theorem Cnt.take33 (c : Cnt) : c.cells.take 33 = c.cells := List.take_of_length_le (by simp)
@[simp] theorem Cnt.take32 (c : Cnt) : c.cells.take 32 = c.tag.cells := by
  unfold Cnt.cells
  rw [List.take_append_of_le_length (by simp)]; simp
@[simp] theorem Cnt.get32 (c : Cnt) : c.cells[32]? = some (.int .i64 c.n) := by
  unfold Cnt.cells
  rw [List.getElem?_append_right (by simp)]; simp
@[simp] theorem Cnt.getE32 (c : Cnt) (h : 32 < c.cells.length) : c.cells[32] = .int .i64 c.n := by
  have := c.get32
  rw [List.getElem?_eq_getElem h] at this
  exact Option.some.inj this
@[simp] theorem Tag.dgv (t : Tag) : dg t.v = t.v := _root_.id rfl
@[simp] theorem Tag.cellsOf (t : Tag) : PE.cellsOf t.v = some t.cells := _root_.id rfl
@[simp] theorem Tag.lcv (t : Tag) : lc t.v = t.cells := _root_.id rfl
@[simp] theorem Cnt.dgv (t : Cnt) : dg t.v = t.v := _root_.id rfl
@[simp] theorem Cnt.cellsOf (t : Cnt) : PE.cellsOf t.v = some t.cells := _root_.id rfl
@[simp] theorem Cnt.lcv (t : Cnt) : lc t.v = t.cells := _root_.id rfl
theorem Tag.cells_inj {s t : Tag} (h : s.cells = t.cells) : s = t := by
  apply Tag.ext'
  have : Function.Injective (Value.int IntKind.u8) := fun a b h => by simpa using h
  exact (List.map_inj_right (fun a b h => this h)).1 h
theorem fits_ints (k : IntKind) : ∀ l : List Int, fitsL (List.replicate l.length (.int k)) (l.map (Value.int k)) = true
  | [] => rfl
  | x :: l => by simp [List.replicate_succ, fits_ints k l]
theorem eq_ints (k : IntKind) : ∀ l m : List Int, l.length = m.length → eqL (l.map (Value.int k)) (m.map (Value.int k)) = decide (l = m)
  | [], [], _ => rfl
  | x :: l, y :: m, h => by
    have := eq_ints k l m (by simpa using h)
    simp [this]
    rw [Bool.eq_iff_iff]; simp
@[simp] theorem Tag.fits (t : Tag) : fitsL (List.replicate 32 (.int .u8)) t.cells = true := by
  have := fits_ints .u8 t.b
  rw [t.hb] at this; exact this
@[simp] theorem Tag.eq (s t : Tag) : eqL s.cells t.cells = decide (s = t) := by
  unfold Tag.cells
  rw [eq_ints _ _ _ (by rw [s.hb, t.hb])]
  rw [Bool.eq_iff_iff]
  simp only [decide_eq_true_eq]
  exact ⟨Tag.ext', fun h => by rw [h]⟩
instance cntDec : DecidableEq Cnt := fun s t => if h : s.tag = t.tag ∧ s.n = t.n then isTrue (by cases s; cases t; simp_all) else isFalse fun e => h (by rw [e]; exact ⟨rfl, rfl⟩)
theorem fitsL_app : ∀ {ks ms : List CK} {a b : List Value}, fitsL ks a = true → fitsL ms b = true → fitsL (ks ++ ms) (a ++ b) = true
  | [], ms, [], b, _, h => h
  | [], ms, x :: a, b, h, _ => by simp [fitsL] at h
  | k :: ks, ms, [], b, h, _ => by simp [fitsL] at h
  | k :: ks, ms, x :: a, b, h, h' => by
    simp only [fitsL_cons, Bool.and_eq_true, List.cons_append] at h ⊢
    exact ⟨h.1, fitsL_app h.2 h'⟩
@[simp] theorem Cnt.fits (c : Cnt) : fitsL [(.int .u8), (.int .u8), (.int .u8), (.int .u8), (.int .u8), (.int .u8), (.int .u8), (.int .u8), (.int .u8), (.int .u8), (.int .u8), (.int .u8), (.int .u8), (.int .u8), (.int .u8), (.int .u8), (.int .u8), (.int .u8), (.int .u8), (.int .u8), (.int .u8), (.int .u8), (.int .u8), (.int .u8), (.int .u8), (.int .u8), (.int .u8), (.int .u8), (.int .u8), (.int .u8), (.int .u8), (.int .u8), (.int .i64)] c.cells = true := by
  have h := fits_ints .u8 c.tag.b
  rw [c.tag.hb] at h
  have := fitsL_app (ks := List.replicate 32 (.int .u8)) (ms := [.int .i64]) h (show fitsL [.int .i64] [.int .i64 c.n] = true by simp)
  exact this
@[simp] theorem Cnt.eq (s t : Cnt) : eqL s.cells t.cells = decide (s = t) := by
  unfold Cnt.cells
  rw [eqL_append _ _ _ _ (by simp), Tag.eq]
  rw [Bool.eq_iff_iff]
  simp only [Bool.and_eq_true, decide_eq_true_eq, eqL_cons, eqC_int, eqL_nil, and_true, beq_iff_eq]
  exact ⟨fun ⟨h1, h2⟩ => by cases s; cases t; simp_all, fun h => by rw [h]; exact ⟨rfl, rfl⟩⟩
theorem elem_cnt {l : List Cnt} {n : Int} (h0 : 0 ≤ n) (hn : n.toNat < l.length) : elemAt (l.map Cnt.v) n 33 = some (dptr 0 l[n.toNat].cells) := elemAt_map h0 hn rfl (by simp)
theorem elem_tag {l : List Tag} {n : Int} (h0 : 0 ≤ n) (hn : n.toNat < l.length) : elemAt (l.map Tag.v) n 32 = some (dptr 0 l[n.toNat].cells) := elemAt_map h0 hn rfl (by simp)
end Go.PE
namespace Go.PE
open Go
theorem fk_append {P : Program} : ∀ {l ks : List FK} {xs : List Value}, fkAll P (l ++ ks) xs → ∃ a b, xs = a ++ b ∧ fkAll P l a ∧ fkAll P ks b
  | [], ks, xs, h => ⟨[], xs, rfl, trivial, h⟩
  | k :: l, ks, xs, h => by
    obtain ⟨v, vs, rfl, h1, h2⟩ := fk_cons h
    obtain ⟨a, b, rfl, h3, h4⟩ := fk_append h2
    exact ⟨v :: a, b, rfl, ⟨h1, h3⟩, h4⟩
theorem fk_rep {P : Program} {k : IntKind} : ∀ {n : Nat} {cs : List Value}, fkAll P (List.replicate n (.int k)) cs → ∃ l : List Int, cs = l.map (.int k) ∧ l.length = n
  | 0, cs, h => ⟨[], fk_nil h, rfl⟩
  | n + 1, cs, h => by
    obtain ⟨v, vs, rfl, ⟨m, rfl, _⟩, h2⟩ := fk_cons h
    obtain ⟨l, rfl, rfl⟩ := fk_rep h2
    exact ⟨m :: l, rfl, rfl⟩
theorem tag_of {P : Program} {t n e : Nat} (h : P.underlying t = some (.array n e)) (hf : flat P 3 t = some (List.replicate 32 (.int .u8))) {cs : List Value} (hp : PTy P t cs) : ∃ q : Tag, toV P t cs = q.v := by
  obtain ⟨l, rfl, hl⟩ := fk_rep (flat_ok 3 t _ cs hf hp)
  exact ⟨⟨l, hl⟩, toV_arr h _⟩
theorem cnt_of {P : Program} {t : Nat} (h : ∃ fs, P.underlying t = some (.struct fs)) (hf : flat P 4 t = some (List.replicate 32 (.int .u8) ++ [.int .i64])) {cs : List Value} (hp : PTy P t cs) : ∃ q : Cnt, toV P t cs = q.v := by
  obtain ⟨fs, h⟩ := h
  obtain ⟨a, b, rfl, h1, h2⟩ := fk_append (flat_ok 4 t _ cs hf hp)
  obtain ⟨l, rfl, hl⟩ := fk_rep h1
  obtain ⟨v, vs, rfl, ⟨n, rfl, _⟩, h3⟩ := fk_cons h2
  obtain rfl := fk_nil h3
  exact ⟨⟨⟨l, hl⟩, n⟩, toV_ag h _⟩
end Go.PE
namespace Go.PE
open Go
attribute [simp] ba_beq
structure Per where
  name : ByteArray
  born : Int
  deriving DecidableEq
def Per.cells (p : Per) : List Value := [.string p.name, .int .i64 p.born]
def Per.v (p : Per) : Value := ag p.cells
@[simp] theorem Per.len (p : Per) : p.cells.length = 2 := _root_.id rfl
@[simp] theorem Per.dg1s (p : Per) : p.cells.map dg1 = p.cells := _root_.id rfl
@[simp] theorem Per.dgv (p : Per) : dg p.v = p.v := _root_.id rfl
@[simp] theorem Per.dg1v (p : Per) : dg1 p.v = p.v := _root_.id rfl
@[simp] theorem Per.dgTv (p : Per) : dgT p.v = p.v := _root_.id rfl
@[simp] theorem Per.cellsOf (p : Per) : PE.cellsOf p.v = some p.cells := _root_.id rfl
@[simp] theorem Per.lcv (p : Per) : lc p.v = p.cells := _root_.id rfl
@[simp] theorem Per.take2 (p : Per) : p.cells.take 2 = p.cells := _root_.id rfl
@[simp] theorem Per.get0 (p : Per) : p.cells[0]? = some (.string p.name) := _root_.id rfl
@[simp] theorem Per.get1 (p : Per) : p.cells[1]? = some (.int .i64 p.born) := _root_.id rfl
@[simp] theorem Per.getE0 (p : Per) (h : 0 < p.cells.length) : p.cells[0] = .string p.name := _root_.id rfl
@[simp] theorem Per.getE1 (p : Per) (h : 1 < p.cells.length) : p.cells[1] = .int .i64 p.born := _root_.id rfl
theorem Per.ag (p : Per) : PE.ag p.cells = p.v := rfl
theorem Per.ag' (n : ByteArray) (b : Int) : PE.ag [.string n, .int .i64 b] = (⟨n, b⟩ : Per).v := rfl
@[simp] theorem Per.fits (p : Per) : fitsL [.string, .int .i64] p.cells = true := _root_.id rfl
@[simp] theorem Per.eq (p r : Per) : eqL p.cells r.cells = decide (p = r) := by
  obtain ⟨n, b⟩ := p
  obtain ⟨n', b'⟩ := r
  simp only [Per.cells, eqL, eqC, ba_beq, Bool.and_true, Per.mk.injEq]
  by_cases h1 : n = n' <;> by_cases h2 : b = b' <;> simp [h1, h2]
theorem elem_per {l : List Per} {n : Int} (h0 : 0 ≤ n) (hn : n.toNat < l.length) : elemAt (l.map Per.v) n 2 = some (dptr 0 l[n.toNat].cells) := elemAt_map h0 hn rfl (by simp)
theorem getEl_of {l : List Value} {i : Nat} {v : Value} (h : l[i]? = some v) (hi : i < l.length) : l[i] = v := by
  rw [List.getElem?_eq_getElem hi] at h; exact Option.some.inj h
structure Con where
  party : Int
  key : Tag
  ps : List Per
def Con.cells (c : Con) : List Value := [.int .i64 c.party] ++ c.key.cells ++ [deep (c.ps.map Per.v)]
def Con.v (c : Con) : Value := ag c.cells
@[simp] theorem Con.len (c : Con) : c.cells.length = 34 := by simp [Con.cells]
@[simp] theorem Con.dg1s (c : Con) : c.cells.map dg1 = c.cells := by simp [Con.cells]
@[simp] theorem Con.dgv (c : Con) : dg c.v = c.v := _root_.id rfl
@[simp] theorem Con.dg1v (p : Con) : dg1 p.v = p.v := _root_.id rfl
@[simp] theorem Con.dgTv (p : Con) : dgT p.v = p.v := _root_.id rfl
@[simp] theorem Con.cellsOf (c : Con) : PE.cellsOf c.v = some c.cells := _root_.id rfl
@[simp] theorem Con.take34 (c : Con) : c.cells.take 34 = c.cells := List.take_of_length_le (by simp)
@[simp] theorem Con.get0 (c : Con) : c.cells[0]? = some (.int .i64 c.party) := _root_.id rfl
@[simp] theorem Con.getE0 (c : Con) (h : 0 < c.cells.length) : c.cells[0] = .int .i64 c.party := _root_.id rfl
@[simp] theorem Con.get33 (c : Con) : c.cells[33]? = some (deep (c.ps.map Per.v)) := by
  have : c.cells = ([.int .i64 c.party] ++ c.key.cells) ++ [deep (c.ps.map Per.v)] := rfl
  rw [this, List.getElem?_append_right (by simp)]; simp
@[simp] theorem Con.getE33 (c : Con) (h : 33 < c.cells.length) : c.cells[33] = deep (c.ps.map Per.v) := getEl_of c.get33 h
theorem Con.ag (c : Con) : PE.ag c.cells = c.v := rfl
@[simp] theorem Con.key32 (c : Con) : (c.cells.drop 1).take 32 = c.key.cells := by
  have : c.cells.drop 1 = c.key.cells ++ [deep (c.ps.map Per.v)] := rfl
  rw [this, List.take_append_of_le_length (by simp), List.take_of_length_le (by simp)]

/-! is the list of names one of different names? -/
def bornV (n : Int) : Bool := decide (-67108864 ≤ n) && decide (n ≤ 67108864)
def perOK (p : Per) : Bool := nameV p.name && bornV p.born
def Per.wf (p : Per) : Prop := (p.name.size : Int) ≤ 9223372036854775807
def psF : List Per → List Per → Bool
  | _, [] => true
  | pre, p :: r => perOK p && pre.all (fun d => decide (d.name ≠ p.name)) && psF (pre ++ [p]) r
def conOK (c : Con) : Bool := decide (0 ≤ c.party) && decide (c.party ≤ 7) && decide (c.ps.length ≤ 64) && psF [] c.ps
theorem psF_step {l : List Per} {i : Nat} (hi : i < l.length) : psF (l.take i) (l.drop i) = (perOK l[i] && (l.take i).all (fun d => decide (d.name ≠ l[i].name)) && psF (l.take (i + 1)) (l.drop (i + 1))) := by
  rw [List.drop_eq_getElem_cons hi, psF, List.take_succ_eq_append_getElem hi]

/-! maps -/
theorem getM_setM (k k' : ByteArray) (v : Bool) : ∀ es, getM k (setM k' v es) = if k = k' then v else getM k es
  | [] => by simp [setM, getM]
  | (a, b) :: r => by
    unfold setM
    by_cases h : k' = a
    · subst h
      by_cases h2 : k = k'
      · simp [getM, h2]
      · simp [getM, h2]
    · by_cases h2 : k = a
      · have : ¬ k = k' := fun e => h (by rw [← e, h2])
        have h3 : ¬ a = k' := fun e => h e.symm
        simp [h, getM, h2, h3]
      · simp [h, getM, h2, getM_setM k k' v r]
def keysM (es : List (ByteArray × Bool)) : List ByteArray := es.map (·.1)
theorem keys_setM (k : ByteArray) (v : Bool) : ∀ es, keysM (setM k v es) = if k ∈ keysM es then keysM es else keysM es ++ [k]
  | [] => by simp [setM, keysM]
  | (a, b) :: r => by
    unfold setM
    by_cases h : k = a
    · simp [h, keysM]
    · simp only [h, if_false]
      have ih := keys_setM k v r
      simp only [keysM, List.map_cons, List.mem_cons, h, false_or] at ih ⊢
      rw [ih]; split <;> simp_all
theorem nodup_setM {k : ByteArray} {v : Bool} {es : List (ByteArray × Bool)} (h : (keysM es).Nodup) : (keysM (setM k v es)).Nodup := by
  rw [keys_setM]
  split
  · exact h
  · rename_i hk
    rw [List.nodup_append]
    refine ⟨h, by simp, fun a ha b hb => ?_⟩
    simp at hb; subst hb
    exact fun e => hk (e ▸ ha)
theorem getM_none {k : ByteArray} : ∀ {es : List (ByteArray × Bool)}, k ∉ keysM es → getM k es = false
  | [], _ => rfl
  | (a, b) :: r, h => by
    simp only [keysM, List.map_cons, List.mem_cons, not_or] at h
    unfold getM
    rw [if_neg h.1]; exact getM_none h.2
theorem keys_delM (k : ByteArray) : ∀ es : List (ByteArray × Bool), (keysM es).Nodup → (keysM (delM k es)).Nodup ∧ ∀ x, x ∈ keysM (delM k es) ↔ x ∈ keysM es ∧ x ≠ k
  | [], _ => by simp [delM, keysM]
  | (a, b) :: r, h => by
    simp only [keysM, List.map_cons, List.nodup_cons] at h
    obtain ⟨i1, i2⟩ := keys_delM k r h.2
    unfold delM
    by_cases hk : k = a
    · subst hk
      simp only [if_true]
      refine ⟨h.2, fun x => ?_⟩
      show x ∈ keysM r ↔ x ∈ keysM ((k, b) :: r) ∧ x ≠ k
      simp only [keysM, List.map_cons, List.mem_cons]
      constructor
      · intro hx; exact ⟨.inr hx, fun e => h.1 (e ▸ hx)⟩
      · rintro ⟨hx | hx, hne⟩
        · exact absurd hx hne
        · exact hx
    · simp only [hk, if_false]
      refine ⟨?_, fun x => ?_⟩
      · show (a :: keysM (delM k r)).Nodup
        rw [List.nodup_cons]
        exact ⟨fun hx => h.1 ((i2 a).1 hx).1, i1⟩
      · show x ∈ a :: keysM (delM k r) ↔ x ∈ a :: keysM r ∧ x ≠ k
        simp only [List.mem_cons, i2]
        constructor
        · rintro (rfl | ⟨h1, h2⟩)
          · exact ⟨.inl rfl, fun e => hk e.symm⟩
          · exact ⟨.inr h1, h2⟩
        · rintro ⟨rfl | h1, h2⟩
          · exact .inl rfl
          · exact .inr ⟨h1, h2⟩
theorem getM_delM {k k' : ByteArray} : ∀ {es : List (ByteArray × Bool)}, (keysM es).Nodup → getM k (delM k' es) = if k = k' then false else getM k es
  | [], _ => by simp [delM, getM]
  | (a, b) :: r, h => by
    simp only [keysM, List.map_cons, List.nodup_cons] at h
    unfold delM
    by_cases hk : k' = a
    · subst hk
      simp only [if_true]
      by_cases h2 : k = k'
      · subst h2; rw [if_pos rfl]; exact getM_none h.1
      · rw [if_neg h2]; simp [getM, h2]
    · simp only [hk, if_false]
      by_cases h2 : k = a
      · have : ¬ k = k' := fun e => hk (by rw [← e, h2])
        rw [if_neg this]; simp [getM, h2]
      · simp only [getM, h2, if_false]; exact getM_delM h.2
/-- what the map of the names says when i of them have been taken out -/
def MpAt (l : List Per) (i : Nat) (es : List (ByteArray × Bool)) : Prop := (keysM es).Nodup ∧ ∀ k, getM k es = (l.any (fun p => decide (p.name = k)) && !((l.take i).any fun p => decide (p.name = k)))
/-- .. and when i of them have been put in -/
def MpIn (l : List Per) (i : Nat) (es : List (ByteArray × Bool)) : Prop := (keysM es).Nodup ∧ ∀ k, getM k es = (l.take i).any fun p => decide (p.name = k)
theorem MpIn.step {l : List Per} {i : Nat} {es : List (ByteArray × Bool)} (h : MpIn l i es) (hi : i < l.length) : MpIn l (i + 1) (setM l[i].name true es) := by
  refine ⟨nodup_setM h.1, fun k => ?_⟩
  rw [getM_setM, h.2, List.take_succ_eq_append_getElem hi, List.any_append]
  by_cases hk : k = l[i].name
  · subst hk; simp
  · have : ¬ l[i].name = k := fun e => hk e.symm
    simp [hk, this]
theorem MpIn.done {l : List Per} {es : List (ByteArray × Bool)} (h : MpIn l l.length es) : MpAt l 0 es := ⟨h.1, fun k => by rw [h.2, List.take_length]; simp⟩
theorem MpAt.step {l : List Per} {i : Nat} {es : List (ByteArray × Bool)} (h : MpAt l i es) (hi : i < l.length) : MpAt l (i + 1) (delM l[i].name es) := by
  refine ⟨(keys_delM _ _ h.1).1, fun k => ?_⟩
  rw [getM_delM h.1, h.2, List.take_succ_eq_append_getElem hi, List.any_append]
  by_cases hk : k = l[i].name
  · subst hk; simp
  · have : ¬ l[i].name = k := fun e => hk e.symm
    simp [hk, this]
theorem MpAt.get {l : List Per} {i : Nat} {es : List (ByteArray × Bool)} (h : MpAt l i es) (hi : i < l.length) : getM l[i].name es = (l.take i).all fun d => decide (d.name ≠ l[i].name) := by
  rw [h.2]
  have h1 : l.any (fun p => decide (p.name = l[i].name)) = true := List.any_eq_true.2 ⟨l[i], List.getElem_mem _, by simp⟩
  rw [h1, Bool.true_and]
  induction l.take i with
  | nil => rfl
  | cons a r ih => simp only [List.any_cons, List.all_cons, Bool.not_or, ih]; simp
end Go.PE
namespace Go.PE
open Go
def CNameOK (P : Program) (f g : Nat) : Prop := ∀ (b : ByteArray) (_ : (b.size : Int) ≤ 9223372036854775807) (H : Nat → Option (List Value)) (nx : Nat), H g = some bitsRow → g < nx →
    PCalls P f [.string b] H nx (fun _ => False) (fun r H' _ => r = .bool (nameV b) ∧ H' = H)
theorem cname_ok {P : Program} {f g m : Nat} (hc : compFn P f = some (6, concession_nameC m, [.t 2])) (hm : PValidOK P m g) : CNameOK P f g := by
  intro b hb H nx hg hgn
  refine PCalls_of hc (by simp) fun hw => ?_
  have hv : (⟨6, 0, 0, 0, b, 0⟩ : Pred).valid = nameV b := by simp [Pred.valid]
  simp [concession_nameC]
  refine wCall_eq (Q := fun r => r = .bool (nameV b)) (by have := hm ⟨6, 0, 0, 0, b, 0⟩ hb H nx hg hgn; rw [hv] at this; exact this) fun r n1 hr hn1 => ?_
  subst hr
  simp
  exact wF_own hw (by simp) ⟨rfl, rfl⟩
def BornOK (P : Program) (f : Nat) : Prop := ∀ (n : Int) (H : Nat → Option (List Value)) (nx : Nat), PCalls P f [.int .i64 n] H nx (fun _ => False) (fun r H' _ => r = .bool (bornV n) ∧ H' = H)
theorem born_ok {P : Program} {f : Nat} (hc : compFn P f = some (9, concession_bornC, [.t 2])) : BornOK P f := by
  intro n H nx
  refine PCalls_of hc (by simp) fun hw => ?_
  by_cases h : -67108864 ≤ n
  · simp [concession_bornC, h]
    exact wF_own hw (by simp) (by simp [bornV, h])
  · simp [concession_bornC, h]
    exact wF_own hw (by simp) (by simp [bornV, h])
def CnOK (P : Program) (f g : Nat) : Prop := ∀ (c : Con), (∀ p ∈ c.ps, p.wf) → c.ps.length ≤ maxLen → ∀ (H : Nat → Option (List Value)) (nx : Nat), H g = some bitsRow → g < nx →
    PCalls P f [c.v] H nx (fun _ => False) (fun r H' _ => r = .bool (conOK c) ∧ H' = H)
theorem cnvalid_ok {P : Program} {f g m b : Nat} (hc : compFn P f = some (62, concession_ValidC m b, [.t 2])) (hm : CNameOK P m g) (hb : BornOK P b) : CnOK P f g := by
  intro c hwf hlen H nx hg hgn
  refine PCalls_of hc (by simp) fun hw => ?_
  have hmx : (maxLen : Int) = 9223372036854775807 := rfl
  have hg1 : ¬ g = nx := by omega
  by_cases h1 : 0 ≤ c.party
  case neg =>
    simp [concession_ValidC, show c.party < 0 by omega]
    exact wF_own hw (by simp) (by simp [conOK, h1])
  by_cases h2 : c.party ≤ 7
  case neg =>
    simp [concession_ValidC, show ¬ c.party < 0 by omega, show 7 < c.party by omega]
    exact wF_own hw (by simp) (by simp [conOK, h2])
  by_cases h3 : c.ps.length ≤ 64
  case neg =>
    simp [concession_ValidC, show ¬ c.party < 0 by omega, show ¬ 7 < c.party by omega, show (64 : Int) < c.ps.length by omega]
    exact wF_own hw (by simp) (by simp [conOK, h3])
  have hok : conOK c = psF [] c.ps := by simp [conOK, h1, h2, h3]
  simp [concession_ValidC, concession_ValidC_j4, show ¬ c.party < 0 by omega, show ¬ 7 < c.party by omega, show ¬ (64 : Int) < c.ps.length by omega]
  refine mkM_of fun mb => ?_
  have hm1 : ∀ k, k < 62 → ¬ k = 62 + mb := fun k hk => by omega
  have hm2 : ∀ k, k < 62 → ¬ 62 + mb = k := fun k hk => by omega
  simp [hm1, hm2]
  refine wpc_loop _ _ _ _ _ _ (fun s => ∃ (i : Nat) (es : List (ByteArray × Bool)), i ≤ c.ps.length ∧ s.t 1 = ptr nx 0 ∧ s.t 3 = .map (some mb) ∧ s.t (62 + mb) = mpe es ∧ MpIn c.ps i es ∧ s.t 24 = deep (c.ps.map Per.v) ∧ s.t 25 = .int .i64 c.ps.length ∧ s.t 26 = .int .i64 i ∧ nx < s.nx ∧ Own nx H s.H ∧ s.H nx = some c.cells)
    (fun s => match s.t 26 with | .int _ i => (c.ps.length - i).toNat | _ => 0) _ ⟨0, [], by omega, by simp [hm1], by simp, by simp [hm2], ⟨by simp [keysM], by simp [getM]⟩, by simp, by simp, by simp, by simp, by simp, by simp⟩ ?_
  rintro ⟨T, H', nx'⟩ ⟨i, es, hi, e1, e3, em, hmp, e24, e25, e26, hnx, hown, hbox⟩
  simp only at e1 e3 em e24 e25 e26 hnx hown hbox
  simp [e25, e26]
  refine wB_of (fun hlt => ?_) (fun hlt => ?_)
  · simp at hlt
    have he := elem_per (l := c.ps) (n := (i : Int)) (by omega) (by simpa using hlt)
    simp at he
    have n1 : ¬ nx' = nx := by omega
    have n2 : ¬ nx = nx' := by omega
    simp [concession_ValidC_j1, e1, e3, e24, e26, he, n1, n2, hm1, hm2]
    refine ⟨by omega, mset_of (b := mb) (es := es) (kb := c.ps[i].name) (vb := true) (by simp) (by simp [em, hm1, hm2]) (by simp) (by simp) ?_⟩
    simp [e26, hm1, hm2]
    rw [w64 (x := (i : Int) + 1) (by omega) (by omega)]
    refine kLoop_nrm _ _ _ _ (Sub_refl _ _) ⟨i + 1, by omega, by simp [e1, hm1], by simp [e3, hm1], setM c.ps[i].name true es, by simp [hm2], hmp.step hlt, by simp [e24, hm1], by simp [e25, hm1], by simp, by simp; omega, by simp [show nx ≤ nx' by omega, hown], by simp [n2, hbox]⟩ (by simp; omega)
  · simp at hlt
    have : i = c.ps.length := by omega
    subst this
    have hmp2 := hmp.done
    clear hmp
    simp [concession_ValidC_j3, e1, e3, hbox]
    refine wpc_loop _ _ _ _ _ _ (fun s => ∃ (i : Nat) (es : List (ByteArray × Bool)), i ≤ c.ps.length ∧ s.t 3 = .map (some mb) ∧ s.t (62 + mb) = mpe es ∧ MpAt c.ps i es ∧ s.t 35 = deep (c.ps.map Per.v) ∧ s.t 36 = .int .i64 c.ps.length ∧ s.t 37 = .int .i64 i ∧ nx < s.nx ∧ Own nx H s.H ∧ conOK c = psF (c.ps.take i) (c.ps.drop i))
      (fun s => match s.t 37 with | .int _ i => (c.ps.length - i).toNat | _ => 0) _ ⟨0, es, by omega, by simp [e3], by simp [em, hm2], hmp2, by simp, by simp, by simp, by simp; omega, by simpa using hown, by simp [hok]⟩ ?_
    clear e1 e3 em e24 e25 e26 hnx hown hbox hmp2 hlt hi
    rintro ⟨T, H', nx'⟩ ⟨i, es, hi, e3, em, hmp, e35, e36, e37, hnx, hown, hall⟩
    simp only at e3 em e35 e36 e37 hnx hown
    simp [e36, e37]
    refine wB_of (fun hlt => ?_) (fun hlt => ?_)
    · simp at hlt
      have he := elem_per (l := c.ps) (n := (i : Int)) (by omega) (by simpa using hlt)
      simp at he
      have hst := psF_step hlt
      have hget := hmp.get hlt
      have hgH : H' g = some bitsRow := by rw [hown g hgn]; exact hg
      have n3 : ¬ g = nx' := by omega
      simp [concession_ValidC_j2, e3, e35, e37, he]
      refine ⟨by omega, ?_⟩
      refine wCall_eq (Q := fun r => r = .bool (nameV c.ps[i].name)) (hm _ (hwf _ (List.getElem_mem _)) _ _ (by simp [n3, hgH]) (by simp; omega)) fun r n4 hr hn4 => ?_
      subst hr
      simp at hn4
      cases hA : nameV c.ps[i].name with
      | false =>
        simp
        exact wF_own hw (by simp [show nx ≤ nx' by omega, hown]) ⟨by rw [hall, hst]; simp [perOK, hA], rfl⟩
      | true =>
        simp
        refine wCall_eq (Q := fun r => r = .bool (bornV c.ps[i].born)) (hb _ _ _) fun r n5 hr hn5 => ?_
        subst hr
        simp at hn5
        cases hB : bornV c.ps[i].born with
        | false =>
          simp
          exact wF_own hw (by simp [show nx ≤ nx' by omega, hown]) ⟨by rw [hall, hst]; simp [perOK, hA, hB], rfl⟩
        | true =>
          simp [e3]
          refine mget_of (b := mb) (es := es) (kb := c.ps[i].name) (by simp) (by simp [em, hm1, hm2]) (by simp) ?_
          rw [hget]
          cases hC : (c.ps.take i).all fun d => decide (d.name ≠ c.ps[i].name) with
          | false =>
            simp
            exact wF_own hw (by simp [show nx ≤ nx' by omega, hown]) ⟨by rw [hall, hst, hC]; simp, rfl⟩
          | true =>
            simp [e3, e37]
            refine mdel_of (b := mb) (es := es) (kb := c.ps[i].name) (by simp) (by simp [em, hm1, hm2]) (by simp) ?_
            simp [e37, hm1, hm2]
            rw [w64 (x := (i : Int) + 1) (by omega) (by omega)]
            refine kLoop_nrm _ _ _ _ (Sub_refl _ _) ⟨i + 1, by omega, by simp [e3, hm1], delM c.ps[i].name es, by simp [hm2], hmp.step hlt, by simp [e35, hm1], by simp [e36, hm1], by simp, by simp; omega, by simp [show nx ≤ nx' by omega, hown], by rw [hall, hst, hC]; simp [perOK, hA, hB]⟩ (by simp; omega)
    · simp at hlt
      have : i = c.ps.length := by omega
      subst this
      rw [List.drop_length] at hall
      exact wF_own hw (by simpa using hown) ⟨by rw [hall]; rfl, rfl⟩
end Go.PE
namespace Go.PE
open Go
def RCnOK (P : Program) (f : Nat) : Prop := ∀ (c : Con), (∀ p ∈ c.ps, p.wf) → c.ps.length ≤ maxLen → ∀ (H : Nat → Option (List Value)) (nx : Nat),
    PCalls P f [c.v] H nx (fun _ => False) (fun r H' _ => r = .bool (conOK c) ∧ H' = H)
theorem rcnvalid_ok {P : Program} {f m : Nat} (hc : compFn P f = some (60, ref26_ConcessionOkC m, [.t 2])) (hm : NameOK P m) : RCnOK P f := by
  intro c hwf hlen H nx
  refine PCalls_of hc (by simp) fun hw => ?_
  have hmx : (maxLen : Int) = 9223372036854775807 := rfl
  by_cases h1 : 0 ≤ c.party
  case neg =>
    simp [ref26_ConcessionOkC, show c.party < 0 by omega]
    exact wF_own hw (by simp) (by simp [conOK, h1])
  by_cases h2 : c.party ≤ 7
  case neg =>
    simp [ref26_ConcessionOkC, show ¬ c.party < 0 by omega, show 7 < c.party by omega]
    exact wF_own hw (by simp) (by simp [conOK, h2])
  by_cases h3 : c.ps.length ≤ 64
  case neg =>
    simp [ref26_ConcessionOkC, show ¬ c.party < 0 by omega, show ¬ 7 < c.party by omega, show (64 : Int) < c.ps.length by omega]
    exact wF_own hw (by simp) (by simp [conOK, h3])
  have hok : conOK c = psF [] c.ps := by simp [conOK, h1, h2, h3]
  simp [ref26_ConcessionOkC, ref26_ConcessionOkC_j4, show ¬ c.party < 0 by omega, show ¬ 7 < c.party by omega, show ¬ (64 : Int) < c.ps.length by omega]
  refine wpc_loop _ _ _ _ _ _ (fun s => ∃ (i : Nat), i ≤ c.ps.length ∧ s.t 1 = ptr nx 0 ∧ s.t 3 = .int .i64 i ∧ nx < s.nx ∧ Own nx H s.H ∧ s.H nx = some c.cells ∧ conOK c = psF (c.ps.take i) (c.ps.drop i))
    (fun s => match s.t 3 with | .int _ i => (c.ps.length - i).toNat | _ => 0) _ ⟨0, by omega, by simp, by simp, by simp, by simp, by simp, by simp [hok]⟩ ?_
  rintro ⟨T, H', nx'⟩ ⟨i, hi, e1, e3, hnx, hown, hbox, hall⟩
  simp only at e1 e3 hnx hown hbox
  simp [e1, e3, hbox]
  refine wB_of (fun hlt => ?_) (fun hlt => ?_)
  · simp at hlt
    have he := elem_per (l := c.ps) (n := (i : Int)) (by omega) (by simpa using hlt)
    simp at he
    have hst := psF_step hlt
    have n1 : ¬ nx' = nx := by omega
    have n2 : ¬ nx = nx' := by omega
    simp [ref26_ConcessionOkC_j3, e1, e3, hbox, he, n1, n2]
    refine ⟨by omega, ?_⟩
    refine wCall_eq (Q := fun r => r = .bool (nameV c.ps[i].name)) (hm _ (hwf _ (List.getElem_mem _)) _ _) fun r n4 hr hn4 => ?_
    subst hr
    simp at hn4
    cases hA : nameV c.ps[i].name with
    | false =>
      simp
      exact wF_own hw (by simp [show nx ≤ nx' by omega, hown]) ⟨by rw [hall, hst]; simp [perOK, hA], rfl⟩
    | true =>
      by_cases b1 : -67108864 ≤ c.ps[i].born
      case neg =>
        simp [show c.ps[i].born < -67108864 by omega]
        exact wF_own hw (by simp [show nx ≤ nx' by omega, hown]) ⟨by rw [hall, hst]; simp [perOK, bornV, b1], rfl⟩
      by_cases b2 : c.ps[i].born ≤ 67108864
      case neg =>
        simp [show ¬ c.ps[i].born < -67108864 by omega, show 67108864 < c.ps[i].born by omega]
        exact wF_own hw (by simp [show nx ≤ nx' by omega, hown]) ⟨by rw [hall, hst]; simp [perOK, bornV, b2], rfl⟩
      have hB : bornV c.ps[i].born = true := by simp [bornV, b1, b2]
      simp [show ¬ c.ps[i].born < -67108864 by omega, show ¬ 67108864 < c.ps[i].born by omega, ref26_ConcessionOkC_j2]
      refine wpc_loop _ _ _ _ _ _ (fun s => ∃ (j : Nat), j ≤ i ∧ s.t 1 = ptr nx 0 ∧ s.t 3 = .int .i64 i ∧ s.t 4 = ptr nx' 0 ∧ s.t 5 = .int .i64 j ∧ nx' < s.nx ∧ Own nx H s.H ∧ s.H nx = some c.cells ∧ s.H nx' = some c.ps[i].cells ∧ ∀ (k : Nat) d, k < j → c.ps[k]? = some d → d.name ≠ c.ps[i].name)
        (fun s => match s.t 5 with | .int _ j => (i - j).toNat | _ => 0) _ ⟨0, by omega, by simp [e1], by simp [e3], by simp, by simp, by simp; omega, by simp [show nx ≤ nx' by omega, hown], by simp [n2, hbox], by simp, by intro k d hk; omega⟩ ?_
      clear e1 e3 hbox hown hn4
      rintro ⟨T, H', nx2⟩ ⟨j, hj, e1, e3, e4, e5, hnx2, hown, hbox, hbox2, hne⟩
      simp only at e1 e3 e4 e5 hnx2 hown hbox hbox2
      simp [e3, e5]
      refine wB_of (fun hjt => ?_) (fun hjt => ?_)
      · simp at hjt
        have hej := elem_per (l := c.ps) (n := (j : Int)) (by omega) (by simp; omega)
        simp at hej
        simp [ref26_ConcessionOkC_j1, e1, e4, e5, hbox, hbox2, hej]
        by_cases hd : c.ps[j].name = c.ps[i].name
        · simp [hd]
          refine wF_own hw (by simpa using hown) ⟨?_, rfl⟩
          rw [hall, hst]
          have : ((c.ps.take i).all fun d => decide (d.name ≠ c.ps[i].name)) = false := by
            rw [List.all_eq_false]
            exact ⟨c.ps[j], List.mem_iff_getElem.2 ⟨j, by simp; omega, by simp⟩, by simp [hd]⟩
          rw [this]; simp
        · simp [hd, e5]
          rw [w64 (x := (j : Int) + 1) (by omega) (by omega)]
          refine kLoop_nrm _ _ _ _ (Sub_refl _ _) ⟨j + 1, by omega, by simp [e1], by simp [e3], by simp [e4], by simp, by simpa using hnx2, by simpa using hown, by simp [hbox], by simp [hbox2], ?_⟩ (by simp; omega)
          intro k d hk hkd
          by_cases hkj : k = j
          · subst hkj
            rw [List.getElem?_eq_getElem (by omega)] at hkd
            obtain rfl := Option.some.inj hkd
            exact hd
          · exact hne k d (by omega) hkd
      · simp at hjt
        have : j = i := by omega
        subst this
        have hC : ((c.ps.take j).all fun d => decide (d.name ≠ c.ps[j].name)) = true := by
          rw [List.all_eq_true]
          intro d hd
          obtain ⟨k, hk, rfl⟩ := List.mem_iff_getElem.1 hd
          have hk' : k < j := by simp at hk; omega
          simp only [List.getElem_take]
          exact decide_eq_true (hne k _ hk' (List.getElem?_eq_getElem (by omega)))
        simp [e3]
        rw [w64 (x := (j : Int) + 1) (by omega) (by omega)]
        refine kLoop_nrm _ _ _ _ (Sub_refl _ _) ⟨j + 1, by omega, by simp [e1], by simp, by simp; omega, by simpa using hown, by simp [hbox], by rw [hall, hst, hC]; simp [perOK, hA, hB]⟩ (by simp; omega)
  · simp at hlt
    have : i = c.ps.length := by omega
    subst this
    rw [List.drop_length] at hall
    exact wF_own hw (by simpa using hown) ⟨by rw [hall]; rfl, rfl⟩

/-! functions as values -/
def ixF {α : Type} (p : α → Bool) : List α → Nat → Int
  | [], _ => -1
  | x :: r, i => if p x then i else ixF p r (i + 1)
theorem ixF_step {α : Type} {p : α → Bool} {l : List α} {i : Nat} (hi : i < l.length) : ixF p (l.drop i) i = if p l[i] then (i : Int) else ixF p (l.drop (i + 1)) (i + 1) := by
  rw [List.drop_eq_getElem_cons hi]; rfl
theorem ixF_any {α : Type} {p : α → Bool} : ∀ {l : List α} {i : Nat}, decide (0 ≤ ixF p l i) = l.any p
  | [], _ => rfl
  | x :: r, i => by
    unfold ixF
    by_cases h : p x = true
    · simp [h]
    · simp only [h, if_false, List.any_cons, Bool.false_or, Bool.false_eq_true]
      exact ixF_any
/-- a function value that answers for each of a list's elements -/
def FnB {α : Type} (P : Program) (v : α → Value) (f : FuncId) (caps : List Value) (H : Nat → Option (List Value)) (nx : Nat) (p : α → Bool) (l : List α) : Prop :=
  okFn P f = true ∧ ∀ x ∈ l, ∀ nx', nx ≤ nx' → PCalls P f ([v x] ++ caps) H nx' (fun _ => False) (fun r H' _ => r = .bool (p x) ∧ H' = H)
def IxPerOK (P : Program) (f : Nat) : Prop := ∀ (l : List Per) (g : FuncId) (caps : List Value) (p : Per → Bool) (H : Nat → Option (List Value)) (nx : Nat), l.length ≤ maxLen → FnB P Per.v g caps H nx p l →
    PCalls P f [deep (l.map Per.v), clo g [] caps] H nx (fun _ => False) (fun r H' _ => r = .int .i64 (ixF p l 0) ∧ H' = H)
theorem ixPer_ok {P : Program} {f : Nat} (hc : compFn P f = some (19, slices_IndexFunc_api_Person_api_PersonC, [.t 4])) : IxPerOK P f := by
  intro l g caps p H nx hlen ⟨hfn, hf⟩
  refine PCalls_of hc (by simp) fun hw => ?_
  have hmx : (maxLen : Int) = 9223372036854775807 := rfl
  simp [slices_IndexFunc_api_Person_api_PersonC]
  refine wpc_loop _ _ _ _ _ _ (fun s => ∃ i : Nat, i ≤ l.length ∧ s.t 0 = deep (l.map Per.v) ∧ s.t 1 = clo g [] caps ∧ s.t 7 = .int .i64 l.length ∧ s.t 8 = .int .i64 i ∧ s.H = H ∧ nx ≤ s.nx ∧ ixF p l 0 = ixF p (l.drop i) i)
    (fun s => match s.t 8 with | .int _ i => (l.length - i).toNat | _ => 0) _ ⟨0, by omega, by simp, by simp, by simp, by simp, rfl, by simp, by simp⟩ ?_
  rintro ⟨T, H', nx'⟩ ⟨i, hi, e0, e1, e7, e8, rfl, hnx, hall⟩
  simp only at e0 e1 e7 e8 hnx
  simp [e7, e8]
  refine wB_of (fun hlt => ?_) (fun hlt => ?_)
  · simp at hlt
    have he := elem_per (l := l) (n := (i : Int)) (by omega) (by simpa using hlt)
    simp at he
    have hst := ixF_step (p := p) hlt
    simp [slices_IndexFunc_api_Person_api_PersonC_j1, e0, e1, e8, he, hfn, Per.ag]
    refine wCall_eq (Q := fun r => r = .bool (p l[i])) (hf _ (List.getElem_mem _) _ hnx) fun r n4 hr hn4 => ?_
    subst hr
    cases hp : p l[i] with
    | true =>
      simp
      exact wF_own hw (by simp) ⟨by rw [hall, hst, hp]; rfl, rfl⟩
    | false =>
      simp [e8]
      rw [w64 (x := (i : Int) + 1) (by omega) (by omega)]
      simp at hn4
      refine kLoop_nrm _ _ _ _ (Sub_refl _ _) ⟨i + 1, by omega, by simp [e0], by simp [e1], by simp [e7], by simp, rfl, by simp; omega, by rw [hall, hst, hp]; rfl⟩ (by simp; omega)
  · simp at hlt
    have : i = l.length := by omega
    subst this
    rw [List.drop_length] at hall
    exact wF_own hw (by simp) ⟨by rw [hall]; rfl, rfl⟩
def CfPerOK (P : Program) (f : Nat) : Prop := ∀ (l : List Per) (g : FuncId) (caps : List Value) (p : Per → Bool) (H : Nat → Option (List Value)) (nx : Nat), l.length ≤ maxLen → FnB P Per.v g caps H nx p l →
    PCalls P f [deep (l.map Per.v), clo g [] caps] H nx (fun _ => False) (fun r H' _ => r = .bool (l.any p) ∧ H' = H)
theorem cfPer_ok {P : Program} {f x : Nat} (hc : compFn P f = some (9, slices_ContainsFunc_api_Person_api_PersonC x, [.t 4])) (hx : IxPerOK P x) : CfPerOK P f := by
  intro l g caps p H nx hlen hf
  refine PCalls_of hc (by simp) fun hw => ?_
  simp [slices_ContainsFunc_api_Person_api_PersonC]
  refine wCall_eq (Q := fun r => r = .int .i64 (ixF p l 0)) (hx l g caps p H nx hlen hf) fun r n4 hr hn4 => ?_
  subst hr
  simp
  exact wF_own hw (by simp) ⟨by rw [ixF_any]; rfl, rfl⟩
def ClonePerOK (P : Program) (f e : Nat) : Prop := ∀ (l : List Per) (H : Nat → Option (List Value)) (nx : Nat), l.length ≤ 1000000 →
    PCalls P f [deep (l.map Per.v)] H nx (fun _ => False) (fun r H' _ => r = lin e (l.map Per.v) ∧ H' = H)
theorem clonePer_ok {P : Program} {f t : Nat} (hc : compFn P f = some (8, slices_Clone_api_Person_api_PersonC t, [.t 2])) : ClonePerOK P f t := by
  intro l H nx hlen
  refine PCalls_of hc (by simp) fun hw => ?_
  have hmx : (maxLen : Int) = 9223372036854775807 := rfl
  simp [slices_Clone_api_Person_api_PersonC]
  refine nilS_deep (xs := l.map Per.v) (by simp) (fun hn => ?_) ?_
  · have : l = [] := by simpa using hn
    subst this
    simp
    exact wF_own hw (by simp) ⟨rfl, rfl⟩
  · simp
    refine ⟨by omega, by omega, ?_⟩
    exact wF_own hw (by simp) ⟨rfl, rfl⟩
theorem regFn_ok {P : Program} {f : Nat} (hc : compFn P f = some (9, concession_Register_1C, [.t 3])) (x p : Per) (k : Nat) (H : Nat → Option (List Value)) (nx : Nat) (hk : H k = some p.cells) (hkn : k < nx) :
    PCalls P f [x.v, ptr k 0] H nx (fun _ => False) (fun r H' _ => r = .bool (decide (x.name = p.name)) ∧ H' = H) := by
  refine PCalls_of hc (by simp) fun hw => ?_
  have n1 : ¬ k = nx := by omega
  simp [concession_Register_1C, n1, hk]
  exact wF_own hw (by simp) ⟨by simp, rfl⟩
end Go.PE
namespace Go.PE
open Go
def per0 : Per := ⟨⟨#[]⟩, 0⟩
def tag0 : Tag := ⟨List.replicate 32 0, by simp⟩
def con0 : Con := ⟨0, tag0, []⟩
def findP (n : ByteArray) (l : List Per) : Option Per := l.find? fun p => decide (p.name = n)
theorem findP_step {n : ByteArray} {l : List Per} {i : Nat} (hi : i < l.length) : findP n (l.drop i) = if l[i].name = n then some l[i] else findP n (l.drop (i + 1)) := by
  rw [List.drop_eq_getElem_cons hi]; unfold findP
  rw [List.find?_cons]
  by_cases h : l[i].name = n
  · simp [h]
  · simp [h]
def foundR (n : ByteArray) (l : List Per) : Value := tup [((findP n l).getD per0).v, .bool (findP n l).isSome]
def FindCOK (P : Program) (f : Nat) : Prop := ∀ (c : Con) (n : ByteArray), c.ps.length ≤ maxLen → ∀ (H : Nat → Option (List Value)) (nx : Nat),
    PCalls P f [c.v, .string n] H nx (fun _ => False) (fun r H' _ => r = foundR n c.ps ∧ H' = H)
theorem dfind_ok {P : Program} {f : Nat} (hc : compFn P f = some (24, discharge_FindC, [.cA 4 2, .t 5])) : FindCOK P f := by
  intro c n hlen H nx
  refine PCalls_of hc (by simp) fun hw => ?_
  have hmx : (maxLen : Int) = 9223372036854775807 := rfl
  simp [discharge_FindC]
  refine wpc_loop _ _ _ _ _ _ (fun s => ∃ (i : Nat), i ≤ c.ps.length ∧ s.t 1 = .string n ∧ s.t 4 = ptr (nx + 1) 0 ∧ s.t 5 = .bool false ∧ s.t 9 = deep (c.ps.map Per.v) ∧ s.t 10 = .int .i64 c.ps.length ∧ s.t 11 = .int .i64 i ∧ nx + 1 < s.nx ∧ Own nx H s.H ∧ s.H (nx + 1) = some per0.cells ∧ findP n c.ps = findP n (c.ps.drop i))
    (fun s => match s.t 11 with | .int _ i => (c.ps.length - i).toNat | _ => 0) _ ⟨0, by omega, by simp, by simp, by simp, by simp, by simp, by simp, by simp, by simp, by simp [per0, Per.cells], by simp⟩ ?_
  rintro ⟨T, H', nx'⟩ ⟨i, hi, e1, e4, e5, e9, e10, e11, hnx, hown, hbox, hall⟩
  simp only at e1 e4 e5 e9 e10 e11 hnx hown hbox
  simp [e10, e11]
  refine wB_of (fun hlt => ?_) (fun hlt => ?_)
  · simp at hlt
    have he := elem_per (l := c.ps) (n := (i : Int)) (by omega) (by simpa using hlt)
    simp at he
    have hst := findP_step (n := n) hlt
    have n1 : ¬ nx' = nx + 1 := by omega
    have n2 : ¬ nx + 1 = nx' := by omega
    have heq : (decide (c.ps[i] = (⟨n, c.ps[i].born⟩ : Per))) = decide (c.ps[i].name = n) := by
      by_cases h : c.ps[i].name = n
      · rw [decide_eq_true h, decide_eq_true]
        rw [← h]
      · rw [decide_eq_false h, decide_eq_false]
        intro h2; exact h (by rw [h2])
    have heq2 := Per.eq c.ps[i] ⟨n, c.ps[i].born⟩
    rw [heq] at heq2
    have hc2 : (⟨n, c.ps[i].born⟩ : Per).cells = [.string n, .int .i64 c.ps[i].born] := rfl
    rw [hc2] at heq2
    simp [discharge_FindC_j1, e1, e4, e5, e9, e11, he, n1, n2]
    refine ⟨by omega, ?_⟩
    by_cases hA : c.ps[i].name = n
    · rw [decide_eq_true hA] at heq2
      simp [heq2, hbox, e4, n1, n2, e1]
      refine wF_own hw (by simp [show nx ≤ nx' by omega, show nx ≤ nx + 1 by omega, hown]) ⟨?_, rfl⟩
      rw [if_pos hA] at hst
      rw [foundR, hall, hst]
      simp [per0]; rfl
    · rw [decide_eq_false hA] at heq2
      simp [heq2, e11]
      rw [w64 (x := (i : Int) + 1) (by omega) (by omega)]
      rw [if_neg hA] at hst
      refine kLoop_nrm _ _ _ _ (Sub_refl _ _) ⟨i + 1, by omega, by simp [e1], by simp [e4], by simp [e5], by simp [e9], by simp [e10], by simp, by simp; omega, by simp [show nx ≤ nx' by omega, hown], by simp [hbox, n1, n2], by rw [hall, hst]⟩ (by simp; omega)
  · simp at hlt
    have : i = c.ps.length := by omega
    subst this
    rw [List.drop_length] at hall
    have hf : findP n c.ps = none := by rw [hall]; rfl
    simp [e4, hbox]
    refine wF_own hw (by simp [show nx ≤ nx + 1 by omega, hown]) ⟨?_, rfl⟩
    rw [foundR, hf]; rfl
theorem rfind_ok {P : Program} {f : Nat} (hc : compFn P f = some (28, ref10_FindC, [.cA 4 2, .t 5])) : FindCOK P f := by
  intro c n hlen H nx
  refine PCalls_of hc (by simp) fun hw => ?_
  have hmx : (maxLen : Int) = 9223372036854775807 := rfl
  simp [ref10_FindC]
  refine wpc_loop _ _ _ _ _ _ (fun s => ∃ (i : Nat), i ≤ c.ps.length ∧ s.t 1 = .string n ∧ s.t 2 = ptr nx 0 ∧ s.t 4 = ptr (nx + 1) 0 ∧ s.t 5 = .bool false ∧ s.t 6 = .int .i64 i ∧ s.H = upd (upd H nx (some c.cells)) (nx + 1) (some per0.cells) ∧ findP n c.ps = findP n (c.ps.drop i))
    (fun s => match s.t 6 with | .int _ i => (c.ps.length - i).toNat | _ => 0) _ ⟨0, by omega, by simp, by simp, by simp, by simp, by simp, by simp [per0, Per.cells], by simp⟩ ?_
  rintro ⟨T, H', nx'⟩ ⟨i, hi, e1, e2, e4, e5, e6, rfl, hall⟩
  simp only at e1 e2 e4 e5 e6
  simp [e2, e6]
  refine wB_of (fun hlt => ?_) (fun hlt => ?_)
  · simp at hlt
    have he := elem_per (l := c.ps) (n := (i : Int)) (by omega) (by simpa using hlt)
    simp at he
    have hst := findP_step (n := n) hlt
    simp [ref10_FindC_j1, e1, e2, e4, e5, e6, he]
    by_cases hA : c.ps[i].name = n
    · simp [hA, e2, e4, e6, he]
      refine wF_own hw (by simp [show nx ≤ nx + 1 by omega]) ⟨?_, rfl⟩
      rw [if_pos hA] at hst
      rw [foundR, hall, hst]
      simp [per0]; rfl
    · simp [hA, e6]
      rw [w64 (x := (i : Int) + 1) (by omega) (by omega)]
      rw [if_neg hA] at hst
      refine kLoop_nrm _ _ _ _ (Sub_refl _ _) ⟨i + 1, by omega, by simp [e1], by simp [e2], by simp [e4], by simp [e5], by simp, rfl, by rw [hall, hst]⟩ (by simp; omega)
  · simp at hlt
    have : i = c.ps.length := by omega
    subst this
    rw [List.drop_length] at hall
    have hf : findP n c.ps = none := by rw [hall]; rfl
    simp [e4]
    refine wF_own hw (by simp [show nx ≤ nx + 1 by omega]) ⟨?_, rfl⟩
    rw [foundR, hf]; rfl

def newV (party : Int) (key : Tag) : Con × Int := if 0 ≤ party ∧ party ≤ 7 then (⟨party, key, []⟩, 0) else (con0, 1)
def NewCOK (P : Program) (f : Nat) : Prop := ∀ (party : Int) (key : Tag) (H : Nat → Option (List Value)) (nx : Nat),
    PCalls P f [.int .i64 party, key.v] H nx (fun _ => False) (fun r H' _ => r = tup [(newV party key).1.v, .int .i64 (newV party key).2] ∧ H' = H)
theorem newc_ok {P : Program} {f e : Nat} (hc : compFn P f = some (16, concession_NewC e, [.cA 4 34, .t 5])) : NewCOK P f := by
  intro party key H nx
  refine PCalls_of hc (by simp) fun hw => ?_
  by_cases h1 : 0 ≤ party
  case neg =>
    simp [concession_NewC, show party < 0 by omega, -List.reduceReplicate]
    exact wF_own hw (by simp [show nx ≤ nx + 1 by omega]) ⟨by rw [newV, if_neg (by omega)]; rfl, rfl⟩
  by_cases h2 : party ≤ 7
  case neg =>
    simp [concession_NewC, show ¬ party < 0 by omega, show 7 < party by omega, -List.reduceReplicate]
    exact wF_own hw (by simp [show nx ≤ nx + 1 by omega]) ⟨by rw [newV, if_neg (by omega)]; rfl, rfl⟩
  have ht : List.take 33 (key.cells ++ [deep []]) = key.cells ++ [deep []] := List.take_of_length_le (by simp)
  simp [concession_NewC, concession_NewC_j1, show ¬ party < 0 by omega, show ¬ 7 < party by omega, ht, -List.reduceReplicate]
  exact wF_own hw (by simp [show nx ≤ nx + 1 by omega]) ⟨by rw [newV, if_pos ⟨h1, h2⟩]; rfl, rfl⟩
end Go.PE
namespace Go.PE
open Go
@[simp] theorem con_tail (c : Con) : List.take 32 c.cells.tail = c.key.cells := by rw [← List.drop_one]; exact c.key32
@[simp] theorem con_drop34 (c : Con) : List.drop 34 c.cells = [] := List.drop_of_length_le (by simp)
def SameCnOK (P : Program) (f : Nat) : Prop := ∀ (a : Con), a.ps.length ≤ maxLen → ∀ (H : Nat → Option (List Value)) (nx : Nat),
    PCalls P f [a.v, a.v] H nx (fun _ => False) (fun r H' _ => r = .bool true ∧ H' = H)
theorem sameCn_ok {P : Program} {f : Nat} (hc : compFn P f = some (45, ref26_SameConcessionC, [.t 4])) : SameCnOK P f := by
  intro c hlen H nx
  refine PCalls_of hc (by simp) fun hw => ?_
  have hmx : (maxLen : Int) = 9223372036854775807 := rfl
  simp [ref26_SameConcessionC, ref26_SameConcessionC_j2, -List.reduceReplicate]
  refine wpc_loop _ _ _ _ _ _ (fun s => ∃ (i : Nat), i ≤ c.ps.length ∧ s.t 2 = ptr nx 0 ∧ s.t 3 = ptr (nx + 1) 0 ∧ s.t 5 = .int .i64 i ∧ s.H = upd (upd H nx (some c.cells)) (nx + 1) (some c.cells))
    (fun s => match s.t 5 with | .int _ i => (c.ps.length - i).toNat | _ => 0) _ ⟨0, by omega, by simp, by simp, by simp, by simp⟩ ?_
  rintro ⟨T, H', nx'⟩ ⟨i, hi, e2, e3, e5, rfl⟩
  simp only at e2 e3 e5
  simp [e2, e5]
  refine wB_of (fun hlt => ?_) (fun hlt => ?_)
  · simp at hlt
    have he := elem_per (l := c.ps) (n := (i : Int)) (by omega) (by simpa using hlt)
    simp at he
    simp [ref26_SameConcessionC_j1, e2, e3, e5, he]
    rw [w64 (x := (i : Int) + 1) (by omega) (by omega)]
    refine kLoop_nrm _ _ _ _ (Sub_refl _ _) ⟨i + 1, by omega, by simp [e2], by simp [e3], by simp, rfl⟩ (by simp; omega)
  · simp at hlt
    exact wF_own hw (by simp [show nx ≤ nx + 1 by omega]) ⟨rfl, rfl⟩

def regV (c : Con) (p : Per) : Con × Int :=
  if conOK c = false then (con0, 5) else if nameV p.name = false then (con0, 7) else if bornV p.born = false then (con0, 1)
  else if c.ps.any (fun x => decide (x.name = p.name)) = true then (con0, 10) else if 64 ≤ c.ps.length then (con0, 2) else (⟨c.party, c.key, c.ps ++ [p]⟩, 0)
def regR (c : Con) (p : Per) : Value := tup [(regV c p).1.v, .int .i64 (regV c p).2]
theorem con_set (c : Con) (e : Nat) (l : List Per) : (c.cells.set 33 (lin e (l.map Per.v))).map dg1 = (⟨c.party, c.key, l⟩ : Con).cells := by
  have : c.cells = ([.int .i64 c.party] ++ c.key.cells) ++ [deep (c.ps.map Per.v)] := rfl
  rw [this, List.set_append_right _ _ (by simp)]
  simp [Con.cells]
theorem con_set' (c : Con) (l : List Per) : c.cells.set 33 (deep (l.map Per.v)) = (⟨c.party, c.key, l⟩ : Con).cells := by
  have : c.cells = ([.int .i64 c.party] ++ c.key.cells) ++ [deep (c.ps.map Per.v)] := rfl
  rw [this, List.set_append_right _ _ (by simp)]
  simp [Con.cells]
theorem con_len {c : Con} (h : conOK c = true) : c.ps.length ≤ 64 := by
  simp only [conOK, Bool.and_eq_true, decide_eq_true_eq] at h; exact h.1.2
theorem findP_any (n : ByteArray) (l : List Per) : (findP n l).isSome = l.any fun x => decide (x.name = n) := by
  unfold findP; rw [Bool.eq_iff_iff, List.find?_isSome, List.any_eq_true]
def RegOK (P : Program) (f g : Nat) : Prop := ∀ (c : Con) (p : Per), (∀ x ∈ c.ps, x.wf) → c.ps.length ≤ maxLen → p.wf → ∀ (H : Nat → Option (List Value)) (nx : Nat), H g = some bitsRow → g < nx →
    PCalls P f [c.v, p.v] H nx (fun _ => False) (fun r H' _ => r = regR c p ∧ H' = H)
theorem reg_ok {P : Program} {f g t va nm bo rf cf cl : Nat} (hc : compFn P f = some (43, concession_RegisterC t va nm bo rf cf cl, [.cA 4 34, .t 5])) (hva : CnOK P va g) (hnm : CNameOK P nm g) (hbo : BornOK P bo)
    (hrf : compFn P rf = some (9, concession_Register_1C, [.t 3])) (hfn : okFn P rf = true) (hcf : CfPerOK P cf) (hcl : ClonePerOK P cl t) : RegOK P f g := by
  intro c p hwf hlen hp H nx hg hgn
  refine PCalls_of hc (by simp) fun hw => ?_
  have hmx : (maxLen : Int) = 9223372036854775807 := rfl
  have g1 : ¬ g = nx := by omega
  have g2 : ¬ g = nx + 1 := by omega
  have g3 : ¬ g = nx + 1 + 1 := by omega
  have le2 : nx ≤ nx + 1 + 1 := by omega
  have tk : List.take 33 (List.replicate 32 (Value.int .u8 0) ++ [deep []]) = List.replicate 32 (Value.int .u8 0) ++ [deep []] := rfl
  have d1 : ¬ nx = nx + 1 + 1 := by omega
  have d2 : ¬ nx + 1 + 1 = nx := by omega
  have d3 : ¬ nx + 1 = nx + 1 + 1 := by omega
  have d4 : ¬ nx + 1 + 1 = nx + 1 := by omega
  simp [concession_RegisterC, d1, d2, d3, d4, le2, tk, -List.reduceReplicate]
  refine wCall_eq (Q := fun r => r = .bool (conOK c)) (hva c hwf hlen _ _ (by simp [g1, g2, g3, hg]) (by simp; omega)) fun r n1 hr hn1 => ?_
  subst hr
  cases h1 : conOK c with
  | false =>
    simp [d1, d2, d3, d4, le2, tk, -List.reduceReplicate]
    exact wF_own hw (by simp [show nx ≤ nx + 1 by omega, show nx ≤ nx + 1 + 1 by omega]) ⟨by rw [regR, regV, if_pos h1]; rfl, rfl⟩
  | true =>
  have hcl64 := con_len h1
  simp at hn1
  simp [d1, d2, d3, d4, le2, tk, -List.reduceReplicate]
  refine wCall_eq (Q := fun r => r = .bool (nameV p.name)) (hnm _ hp _ _ (by simp [g1, g2, g3, hg]) (by simp; omega)) fun r n2 hr hn2 => ?_
  subst hr
  cases h2 : nameV p.name with
  | false =>
    simp [d1, d2, d3, d4, le2, tk, -List.reduceReplicate]
    exact wF_own hw (by simp [show nx ≤ nx + 1 by omega, show nx ≤ nx + 1 + 1 by omega]) ⟨by rw [regR, regV, if_neg (by simp [h1]), if_pos h2]; rfl, rfl⟩
  | true =>
  simp [d1, d2, d3, d4, le2, tk, -List.reduceReplicate]
  refine wCall_eq (Q := fun r => r = .bool (bornV p.born)) (hbo _ _ _) fun r n3 hr hn3 => ?_
  subst hr
  cases h3 : bornV p.born with
  | false =>
    simp [d1, d2, d3, d4, le2, tk, -List.reduceReplicate]
    exact wF_own hw (by simp [show nx ≤ nx + 1 by omega, show nx ≤ nx + 1 + 1 by omega]) ⟨by rw [regR, regV, if_neg (by simp [h1]), if_neg (by simp [h2]), if_pos h3]; rfl, rfl⟩
  | true =>
  simp [d1, d2, d3, d4, le2, tk, -List.reduceReplicate]
  simp at hn2 hn3
  refine wCall_eq (Q := fun r => r = .bool (c.ps.any fun x => decide (x.name = p.name))) (hcf c.ps rf [ptr (nx + 1) 0] (fun x => decide (x.name = p.name)) _ _ hlen ⟨hfn, fun x _ nx' hnx' => regFn_ok hrf x p (nx + 1) _ _ (by simp) (by simp at hnx'; omega)⟩) fun r n4 hr hn4 => ?_
  subst hr
  cases h4 : c.ps.any fun x => decide (x.name = p.name) with
  | true =>
    simp [d1, d2, d3, d4, le2, tk, -List.reduceReplicate]
    exact wF_own hw (by simp [show nx ≤ nx + 1 by omega, show nx ≤ nx + 1 + 1 by omega]) ⟨by rw [regR, regV, if_neg (by simp [h1]), if_neg (by simp [h2]), if_neg (by simp [h3]), if_pos h4]; rfl, rfl⟩
  | false =>
  by_cases h5 : 64 ≤ c.ps.length
  · simp [show (64 : Int) ≤ c.ps.length by omega, d1, d2, d3, d4, le2, tk, -List.reduceReplicate]
    exact wF_own hw (by simp [show nx ≤ nx + 1 by omega, show nx ≤ nx + 1 + 1 by omega]) ⟨by rw [regR, regV, if_neg (by simp [h1]), if_neg (by simp [h2]), if_neg (by simp [h3]), if_neg (by simp [h4]), if_pos h5]; rfl, rfl⟩
  · have hres : regR c p = tup [(⟨c.party, c.key, c.ps ++ [p]⟩ : Con).v, .int .i64 0] := by rw [regR, regV, if_neg (by simp [h1]), if_neg (by simp [h2]), if_neg (by simp [h3]), if_neg (by simp [h4]), if_neg h5]
    simp [show ¬ (64 : Int) ≤ c.ps.length by omega, concession_RegisterC_j1, d1, d2, d3, d4, le2, tk, -List.reduceReplicate]
    have hcs := con_set' c (c.ps ++ [p])
    refine ⟨?_, ?_⟩
    all_goals
      refine wCall_eq (Q := fun r => r = lin t (c.ps.map Per.v)) (hcl c.ps _ _ (by omega)) fun r n5 hr hn5 => ?_
      subst hr
      simp [d1, d2, d3, d4, le2, tk, Per.ag, -List.reduceReplicate]
      refine ⟨by omega, by omega, ?_⟩
      refine sts_of (k := nx) (off := 33) (e := t) (xs := (c.ps ++ [p]).map Per.v) (row := c.cells) (by simp) (by simp [d1, d2, d3, d4]) (by simp) (.inr (by omega)) (by simp) ?_
      simp [d1, d2, d3, d4, le2, tk, hcs, -List.reduceReplicate, -List.map_append]
      exact wF_own hw (by simp [le2]) ⟨by rw [hres]; rfl, rfl⟩
def RRegOK (P : Program) (f : Nat) : Prop := ∀ (c : Con) (p : Per), (∀ x ∈ c.ps, x.wf) → c.ps.length ≤ maxLen → p.wf → ∀ (H : Nat → Option (List Value)) (nx : Nat),
    PCalls P f [c.v, p.v] H nx (fun _ => False) (fun r H' _ => r = regR c p ∧ H' = H)
theorem rreg_ok {P : Program} {f t fi va nm : Nat} (hc : compFn P f = some (54, ref26_RegisterC t fi va nm, [.cA 4 34, .t 5])) (hfi : FindCOK P fi) (hva : RCnOK P va) (hnm : NameOK P nm) : RRegOK P f := by
  intro c p hwf hlen hp H nx
  refine PCalls_of hc (by simp) fun hw => ?_
  have hmx : (maxLen : Int) = 9223372036854775807 := rfl
  have le2 : nx ≤ nx + 1 + 1 := by omega
  have tk : List.take 33 (List.replicate 32 (Value.int .u8 0) ++ [deep []]) = List.replicate 32 (Value.int .u8 0) ++ [deep []] := rfl
  have d1 : ¬ nx = nx + 1 + 1 := by omega
  have d2 : ¬ nx + 1 + 1 = nx := by omega
  have d3 : ¬ nx + 1 = nx + 1 + 1 := by omega
  have d4 : ¬ nx + 1 + 1 = nx + 1 := by omega
  simp [ref26_RegisterC, d1, d2, d3, d4, -List.reduceReplicate]
  refine wCall_eq (Q := fun r => r = foundR p.name c.ps) (hfi c p.name hlen _ _) fun r n1 hr hn1 => ?_
  subst hr
  simp at hn1
  have e1 : ¬ nx = n1 := by omega
  have e2 : ¬ n1 = nx := by omega
  have e3 : ¬ nx + 1 = n1 := by omega
  have e4 : ¬ n1 = nx + 1 := by omega
  have e5 : ¬ nx + 1 + 1 = n1 := by omega
  have e6 : ¬ n1 = nx + 1 + 1 := by omega
  have le3 : nx ≤ n1 := by omega
  simp [foundR, d1, d2, d3, d4, e1, e2, e3, e4, e5, e6, le2, le3, -List.reduceReplicate]
  refine wCall_eq (Q := fun r => r = .bool (conOK c)) (hva c hwf hlen _ _) fun r n2 hr hn2 => ?_
  subst hr
  cases h1 : conOK c with
  | false =>
    simp [d1, d2, d3, d4, e1, e2, e3, e4, e5, e6, le2, le3, tk, -List.reduceReplicate]
    exact wF_own hw (by simp [show nx ≤ nx + 1 by omega, le2, le3]) ⟨by rw [regR, regV, if_pos h1]; rfl, rfl⟩
  | true =>
  have hcl64 := con_len h1
  simp [d1, d2, d3, d4, e1, e2, e3, e4, e5, e6, le2, le3, -List.reduceReplicate]
  refine wCall_eq (Q := fun r => r = .bool (nameV p.name)) (hnm _ hp _ _) fun r n3 hr hn3 => ?_
  subst hr
  cases h2 : nameV p.name with
  | false =>
    simp [d1, d2, d3, d4, e1, e2, e3, e4, e5, e6, le2, le3, tk, -List.reduceReplicate]
    exact wF_own hw (by simp [show nx ≤ nx + 1 by omega, le2, le3]) ⟨by rw [regR, regV, if_neg (by simp [h1]), if_pos h2]; rfl, rfl⟩
  | true =>
  by_cases b1 : -67108864 ≤ p.born
  case neg =>
    have h3 : bornV p.born = false := by simp [bornV, b1]
    simp [show p.born < -67108864 by omega, d1, d2, d3, d4, e1, e2, e3, e4, e5, e6, le2, le3, tk, -List.reduceReplicate]
    exact wF_own hw (by simp [show nx ≤ nx + 1 by omega, le2, le3]) ⟨by rw [regR, regV, if_neg (by simp [h1]), if_neg (by simp [h2]), if_pos h3]; rfl, rfl⟩
  by_cases b2 : p.born ≤ 67108864
  case neg =>
    have h3 : bornV p.born = false := by simp [bornV, b2]
    simp [show ¬ p.born < -67108864 by omega, show 67108864 < p.born by omega, d1, d2, d3, d4, e1, e2, e3, e4, e5, e6, le2, le3, tk, -List.reduceReplicate]
    exact wF_own hw (by simp [show nx ≤ nx + 1 by omega, le2, le3]) ⟨by rw [regR, regV, if_neg (by simp [h1]), if_neg (by simp [h2]), if_pos h3]; rfl, rfl⟩
  have h3 : bornV p.born = true := by simp [bornV, b1, b2]
  have hfa := findP_any p.name c.ps
  cases h4 : c.ps.any fun x => decide (x.name = p.name) with
  | true =>
    rw [h4] at hfa
    simp [hfa, show ¬ p.born < -67108864 by omega, show ¬ 67108864 < p.born by omega, d1, d2, d3, d4, e1, e2, e3, e4, e5, e6, le2, le3, tk, -List.reduceReplicate]
    exact wF_own hw (by simp [show nx ≤ nx + 1 by omega, le2, le3]) ⟨by rw [regR, regV, if_neg (by simp [h1]), if_neg (by simp [h2]), if_neg (by simp [h3]), if_pos h4]; rfl, rfl⟩
  | false =>
  rw [h4] at hfa
  by_cases h5 : 64 ≤ c.ps.length
  · simp [hfa, show ¬ p.born < -67108864 by omega, show ¬ 67108864 < p.born by omega, show (64 : Int) ≤ c.ps.length by omega, d1, d2, d3, d4, e1, e2, e3, e4, e5, e6, le2, le3, tk, -List.reduceReplicate]
    exact wF_own hw (by simp [show nx ≤ nx + 1 by omega, le2, le3]) ⟨by rw [regR, regV, if_neg (by simp [h1]), if_neg (by simp [h2]), if_neg (by simp [h3]), if_neg (by simp [h4]), if_pos h5]; rfl, rfl⟩
  · have hres : regR c p = tup [(⟨c.party, c.key, c.ps ++ [p]⟩ : Con).v, .int .i64 0] := by rw [regR, regV, if_neg (by simp [h1]), if_neg (by simp [h2]), if_neg (by simp [h3]), if_neg (by simp [h4]), if_neg h5]
    have hcs := con_set' c (c.ps ++ [p])
    simp [hfa, show ¬ p.born < -67108864 by omega, show ¬ 67108864 < p.born by omega, show ¬ (64 : Int) ≤ c.ps.length by omega, ref26_RegisterC_j1, d1, d2, d3, d4, e1, e2, e3, e4, e5, e6, le2, le3, tk, Per.ag, -List.reduceReplicate]
    refine ⟨by omega, by omega, by omega, by omega, ?_⟩
    refine sts_of (k := nx) (off := 33) (e := t) (xs := (c.ps ++ [p]).map Per.v) (row := c.cells) (by simp) (by simp [d1, d2, d3, d4, e1, e2]) (by simp) (.inr (by omega)) (by simp) ?_
    simp [d1, d2, d3, d4, e1, e2, e3, e4, e5, e6, le2, tk, hcs, -List.reduceReplicate, -List.map_append]
    exact wF_own hw (by simp [show nx ≤ nx + 1 by omega, le2, le3]) ⟨by rw [hres]; rfl, rfl⟩
end Go.PE
namespace Go.PE
open Go
@[simp] theorem unV_neg (k : IntKind) (n : Int) : unV .neg (.int k n) = some (.int k (k.wrap (0 - n))) := _root_.id rfl
def nm5 : List ByteArray := [⟨#[97, 110, 110]⟩, ⟨#[98, 111, 98]⟩, ⟨#[99, 105, 100]⟩, ⟨#[122, 111, 101]⟩, ⟨#[97]⟩]
def isPers (e : Nat) (v : Value) : Prop := ∃ ps : List Per, v = lin e (ps.map Per.v) ∧ ps.length ≤ 5 ∧ ∀ p ∈ ps, p.wf
theorem pers_w {P : Program} {f e ts nx_ : Nat} (hc : compFn P f = some (34, made_Deck_PersonsC e ts nx_, [.t 2])) (hn : NextW P nx_) : Draws P f [] (isPers e) := by
  intro k l at_ ha hl H nx hk
  refine PCalls_of hc (by simp) fun hw => ?_
  have hmx : (maxLen : Int) = 9223372036854775807 := rfl
  have hkn : k < nx := by
    rcases Nat.lt_or_ge k nx with h | h
    · exact h
    · have := hw k h; rw [hk] at this; cases this
  simp [made_Deck_PersonsC]
  refine wpc_loop _ _ _ _ _ _ (fun s => ∃ (ps : List Per) (at' : Int), 0 ≤ at' ∧ s.t 0 = ptr k 0 ∧ s.t 3 = lin e (ps.map Per.v) ∧ dg (s.t 4) = deep (nm5.map Value.string) ∧ s.t 5 = .int .i64 ps.length ∧ ps.length ≤ 5 ∧ (∀ p ∈ ps, p.wf) ∧ s.H = upd H k (some (dk l at')) ∧ nx ≤ s.nx)
    (fun s => match s.t 5 with | .int _ i => (5 - i).toNat | _ => 0) _ ⟨[], at_, ha, by simp, by simp, by simp [nm5], by simp, by simp, by simp, ?_, by simp⟩ ?_
  · funext j; by_cases hj : j = k
    · subst hj; simp [hk]
    · simp [upd_ne, hj]
  rintro ⟨T, H', nx'⟩ ⟨ps, at', ha', e0, e3, e4, e5, hl5, hwf, rfl, hnx⟩
  simp only at e0 e3 e4 e5 hnx
  have h5 : (nm5.map Value.string).length = 5 := rfl
  simp [e0, e4, e5, nm5]
  by_cases hlt : ps.length < 5
  · simp [show ((ps.length : Nat) : Int) < 5 by omega, e0]
    refine wCall_drawL (hn 5 (by omega) (by omega)) ha' hl (by simp) (.inr rfl) fun p1 at1 n1 hp1 ha1 hn1 => ?_
    obtain ⟨m, rfl, hm0, hm1⟩ := hp1
    simp at hn1
    simp
    rw [w64 (x := 1 + m) (by omega) (by omega)]
    refine wB_of (fun hg => ?_) (fun hg => ?_)
    · simp at hg
      have hel : elemAt (nm5.map Value.string) (ps.length : Int) 1 = some (dptr 0 [.string (nm5[ps.length]'hlt)]) := elemAt_map (by omega) (by show ((ps.length : Nat) : Int).toNat < 5; omega) rfl rfl
      have hws : ((nm5[ps.length]'hlt).size : Int) ≤ 9223372036854775807 := by
        have : ∀ b ∈ nm5, (b.size : Int) ≤ 9223372036854775807 := by decide
        exact this _ (List.getElem_mem _)
      generalize nm5[ps.length]'hlt = nm at hel hws
      simp [made_Deck_PersonsC_j1, e0, e3, e4, e5, hel]
      refine ⟨?_, ?_⟩
      all_goals
        refine wCall_drawL (hn 100 (by omega) (by omega)) ha1 hl (by simp) (.inr rfl) fun p2 at2 n2 hp2 ha2 hn2 => ?_
        obtain ⟨q, rfl, hq0, hq1⟩ := hp2
        simp at hn2
        simp [e5, maxLen]
        refine ⟨by omega, by omega, ?_⟩
        rw [w64 (x := (ps.length : Int) + 1) (by omega) (by omega)]
        refine kLoop_nrm _ _ _ (upd H k (some (dk l at2))) (Sub_refl _ _) ⟨ps ++ [⟨nm, IntKind.i64.wrap (IntKind.i64.wrap (IntKind.i64.wrap (0 - q) * 365) * 1440)⟩], at2, ha2, by simp [e0], by simp; rfl, by simp [e4]; rfl, by simp, by simp; omega, ?_, rfl, by simp; omega⟩ (by simp; omega)
        intro p hp
        rcases List.mem_append.1 hp with hp | hp
        · exact hwf p hp
        · simp at hp; subst hp; exact hws
    · simp [e3]
      exact wF_of ⟨⟨ps, rfl, hl5, hwf⟩, at1, ha1, rfl⟩
  · simp [show ¬ ((ps.length : Nat) : Int) < 5 by omega, e3]
    exact wF_of ⟨⟨ps, rfl, hl5, hwf⟩, at', ha', rfl⟩
theorem wF_drew {ps : List Value} {nx nx' k : Nat} {l : List Int} {at' : Int} {Q : Value → Prop} {H H' : Nat → Option (List Value)} (hw : ∀ k, nx ≤ k → H k = none) (hkn : k < nx) (ha : 0 ≤ at')
    (h : ∀ j, j < nx → H' j = upd H k (some (dk l at')) j) (hQ : Q (oneOr ps)) : wF (some ps) nx (fun p H' _ => Q p ∧ Drew H k l H') H' nx' :=
  wF_sub (H1 := upd H k (some (dk l at'))) (fun j => by
    rcases Nat.lt_or_ge j nx with hj | hj
    · exact .inl (h j hj).symm
    · exact .inr ⟨hj, by rw [upd_ne _ _ (by omega)]; exact hw j hj⟩) ⟨hQ, at', ha, rfl⟩
def isCon (key : Tag) (v : Value) : Prop := ∃ c : Con, v = c.v ∧ c.key = key ∧ c.ps.length ≤ 5 ∧ ∀ p ∈ c.ps, p.wf
theorem con_w {P : Program} {f e nx_ pe : Nat} (hc : compFn P f = some (11, made_Deck_ConcessionC e nx_ pe, [.cA 4 34])) (hn : NextW P nx_) (hp : Draws P pe [] (isPers e)) (key : Tag) : Draws P f [key.v] (isCon key) := by
  intro k l at_ ha hl H nx hk
  refine PCalls_of hc (by simp) fun hw => ?_
  have hmx : (maxLen : Int) = 9223372036854775807 := rfl
  have hkn : k < nx := by
    rcases Nat.lt_or_ge k nx with h | h
    · exact h
    · have := hw k h; rw [hk] at this; cases this
  have k1 : ¬ k = nx := by omega
  have k2 : ¬ k = nx + 1 := by omega
  have k3 : ¬ nx = k := by omega
  have k4 : ¬ nx + 1 = k := by omega
  simp [made_Deck_ConcessionC, k1, k2, k3, k4, -List.reduceReplicate]
  have tk : List.take 32 key.cells = key.cells := key.take32
  have tk33 : ∀ x : Value, List.take 33 (key.cells ++ [x]) = key.cells ++ [x] := fun x => List.take_of_length_le (by simp)
  have fin : ∀ (at3 : Int) (m : Int) (ps : List Per) (H' : Nat → Option (List Value)) (n3 : Nat), 0 ≤ at3 → ps.length ≤ 5 → (∀ p ∈ ps, p.wf) → (∀ j, j < nx → H' j = upd H k (some (dk l at3)) j) →
      wF (some [(⟨m, key, ps⟩ : Con).v]) nx (fun p H' _ => isCon key p ∧ Drew H k l H') H' n3 :=
    fun at3 m ps H' n3 ha3 h5 hwf hH => wF_drew hw hkn ha3 hH ⟨⟨m, key, ps⟩, rfl, rfl, h5, hwf⟩
  refine ⟨?_, ?_⟩
  all_goals
    refine wCall_drawL (hn 8 (by omega) (by omega)) (l := l) (at_ := at_) ha hl (by simp [k1, k2, hk]) (.inr rfl) fun p1 at1 n1 hp1 ha1 hn1 => ?_
    obtain ⟨m, rfl, hm0, hm1⟩ := hp1
    simp at hn1
    simp [k1, k2, k3, k4, -List.reduceReplicate]
    repeat' first
      | refine And.intro ?_ ?_
      | (refine wCall_drawL hp (l := l) (at_ := at1) ha1 hl (by simp [k1, k2]) (.inr rfl) fun p2 at2 n2 hp2 ha2 hn2 => ?_
         obtain ⟨ps, rfl, h5, hwf⟩ := hp2
         simp at hn2
         simp [k1, k2, k3, k4, tk, tk33, -List.reduceReplicate])
    all_goals
      refine fin at2 m ps _ _ ha2 h5 hwf (fun j hj => ?_)
      have j1 : ¬ j = nx := by omega
      have j2 : ¬ j = nx + 1 := by omega
      by_cases hjk : j = k
      · simp [hjk, k1, k2]
      · simp [hjk, j1, j2]
end Go.PE
namespace Go.PE
open Go
def tag1' (x : Int) : Tag := ⟨x :: List.replicate 31 0, by simp⟩
def Aw27OK (P : Program) (f g : Nat) : Prop := ∀ (H : Nat → Option (List Value)) (nx : Nat), H g = some bitsRow → g < nx → PCalls P f [] H nx (fun _ => False) (fun r H' _ => r = .bool true ∧ H' = H)
def annB : ByteArray := ⟨#[97, 110, 110]⟩
theorem ann_ok : nameV annB = true := by decide +kernel
theorem ann_wf (n : Int) : (⟨annB, n⟩ : Per).wf := by show (annB.size : Int) ≤ _; decide
theorem awake27_ok {P : Program} {f g ne e re : Nat} (hc : compFn P f = some (45, law27_awakeC ne e re, [.t 0])) (hne : NewCOK P ne) (hre : RegOK P re g) : Aw27OK P f g := by
  intro H nx hg hgn
  refine PCalls_of hc (by simp) fun hw => ?_
  have hmx : (maxLen : Int) = 9223372036854775807 := rfl
  have r1 : newV 1 (tag1' 5) = (⟨1, tag1' 5, []⟩, 0) := rfl
  have r2 : regV ⟨1, tag1' 5, []⟩ ⟨annB, 0⟩ = (⟨1, tag1' 5, [⟨annB, 0⟩]⟩, 0) := by
    unfold regV
    rw [if_neg (by decide), if_neg (by rw [ann_ok]; decide), if_neg (by decide), if_neg (by decide), if_neg (by decide)]; rfl
  have hok2 : conOK ⟨1, tag1' 5, [⟨annB, 0⟩]⟩ = true := by
    simp [conOK, psF, perOK, ann_ok, bornV]
  have r3 : regV ⟨1, tag1' 5, [⟨annB, 0⟩]⟩ ⟨annB, 3⟩ = (con0, 10) := by
    unfold regV
    rw [if_neg (by rw [hok2]; decide), if_neg (by rw [ann_ok]; decide), if_neg (by decide), if_pos (by simp)]
  have t5 : ([.int .u8 5, .int .u8 0, .int .u8 0, .int .u8 0, .int .u8 0, .int .u8 0, .int .u8 0, .int .u8 0, .int .u8 0, .int .u8 0, .int .u8 0, .int .u8 0, .int .u8 0, .int .u8 0, .int .u8 0, .int .u8 0, .int .u8 0, .int .u8 0, .int .u8 0, .int .u8 0, .int .u8 0, .int .u8 0, .int .u8 0, .int .u8 0, .int .u8 0, .int .u8 0, .int .u8 0, .int .u8 0, .int .u8 0, .int .u8 0, .int .u8 0, .int .u8 0] : List Value) = (tag1' 5).cells := rfl
  simp [law27_awakeC, t5, -List.reduceReplicate]
  refine wCall_eq (Q := fun r => r = tup [(newV 1 (tag1' 5)).1.v, .int .i64 (newV 1 (tag1' 5)).2]) (hne 1 (tag1' 5) _ _) fun r n1 hr hn1 => ?_
  subst hr
  rw [r1]
  simp at hn1
  have g1 : ¬ g = n1 := by omega
  have le1 : nx ≤ n1 := by omega
  simp [le1, -List.reduceReplicate]
  refine wCall_eq (Q := fun r => r = regR ⟨1, tag1' 5, []⟩ ⟨annB, 0⟩) (hre ⟨1, tag1' 5, []⟩ ⟨annB, 0⟩ (by simp) (by simp) (ann_wf 0) _ _ (by simp [g1, hg]) (by simp; omega)) fun r n2 hr hn2 => ?_
  subst hr
  rw [regR, r2]
  simp at hn2
  simp [le1, -List.reduceReplicate]
  refine wCall_eq (Q := fun r => r = regR ⟨1, tag1' 5, [⟨annB, 0⟩]⟩ ⟨annB, 3⟩) (hre ⟨1, tag1' 5, [⟨annB, 0⟩]⟩ ⟨annB, 3⟩ (by simp [ann_wf]) (by simp [maxLen]) (ann_wf 3) _ _ (by simp [g1, hg]) (by simp; omega)) fun r n3 hr hn3 => ?_
  subst hr
  rw [regR, r3]
  simp at hn3
  have e1 : ¬ n1 = n3 := by omega
  have e2 : ¬ n3 = n1 := by omega
  simp [le1, e1, e2, t5, -List.reduceReplicate]
  refine ⟨by omega, ?_⟩
  exact wF_own hw (by simp [le1, show nx ≤ n3 by omega]) ⟨rfl, rfl⟩
end Go.PE
namespace Go.PE
open Go
@[simp] theorem Per.asAgv (p : Per) : asAg p.v = some p.cells := _root_.id rfl
theorem psF_append (p : Per) : ∀ (l pre : List Per), psF pre (l ++ [p]) = (psF pre l && perOK p && (pre ++ l).all fun d => decide (d.name ≠ p.name))
  | [], pre => by simp [psF]
  | x :: r, pre => by
    rw [List.cons_append, psF, psF_append p r (pre ++ [x]), psF]
    simp only [List.append_assoc, List.singleton_append, Bool.and_assoc]
theorem psF_ne : ∀ {l pre : List Per}, psF pre l = true → ∀ d ∈ l, ∀ e ∈ pre, e.name ≠ d.name
  | [], _, _, d, hd, _, _ => by simp at hd
  | x :: r, pre, h, d, hd, e, he => by
    simp only [psF, Bool.and_eq_true, List.all_eq_true, decide_eq_true_eq] at h
    rcases List.mem_cons.1 hd with rfl | hd
    · exact h.1.2 e he
    · exact psF_ne h.2 d hd e (by simp [he])
theorem psF_find : ∀ {l pre : List Per}, psF pre l = true → ∀ (i : Nat) (hi : i < l.length), findP l[i].name l = some l[i]
  | [], _, _, i, hi => by simp at hi
  | x :: r, pre, h, 0, _ => by simp [findP]
  | x :: r, pre, h, i + 1, hi => by
    have h2 := h
    simp only [psF, Bool.and_eq_true] at h2
    have hi' : i < r.length := by simpa using hi
    have hne := psF_ne h2.2 r[i] (List.getElem_mem _) x (by simp)
    have ih := psF_find h2.2 i hi'
    simp only [List.getElem_cons_succ]
    unfold findP at ih ⊢
    rw [List.find?_cons, decide_eq_false hne]
    exact ih
def knC (fs : List Per) : Con := ⟨3, tag1' 1, fs⟩
theorem knC_ok {fs : List Per} (hl : fs.length ≤ 64) : conOK (knC fs) = psF [] fs := by simp [conOK, knC, hl]
theorem knC_step {fs : List Per} {p : Per} (h : psF [] fs = true) (hl : fs.length < 64) (hn : nameV p.name = true) (hb : bornV p.born = true) :
    regV (knC fs) p = if fs.any (fun x => decide (x.name = p.name)) = true then (con0, 10) else (knC (fs ++ [p]), 0) := by
  have hok : conOK (knC fs) = true := by rw [knC_ok (by omega)]; exact h
  unfold regV
  rw [if_neg (by simp [hok]), if_neg (by simp [hn]), if_neg (by simp [hb])]
  show (if fs.any _ = true then _ else if 64 ≤ fs.length then _ else _) = _
  rw [if_neg (show ¬ 64 ≤ fs.length by omega)]; rfl
theorem psF_more {fs : List Per} {p : Per} (h : psF [] fs = true) (hn : nameV p.name = true) (hb : bornV p.born = true) (ha : fs.any (fun x => decide (x.name = p.name)) = false) : psF [] (fs ++ [p]) = true := by
  rw [psF_append, h, perOK, hn, hb, List.nil_append]
  rw [List.any_eq_false] at ha
  simp only [Bool.and_true, Bool.true_and, List.all_eq_true, decide_eq_true_eq]
  intro d hd he
  exact ha d hd (by simp [he])
theorem any_take {fs : List Per} {n : ByteArray} {j : Nat} (hj : j < fs.length) : (fs.take (j + 1)).any (fun x => decide (x.name = n)) = ((fs.take j).any (fun x => decide (x.name = n)) || decide (fs[j].name = n)) := by
  rw [List.take_succ_eq_append_getElem hj, List.any_append]; simp
set_option maxHeartbeats 1000000 in
theorem known_ok {P : Program} {f g nw ne e nm nx_ re fi va aw : Nat} (hc : compFn P f = some (114, law27_ConcessionKnownC nw ne e nm nx_ re fi va aw, [.t 2])) (hnw : NewOK P nw) (hne : NewCOK P ne) (hnm : Draws P nm [] isN) (hn : NextW P nx_)
    (hre : RegOK P re g) (hfi : FindCOK P fi) (hva : CnOK P va g) (haw : Aw27OK P aw g) (l : List Int) (hl : l.length ≤ maxLen) (H : Nat → Option (List Value)) (nx : Nat) (hg : H g = some bitsRow) (hgn : g < nx) :
    PCalls P f [deep (l.map (.int .i64))] H nx (fun _ => False) (fun r H' _ => r = .bool true) := by
  refine PCalls_of hc (by simp) fun hw => ?_
  have hmx : (maxLen : Int) = 9223372036854775807 := rfl
  have t1 : ([.int .u8 1, .int .u8 0, .int .u8 0, .int .u8 0, .int .u8 0, .int .u8 0, .int .u8 0, .int .u8 0, .int .u8 0, .int .u8 0, .int .u8 0, .int .u8 0, .int .u8 0, .int .u8 0, .int .u8 0, .int .u8 0, .int .u8 0, .int .u8 0, .int .u8 0, .int .u8 0, .int .u8 0, .int .u8 0, .int .u8 0, .int .u8 0, .int .u8 0, .int .u8 0, .int .u8 0, .int .u8 0, .int .u8 0, .int .u8 0, .int .u8 0, .int .u8 0] : List Value) = (tag1' 1).cells := rfl
  simp [law27_ConcessionKnownC, -List.reduceReplicate]
  refine wCall_le (hnw l _ _) fun r H1 n1 hR hn1 hown => ?_
  obtain ⟨rfl, rfl, rfl⟩ := hR
  clear hn1 hown
  simp [t1, -List.reduceReplicate]
  have g0 : ¬ g = nx := by omega
  have r1 : newV 3 (tag1' 1) = (knC [], 0) := rfl
  refine wCall_eq (Q := fun r => r = tup [(newV 3 (tag1' 1)).1.v, .int .i64 (newV 3 (tag1' 1)).2]) (hne 3 (tag1' 1) _ _) fun r n1 hr hn1 => ?_
  subst hr
  rw [r1]
  simp at hn1
  have d1 : ¬ nx = n1 := by omega
  have d2 : ¬ n1 = nx := by omega
  have d3 : ¬ g = n1 := by omega
  have le1 : nx ≤ n1 := by omega
  simp [le1, law27_ConcessionKnownC_j9, -List.reduceReplicate]
  refine wpc_loop _ _ _ _ _ _ (fun s => ∃ (i : Nat) (fs : List Per) (at' : Int), i ≤ 12 ∧ 0 ≤ at' ∧ fs.length ≤ i ∧ psF [] fs = true ∧ (∀ p ∈ fs, p.wf) ∧ s.t 3 = ptr nx 0 ∧ s.t 4 = ptr n1 0 ∧ s.t 6 = lin e (fs.map Per.v) ∧ s.t 7 = .int .i64 i ∧ s.H nx = some (dk l at') ∧ s.H n1 = some (knC fs).cells ∧ s.H g = some bitsRow ∧ n1 < s.nx)
    (fun s => match s.t 7 with | .int _ i => (12 - i).toNat | _ => 0) _ ⟨0, [], 0, by omega, by omega, by simp, rfl, by simp, by simp, by simp, by simp, by simp, by simp [d1, d2], by simp, by simp [d3, g0, hg], by simp⟩ ?_
  rintro ⟨T, H', nx'⟩ ⟨i, fs, at', hi, ha', hfl, hps, hwf, e3, e4, e6, e7, ed, ec, eg, hnx⟩
  simp only at e3 e4 e6 e7 ed ec eg hnx
  simp [e7]
  refine wB_of (fun hlt => ?_) (fun hlt => ?_)
  · simp at hlt
    have hlt' : i < 12 := by omega
    simp [law27_ConcessionKnownC_j4, e3, e4, e6, e7, -List.reduceReplicate]
    refine wCall_drawL hnm (l := l) (at_ := at') ha' hl (by simp [ed]) (.inl (by omega)) fun v1 at2 n2 hv ha2 hn2 => ?_
    obtain ⟨nmB, hmem, rfl⟩ := hv
    have hnV := names_good hmem
    have hnS := names_size hmem
    simp at hn2
    simp [e3, d1, d2, -List.reduceReplicate]
    refine wCall_drawL (hn 1000 (by omega) (by omega)) (l := l) (at_ := at2) ha2 hl (by simp) (.inl (by omega)) fun v2 at3 n3 hv ha3 hn3 => ?_
    obtain ⟨bn, rfl, hb0, hb1⟩ := hv
    simp at hn3
    have hbV : bornV bn = true := by simp [bornV]; omega
    have f1 : ¬ nx = n3 := by omega
    have f2 : ¬ n3 = nx := by omega
    have f3 : ¬ n1 = n3 := by omega
    have f4 : ¬ n3 = n1 := by omega
    have f5 : ¬ g = n3 := by omega
    obtain ⟨p, hp⟩ : ∃ p : Per, p = ⟨nmB, bn⟩ := ⟨_, rfl⟩
    have hpc : ([.string nmB, .int .i64 bn] : List Value) = p.cells := by rw [hp]; rfl
    have hpn : nameV p.name = true := by rw [hp]; exact hnV
    have hpb : bornV p.born = true := by rw [hp]; exact hbV
    have hpw : p.wf := by rw [hp]; show (nmB.size : Int) ≤ _; omega
    simp [hpc, d1, d2, f1, f2, f3, f4, f5, show nx ≤ n3 by omega, -List.reduceReplicate]
    refine wpc_loop _ _ _ _ _ _ (fun s => ∃ (j : Nat), j ≤ fs.length ∧ s.t 3 = ptr nx 0 ∧ s.t 4 = ptr n1 0 ∧ s.t 6 = lin e (fs.map Per.v) ∧ s.t 7 = .int .i64 i ∧ s.t 8 = ptr n3 0 ∧ s.t 9 = .bool ((fs.take j).any fun x => decide (x.name = p.name)) ∧ s.t 10 = .int .i64 j ∧ s.H nx = some (dk l at3) ∧ s.H n1 = some (knC fs).cells ∧ s.H n3 = some p.cells ∧ s.H g = some bitsRow ∧ n3 < s.nx)
      (fun s => match s.t 10 with | .int _ j => (fs.length - j).toNat | _ => 0) _ ⟨0, by omega, by simp [e3], by simp [e4], by simp [e6], by simp [e7], by simp, by simp, by simp, by simp [f1, f2, d1, d2], by simp [f3, f4, d1, d2, ec], by simp, by simp [f5, g0, eg], by simp⟩ ?_
    clear e3 e4 e6 e7 ed ec eg hpc
    rintro ⟨T, H', nx2⟩ ⟨j, hj, e3, e4, e6, e7, e8, e9, e10, ed, ec, ep, eg, hnx2⟩
    simp only at e3 e4 e6 e7 e8 e9 e10 ed ec ep eg hnx2
    simp [e6, e10]
    refine wB_of (fun hjt => ?_) (fun hjt => ?_)
    · simp at hjt
      have hej := elem_per (l := fs) (n := (j : Int)) (by omega) (by simpa using hjt)
      simp at hej
      have hat := any_take (n := p.name) hjt
      cases hA : (fs.take j).any fun x => decide (x.name = p.name) with
      | true =>
        rw [hA] at e9 hat
        simp [law27_ConcessionKnownC_j1, e6, e8, e9, e10, hej, ep]
        rw [w64 (x := (j : Int) + 1) (by omega) (by omega)]
        refine kLoop_nrm _ _ _ _ (Sub_refl _ _) ⟨j + 1, by omega, by simp [e3], by simp [e4], by simp [e6], by simp [e7], by simp [e8], by rw [hat]; simp, by simp, by simp [ed], by simp [ec], by simp [ep], by simp [eg], by simpa using hnx2⟩ (by simp; omega)
      | false =>
        rw [hA] at e9 hat
        simp [law27_ConcessionKnownC_j1, e6, e8, e9, e10, hej, ep]
        rw [w64 (x := (j : Int) + 1) (by omega) (by omega)]
        refine kLoop_nrm _ _ _ _ (Sub_refl _ _) ⟨j + 1, by omega, by simp [e3], by simp [e4], by simp [e6], by simp [e7], by simp [e8], by rw [hat]; simp, by simp, by simp [ed], by simp [ec], by simp [ep], by simp [eg], by simpa using hnx2⟩ (by simp; omega)
    · simp at hjt
      have : j = fs.length := by omega
      subst this
      rw [List.take_length] at e9
      simp [law27_ConcessionKnownC_j3, e3, e4, e6, e7, e8, e9, ec, ep, Per.ag, Con.ag, -List.reduceReplicate]
      refine wCall_eq (Q := fun r => r = regR (knC fs) p) (hre (knC fs) p hwf (by show fs.length ≤ maxLen; omega) hpw _ _ eg (by simp; omega)) fun r n4 hr hn4 => ?_
      subst hr
      rw [regR, knC_step hps (by omega) hpn hpb]
      simp at hn4
      have h1 : ¬ nx = n4 := by omega
      have h2 : ¬ n1 = n4 := by omega
      have h3 : ¬ n3 = n4 := by omega
      have h4 : ¬ n4 = n1 := by omega
      have h5 : ¬ n4 = n3 := by omega
      have h6 : ¬ g = n4 := by omega
      have h7 : ¬ n4 = nx := by omega
      cases hA : fs.any fun x => decide (x.name = p.name) with
      | true =>
        rw [hA] at e9
        simp [e9, e7, h1, h2, h3, h4, h5, h6, h7, law27_ConcessionKnownC_j2, show nx ≤ n4 by omega, -List.reduceReplicate]
        rw [w64 (x := (i : Int) + 1) (by omega) (by omega)]
        refine kLoop_nrm _ _ _ _ (Sub_refl _ _) ⟨i + 1, by omega, fs, at3, ha3, by omega, hps, hwf, by simp [e3], by simp [e4], by simp [e6], by simp, by simp [ed, h1], by simp [ec, h2], by simp [eg, h6], by simp; omega⟩ (by simp; omega)
      | false =>
        rw [hA] at e9
        simp [e9, e7, h1, h2, h3, h4, h5, h6, h7, law27_ConcessionKnownC_j2, show nx ≤ n4 by omega, e4, e6, e8, ec, ep, Per.ag, Con.ag, -List.reduceReplicate]
        refine ⟨by omega, by omega, by omega, ?_⟩
        rw [w64 (x := (i : Int) + 1) (by omega) (by omega)]
        refine kLoop_nrm _ _ _ _ (Sub_refl _ _) ⟨i + 1, by omega, fs ++ [p], at3, ha3, by simp; omega, psF_more hps hpn hpb hA, ?_, by simp [e3], by simp [e4], by simp, by simp, by simp [ed, h1, d1], by simp [h2], by simp [eg, h6, d3], by simp; omega⟩ (by simp; omega)
        intro q hq
        rcases List.mem_append.1 hq with hq | hq
        · exact hwf q hq
        · simp at hq; subst hq; exact hpw
  · simp at hlt
    have hmax : fs.length ≤ maxLen := by omega
    simp [law27_ConcessionKnownC_j8, -List.reduceReplicate]
    refine wpc_loop _ _ _ _ _ _ (fun s => ∃ (k : Nat), k ≤ fs.length ∧ s.t 4 = ptr n1 0 ∧ s.t 6 = lin e (fs.map Per.v) ∧ s.t 13 = .int .i64 k ∧ s.H n1 = some (knC fs).cells ∧ s.H g = some bitsRow ∧ n1 < s.nx)
      (fun s => match s.t 13 with | .int _ k => (fs.length - k).toNat | _ => 0) _ ⟨0, by omega, by simp [e4], by simp [e6], by simp, by simp [ec], by simp [eg], by simpa using hnx⟩ ?_
    clear e3 e4 e6 e7 ed ec eg hnx
    rintro ⟨T, H', nx2⟩ ⟨k, hk, e4, e6, e13, ec, eg, hnx2⟩
    simp only at e4 e6 e13 ec eg hnx2
    simp [e6, e13]
    refine wB_of (fun hkt => ?_) (fun hkt => ?_)
    · simp at hkt
      have hek := elem_per (l := fs) (n := (k : Int)) (by omega) (by simpa using hkt)
      simp at hek
      have hfd := psF_find hps k hkt
      have hw1 := w64 (x := (k : Int) + 1) (by omega) (by omega)
      have a1 : ¬ nx2 = n1 := by omega
      have a2 : ¬ n1 = nx2 := by omega
      have a3 : ¬ g = nx2 := by omega
      simp [law27_ConcessionKnownC_j6, e4, e6, e13, hek, ec, a1, a2, a3, Con.ag, show nx ≤ nx2 by omega, -List.reduceReplicate]
      have stp : ∀ {d : Option Nat} {s : PS} {K : PS → Prop}, (∀ n5, s.nx ≤ n5 → K ⟨(s.putO d (tup [fs[k].v, .bool true])).t, s.H, n5⟩) → wCall (PCalls P) (fun _ => False) nx fi [(knC fs).v, .string fs[k].name] d s K :=
        fun {d s K} hK => wCall_eq (Q := fun r => r = foundR fs[k].name fs) (hfi (knC fs) fs[k].name hmax s.H s.nx) fun r n5 hr hn5 => by
          subst hr
          have : foundR fs[k].name fs = tup [fs[k].v, .bool true] := by rw [foundR, hfd]; rfl
          rw [this]; exact hK n5 hn5
      repeat' first
        | refine And.intro ?_ ?_
        | omega
        | (refine stp fun n5 hn5 => ?_; dsimp only at hn5; simp [e4, e6, e13, hek, ec, a1, a2, a3, hw1, law27_ConcessionKnownC_j5, Con.ag, Per.ag, show nx ≤ n5 by omega, show ¬ n1 = n5 by omega, show ¬ n5 = n1 by omega, -List.reduceReplicate])
      all_goals
        refine kLoop_nrm _ _ _ _ (Sub_refl _ _) ⟨k + 1, by omega, by simp [e4], by simp [e6], by simp, ?_, ?_, by simp; omega⟩ (by simp; omega)
        · have b1 : ¬ n1 = n5 := by omega
          simp [ec, a2, b1]
        · have b1 : ¬ g = n5 := by omega
          simp [eg, a3, b1]
    · simp at hkt
      have hok : conOK (knC fs) = true := by rw [knC_ok (by omega)]; exact hps
      simp [law27_ConcessionKnownC_j7, e4, e6, ec, Con.ag, -List.reduceReplicate]
      refine wCall_eq (Q := fun r => r = .bool (conOK (knC fs))) (hva (knC fs) hwf hmax _ _ eg (by simp; omega)) fun r n5 hr hn5 => ?_
      subst hr
      rw [hok]
      have hkp : (knC fs).ps = fs := rfl
      simp [e4, e6, ec, hkp]
      refine wCall_eq (Q := fun r => r = .bool true) (haw _ _ eg (by simp at hn5 ⊢; omega)) fun r n6 hr hn6 => ?_
      subst hr
      simp
      exact wF_of rfl
end Go.PE
