/- Pure code, printed by a program: the ledger. -/
import Derived.Test.YtnighgphfomlkaaDoorCode
set_option linter.all false
namespace Go.PE
open Go
/-- macaroon/macaroonlaw28.counts: 30 slots, results [(.t 2)] -/
def law28_counts_BC (f_law28_tags : Nat) (f_ref26_AddRides : Nat) (f_made_Deck_Next : Nat) : PC :=
  (.seq (.reg [((some 2), (none, .cns))])
  (.seq (.reg [((some 6), (none, (.mv (.tmp 0)))),
    ((some 7), (none, (.callB f_law28_tags [(.tmp 6), (.const (.int .i64 9))]))),
    ((some 8), (none, (.callB f_ref26_AddRides [(.const (.slice none 0 0)), (.tmp 7)]))),
    ((some 5), (none, (.steal 8))),
    ((some 9), (none, (.extr 5 0))),
    ((some 10), (none, (.extr 5 1))),
    ((some 3), (none, (.steal 9))),
    ((some 4), (none, (.mv (.tmp 10))))])
  (.seq (.seq (.reg [((some 11), (none, (.mv (.tmp 3)))),
    ((some 12), (none, (.lenB (.tmp 11)))),
    ((some 13), (none, (.bi .gtr (.tmp 12) (.const (.int .i64 0))))),
    ((some 14), (none, (.mv (.tmp 13)))),
    ((some 15), ((some (14, true)), (.mv (.tmp 0)))),
    ((some 16), ((some (14, true)), (.callB f_made_Deck_Next [(.tmp 15), (.const (.int .i64 4))]))),
    ((some 17), ((some (14, true)), (.bi .eql (.tmp 16) (.const (.int .i64 0))))),
    ((some 18), (none, (.pick (.tmp 14) (.tmp 17) (.const (.bool false)))))])
  (.cond (.tmp 18)
    (.reg [((some 19), (none, (.mv (.tmp 3)))),
      ((some 20), (none, (.mv (.tmp 0)))),
      ((some 21), (none, (.mv (.tmp 3)))),
      ((some 22), (none, (.lenB (.tmp 21)))),
      ((some 23), (none, (.callB f_made_Deck_Next [(.tmp 20), (.tmp 22)]))),
      ((some 24), (none, (.mv (.tmp 0)))),
      ((some 25), (none, (.callB f_made_Deck_Next [(.tmp 24), (.const (.int .i64 2))]))),
      ((some 26), (none, (.bi .sub (.const (.int .i64 281474976710656)) (.tmp 25)))),
      ((some 27), (none, (.ixB 33 (.tmp 19) (.tmp 23)))),
      ((some 28), (none, (.fa 32 (.tmp 27)))),
      (none, (none, (.st 1 (.tmp 28) (.tmp 26))))])
    .skip))
  (.seq (.reg [((some 29), (none, (.steal 3))),
    ((some 2), (none, (.steal 29)))])
  .ret))))
/-- macaroon/macaroonlaw28.tags: 23 slots, results [(.t 4)] -/
def law28_tagsC_j1 (t_api_Tag : Nat) (f_made_Deck_Next : Nat) : PC :=
  (.seq (.block 1 (.reg [((some 15), (none, (.steal 5))),
       ((some 16), (none, (.mv (.tmp 0)))),
       ((some 17), (none, (.call f_made_Deck_Next [(.tmp 16), (.const (.int .i64 5))]))),
       ((some 18), (none, (.cv .u8 (.tmp 17)))),
       ((some 19), (none, (.build [(.inr ((.tmp 18), 1)), (.inl [(.int .u8 0)]), (.inl [(.int .u8 0)]), (.inl [(.int .u8 0)]), (.inl [(.int .u8 0)]), (.inl [(.int .u8 0)]), (.inl [(.int .u8 0)]), (.inl [(.int .u8 0)]), (.inl [(.int .u8 0)]), (.inl [(.int .u8 0)]), (.inl [(.int .u8 0)]), (.inl [(.int .u8 0)]), (.inl [(.int .u8 0)]), (.inl [(.int .u8 0)]), (.inl [(.int .u8 0)]), (.inl [(.int .u8 0)]), (.inl [(.int .u8 0)]), (.inl [(.int .u8 0)]), (.inl [(.int .u8 0)]), (.inl [(.int .u8 0)]), (.inl [(.int .u8 0)]), (.inl [(.int .u8 0)]), (.inl [(.int .u8 0)]), (.inl [(.int .u8 0)]), (.inl [(.int .u8 0)]), (.inl [(.int .u8 0)]), (.inl [(.int .u8 0)]), (.inl [(.int .u8 0)]), (.inl [(.int .u8 0)]), (.inl [(.int .u8 0)]), (.inl [(.int .u8 0)]), (.inl [(.int .u8 0)])]))),
       ((some 20), (none, (.mks t_api_Tag 32 false [(.tmp 19)]))),
       ((some 21), (none, (.app t_api_Tag 32 32 15 (.tmp 20)))),
       ((some 5), (none, (.steal 21)))]))
  (.reg [((some 13), (none, (.mv (.tmp 6)))),
      ((some 14), (none, (.bi .sub (.tmp 13) (.const (.int .i64 1))))),
      ((some 6), (none, (.mv (.tmp 14))))]))
def law28_tagsC (t_api_Tag : Nat) (f_made_Deck_Next : Nat) : PC :=
  (.seq (.reg [((some 4), (none, (.cnil t_api_Tag)))])
  (.seq (.reg [((some 5), (none, (.cnil t_api_Tag)))])
  (.seq (.seq (.reg [((some 7), (none, (.mv (.tmp 0)))),
    ((some 8), (none, (.mv (.tmp 1)))),
    ((some 9), (none, (.bi .add (.tmp 8) (.const (.int .i64 1))))),
    ((some 10), (none, (.call f_made_Deck_Next [(.tmp 7), (.tmp 9)]))),
    ((some 6), (none, (.mv (.tmp 10))))])
  (.block 0 (.loop (.seq (.seq (.reg [((some 11), (none, (.mv (.tmp 6)))),
      ((some 12), (none, (.bi .gtr (.tmp 11) (.const (.int .i64 0)))))])
  (.cond (.tmp 12)
      .skip
      (.exit 0)))
  (law28_tagsC_j1 t_api_Tag f_made_Deck_Next)))))
  (.seq (.reg [((some 22), (none, (.steal 5))),
    ((some 4), (none, (.steal 22)))])
  .ret))))
/-- macaroon/ledger.Add: 60 slots, results [(.t 4), (.t 5)] -/
def ledger_Add_BC_j1 : PC :=
  (.seq (.reg [((some 44), (none, (.mv (.tmp 6)))),
       ((some 45), (none, (.mv (.tmp 8)))),
       ((some 46), (none, (.ixB 33 (.tmp 44) (.tmp 45)))),
       ((some 47), (none, (.fa 32 (.tmp 46)))),
       ((some 48), (none, (.ld false (.tmp 47)))),
       ((some 49), (none, (.bi .add (.tmp 48) (.const (.int .i64 1))))),
       ((some 50), (none, (.ixB 33 (.tmp 44) (.tmp 45)))),
       ((some 51), (none, (.fa 32 (.tmp 50)))),
       (none, (none, (.st 1 (.tmp 51) (.tmp 49))))])
  (.seq (.reg [((some 52), (none, (.mv (.tmp 6)))),
       ((some 53), (none, (.mv (.tmp 8)))),
       ((some 54), (none, (.ixB 33 (.tmp 52) (.tmp 53)))),
       ((some 55), (none, (.fa 32 (.tmp 54)))),
       ((some 56), (none, (.ld false (.tmp 55)))),
       ((some 57), (none, (.bi .gtr (.tmp 56) (.const (.int .i64 281474976710656)))))])
  (.cond (.tmp 57)
       (.seq (.reg [((some 4), (none, .cns)),
         ((some 5), (none, (.mv (.const (.int .i64 1)))))])
  .ret)
       .skip)))
def ledger_Add_BC_j2 (f_ledger_index : Nat) (t_api_Count : Nat) : PC :=
  (.seq (.block 1 (.seq (.reg [((some 27), (none, (.mv (.tmp 25)))),
       ((some 7), (none, (.mv (.tmp 27))))])
  (.seq (.reg [((some 28), (none, (.mv (.tmp 6)))),
       ((some 29), (none, (.mv (.tmp 1)))),
       ((some 30), (none, (.mv (.tmp 7)))),
       ((some 31), (none, (.ixS 32 (.tmp 29) (.tmp 30)))),
       ((some 32), (none, (.ldA 32 (.tmp 31)))),
       ((some 33), (none, (.callB f_ledger_index [(.tmp 28), (.tmp 32)]))),
       ((some 8), (none, (.mv (.tmp 33))))])
  (.seq (.seq (.reg [((some 34), (none, (.mv (.tmp 8)))),
       ((some 35), (none, (.bi .lss (.tmp 34) (.const (.int .i64 0)))))])
  (.cond (.tmp 35)
       (.seq (.reg [((some 36), (none, (.steal 6))),
         ((some 37), (none, (.mv (.tmp 1)))),
         ((some 38), (none, (.mv (.tmp 7)))),
         ((some 39), (none, (.ixS 32 (.tmp 37) (.tmp 38)))),
         ((some 40), (none, (.ldA 32 (.tmp 39)))),
         ((some 41), (none, (.build [(.inr ((.tmp 40), 32)), (.inr ((.const (.int .i64 1)), 1))]))),
         ((some 42), (none, (.mks t_api_Count 33 false [(.tmp 41)]))),
         ((some 43), (none, (.appB 33 40 [(.int .u8 0), (.int .u8 0), (.int .u8 0), (.int .u8 0), (.int .u8 0), (.int .u8 0), (.int .u8 0), (.int .u8 0), (.int .u8 0), (.int .u8 0), (.int .u8 0), (.int .u8 0), (.int .u8 0), (.int .u8 0), (.int .u8 0), (.int .u8 0), (.int .u8 0), (.int .u8 0), (.int .u8 0), (.int .u8 0), (.int .u8 0), (.int .u8 0), (.int .u8 0), (.int .u8 0), (.int .u8 0), (.int .u8 0), (.int .u8 0), (.int .u8 0), (.int .u8 0), (.int .u8 0), (.int .u8 0), (.int .u8 0), (.int .i64 0)] 36 (.tmp 42)))),
         ((some 6), (none, (.steal 43)))])
  (.exit 1))
       .skip))
  ledger_Add_BC_j1))))
  (.reg [((some 58), (none, (.bi .add (.tmp 25) (.const (.int .i64 1))))),
      ((some 25), (none, (.mv (.tmp 58))))]))
def ledger_Add_BC_j3 (f_ledger_index : Nat) (t_api_Count : Nat) : PC :=
  (.seq (.reg [((some 12), (none, (.mv (.tmp 0)))),
    ((some 13), (none, (.lenB (.tmp 12)))),
    ((some 14), (none, (.mv (.tmp 0)))),
    ((some 15), (none, (.lenB (.tmp 14)))),
    ((some 16), (none, (.mv (.tmp 1)))),
    ((some 17), (none, (.len (.tmp 16)))),
    ((some 18), (none, (.bi .add (.tmp 15) (.tmp 17)))),
    ((some 19), (none, (.mkB 33 40 [(.int .u8 0), (.int .u8 0), (.int .u8 0), (.int .u8 0), (.int .u8 0), (.int .u8 0), (.int .u8 0), (.int .u8 0), (.int .u8 0), (.int .u8 0), (.int .u8 0), (.int .u8 0), (.int .u8 0), (.int .u8 0), (.int .u8 0), (.int .u8 0), (.int .u8 0), (.int .u8 0), (.int .u8 0), (.int .u8 0), (.int .u8 0), (.int .u8 0), (.int .u8 0), (.int .u8 0), (.int .u8 0), (.int .u8 0), (.int .u8 0), (.int .u8 0), (.int .u8 0), (.int .u8 0), (.int .u8 0), (.int .u8 0), (.int .i64 0)] (.tmp 13) (.tmp 18)))),
    ((some 6), (none, (.steal 19)))])
  (.seq (.reg [((some 20), (none, (.mv (.tmp 6)))),
    ((some 21), (none, (.mv (.tmp 0)))),
    ((some 22), (none, (.cpy 33 (.tmp 20) (.tmp 21))))])
  (.seq (.seq (.reg [((some 23), (none, (.mv (.tmp 1)))),
    ((some 24), (none, (.len (.tmp 23)))),
    ((some 25), (none, (.mv (.const (.int .i64 0)))))])
  (.block 0 (.loop (.seq (.reg [((some 26), (none, (.bi .lss (.tmp 25) (.tmp 24))))])
  (.seq (.cond (.tmp 26)
      .skip
      (.exit 0))
  (ledger_Add_BC_j2 f_ledger_index t_api_Count))))))
  (.seq (.reg [((some 59), (none, (.steal 6))),
    ((some 4), (none, (.steal 59))),
    ((some 5), (none, (.mv (.const (.int .i64 0)))))])
  .ret))))
def ledger_Add_BC (f_ledger_Valid : Nat) (f_ledger_index : Nat) (t_api_Count : Nat) : PC :=
  (.seq (.reg [((some 4), (none, .cns)),
    ((some 5), (none, (.mv (.const (.int .i64 0)))))])
  (.seq (.seq (.reg [((some 9), (none, (.mv (.tmp 0)))),
    ((some 10), (none, (.callB f_ledger_Valid [(.tmp 9)]))),
    ((some 11), (none, (.un .not (.tmp 10))))])
  (.cond (.tmp 11)
    (.seq (.reg [((some 4), (none, .cns)),
      ((some 5), (none, (.mv (.const (.int .i64 5)))))])
  .ret)
    .skip))
  (ledger_Add_BC_j3 f_ledger_index t_api_Count)))
/-- macaroon/macaroonref26.AddRides: 74 slots, results [(.t 4), (.t 5)] -/
def ref26_AddRides_BC_j1 : PC :=
  (.seq (.block 3 (.seq (.drw [((some 33), (none, (.mv (.tmp 6)))),
          ((some 34), (none, (.mv (.tmp 9)))),
          ((some 35), (none, (.ixB 33 (.tmp 33) (.tmp 34)))),
          ((some 36), (none, (.fa 0 (.tmp 35)))),
          ((some 37), (none, (.ldA 32 (.tmp 36)))),
          ((some 38), (none, (.mv (.tmp 1)))),
          ((some 39), (none, (.mv (.tmp 7)))),
          ((some 40), (none, (.ixS 32 (.tmp 38) (.tmp 39)))),
          ((some 41), (none, (.ldA 32 (.tmp 40)))),
          ((some 42), (none, (.eqA false (List.replicate 32 (.int .u8)) (.tmp 37) (.tmp 41))))])
  (.cond (.tmp 42)
          (.seq (.reg [((some 43), (none, (.mv (.tmp 6)))),
            ((some 44), (none, (.mv (.tmp 9)))),
            ((some 45), (none, (.ixB 33 (.tmp 43) (.tmp 44)))),
            ((some 46), (none, (.fa 32 (.tmp 45)))),
            ((some 47), (none, (.ld false (.tmp 46)))),
            ((some 48), (none, (.bi .add (.tmp 47) (.const (.int .i64 1))))),
            ((some 49), (none, (.ixB 33 (.tmp 43) (.tmp 44)))),
            ((some 50), (none, (.fa 32 (.tmp 49)))),
            (none, (none, (.st 1 (.tmp 50) (.tmp 48))))])
  (.reg [((some 8), (none, (.mv (.const (.bool true)))))]))
          .skip)))
  (.reg [((some 31), (none, (.mv (.tmp 9)))),
         ((some 32), (none, (.bi .add (.tmp 31) (.const (.int .i64 1))))),
         ((some 9), (none, (.mv (.tmp 32))))]))
def ref26_AddRides_BC_j2 (t_api_Count : Nat) : PC :=
  (.seq (.reg [((some 51), (none, (.mv (.tmp 8)))),
       ((some 52), (none, (.un .not (.tmp 51))))])
  (.cond (.tmp 52)
       (.reg [((some 53), (none, (.steal 6))),
         ((some 54), (none, (.mv (.tmp 1)))),
         ((some 55), (none, (.mv (.tmp 7)))),
         ((some 56), (none, (.ixS 32 (.tmp 54) (.tmp 55)))),
         ((some 57), (none, (.ldA 32 (.tmp 56)))),
         ((some 58), (none, (.build [(.inr ((.tmp 57), 32)), (.inr ((.const (.int .i64 1)), 1))]))),
         ((some 59), (none, (.mks t_api_Count 33 false [(.tmp 58)]))),
         ((some 60), (none, (.appB 33 40 [(.int .u8 0), (.int .u8 0), (.int .u8 0), (.int .u8 0), (.int .u8 0), (.int .u8 0), (.int .u8 0), (.int .u8 0), (.int .u8 0), (.int .u8 0), (.int .u8 0), (.int .u8 0), (.int .u8 0), (.int .u8 0), (.int .u8 0), (.int .u8 0), (.int .u8 0), (.int .u8 0), (.int .u8 0), (.int .u8 0), (.int .u8 0), (.int .u8 0), (.int .u8 0), (.int .u8 0), (.int .u8 0), (.int .u8 0), (.int .u8 0), (.int .u8 0), (.int .u8 0), (.int .u8 0), (.int .u8 0), (.int .u8 0), (.int .i64 0)] 53 (.tmp 59)))),
         ((some 6), (none, (.steal 60)))])
       .skip))
def ref26_AddRides_BC_j3 (t_api_Count : Nat) : PC :=
  (.seq (.block 1 (.seq (.reg [((some 8), (none, (.mv (.const (.bool false)))))])
  (.seq (.seq (.reg [((some 9), (none, (.mv (.const (.int .i64 0)))))])
  (.block 2 (.loop (.seq (.seq (.reg [((some 23), (none, (.mv (.tmp 9)))),
         ((some 24), (none, (.mv (.tmp 6)))),
         ((some 25), (none, (.lenB (.tmp 24)))),
         ((some 26), (none, (.bi .lss (.tmp 23) (.tmp 25)))),
         ((some 27), (none, (.mv (.tmp 26)))),
         ((some 28), ((some (27, true)), (.mv (.tmp 8)))),
         ((some 29), ((some (27, true)), (.un .not (.tmp 28)))),
         ((some 30), (none, (.pick (.tmp 27) (.tmp 29) (.const (.bool false)))))])
  (.cond (.tmp 30)
         .skip
         (.exit 2)))
  ref26_AddRides_BC_j1))))
  (ref26_AddRides_BC_j2 t_api_Count))))
  (.reg [((some 21), (none, (.mv (.tmp 7)))),
      ((some 22), (none, (.bi .add (.tmp 21) (.const (.int .i64 1))))),
      ((some 7), (none, (.mv (.tmp 22))))]))
def ref26_AddRides_BC_j4 : PC :=
  (.seq (.block 5 (.seq (.reg [((some 67), (none, (.mv (.tmp 6)))),
       ((some 68), (none, (.mv (.tmp 10)))),
       ((some 69), (none, (.ixB 33 (.tmp 67) (.tmp 68)))),
       ((some 70), (none, (.fa 32 (.tmp 69)))),
       ((some 71), (none, (.ld false (.tmp 70)))),
       ((some 72), (none, (.bi .gtr (.tmp 71) (.const (.int .i64 281474976710656)))))])
  (.cond (.tmp 72)
       (.seq (.reg [((some 4), (none, .cns)),
         ((some 5), (none, (.mv (.const (.int .i64 1)))))])
  .ret)
       .skip)))
  (.reg [((some 65), (none, (.mv (.tmp 10)))),
      ((some 66), (none, (.bi .add (.tmp 65) (.const (.int .i64 1))))),
      ((some 10), (none, (.mv (.tmp 66))))]))
def ref26_AddRides_BC_j5 : PC :=
  (.seq (.seq (.reg [((some 10), (none, (.mv (.const (.int .i64 0)))))])
  (.block 4 (.loop (.seq (.seq (.reg [((some 61), (none, (.mv (.tmp 10)))),
      ((some 62), (none, (.mv (.tmp 6)))),
      ((some 63), (none, (.lenB (.tmp 62)))),
      ((some 64), (none, (.bi .lss (.tmp 61) (.tmp 63))))])
  (.cond (.tmp 64)
      .skip
      (.exit 4)))
  ref26_AddRides_BC_j4))))
  (.seq (.reg [((some 73), (none, (.steal 6))),
    ((some 4), (none, (.steal 73))),
    ((some 5), (none, (.mv (.const (.int .i64 0)))))])
  .ret))
def ref26_AddRides_BC_j6 (t_api_Count : Nat) : PC :=
  (.seq (.reg [((some 14), (none, .mks0)),
    ((some 15), (none, (.mv (.tmp 0)))),
    ((some 16), (none, (.appB 33 40 [(.int .u8 0), (.int .u8 0), (.int .u8 0), (.int .u8 0), (.int .u8 0), (.int .u8 0), (.int .u8 0), (.int .u8 0), (.int .u8 0), (.int .u8 0), (.int .u8 0), (.int .u8 0), (.int .u8 0), (.int .u8 0), (.int .u8 0), (.int .u8 0), (.int .u8 0), (.int .u8 0), (.int .u8 0), (.int .u8 0), (.int .u8 0), (.int .u8 0), (.int .u8 0), (.int .u8 0), (.int .u8 0), (.int .u8 0), (.int .u8 0), (.int .u8 0), (.int .u8 0), (.int .u8 0), (.int .u8 0), (.int .u8 0), (.int .i64 0)] 14 (.tmp 15)))),
    ((some 6), (none, (.steal 16)))])
  (.seq (.seq (.reg [((some 7), (none, (.mv (.const (.int .i64 0)))))])
  (.block 0 (.loop (.seq (.seq (.reg [((some 17), (none, (.mv (.tmp 7)))),
      ((some 18), (none, (.mv (.tmp 1)))),
      ((some 19), (none, (.len (.tmp 18)))),
      ((some 20), (none, (.bi .lss (.tmp 17) (.tmp 19))))])
  (.cond (.tmp 20)
      .skip
      (.exit 0)))
  (ref26_AddRides_BC_j3 t_api_Count)))))
  ref26_AddRides_BC_j5))
def ref26_AddRides_BC (f_ref26_CountsOk : Nat) (t_api_Count : Nat) : PC :=
  (.seq (.reg [((some 4), (none, .cns)),
    ((some 5), (none, (.mv (.const (.int .i64 0)))))])
  (.seq (.seq (.reg [((some 11), (none, (.mv (.tmp 0)))),
    ((some 12), (none, (.callB f_ref26_CountsOk [(.tmp 11)]))),
    ((some 13), (none, (.un .not (.tmp 12))))])
  (.cond (.tmp 13)
    (.seq (.reg [((some 4), (none, .cns)),
      ((some 5), (none, (.mv (.const (.int .i64 5)))))])
  .ret)
    .skip))
  (ref26_AddRides_BC_j6 t_api_Count)))
/-- macaroon/macaroonref26.SameCounts: 26 slots, results [(.t 4)] -/
def ref26_SameCountsC_j1 : PC :=
  (.seq (.block 1 (.seq (.drw [((some 17), (none, (.mv (.tmp 0)))),
       ((some 18), (none, (.mv (.tmp 5)))),
       ((some 19), (none, (.ixS 33 (.tmp 17) (.tmp 18)))),
       ((some 20), (none, (.ldA 33 (.tmp 19)))),
       ((some 21), (none, (.mv (.tmp 1)))),
       ((some 22), (none, (.mv (.tmp 5)))),
       ((some 23), (none, (.ixS 33 (.tmp 21) (.tmp 22)))),
       ((some 24), (none, (.ldA 33 (.tmp 23)))),
       ((some 25), (none, (.eqA true [(.int .u8), (.int .u8), (.int .u8), (.int .u8), (.int .u8), (.int .u8), (.int .u8), (.int .u8), (.int .u8), (.int .u8), (.int .u8), (.int .u8), (.int .u8), (.int .u8), (.int .u8), (.int .u8), (.int .u8), (.int .u8), (.int .u8), (.int .u8), (.int .u8), (.int .u8), (.int .u8), (.int .u8), (.int .u8), (.int .u8), (.int .u8), (.int .u8), (.int .u8), (.int .u8), (.int .u8), (.int .u8), (.int .i64)] (.tmp 20) (.tmp 24))))])
  (.cond (.tmp 25)
       (.seq (.reg [((some 4), (none, (.mv (.const (.bool false)))))])
  .ret)
       .skip)))
  (.reg [((some 15), (none, (.mv (.tmp 5)))),
      ((some 16), (none, (.bi .add (.tmp 15) (.const (.int .i64 1))))),
      ((some 5), (none, (.mv (.tmp 16))))]))
def ref26_SameCountsC_j2 : PC :=
  (.seq (.seq (.reg [((some 5), (none, (.mv (.const (.int .i64 0)))))])
  (.block 0 (.loop (.seq (.seq (.reg [((some 11), (none, (.mv (.tmp 5)))),
      ((some 12), (none, (.mv (.tmp 0)))),
      ((some 13), (none, (.len (.tmp 12)))),
      ((some 14), (none, (.bi .lss (.tmp 11) (.tmp 13))))])
  (.cond (.tmp 14)
      .skip
      (.exit 0)))
  ref26_SameCountsC_j1))))
  (.seq (.reg [((some 4), (none, (.mv (.const (.bool true)))))])
  .ret))
def ref26_SameCountsC : PC :=
  (.seq (.reg [((some 4), (none, (.mv (.const (.bool false)))))])
  (.seq (.seq (.reg [((some 6), (none, (.mv (.tmp 0)))),
    ((some 7), (none, (.len (.tmp 6)))),
    ((some 8), (none, (.mv (.tmp 1)))),
    ((some 9), (none, (.len (.tmp 8)))),
    ((some 10), (none, (.bi .neq (.tmp 7) (.tmp 9))))])
  (.cond (.tmp 10)
    (.seq (.reg [((some 4), (none, (.mv (.const (.bool false)))))])
  .ret)
    .skip))
  ref26_SameCountsC_j2))
/-- macaroon/ledger.Valid: 35 slots, results [(.t 2)] -/
def ledger_ValidC_j1 (f_ledger_index : Nat) : PC :=
  (.seq (.block 1 (.seq (.reg [((some 8), (none, (.mv (.tmp 6)))),
       ((some 3), (none, (.mv (.tmp 8))))])
  (.seq (.reg [((some 9), (none, (.mv (.tmp 0)))),
       ((some 10), (none, (.mv (.tmp 3)))),
       ((some 11), (none, (.ixS 33 (.tmp 9) (.tmp 10)))),
       ((some 12), (none, (.fa 32 (.tmp 11)))),
       ((some 13), (none, (.ld false (.tmp 12)))),
       ((some 14), (none, (.bi .lss (.tmp 13) (.const (.int .i64 1))))),
       ((some 15), (none, (.mv (.tmp 14)))),
       ((some 16), ((some (15, false)), (.mv (.tmp 0)))),
       ((some 17), ((some (15, false)), (.mv (.tmp 3)))),
       ((some 18), ((some (15, false)), (.ixS 33 (.tmp 16) (.tmp 17)))),
       ((some 19), ((some (15, false)), (.fa 32 (.tmp 18)))),
       ((some 20), ((some (15, false)), (.ld false (.tmp 19)))),
       ((some 21), ((some (15, false)), (.bi .gtr (.tmp 20) (.const (.int .i64 281474976710656))))),
       ((some 22), (none, (.pick (.tmp 15) (.const (.bool true)) (.tmp 21)))),
       ((some 23), (none, (.mv (.tmp 22)))),
       ((some 24), ((some (23, false)), (.mv (.tmp 0)))),
       ((some 25), ((some (23, false)), (.mv (.tmp 0)))),
       ((some 26), ((some (23, false)), (.mv (.tmp 3)))),
       ((some 27), ((some (23, false)), (.ixS 33 (.tmp 25) (.tmp 26)))),
       ((some 28), ((some (23, false)), (.fa 0 (.tmp 27)))),
       ((some 29), ((some (23, false)), (.ldA 32 (.tmp 28)))),
       ((some 30), ((some (23, false)), (.call f_ledger_index [(.tmp 24), (.tmp 29)]))),
       ((some 31), ((some (23, false)), (.mv (.tmp 3)))),
       ((some 32), ((some (23, false)), (.bi .lss (.tmp 30) (.tmp 31)))),
       ((some 33), (none, (.pick (.tmp 23) (.const (.bool true)) (.tmp 32))))])
  (.cond (.tmp 33)
       (.seq (.reg [((some 2), (none, (.mv (.const (.bool false)))))])
  .ret)
       .skip))))
  (.reg [((some 34), (none, (.bi .add (.tmp 6) (.const (.int .i64 1))))),
      ((some 6), (none, (.mv (.tmp 34))))]))
def ledger_ValidC (f_ledger_index : Nat) : PC :=
  (.seq (.reg [((some 2), (none, (.mv (.const (.bool false)))))])
  (.seq (.seq (.reg [((some 4), (none, (.mv (.tmp 0)))),
    ((some 5), (none, (.len (.tmp 4)))),
    ((some 6), (none, (.mv (.const (.int .i64 0)))))])
  (.block 0 (.loop (.seq (.reg [((some 7), (none, (.bi .lss (.tmp 6) (.tmp 5))))])
  (.seq (.cond (.tmp 7)
      .skip
      (.exit 0))
  (ledger_ValidC_j1 f_ledger_index))))))
  (.seq (.reg [((some 2), (none, (.mv (.const (.bool true)))))])
  .ret)))
/-- macaroon/macaroonref26.CountsOk: 41 slots, results [(.t 2)] -/
def ref26_CountsOkC_j1 : PC :=
  (.seq (.block 3 (.seq (.drw [((some 30), (none, (.mv (.tmp 0)))),
          ((some 31), (none, (.mv (.tmp 4)))),
          ((some 32), (none, (.ixS 33 (.tmp 30) (.tmp 31)))),
          ((some 33), (none, (.fa 0 (.tmp 32)))),
          ((some 34), (none, (.ldA 32 (.tmp 33)))),
          ((some 35), (none, (.mv (.tmp 0)))),
          ((some 36), (none, (.mv (.tmp 3)))),
          ((some 37), (none, (.ixS 33 (.tmp 35) (.tmp 36)))),
          ((some 38), (none, (.fa 0 (.tmp 37)))),
          ((some 39), (none, (.ldA 32 (.tmp 38)))),
          ((some 40), (none, (.eqA false (List.replicate 32 (.int .u8)) (.tmp 34) (.tmp 39))))])
  (.cond (.tmp 40)
          (.seq (.reg [((some 2), (none, (.mv (.const (.bool false)))))])
  .ret)
          .skip)))
  (.reg [((some 28), (none, (.mv (.tmp 4)))),
         ((some 29), (none, (.bi .add (.tmp 28) (.const (.int .i64 1))))),
         ((some 4), (none, (.mv (.tmp 29))))]))
def ref26_CountsOkC_j2 : PC :=
  (.seq (.reg [((some 4), (none, (.mv (.const (.int .i64 0)))))])
  (.block 2 (.loop (.seq (.seq (.reg [((some 25), (none, (.mv (.tmp 4)))),
         ((some 26), (none, (.mv (.tmp 3)))),
         ((some 27), (none, (.bi .lss (.tmp 25) (.tmp 26))))])
  (.cond (.tmp 27)
         .skip
         (.exit 2)))
  ref26_CountsOkC_j1))))
def ref26_CountsOkC_j3 : PC :=
  (.seq (.block 1 (.seq (.seq (.reg [((some 11), (none, (.mv (.tmp 0)))),
       ((some 12), (none, (.mv (.tmp 3)))),
       ((some 13), (none, (.ixS 33 (.tmp 11) (.tmp 12)))),
       ((some 14), (none, (.fa 32 (.tmp 13)))),
       ((some 15), (none, (.ld false (.tmp 14)))),
       ((some 16), (none, (.bi .lss (.tmp 15) (.const (.int .i64 1))))),
       ((some 17), (none, (.mv (.tmp 16)))),
       ((some 18), ((some (17, false)), (.mv (.tmp 0)))),
       ((some 19), ((some (17, false)), (.mv (.tmp 3)))),
       ((some 20), ((some (17, false)), (.ixS 33 (.tmp 18) (.tmp 19)))),
       ((some 21), ((some (17, false)), (.fa 32 (.tmp 20)))),
       ((some 22), ((some (17, false)), (.ld false (.tmp 21)))),
       ((some 23), ((some (17, false)), (.bi .gtr (.tmp 22) (.const (.int .i64 281474976710656))))),
       ((some 24), (none, (.pick (.tmp 17) (.const (.bool true)) (.tmp 23))))])
  (.cond (.tmp 24)
       (.seq (.reg [((some 2), (none, (.mv (.const (.bool false)))))])
  .ret)
       .skip))
  ref26_CountsOkC_j2))
  (.reg [((some 9), (none, (.mv (.tmp 3)))),
      ((some 10), (none, (.bi .add (.tmp 9) (.const (.int .i64 1))))),
      ((some 3), (none, (.mv (.tmp 10))))]))
def ref26_CountsOkC : PC :=
  (.seq (.reg [((some 2), (none, (.mv (.const (.bool false)))))])
  (.seq (.seq (.reg [((some 3), (none, (.mv (.const (.int .i64 0)))))])
  (.block 0 (.loop (.seq (.seq (.reg [((some 5), (none, (.mv (.tmp 3)))),
      ((some 6), (none, (.mv (.tmp 0)))),
      ((some 7), (none, (.len (.tmp 6)))),
      ((some 8), (none, (.bi .lss (.tmp 5) (.tmp 7))))])
  (.cond (.tmp 8)
      .skip
      (.exit 0)))
  ref26_CountsOkC_j3))))
  (.seq (.reg [((some 2), (none, (.mv (.const (.bool true)))))])
  .ret)))
/-- macaroon/ledger.Number: 16 slots, results [(.t 4)] -/
def ledger_NumberC (f_ledger_index : Nat) : PC :=
  (.seq (.reg [((some 3), (none, (.box 32 (.tmp 1)))),
    ((some 4), (none, (.mv (.const (.int .i64 0)))))])
  (.seq (.reg [((some 6), (none, (.mv (.tmp 0)))),
    ((some 7), (none, (.ldA 32 (.tmp 3)))),
    ((some 8), (none, (.call f_ledger_index [(.tmp 6), (.tmp 7)]))),
    ((some 5), (none, (.mv (.tmp 8))))])
  (.seq (.seq (.reg [((some 9), (none, (.mv (.tmp 5)))),
    ((some 10), (none, (.bi .lss (.tmp 9) (.const (.int .i64 0)))))])
  (.cond (.tmp 10)
    (.seq (.reg [((some 4), (none, (.mv (.const (.int .i64 0)))))])
  .ret)
    .skip))
  (.seq (.reg [((some 11), (none, (.mv (.tmp 0)))),
    ((some 12), (none, (.mv (.tmp 5)))),
    ((some 13), (none, (.ixS 33 (.tmp 11) (.tmp 12)))),
    ((some 14), (none, (.fa 32 (.tmp 13)))),
    ((some 15), (none, (.ld false (.tmp 14)))),
    ((some 4), (none, (.mv (.tmp 15))))])
  .ret))))
/-- macaroon/macaroonref26.Number: 24 slots, results [(.t 4)] -/
def ref26_NumberC_j1 : PC :=
  (.seq (.block 1 (.seq (.drw [((some 12), (none, (.mv (.tmp 0)))),
       ((some 13), (none, (.mv (.tmp 5)))),
       ((some 14), (none, (.ixS 33 (.tmp 12) (.tmp 13)))),
       ((some 15), (none, (.fa 0 (.tmp 14)))),
       ((some 16), (none, (.ldA 32 (.tmp 15)))),
       ((some 17), (none, (.ldA 32 (.tmp 3)))),
       ((some 18), (none, (.eqA false (List.replicate 32 (.int .u8)) (.tmp 16) (.tmp 17))))])
  (.cond (.tmp 18)
       (.seq (.reg [((some 19), (none, (.mv (.tmp 0)))),
         ((some 20), (none, (.mv (.tmp 5)))),
         ((some 21), (none, (.ixS 33 (.tmp 19) (.tmp 20)))),
         ((some 22), (none, (.fa 32 (.tmp 21)))),
         ((some 23), (none, (.ld false (.tmp 22)))),
         ((some 4), (none, (.mv (.tmp 23))))])
  .ret)
       .skip)))
  (.reg [((some 10), (none, (.mv (.tmp 5)))),
      ((some 11), (none, (.bi .add (.tmp 10) (.const (.int .i64 1))))),
      ((some 5), (none, (.mv (.tmp 11))))]))
def ref26_NumberC : PC :=
  (.seq (.reg [((some 3), (none, (.box 32 (.tmp 1)))),
    ((some 4), (none, (.mv (.const (.int .i64 0)))))])
  (.seq (.seq (.reg [((some 5), (none, (.mv (.const (.int .i64 0)))))])
  (.block 0 (.loop (.seq (.seq (.reg [((some 6), (none, (.mv (.tmp 5)))),
      ((some 7), (none, (.mv (.tmp 0)))),
      ((some 8), (none, (.len (.tmp 7)))),
      ((some 9), (none, (.bi .lss (.tmp 6) (.tmp 8))))])
  (.cond (.tmp 9)
      .skip
      (.exit 0)))
  ref26_NumberC_j1))))
  (.seq (.reg [((some 4), (none, (.mv (.const (.int .i64 0)))))])
  .ret)))
/-- (*macaroon/macaroonmade.Deck).Caveat: 20 slots, results [(.cA 2 10)] -/
def made_Deck_CaveatC_j1 (t_uint8 : Nat) (f_made_Deck_Next : Nat) (f_made_Deck_Bytes : Nat) : PC :=
  (.seq (.reg [((some 9), (none, (.mv (.tmp 0)))),
    ((some 10), (none, (.call f_made_Deck_Next [(.tmp 9), (.const (.int .i64 8))]))),
    ((some 11), (none, (.mv (.tmp 0)))),
    ((some 12), (none, (.call f_made_Deck_Bytes [(.tmp 11), (.const (.int .i64 20))]))),
    ((some 13), (none, (.mks t_uint8 1 false [(.const (.int .u8 1))]))),
    ((some 14), (none, (.app t_uint8 1 1 12 (.tmp 13)))),
    ((some 15), (none, (.mv (.tmp 0)))),
    ((some 16), (none, (.call f_made_Deck_Bytes [(.tmp 15), (.const (.int .i64 20))]))),
    ((some 17), (none, (.mks t_uint8 1 false [(.const (.int .u8 2))]))),
    ((some 18), (none, (.app t_uint8 1 1 16 (.tmp 17)))),
    ((some 19), (none, (.build [(.inr ((.const (.bool true)), 1)), (.inl [(.int .i64 0), (.int .u64 0), (.int .i64 0), (.int .i64 0), (.string ⟨#[]⟩), (.int .i64 0)]), (.inr ((.tmp 10), 1)), (.inr ((.tmp 14), 1)), (.inr ((.tmp 18), 1))]))),
    (none, (none, (.st 10 (.tmp 2) (.tmp 19))))])
  .ret)
def made_Deck_CaveatC (t_uint8 : Nat) (f_made_Deck_Next : Nat) (f_made_Deck_Predicate : Nat) (f_made_Deck_Bytes : Nat) : PC :=
  (.seq (.reg [((some 2), (none, (.alloc [(.bool false), (.int .i64 0), (.int .u64 0), (.int .i64 0), (.int .i64 0), (.string ⟨#[]⟩), (.int .i64 0), (.int .i64 0), (lin t_uint8 []), (lin t_uint8 [])])))])
  (.seq (.seq (.reg [((some 3), (none, (.mv (.tmp 0)))),
    ((some 4), (none, (.call f_made_Deck_Next [(.tmp 3), (.const (.int .i64 4))]))),
    ((some 5), (none, (.bi .gtr (.tmp 4) (.const (.int .i64 0)))))])
  (.cond (.tmp 5)
    (.seq (.reg [((some 6), (none, (.mv (.tmp 0)))),
      ((some 7), (none, (.call f_made_Deck_Predicate [(.tmp 6), (.const (.bool true))]))),
      ((some 8), (none, (.build [(.inl [(.bool false)]), (.inr ((.tmp 7), 6)), (.inl [(.int .i64 0)]), (.inl [(deep [])]), (.inl [(deep [])])]))),
      (none, (none, (.st 10 (.tmp 2) (.tmp 8))))])
  .ret)
    .skip))
  (made_Deck_CaveatC_j1 t_uint8 f_made_Deck_Next f_made_Deck_Bytes)))
/-- macaroon/macaroonref01.SameTags: 26 slots, results [(.t 4)] -/
def ref01_SameTagsC_j1 : PC :=
  (.seq (.block 1 (.seq (.drw [((some 17), (none, (.mv (.tmp 0)))),
       ((some 18), (none, (.mv (.tmp 5)))),
       ((some 19), (none, (.ixS 32 (.tmp 17) (.tmp 18)))),
       ((some 20), (none, (.ldA 32 (.tmp 19)))),
       ((some 21), (none, (.mv (.tmp 1)))),
       ((some 22), (none, (.mv (.tmp 5)))),
       ((some 23), (none, (.ixS 32 (.tmp 21) (.tmp 22)))),
       ((some 24), (none, (.ldA 32 (.tmp 23)))),
       ((some 25), (none, (.eqA true (List.replicate 32 (.int .u8)) (.tmp 20) (.tmp 24))))])
  (.cond (.tmp 25)
       (.seq (.reg [((some 4), (none, (.mv (.const (.bool false)))))])
  .ret)
       .skip)))
  (.reg [((some 15), (none, (.mv (.tmp 5)))),
      ((some 16), (none, (.bi .add (.tmp 15) (.const (.int .i64 1))))),
      ((some 5), (none, (.mv (.tmp 16))))]))
def ref01_SameTagsC_j2 : PC :=
  (.seq (.seq (.reg [((some 5), (none, (.mv (.const (.int .i64 0)))))])
  (.block 0 (.loop (.seq (.seq (.reg [((some 11), (none, (.mv (.tmp 5)))),
      ((some 12), (none, (.mv (.tmp 0)))),
      ((some 13), (none, (.len (.tmp 12)))),
      ((some 14), (none, (.bi .lss (.tmp 11) (.tmp 13))))])
  (.cond (.tmp 14)
      .skip
      (.exit 0)))
  ref01_SameTagsC_j1))))
  (.seq (.reg [((some 4), (none, (.mv (.const (.bool true)))))])
  .ret))
def ref01_SameTagsC : PC :=
  (.seq (.reg [((some 4), (none, (.mv (.const (.bool false)))))])
  (.seq (.seq (.reg [((some 6), (none, (.mv (.tmp 0)))),
    ((some 7), (none, (.len (.tmp 6)))),
    ((some 8), (none, (.mv (.tmp 1)))),
    ((some 9), (none, (.len (.tmp 8)))),
    ((some 10), (none, (.bi .neq (.tmp 7) (.tmp 9))))])
  (.cond (.tmp 10)
    (.seq (.reg [((some 4), (none, (.mv (.const (.bool false)))))])
  .ret)
    .skip))
  ref01_SameTagsC_j2))
/-- macaroon/ledger.Limited: 28 slots, results [(.t 4)] -/
def ledger_LimitedC_j1 (t_api_Tag : Nat) : PC :=
  (.seq (.block 1 (.seq (.reg [((some 13), (none, (.ixS 1 (.tmp 9) (.tmp 11)))),
       ((some 14), (none, (.ld false (.tmp 13)))),
       ((some 7), (none, (.mv (.tmp 14))))])
  (.seq (.reg [((some 15), (none, (.mv (.tmp 7)))),
       ((some 16), (none, (.mv (.tmp 1)))),
       ((some 17), (none, (.len (.tmp 16)))),
       ((some 18), (none, (.bi .lss (.tmp 15) (.tmp 17))))])
  (.cond (.tmp 18)
       (.reg [((some 19), (none, (.steal 5))),
         ((some 20), (none, (.mv (.tmp 1)))),
         ((some 21), (none, (.mv (.tmp 7)))),
         ((some 22), (none, (.ixS 32 (.tmp 20) (.tmp 21)))),
         ((some 23), (none, (.ldA 32 (.tmp 22)))),
         ((some 24), (none, (.mks t_api_Tag 32 false [(.tmp 23)]))),
         ((some 25), (none, (.app t_api_Tag 32 32 19 (.tmp 24)))),
         ((some 5), (none, (.steal 25)))])
       .skip))))
  (.reg [((some 26), (none, (.bi .add (.tmp 11) (.const (.int .i64 1))))),
      ((some 11), (none, (.mv (.tmp 26))))]))
def ledger_LimitedC (t_api_Tag : Nat) (f_verify_Limits : Nat) : PC :=
  (.seq (.reg [((some 2), (none, (.box 38 (.tmp 0)))),
    ((some 4), (none, (.cnil t_api_Tag)))])
  (.seq (.reg [((some 5), (none, (.cnil t_api_Tag)))])
  (.seq (.seq (.reg [((some 8), (none, (.ldA 38 (.tmp 2)))),
    ((some 9), (none, (.call f_verify_Limits [(.tmp 8)]))),
    ((some 10), (none, (.len (.tmp 9)))),
    ((some 11), (none, (.mv (.const (.int .i64 0)))))])
  (.block 0 (.loop (.seq (.reg [((some 12), (none, (.bi .lss (.tmp 11) (.tmp 10))))])
  (.seq (.cond (.tmp 12)
      .skip
      (.exit 0))
  (ledger_LimitedC_j1 t_api_Tag))))))
  (.seq (.reg [((some 27), (none, (.steal 5))),
    ((some 4), (none, (.steal 27)))])
  .ret))))
/-- macaroon/macaroonref26.Limited: 34 slots, results [(.t 4)] -/
def ref26_LimitedC_j1 (t_api_Tag : Nat) : PC :=
  (.seq (.block 1 (.seq (.reg [((some 16), (none, (.mv (.tmp 6)))),
       ((some 17), (none, (.mv (.tmp 7)))),
       ((some 18), (none, (.ixS 1 (.tmp 16) (.tmp 17)))),
       ((some 19), (none, (.ld false (.tmp 18)))),
       ((some 20), (none, (.mv (.tmp 1)))),
       ((some 21), (none, (.len (.tmp 20)))),
       ((some 22), (none, (.bi .lss (.tmp 19) (.tmp 21))))])
  (.cond (.tmp 22)
       (.reg [((some 23), (none, (.steal 5))),
         ((some 24), (none, (.mv (.tmp 1)))),
         ((some 25), (none, (.mv (.tmp 6)))),
         ((some 26), (none, (.mv (.tmp 7)))),
         ((some 27), (none, (.ixS 1 (.tmp 25) (.tmp 26)))),
         ((some 28), (none, (.ld false (.tmp 27)))),
         ((some 29), (none, (.ixS 32 (.tmp 24) (.tmp 28)))),
         ((some 30), (none, (.ldA 32 (.tmp 29)))),
         ((some 31), (none, (.mks t_api_Tag 32 false [(.tmp 30)]))),
         ((some 32), (none, (.app t_api_Tag 32 32 23 (.tmp 31)))),
         ((some 5), (none, (.steal 32)))])
       .skip)))
  (.reg [((some 14), (none, (.mv (.tmp 7)))),
      ((some 15), (none, (.bi .add (.tmp 14) (.const (.int .i64 1))))),
      ((some 7), (none, (.mv (.tmp 15))))]))
def ref26_LimitedC (t_api_Tag : Nat) (f_ref16_Limits : Nat) : PC :=
  (.seq (.reg [((some 2), (none, (.box 38 (.tmp 0)))),
    ((some 4), (none, (.cnil t_api_Tag)))])
  (.seq (.reg [((some 5), (none, (.cnil t_api_Tag)))])
  (.seq (.reg [((some 8), (none, (.ldA 38 (.tmp 2)))),
    ((some 9), (none, (.call f_ref16_Limits [(.tmp 8)]))),
    ((some 6), (none, (.steal 9)))])
  (.seq (.seq (.reg [((some 7), (none, (.mv (.const (.int .i64 0)))))])
  (.block 0 (.loop (.seq (.seq (.reg [((some 10), (none, (.mv (.tmp 7)))),
      ((some 11), (none, (.mv (.tmp 6)))),
      ((some 12), (none, (.len (.tmp 11)))),
      ((some 13), (none, (.bi .lss (.tmp 10) (.tmp 12))))])
  (.cond (.tmp 13)
      .skip
      (.exit 0)))
  (ref26_LimitedC_j1 t_api_Tag)))))
  (.seq (.reg [((some 33), (none, (.steal 5))),
    ((some 4), (none, (.steal 33)))])
  .ret)))))
/-- macaroon/ledger.Room: 38 slots, results [(.t 6)] -/
def ledger_RoomC_j1 (f_ledger_Number : Nat) : PC :=
  (.seq (.block 1 (.seq (.reg [((some 14), (none, (.ixS 1 (.tmp 10) (.tmp 12)))),
       ((some 15), (none, (.ld false (.tmp 14)))),
       ((some 8), (none, (.mv (.tmp 15))))])
  (.seq (.drw [((some 16), (none, (.mv (.tmp 8)))),
       ((some 17), (none, (.mv (.tmp 2)))),
       ((some 18), (none, (.len (.tmp 17)))),
       ((some 19), (none, (.bi .lss (.tmp 16) (.tmp 18)))),
       ((some 20), (none, (.mv (.tmp 19)))),
       ((some 21), ((some (20, true)), (.mv (.tmp 0)))),
       ((some 22), ((some (20, true)), (.mv (.tmp 2)))),
       ((some 23), ((some (20, true)), (.mv (.tmp 8)))),
       ((some 24), ((some (20, true)), (.ixS 32 (.tmp 22) (.tmp 23)))),
       ((some 25), ((some (20, true)), (.ldA 32 (.tmp 24)))),
       ((some 26), ((some (20, true)), (.call f_ledger_Number [(.tmp 21), (.tmp 25)]))),
       ((some 27), ((some (20, true)), (.fa 4 (.tmp 4)))),
       ((some 28), ((some (20, true)), (.ld false (.tmp 27)))),
       ((some 29), ((some (20, true)), (.mv (.tmp 8)))),
       ((some 30), ((some (20, true)), (.bi .sub (.tmp 29) (.const (.int .i64 1))))),
       ((some 31), ((some (20, true)), (.ixS 10 (.tmp 28) (.tmp 30)))),
       ((some 32), ((some (20, true)), (.fa 1 (.tmp 31)))),
       ((some 33), ((some (20, true)), (.fa 5 (.tmp 32)))),
       ((some 34), ((some (20, true)), (.ld false (.tmp 33)))),
       ((some 35), ((some (20, true)), (.bi .geq (.tmp 26) (.tmp 34)))),
       ((some 36), (none, (.pick (.tmp 20) (.tmp 35) (.const (.bool false)))))])
  (.cond (.tmp 36)
       (.seq (.reg [((some 6), (none, (.mv (.const (.int .i64 24)))))])
  .ret)
       .skip))))
  (.reg [((some 37), (none, (.bi .add (.tmp 12) (.const (.int .i64 1))))),
      ((some 12), (none, (.mv (.tmp 37))))]))
def ledger_RoomC (f_verify_Limits : Nat) (f_ledger_Number : Nat) : PC :=
  (.seq (.reg [((some 4), (none, (.box 38 (.tmp 1)))),
    ((some 6), (none, (.mv (.const (.int .i64 0)))))])
  (.seq (.seq (.reg [((some 9), (none, (.ldA 38 (.tmp 4)))),
    ((some 10), (none, (.call f_verify_Limits [(.tmp 9)]))),
    ((some 11), (none, (.len (.tmp 10)))),
    ((some 12), (none, (.mv (.const (.int .i64 0)))))])
  (.block 0 (.loop (.seq (.reg [((some 13), (none, (.bi .lss (.tmp 12) (.tmp 11))))])
  (.seq (.cond (.tmp 13)
      .skip
      (.exit 0))
  (ledger_RoomC_j1 f_ledger_Number))))))
  (.seq (.reg [((some 6), (none, (.mv (.const (.int .i64 0)))))])
  .ret)))
/-- macaroon/macaroonref26.Room: 47 slots, results [(.t 6)] -/
def ref26_RoomC_j1 (f_ref26_Number : Nat) : PC :=
  (.seq (.block 1 (.seq (.drw [((some 17), (none, (.mv (.tmp 7)))),
       ((some 18), (none, (.mv (.tmp 8)))),
       ((some 19), (none, (.ixS 1 (.tmp 17) (.tmp 18)))),
       ((some 20), (none, (.ld false (.tmp 19)))),
       ((some 21), (none, (.mv (.tmp 2)))),
       ((some 22), (none, (.len (.tmp 21)))),
       ((some 23), (none, (.bi .lss (.tmp 20) (.tmp 22)))),
       ((some 24), (none, (.mv (.tmp 23)))),
       ((some 25), ((some (24, true)), (.mv (.tmp 0)))),
       ((some 26), ((some (24, true)), (.mv (.tmp 2)))),
       ((some 27), ((some (24, true)), (.mv (.tmp 7)))),
       ((some 28), ((some (24, true)), (.mv (.tmp 8)))),
       ((some 29), ((some (24, true)), (.ixS 1 (.tmp 27) (.tmp 28)))),
       ((some 30), ((some (24, true)), (.ld false (.tmp 29)))),
       ((some 31), ((some (24, true)), (.ixS 32 (.tmp 26) (.tmp 30)))),
       ((some 32), ((some (24, true)), (.ldA 32 (.tmp 31)))),
       ((some 33), ((some (24, true)), (.call f_ref26_Number [(.tmp 25), (.tmp 32)]))),
       ((some 34), ((some (24, true)), (.fa 4 (.tmp 4)))),
       ((some 35), ((some (24, true)), (.ld false (.tmp 34)))),
       ((some 36), ((some (24, true)), (.mv (.tmp 7)))),
       ((some 37), ((some (24, true)), (.mv (.tmp 8)))),
       ((some 38), ((some (24, true)), (.ixS 1 (.tmp 36) (.tmp 37)))),
       ((some 39), ((some (24, true)), (.ld false (.tmp 38)))),
       ((some 40), ((some (24, true)), (.bi .sub (.tmp 39) (.const (.int .i64 1))))),
       ((some 41), ((some (24, true)), (.ixS 10 (.tmp 35) (.tmp 40)))),
       ((some 42), ((some (24, true)), (.fa 1 (.tmp 41)))),
       ((some 43), ((some (24, true)), (.fa 5 (.tmp 42)))),
       ((some 44), ((some (24, true)), (.ld false (.tmp 43)))),
       ((some 45), ((some (24, true)), (.bi .geq (.tmp 33) (.tmp 44)))),
       ((some 46), (none, (.pick (.tmp 24) (.tmp 45) (.const (.bool false)))))])
  (.cond (.tmp 46)
       (.seq (.reg [((some 6), (none, (.mv (.const (.int .i64 24)))))])
  .ret)
       .skip)))
  (.reg [((some 15), (none, (.mv (.tmp 8)))),
      ((some 16), (none, (.bi .add (.tmp 15) (.const (.int .i64 1))))),
      ((some 8), (none, (.mv (.tmp 16))))]))
def ref26_RoomC (f_ref16_Limits : Nat) (f_ref26_Number : Nat) : PC :=
  (.seq (.reg [((some 4), (none, (.box 38 (.tmp 1)))),
    ((some 6), (none, (.mv (.const (.int .i64 0)))))])
  (.seq (.reg [((some 9), (none, (.ldA 38 (.tmp 4)))),
    ((some 10), (none, (.call f_ref16_Limits [(.tmp 9)]))),
    ((some 7), (none, (.steal 10)))])
  (.seq (.seq (.reg [((some 8), (none, (.mv (.const (.int .i64 0)))))])
  (.block 0 (.loop (.seq (.seq (.reg [((some 11), (none, (.mv (.tmp 8)))),
      ((some 12), (none, (.mv (.tmp 7)))),
      ((some 13), (none, (.len (.tmp 12)))),
      ((some 14), (none, (.bi .lss (.tmp 11) (.tmp 13))))])
  (.cond (.tmp 14)
      .skip
      (.exit 0)))
  (ref26_RoomC_j1 f_ref26_Number)))))
  (.seq (.reg [((some 6), (none, (.mv (.const (.int .i64 0)))))])
  .ret))))
/-- macaroon/ledger.index: 20 slots, results [(.t 4)] -/
def ledger_indexC_j1 : PC :=
  (.seq (.block 1 (.seq (.reg [((some 10), (none, (.mv (.tmp 8)))),
       ((some 5), (none, (.mv (.tmp 10))))])
  (.seq (.drw [((some 11), (none, (.mv (.tmp 0)))),
       ((some 12), (none, (.mv (.tmp 5)))),
       ((some 13), (none, (.ixS 33 (.tmp 11) (.tmp 12)))),
       ((some 14), (none, (.fa 0 (.tmp 13)))),
       ((some 15), (none, (.ldA 32 (.tmp 14)))),
       ((some 16), (none, (.ldA 32 (.tmp 3)))),
       ((some 17), (none, (.eqA false (List.replicate 32 (.int .u8)) (.tmp 15) (.tmp 16))))])
  (.cond (.tmp 17)
       (.seq (.reg [((some 18), (none, (.mv (.tmp 5)))),
         ((some 4), (none, (.mv (.tmp 18))))])
  .ret)
       .skip))))
  (.reg [((some 19), (none, (.bi .add (.tmp 8) (.const (.int .i64 1))))),
      ((some 8), (none, (.mv (.tmp 19))))]))
def ledger_indexC : PC :=
  (.seq (.reg [((some 3), (none, (.box 32 (.tmp 1)))),
    ((some 4), (none, (.mv (.const (.int .i64 0)))))])
  (.seq (.seq (.reg [((some 6), (none, (.mv (.tmp 0)))),
    ((some 7), (none, (.len (.tmp 6)))),
    ((some 8), (none, (.mv (.const (.int .i64 0)))))])
  (.block 0 (.loop (.seq (.reg [((some 9), (none, (.bi .lss (.tmp 8) (.tmp 7))))])
  (.seq (.cond (.tmp 9)
      .skip
      (.exit 0))
  ledger_indexC_j1)))))
  (.seq (.reg [((some 4), (none, (.mv (.const (.int .i64 (-1))))))])
  .ret)))
/-- (*macaroon/macaroonmade.Deck).Bytes: 22 slots, results [(.t 4)] -/
def made_Deck_BytesC_j1 (t_uint8 : Nat) (f_made_Deck_Next : Nat) : PC :=
  (.seq (.block 1 (.reg [((some 15), (none, (.steal 5))),
       ((some 16), (none, (.mv (.tmp 0)))),
       ((some 17), (none, (.call f_made_Deck_Next [(.tmp 16), (.const (.int .i64 256))]))),
       ((some 18), (none, (.cv .u8 (.tmp 17)))),
       ((some 19), (none, (.mks t_uint8 1 false [(.tmp 18)]))),
       ((some 20), (none, (.app t_uint8 1 1 15 (.tmp 19)))),
       ((some 5), (none, (.steal 20)))]))
  (.reg [((some 13), (none, (.mv (.tmp 6)))),
      ((some 14), (none, (.bi .sub (.tmp 13) (.const (.int .i64 1))))),
      ((some 6), (none, (.mv (.tmp 14))))]))
def made_Deck_BytesC (t_uint8 : Nat) (f_made_Deck_Next : Nat) : PC :=
  (.seq (.reg [((some 4), (none, (.cnil t_uint8)))])
  (.seq (.reg [((some 5), (none, (.cnil t_uint8)))])
  (.seq (.seq (.reg [((some 7), (none, (.mv (.tmp 0)))),
    ((some 8), (none, (.mv (.tmp 1)))),
    ((some 9), (none, (.bi .add (.tmp 8) (.const (.int .i64 1))))),
    ((some 10), (none, (.call f_made_Deck_Next [(.tmp 7), (.tmp 9)]))),
    ((some 6), (none, (.mv (.tmp 10))))])
  (.block 0 (.loop (.seq (.seq (.reg [((some 11), (none, (.mv (.tmp 6)))),
      ((some 12), (none, (.bi .gtr (.tmp 11) (.const (.int .i64 0)))))])
  (.cond (.tmp 12)
      .skip
      (.exit 0)))
  (made_Deck_BytesC_j1 t_uint8 f_made_Deck_Next)))))
  (.seq (.reg [((some 21), (none, (.steal 5))),
    ((some 4), (none, (.steal 21)))])
  .ret))))
/-- macaroon/verify.Limits: 30 slots, results [(.t 2)] -/
def verify_LimitsC_j1 (t_int : Nat) (t_uint8 : Nat) : PC :=
  (.seq (.block 1 (.seq (.reg [((some 11), (none, (.mv (.tmp 9)))),
       ((some 12), (none, (.ixS 10 (.tmp 7) (.tmp 9)))),
       ((some 13), (none, (.ldA 10 (.tmp 12)))),
       ((some 5), (none, (.alloc [(.bool false), (.int .i64 0), (.int .u64 0), (.int .i64 0), (.int .i64 0), (.string ⟨#[]⟩), (.int .i64 0), (.int .i64 0), (lin t_uint8 []), (lin t_uint8 [])]))),
       ((some 4), (none, (.mv (.tmp 11)))),
       (none, (none, (.st 10 (.tmp 5) (.tmp 13))))])
  (.seq (.reg [((some 14), (none, (.fa 0 (.tmp 5)))),
       ((some 15), (none, (.ld false (.tmp 14)))),
       ((some 16), (none, (.un .not (.tmp 15)))),
       ((some 17), (none, (.mv (.tmp 16)))),
       ((some 18), ((some (17, true)), (.fa 1 (.tmp 5)))),
       ((some 19), ((some (17, true)), (.fa 0 (.tmp 18)))),
       ((some 20), ((some (17, true)), (.ld false (.tmp 19)))),
       ((some 21), ((some (17, true)), (.bi .eql (.tmp 20) (.const (.int .i64 7))))),
       ((some 22), (none, (.pick (.tmp 17) (.tmp 21) (.const (.bool false)))))])
  (.cond (.tmp 22)
       (.reg [((some 23), (none, (.steal 3))),
         ((some 24), (none, (.mv (.tmp 4)))),
         ((some 25), (none, (.bi .add (.tmp 24) (.const (.int .i64 1))))),
         ((some 26), (none, (.mks t_int 1 false [(.tmp 25)]))),
         ((some 27), (none, (.app t_int 1 8 23 (.tmp 26)))),
         ((some 3), (none, (.steal 27)))])
       .skip))))
  (.reg [((some 28), (none, (.bi .add (.tmp 9) (.const (.int .i64 1))))),
      ((some 9), (none, (.mv (.tmp 28))))]))
def verify_LimitsC (t_int : Nat) (t_uint8 : Nat) : PC :=
  (.seq (.reg [((some 1), (none, (.box 38 (.tmp 0)))),
    ((some 2), (none, (.cnil t_int)))])
  (.seq (.reg [((some 3), (none, (.cnil t_int)))])
  (.seq (.seq (.reg [((some 6), (none, (.fa 4 (.tmp 1)))),
    ((some 7), (none, (.ld false (.tmp 6)))),
    ((some 8), (none, (.len (.tmp 7)))),
    ((some 9), (none, (.mv (.const (.int .i64 0)))))])
  (.block 0 (.loop (.seq (.reg [((some 10), (none, (.bi .lss (.tmp 9) (.tmp 8))))])
  (.seq (.cond (.tmp 10)
      .skip
      (.exit 0))
  (verify_LimitsC_j1 t_int t_uint8))))))
  (.seq (.reg [((some 29), (none, (.steal 3))),
    ((some 2), (none, (.steal 29)))])
  .ret))))
/-- macaroon/macaroonref16.Limits: 35 slots, results [(.t 2)] -/
def ref16_LimitsC_j1 (t_int : Nat) : PC :=
  (.seq (.block 1 (.seq (.reg [((some 12), (none, (.fa 4 (.tmp 1)))),
       ((some 13), (none, (.ld false (.tmp 12)))),
       ((some 14), (none, (.mv (.tmp 4)))),
       ((some 15), (none, (.ixS 10 (.tmp 13) (.tmp 14)))),
       ((some 16), (none, (.fa 0 (.tmp 15)))),
       ((some 17), (none, (.ld false (.tmp 16)))),
       ((some 18), (none, (.un .not (.tmp 17)))),
       ((some 19), (none, (.mv (.tmp 18)))),
       ((some 20), ((some (19, true)), (.fa 4 (.tmp 1)))),
       ((some 21), ((some (19, true)), (.ld false (.tmp 20)))),
       ((some 22), ((some (19, true)), (.mv (.tmp 4)))),
       ((some 23), ((some (19, true)), (.ixS 10 (.tmp 21) (.tmp 22)))),
       ((some 24), ((some (19, true)), (.fa 1 (.tmp 23)))),
       ((some 25), ((some (19, true)), (.fa 0 (.tmp 24)))),
       ((some 26), ((some (19, true)), (.ld false (.tmp 25)))),
       ((some 27), ((some (19, true)), (.bi .eql (.tmp 26) (.const (.int .i64 7))))),
       ((some 28), (none, (.pick (.tmp 19) (.tmp 27) (.const (.bool false)))))])
  (.cond (.tmp 28)
       (.reg [((some 29), (none, (.steal 3))),
         ((some 30), (none, (.mv (.tmp 4)))),
         ((some 31), (none, (.bi .add (.tmp 30) (.const (.int .i64 1))))),
         ((some 32), (none, (.mks t_int 1 false [(.tmp 31)]))),
         ((some 33), (none, (.app t_int 1 8 29 (.tmp 32)))),
         ((some 3), (none, (.steal 33)))])
       .skip)))
  (.reg [((some 10), (none, (.mv (.tmp 4)))),
      ((some 11), (none, (.bi .add (.tmp 10) (.const (.int .i64 1))))),
      ((some 4), (none, (.mv (.tmp 11))))]))
def ref16_LimitsC (t_int : Nat) : PC :=
  (.seq (.reg [((some 1), (none, (.box 38 (.tmp 0)))),
    ((some 2), (none, (.cnil t_int)))])
  (.seq (.reg [((some 3), (none, (.cnil t_int)))])
  (.seq (.seq (.reg [((some 4), (none, (.mv (.const (.int .i64 0)))))])
  (.block 0 (.loop (.seq (.seq (.reg [((some 5), (none, (.mv (.tmp 4)))),
      ((some 6), (none, (.fa 4 (.tmp 1)))),
      ((some 7), (none, (.ld false (.tmp 6)))),
      ((some 8), (none, (.len (.tmp 7)))),
      ((some 9), (none, (.bi .lss (.tmp 5) (.tmp 8))))])
  (.cond (.tmp 9)
      .skip
      (.exit 0)))
  (ref16_LimitsC_j1 t_int)))))
  (.seq (.reg [((some 34), (none, (.steal 3))),
    ((some 2), (none, (.steal 34)))])
  .ret))))
end Go.PE
