/- Pure code, printed by a program: the ledger. Pure code, printed by a program: the statements about layer 28. -/
import Derived.Test.YtabichlcgiafcaaCode
set_option linter.all false
namespace Go.PE
open Go
/-- macaroon/macaroonlaw28.counts: 30 slots, results [(.t 2)] -/
def law28_counts_BC (f_law28_tags : Nat) (f_ref26_AddRides : Nat) (f_made_Deck_Next : Nat) : PC :=
  (.seq (.reg [((some 2), (none, .cns))])
  (.seq (.reg [((some 6), (none, (.mv (.tmp 0)))),
    ((some 7), (none, (.callB f_law28_tags [(.tmp 6), (.const (.int .i64 9))]))),
    ((some 8), (none, (.callB f_ref26_AddRides [(.const (.slice none 0 0)), (.tmp 7)]))),
    ((some 5), (none, (.steal 8))),
    ((some 9), (none, (.extr 5 0))),
    ((some 10), (none, (.extr 5 1))),
    ((some 3), (none, (.steal 9))),
    ((some 4), (none, (.mv (.tmp 10))))])
  (.seq (.seq (.reg [((some 11), (none, (.mv (.tmp 3)))),
    ((some 12), (none, (.lenB (.tmp 11)))),
    ((some 13), (none, (.bi .gtr (.tmp 12) (.const (.int .i64 0))))),
    ((some 14), (none, (.mv (.tmp 13)))),
    ((some 15), ((some (14, true)), (.mv (.tmp 0)))),
    ((some 16), ((some (14, true)), (.callB f_made_Deck_Next [(.tmp 15), (.const (.int .i64 4))]))),
    ((some 17), ((some (14, true)), (.bi .eql (.tmp 16) (.const (.int .i64 0))))),
    ((some 18), (none, (.pick (.tmp 14) (.tmp 17) (.const (.bool false)))))])
  (.cond (.tmp 18)
    (.reg [((some 19), (none, (.mv (.tmp 3)))),
      ((some 20), (none, (.mv (.tmp 0)))),
      ((some 21), (none, (.mv (.tmp 3)))),
      ((some 22), (none, (.lenB (.tmp 21)))),
      ((some 23), (none, (.callB f_made_Deck_Next [(.tmp 20), (.tmp 22)]))),
      ((some 24), (none, (.mv (.tmp 0)))),
      ((some 25), (none, (.callB f_made_Deck_Next [(.tmp 24), (.const (.int .i64 2))]))),
      ((some 26), (none, (.bi .sub (.const (.int .i64 281474976710656)) (.tmp 25)))),
      ((some 27), (none, (.ixB 33 (.tmp 19) (.tmp 23)))),
      ((some 28), (none, (.fa 32 (.tmp 27)))),
      (none, (none, (.st 1 (.tmp 28) (.tmp 26))))])
    .skip))
  (.seq (.reg [((some 29), (none, (.steal 3))),
    ((some 2), (none, (.steal 29)))])
  .ret))))
/-- macaroon/macaroonlaw28.tags: 23 slots, results [(.t 4)] -/
def law28_tagsC_j1 (t_api_Tag : Nat) (f_made_Deck_Next : Nat) : PC :=
  (.seq (.block 1 (.reg [((some 15), (none, (.steal 5))),
       ((some 16), (none, (.mv (.tmp 0)))),
       ((some 17), (none, (.call f_made_Deck_Next [(.tmp 16), (.const (.int .i64 5))]))),
       ((some 18), (none, (.cv .u8 (.tmp 17)))),
       ((some 19), (none, (.build [(.inr ((.tmp 18), 1)), (.inl [(.int .u8 0)]), (.inl [(.int .u8 0)]), (.inl [(.int .u8 0)]), (.inl [(.int .u8 0)]), (.inl [(.int .u8 0)]), (.inl [(.int .u8 0)]), (.inl [(.int .u8 0)]), (.inl [(.int .u8 0)]), (.inl [(.int .u8 0)]), (.inl [(.int .u8 0)]), (.inl [(.int .u8 0)]), (.inl [(.int .u8 0)]), (.inl [(.int .u8 0)]), (.inl [(.int .u8 0)]), (.inl [(.int .u8 0)]), (.inl [(.int .u8 0)]), (.inl [(.int .u8 0)]), (.inl [(.int .u8 0)]), (.inl [(.int .u8 0)]), (.inl [(.int .u8 0)]), (.inl [(.int .u8 0)]), (.inl [(.int .u8 0)]), (.inl [(.int .u8 0)]), (.inl [(.int .u8 0)]), (.inl [(.int .u8 0)]), (.inl [(.int .u8 0)]), (.inl [(.int .u8 0)]), (.inl [(.int .u8 0)]), (.inl [(.int .u8 0)]), (.inl [(.int .u8 0)]), (.inl [(.int .u8 0)])]))),
       ((some 20), (none, (.mks t_api_Tag 32 false [(.tmp 19)]))),
       ((some 21), (none, (.app t_api_Tag 32 32 15 (.tmp 20)))),
       ((some 5), (none, (.steal 21)))]))
  (.reg [((some 13), (none, (.mv (.tmp 6)))),
      ((some 14), (none, (.bi .sub (.tmp 13) (.const (.int .i64 1))))),
      ((some 6), (none, (.mv (.tmp 14))))]))
def law28_tagsC (t_api_Tag : Nat) (f_made_Deck_Next : Nat) : PC :=
  (.seq (.reg [((some 4), (none, (.cnil t_api_Tag)))])
  (.seq (.reg [((some 5), (none, (.cnil t_api_Tag)))])
  (.seq (.seq (.reg [((some 7), (none, (.mv (.tmp 0)))),
    ((some 8), (none, (.mv (.tmp 1)))),
    ((some 9), (none, (.bi .add (.tmp 8) (.const (.int .i64 1))))),
    ((some 10), (none, (.call f_made_Deck_Next [(.tmp 7), (.tmp 9)]))),
    ((some 6), (none, (.mv (.tmp 10))))])
  (.block 0 (.loop (.seq (.seq (.reg [((some 11), (none, (.mv (.tmp 6)))),
      ((some 12), (none, (.bi .gtr (.tmp 11) (.const (.int .i64 0)))))])
  (.cond (.tmp 12)
      .skip
      (.exit 0)))
  (law28_tagsC_j1 t_api_Tag f_made_Deck_Next)))))
  (.seq (.reg [((some 22), (none, (.steal 5))),
    ((some 4), (none, (.steal 22)))])
  .ret))))
/-- macaroon/ledger.Add: 60 slots, results [(.t 4), (.t 5)] -/
def ledger_Add_BC_j1 : PC :=
  (.seq (.reg [((some 44), (none, (.mv (.tmp 6)))),
       ((some 45), (none, (.mv (.tmp 8)))),
       ((some 46), (none, (.ixB 33 (.tmp 44) (.tmp 45)))),
       ((some 47), (none, (.fa 32 (.tmp 46)))),
       ((some 48), (none, (.ld false (.tmp 47)))),
       ((some 49), (none, (.bi .add (.tmp 48) (.const (.int .i64 1))))),
       ((some 50), (none, (.ixB 33 (.tmp 44) (.tmp 45)))),
       ((some 51), (none, (.fa 32 (.tmp 50)))),
       (none, (none, (.st 1 (.tmp 51) (.tmp 49))))])
  (.seq (.reg [((some 52), (none, (.mv (.tmp 6)))),
       ((some 53), (none, (.mv (.tmp 8)))),
       ((some 54), (none, (.ixB 33 (.tmp 52) (.tmp 53)))),
       ((some 55), (none, (.fa 32 (.tmp 54)))),
       ((some 56), (none, (.ld false (.tmp 55)))),
       ((some 57), (none, (.bi .gtr (.tmp 56) (.const (.int .i64 281474976710656)))))])
  (.cond (.tmp 57)
       (.seq (.reg [((some 4), (none, .cns)),
         ((some 5), (none, (.mv (.const (.int .i64 1)))))])
  .ret)
       .skip)))
def ledger_Add_BC_j2 (f_ledger_index : Nat) (t_api_Count : Nat) : PC :=
  (.seq (.block 1 (.seq (.reg [((some 27), (none, (.mv (.tmp 25)))),
       ((some 7), (none, (.mv (.tmp 27))))])
  (.seq (.reg [((some 28), (none, (.mv (.tmp 6)))),
       ((some 29), (none, (.mv (.tmp 1)))),
       ((some 30), (none, (.mv (.tmp 7)))),
       ((some 31), (none, (.ixS 32 (.tmp 29) (.tmp 30)))),
       ((some 32), (none, (.ldA 32 (.tmp 31)))),
       ((some 33), (none, (.callB f_ledger_index [(.tmp 28), (.tmp 32)]))),
       ((some 8), (none, (.mv (.tmp 33))))])
  (.seq (.seq (.reg [((some 34), (none, (.mv (.tmp 8)))),
       ((some 35), (none, (.bi .lss (.tmp 34) (.const (.int .i64 0)))))])
  (.cond (.tmp 35)
       (.seq (.reg [((some 36), (none, (.steal 6))),
         ((some 37), (none, (.mv (.tmp 1)))),
         ((some 38), (none, (.mv (.tmp 7)))),
         ((some 39), (none, (.ixS 32 (.tmp 37) (.tmp 38)))),
         ((some 40), (none, (.ldA 32 (.tmp 39)))),
         ((some 41), (none, (.build [(.inr ((.tmp 40), 32)), (.inr ((.const (.int .i64 1)), 1))]))),
         ((some 42), (none, (.mks t_api_Count 33 false [(.tmp 41)]))),
         ((some 43), (none, (.appB 33 40 [(.int .u8 0), (.int .u8 0), (.int .u8 0), (.int .u8 0), (.int .u8 0), (.int .u8 0), (.int .u8 0), (.int .u8 0), (.int .u8 0), (.int .u8 0), (.int .u8 0), (.int .u8 0), (.int .u8 0), (.int .u8 0), (.int .u8 0), (.int .u8 0), (.int .u8 0), (.int .u8 0), (.int .u8 0), (.int .u8 0), (.int .u8 0), (.int .u8 0), (.int .u8 0), (.int .u8 0), (.int .u8 0), (.int .u8 0), (.int .u8 0), (.int .u8 0), (.int .u8 0), (.int .u8 0), (.int .u8 0), (.int .u8 0), (.int .i64 0)] 36 (.tmp 42)))),
         ((some 6), (none, (.steal 43)))])
  (.exit 1))
       .skip))
  ledger_Add_BC_j1))))
  (.reg [((some 58), (none, (.bi .add (.tmp 25) (.const (.int .i64 1))))),
      ((some 25), (none, (.mv (.tmp 58))))]))
def ledger_Add_BC_j3 (f_ledger_index : Nat) (t_api_Count : Nat) : PC :=
  (.seq (.reg [((some 12), (none, (.mv (.tmp 0)))),
    ((some 13), (none, (.lenB (.tmp 12)))),
    ((some 14), (none, (.mv (.tmp 0)))),
    ((some 15), (none, (.lenB (.tmp 14)))),
    ((some 16), (none, (.mv (.tmp 1)))),
    ((some 17), (none, (.len (.tmp 16)))),
    ((some 18), (none, (.bi .add (.tmp 15) (.tmp 17)))),
    ((some 19), (none, (.mkB 33 40 [(.int .u8 0), (.int .u8 0), (.int .u8 0), (.int .u8 0), (.int .u8 0), (.int .u8 0), (.int .u8 0), (.int .u8 0), (.int .u8 0), (.int .u8 0), (.int .u8 0), (.int .u8 0), (.int .u8 0), (.int .u8 0), (.int .u8 0), (.int .u8 0), (.int .u8 0), (.int .u8 0), (.int .u8 0), (.int .u8 0), (.int .u8 0), (.int .u8 0), (.int .u8 0), (.int .u8 0), (.int .u8 0), (.int .u8 0), (.int .u8 0), (.int .u8 0), (.int .u8 0), (.int .u8 0), (.int .u8 0), (.int .u8 0), (.int .i64 0)] (.tmp 13) (.tmp 18)))),
    ((some 6), (none, (.steal 19)))])
  (.seq (.reg [((some 20), (none, (.mv (.tmp 6)))),
    ((some 21), (none, (.mv (.tmp 0)))),
    ((some 22), (none, (.cpy 33 (.tmp 20) (.tmp 21))))])
  (.seq (.seq (.reg [((some 23), (none, (.mv (.tmp 1)))),
    ((some 24), (none, (.len (.tmp 23)))),
    ((some 25), (none, (.mv (.const (.int .i64 0)))))])
  (.block 0 (.loop (.seq (.reg [((some 26), (none, (.bi .lss (.tmp 25) (.tmp 24))))])
  (.seq (.cond (.tmp 26)
      .skip
      (.exit 0))
  (ledger_Add_BC_j2 f_ledger_index t_api_Count))))))
  (.seq (.reg [((some 59), (none, (.steal 6))),
    ((some 4), (none, (.steal 59))),
    ((some 5), (none, (.mv (.const (.int .i64 0)))))])
  .ret))))
def ledger_Add_BC (f_ledger_Valid : Nat) (f_ledger_index : Nat) (t_api_Count : Nat) : PC :=
  (.seq (.reg [((some 4), (none, .cns)),
    ((some 5), (none, (.mv (.const (.int .i64 0)))))])
  (.seq (.seq (.reg [((some 9), (none, (.mv (.tmp 0)))),
    ((some 10), (none, (.callB f_ledger_Valid [(.tmp 9)]))),
    ((some 11), (none, (.un .not (.tmp 10))))])
  (.cond (.tmp 11)
    (.seq (.reg [((some 4), (none, .cns)),
      ((some 5), (none, (.mv (.const (.int .i64 5)))))])
  .ret)
    .skip))
  (ledger_Add_BC_j3 f_ledger_index t_api_Count)))
/-- macaroon/macaroonref26.AddRides: 74 slots, results [(.t 4), (.t 5)] -/
def ref26_AddRides_BC_j1 : PC :=
  (.seq (.block 3 (.seq (.drw [((some 33), (none, (.mv (.tmp 6)))),
          ((some 34), (none, (.mv (.tmp 9)))),
          ((some 35), (none, (.ixB 33 (.tmp 33) (.tmp 34)))),
          ((some 36), (none, (.fa 0 (.tmp 35)))),
          ((some 37), (none, (.ldA 32 (.tmp 36)))),
          ((some 38), (none, (.mv (.tmp 1)))),
          ((some 39), (none, (.mv (.tmp 7)))),
          ((some 40), (none, (.ixS 32 (.tmp 38) (.tmp 39)))),
          ((some 41), (none, (.ldA 32 (.tmp 40)))),
          ((some 42), (none, (.eqA false (List.replicate 32 (.int .u8)) (.tmp 37) (.tmp 41))))])
  (.cond (.tmp 42)
          (.seq (.reg [((some 43), (none, (.mv (.tmp 6)))),
            ((some 44), (none, (.mv (.tmp 9)))),
            ((some 45), (none, (.ixB 33 (.tmp 43) (.tmp 44)))),
            ((some 46), (none, (.fa 32 (.tmp 45)))),
            ((some 47), (none, (.ld false (.tmp 46)))),
            ((some 48), (none, (.bi .add (.tmp 47) (.const (.int .i64 1))))),
            ((some 49), (none, (.ixB 33 (.tmp 43) (.tmp 44)))),
            ((some 50), (none, (.fa 32 (.tmp 49)))),
            (none, (none, (.st 1 (.tmp 50) (.tmp 48))))])
  (.reg [((some 8), (none, (.mv (.const (.bool true)))))]))
          .skip)))
  (.reg [((some 31), (none, (.mv (.tmp 9)))),
         ((some 32), (none, (.bi .add (.tmp 31) (.const (.int .i64 1))))),
         ((some 9), (none, (.mv (.tmp 32))))]))
def ref26_AddRides_BC_j2 (t_api_Count : Nat) : PC :=
  (.seq (.reg [((some 51), (none, (.mv (.tmp 8)))),
       ((some 52), (none, (.un .not (.tmp 51))))])
  (.cond (.tmp 52)
       (.reg [((some 53), (none, (.steal 6))),
         ((some 54), (none, (.mv (.tmp 1)))),
         ((some 55), (none, (.mv (.tmp 7)))),
         ((some 56), (none, (.ixS 32 (.tmp 54) (.tmp 55)))),
         ((some 57), (none, (.ldA 32 (.tmp 56)))),
         ((some 58), (none, (.build [(.inr ((.tmp 57), 32)), (.inr ((.const (.int .i64 1)), 1))]))),
         ((some 59), (none, (.mks t_api_Count 33 false [(.tmp 58)]))),
         ((some 60), (none, (.appB 33 40 [(.int .u8 0), (.int .u8 0), (.int .u8 0), (.int .u8 0), (.int .u8 0), (.int .u8 0), (.int .u8 0), (.int .u8 0), (.int .u8 0), (.int .u8 0), (.int .u8 0), (.int .u8 0), (.int .u8 0), (.int .u8 0), (.int .u8 0), (.int .u8 0), (.int .u8 0), (.int .u8 0), (.int .u8 0), (.int .u8 0), (.int .u8 0), (.int .u8 0), (.int .u8 0), (.int .u8 0), (.int .u8 0), (.int .u8 0), (.int .u8 0), (.int .u8 0), (.int .u8 0), (.int .u8 0), (.int .u8 0), (.int .u8 0), (.int .i64 0)] 53 (.tmp 59)))),
         ((some 6), (none, (.steal 60)))])
       .skip))
def ref26_AddRides_BC_j3 (t_api_Count : Nat) : PC :=
  (.seq (.block 1 (.seq (.reg [((some 8), (none, (.mv (.const (.bool false)))))])
  (.seq (.seq (.reg [((some 9), (none, (.mv (.const (.int .i64 0)))))])
  (.block 2 (.loop (.seq (.seq (.reg [((some 23), (none, (.mv (.tmp 9)))),
         ((some 24), (none, (.mv (.tmp 6)))),
         ((some 25), (none, (.lenB (.tmp 24)))),
         ((some 26), (none, (.bi .lss (.tmp 23) (.tmp 25)))),
         ((some 27), (none, (.mv (.tmp 26)))),
         ((some 28), ((some (27, true)), (.mv (.tmp 8)))),
         ((some 29), ((some (27, true)), (.un .not (.tmp 28)))),
         ((some 30), (none, (.pick (.tmp 27) (.tmp 29) (.const (.bool false)))))])
  (.cond (.tmp 30)
         .skip
         (.exit 2)))
  ref26_AddRides_BC_j1))))
  (ref26_AddRides_BC_j2 t_api_Count))))
  (.reg [((some 21), (none, (.mv (.tmp 7)))),
      ((some 22), (none, (.bi .add (.tmp 21) (.const (.int .i64 1))))),
      ((some 7), (none, (.mv (.tmp 22))))]))
def ref26_AddRides_BC_j4 : PC :=
  (.seq (.block 5 (.seq (.reg [((some 67), (none, (.mv (.tmp 6)))),
       ((some 68), (none, (.mv (.tmp 10)))),
       ((some 69), (none, (.ixB 33 (.tmp 67) (.tmp 68)))),
       ((some 70), (none, (.fa 32 (.tmp 69)))),
       ((some 71), (none, (.ld false (.tmp 70)))),
       ((some 72), (none, (.bi .gtr (.tmp 71) (.const (.int .i64 281474976710656)))))])
  (.cond (.tmp 72)
       (.seq (.reg [((some 4), (none, .cns)),
         ((some 5), (none, (.mv (.const (.int .i64 1)))))])
  .ret)
       .skip)))
  (.reg [((some 65), (none, (.mv (.tmp 10)))),
      ((some 66), (none, (.bi .add (.tmp 65) (.const (.int .i64 1))))),
      ((some 10), (none, (.mv (.tmp 66))))]))
def ref26_AddRides_BC_j5 : PC :=
  (.seq (.seq (.reg [((some 10), (none, (.mv (.const (.int .i64 0)))))])
  (.block 4 (.loop (.seq (.seq (.reg [((some 61), (none, (.mv (.tmp 10)))),
      ((some 62), (none, (.mv (.tmp 6)))),
      ((some 63), (none, (.lenB (.tmp 62)))),
      ((some 64), (none, (.bi .lss (.tmp 61) (.tmp 63))))])
  (.cond (.tmp 64)
      .skip
      (.exit 4)))
  ref26_AddRides_BC_j4))))
  (.seq (.reg [((some 73), (none, (.steal 6))),
    ((some 4), (none, (.steal 73))),
    ((some 5), (none, (.mv (.const (.int .i64 0)))))])
  .ret))
def ref26_AddRides_BC_j6 (t_api_Count : Nat) : PC :=
  (.seq (.reg [((some 14), (none, .mks0)),
    ((some 15), (none, (.mv (.tmp 0)))),
    ((some 16), (none, (.appB 33 40 [(.int .u8 0), (.int .u8 0), (.int .u8 0), (.int .u8 0), (.int .u8 0), (.int .u8 0), (.int .u8 0), (.int .u8 0), (.int .u8 0), (.int .u8 0), (.int .u8 0), (.int .u8 0), (.int .u8 0), (.int .u8 0), (.int .u8 0), (.int .u8 0), (.int .u8 0), (.int .u8 0), (.int .u8 0), (.int .u8 0), (.int .u8 0), (.int .u8 0), (.int .u8 0), (.int .u8 0), (.int .u8 0), (.int .u8 0), (.int .u8 0), (.int .u8 0), (.int .u8 0), (.int .u8 0), (.int .u8 0), (.int .u8 0), (.int .i64 0)] 14 (.tmp 15)))),
    ((some 6), (none, (.steal 16)))])
  (.seq (.seq (.reg [((some 7), (none, (.mv (.const (.int .i64 0)))))])
  (.block 0 (.loop (.seq (.seq (.reg [((some 17), (none, (.mv (.tmp 7)))),
      ((some 18), (none, (.mv (.tmp 1)))),
      ((some 19), (none, (.len (.tmp 18)))),
      ((some 20), (none, (.bi .lss (.tmp 17) (.tmp 19))))])
  (.cond (.tmp 20)
      .skip
      (.exit 0)))
  (ref26_AddRides_BC_j3 t_api_Count)))))
  ref26_AddRides_BC_j5))
def ref26_AddRides_BC (f_ref26_CountsOk : Nat) (t_api_Count : Nat) : PC :=
  (.seq (.reg [((some 4), (none, .cns)),
    ((some 5), (none, (.mv (.const (.int .i64 0)))))])
  (.seq (.seq (.reg [((some 11), (none, (.mv (.tmp 0)))),
    ((some 12), (none, (.callB f_ref26_CountsOk [(.tmp 11)]))),
    ((some 13), (none, (.un .not (.tmp 12))))])
  (.cond (.tmp 13)
    (.seq (.reg [((some 4), (none, .cns)),
      ((some 5), (none, (.mv (.const (.int .i64 5)))))])
  .ret)
    .skip))
  (ref26_AddRides_BC_j6 t_api_Count)))
/-- macaroon/macaroonref26.SameCounts: 26 slots, results [(.t 4)] -/
def ref26_SameCountsC_j1 : PC :=
  (.seq (.block 1 (.seq (.drw [((some 17), (none, (.mv (.tmp 0)))),
       ((some 18), (none, (.mv (.tmp 5)))),
       ((some 19), (none, (.ixS 33 (.tmp 17) (.tmp 18)))),
       ((some 20), (none, (.ldA 33 (.tmp 19)))),
       ((some 21), (none, (.mv (.tmp 1)))),
       ((some 22), (none, (.mv (.tmp 5)))),
       ((some 23), (none, (.ixS 33 (.tmp 21) (.tmp 22)))),
       ((some 24), (none, (.ldA 33 (.tmp 23)))),
       ((some 25), (none, (.eqA true [(.int .u8), (.int .u8), (.int .u8), (.int .u8), (.int .u8), (.int .u8), (.int .u8), (.int .u8), (.int .u8), (.int .u8), (.int .u8), (.int .u8), (.int .u8), (.int .u8), (.int .u8), (.int .u8), (.int .u8), (.int .u8), (.int .u8), (.int .u8), (.int .u8), (.int .u8), (.int .u8), (.int .u8), (.int .u8), (.int .u8), (.int .u8), (.int .u8), (.int .u8), (.int .u8), (.int .u8), (.int .u8), (.int .i64)] (.tmp 20) (.tmp 24))))])
  (.cond (.tmp 25)
       (.seq (.reg [((some 4), (none, (.mv (.const (.bool false)))))])
  .ret)
       .skip)))
  (.reg [((some 15), (none, (.mv (.tmp 5)))),
      ((some 16), (none, (.bi .add (.tmp 15) (.const (.int .i64 1))))),
      ((some 5), (none, (.mv (.tmp 16))))]))
def ref26_SameCountsC_j2 : PC :=
  (.seq (.seq (.reg [((some 5), (none, (.mv (.const (.int .i64 0)))))])
  (.block 0 (.loop (.seq (.seq (.reg [((some 11), (none, (.mv (.tmp 5)))),
      ((some 12), (none, (.mv (.tmp 0)))),
      ((some 13), (none, (.len (.tmp 12)))),
      ((some 14), (none, (.bi .lss (.tmp 11) (.tmp 13))))])
  (.cond (.tmp 14)
      .skip
      (.exit 0)))
  ref26_SameCountsC_j1))))
  (.seq (.reg [((some 4), (none, (.mv (.const (.bool true)))))])
  .ret))
def ref26_SameCountsC : PC :=
  (.seq (.reg [((some 4), (none, (.mv (.const (.bool false)))))])
  (.seq (.seq (.reg [((some 6), (none, (.mv (.tmp 0)))),
    ((some 7), (none, (.len (.tmp 6)))),
    ((some 8), (none, (.mv (.tmp 1)))),
    ((some 9), (none, (.len (.tmp 8)))),
    ((some 10), (none, (.bi .neq (.tmp 7) (.tmp 9))))])
  (.cond (.tmp 10)
    (.seq (.reg [((some 4), (none, (.mv (.const (.bool false)))))])
  .ret)
    .skip))
  ref26_SameCountsC_j2))
/-- macaroon/ledger.Valid: 35 slots, results [(.t 2)] -/
def ledger_ValidC_j1 (f_ledger_index : Nat) : PC :=
  (.seq (.block 1 (.seq (.reg [((some 8), (none, (.mv (.tmp 6)))),
       ((some 3), (none, (.mv (.tmp 8))))])
  (.seq (.reg [((some 9), (none, (.mv (.tmp 0)))),
       ((some 10), (none, (.mv (.tmp 3)))),
       ((some 11), (none, (.ixS 33 (.tmp 9) (.tmp 10)))),
       ((some 12), (none, (.fa 32 (.tmp 11)))),
       ((some 13), (none, (.ld false (.tmp 12)))),
       ((some 14), (none, (.bi .lss (.tmp 13) (.const (.int .i64 1))))),
       ((some 15), (none, (.mv (.tmp 14)))),
       ((some 16), ((some (15, false)), (.mv (.tmp 0)))),
       ((some 17), ((some (15, false)), (.mv (.tmp 3)))),
       ((some 18), ((some (15, false)), (.ixS 33 (.tmp 16) (.tmp 17)))),
       ((some 19), ((some (15, false)), (.fa 32 (.tmp 18)))),
       ((some 20), ((some (15, false)), (.ld false (.tmp 19)))),
       ((some 21), ((some (15, false)), (.bi .gtr (.tmp 20) (.const (.int .i64 281474976710656))))),
       ((some 22), (none, (.pick (.tmp 15) (.const (.bool true)) (.tmp 21)))),
       ((some 23), (none, (.mv (.tmp 22)))),
       ((some 24), ((some (23, false)), (.mv (.tmp 0)))),
       ((some 25), ((some (23, false)), (.mv (.tmp 0)))),
       ((some 26), ((some (23, false)), (.mv (.tmp 3)))),
       ((some 27), ((some (23, false)), (.ixS 33 (.tmp 25) (.tmp 26)))),
       ((some 28), ((some (23, false)), (.fa 0 (.tmp 27)))),
       ((some 29), ((some (23, false)), (.ldA 32 (.tmp 28)))),
       ((some 30), ((some (23, false)), (.call f_ledger_index [(.tmp 24), (.tmp 29)]))),
       ((some 31), ((some (23, false)), (.mv (.tmp 3)))),
       ((some 32), ((some (23, false)), (.bi .lss (.tmp 30) (.tmp 31)))),
       ((some 33), (none, (.pick (.tmp 23) (.const (.bool true)) (.tmp 32))))])
  (.cond (.tmp 33)
       (.seq (.reg [((some 2), (none, (.mv (.const (.bool false)))))])
  .ret)
       .skip))))
  (.reg [((some 34), (none, (.bi .add (.tmp 6) (.const (.int .i64 1))))),
      ((some 6), (none, (.mv (.tmp 34))))]))
def ledger_ValidC (f_ledger_index : Nat) : PC :=
  (.seq (.reg [((some 2), (none, (.mv (.const (.bool false)))))])
  (.seq (.seq (.reg [((some 4), (none, (.mv (.tmp 0)))),
    ((some 5), (none, (.len (.tmp 4)))),
    ((some 6), (none, (.mv (.const (.int .i64 0)))))])
  (.block 0 (.loop (.seq (.reg [((some 7), (none, (.bi .lss (.tmp 6) (.tmp 5))))])
  (.seq (.cond (.tmp 7)
      .skip
      (.exit 0))
  (ledger_ValidC_j1 f_ledger_index))))))
  (.seq (.reg [((some 2), (none, (.mv (.const (.bool true)))))])
  .ret)))
/-- macaroon/macaroonref26.CountsOk: 41 slots, results [(.t 2)] -/
def ref26_CountsOkC_j1 : PC :=
  (.seq (.block 3 (.seq (.drw [((some 30), (none, (.mv (.tmp 0)))),
          ((some 31), (none, (.mv (.tmp 4)))),
          ((some 32), (none, (.ixS 33 (.tmp 30) (.tmp 31)))),
          ((some 33), (none, (.fa 0 (.tmp 32)))),
          ((some 34), (none, (.ldA 32 (.tmp 33)))),
          ((some 35), (none, (.mv (.tmp 0)))),
          ((some 36), (none, (.mv (.tmp 3)))),
          ((some 37), (none, (.ixS 33 (.tmp 35) (.tmp 36)))),
          ((some 38), (none, (.fa 0 (.tmp 37)))),
          ((some 39), (none, (.ldA 32 (.tmp 38)))),
          ((some 40), (none, (.eqA false (List.replicate 32 (.int .u8)) (.tmp 34) (.tmp 39))))])
  (.cond (.tmp 40)
          (.seq (.reg [((some 2), (none, (.mv (.const (.bool false)))))])
  .ret)
          .skip)))
  (.reg [((some 28), (none, (.mv (.tmp 4)))),
         ((some 29), (none, (.bi .add (.tmp 28) (.const (.int .i64 1))))),
         ((some 4), (none, (.mv (.tmp 29))))]))
def ref26_CountsOkC_j2 : PC :=
  (.seq (.reg [((some 4), (none, (.mv (.const (.int .i64 0)))))])
  (.block 2 (.loop (.seq (.seq (.reg [((some 25), (none, (.mv (.tmp 4)))),
         ((some 26), (none, (.mv (.tmp 3)))),
         ((some 27), (none, (.bi .lss (.tmp 25) (.tmp 26))))])
  (.cond (.tmp 27)
         .skip
         (.exit 2)))
  ref26_CountsOkC_j1))))
def ref26_CountsOkC_j3 : PC :=
  (.seq (.block 1 (.seq (.seq (.reg [((some 11), (none, (.mv (.tmp 0)))),
       ((some 12), (none, (.mv (.tmp 3)))),
       ((some 13), (none, (.ixS 33 (.tmp 11) (.tmp 12)))),
       ((some 14), (none, (.fa 32 (.tmp 13)))),
       ((some 15), (none, (.ld false (.tmp 14)))),
       ((some 16), (none, (.bi .lss (.tmp 15) (.const (.int .i64 1))))),
       ((some 17), (none, (.mv (.tmp 16)))),
       ((some 18), ((some (17, false)), (.mv (.tmp 0)))),
       ((some 19), ((some (17, false)), (.mv (.tmp 3)))),
       ((some 20), ((some (17, false)), (.ixS 33 (.tmp 18) (.tmp 19)))),
       ((some 21), ((some (17, false)), (.fa 32 (.tmp 20)))),
       ((some 22), ((some (17, false)), (.ld false (.tmp 21)))),
       ((some 23), ((some (17, false)), (.bi .gtr (.tmp 22) (.const (.int .i64 281474976710656))))),
       ((some 24), (none, (.pick (.tmp 17) (.const (.bool true)) (.tmp 23))))])
  (.cond (.tmp 24)
       (.seq (.reg [((some 2), (none, (.mv (.const (.bool false)))))])
  .ret)
       .skip))
  ref26_CountsOkC_j2))
  (.reg [((some 9), (none, (.mv (.tmp 3)))),
      ((some 10), (none, (.bi .add (.tmp 9) (.const (.int .i64 1))))),
      ((some 3), (none, (.mv (.tmp 10))))]))
def ref26_CountsOkC : PC :=
  (.seq (.reg [((some 2), (none, (.mv (.const (.bool false)))))])
  (.seq (.seq (.reg [((some 3), (none, (.mv (.const (.int .i64 0)))))])
  (.block 0 (.loop (.seq (.seq (.reg [((some 5), (none, (.mv (.tmp 3)))),
      ((some 6), (none, (.mv (.tmp 0)))),
      ((some 7), (none, (.len (.tmp 6)))),
      ((some 8), (none, (.bi .lss (.tmp 5) (.tmp 7))))])
  (.cond (.tmp 8)
      .skip
      (.exit 0)))
  ref26_CountsOkC_j3))))
  (.seq (.reg [((some 2), (none, (.mv (.const (.bool true)))))])
  .ret)))
/-- macaroon/ledger.Number: 16 slots, results [(.t 4)] -/
def ledger_NumberC (f_ledger_index : Nat) : PC :=
  (.seq (.reg [((some 3), (none, (.box 32 (.tmp 1)))),
    ((some 4), (none, (.mv (.const (.int .i64 0)))))])
  (.seq (.reg [((some 6), (none, (.mv (.tmp 0)))),
    ((some 7), (none, (.ldA 32 (.tmp 3)))),
    ((some 8), (none, (.call f_ledger_index [(.tmp 6), (.tmp 7)]))),
    ((some 5), (none, (.mv (.tmp 8))))])
  (.seq (.seq (.reg [((some 9), (none, (.mv (.tmp 5)))),
    ((some 10), (none, (.bi .lss (.tmp 9) (.const (.int .i64 0)))))])
  (.cond (.tmp 10)
    (.seq (.reg [((some 4), (none, (.mv (.const (.int .i64 0)))))])
  .ret)
    .skip))
  (.seq (.reg [((some 11), (none, (.mv (.tmp 0)))),
    ((some 12), (none, (.mv (.tmp 5)))),
    ((some 13), (none, (.ixS 33 (.tmp 11) (.tmp 12)))),
    ((some 14), (none, (.fa 32 (.tmp 13)))),
    ((some 15), (none, (.ld false (.tmp 14)))),
    ((some 4), (none, (.mv (.tmp 15))))])
  .ret))))
/-- macaroon/macaroonref26.Number: 24 slots, results [(.t 4)] -/
def ref26_NumberC_j1 : PC :=
  (.seq (.block 1 (.seq (.drw [((some 12), (none, (.mv (.tmp 0)))),
       ((some 13), (none, (.mv (.tmp 5)))),
       ((some 14), (none, (.ixS 33 (.tmp 12) (.tmp 13)))),
       ((some 15), (none, (.fa 0 (.tmp 14)))),
       ((some 16), (none, (.ldA 32 (.tmp 15)))),
       ((some 17), (none, (.ldA 32 (.tmp 3)))),
       ((some 18), (none, (.eqA false (List.replicate 32 (.int .u8)) (.tmp 16) (.tmp 17))))])
  (.cond (.tmp 18)
       (.seq (.reg [((some 19), (none, (.mv (.tmp 0)))),
         ((some 20), (none, (.mv (.tmp 5)))),
         ((some 21), (none, (.ixS 33 (.tmp 19) (.tmp 20)))),
         ((some 22), (none, (.fa 32 (.tmp 21)))),
         ((some 23), (none, (.ld false (.tmp 22)))),
         ((some 4), (none, (.mv (.tmp 23))))])
  .ret)
       .skip)))
  (.reg [((some 10), (none, (.mv (.tmp 5)))),
      ((some 11), (none, (.bi .add (.tmp 10) (.const (.int .i64 1))))),
      ((some 5), (none, (.mv (.tmp 11))))]))
def ref26_NumberC : PC :=
  (.seq (.reg [((some 3), (none, (.box 32 (.tmp 1)))),
    ((some 4), (none, (.mv (.const (.int .i64 0)))))])
  (.seq (.seq (.reg [((some 5), (none, (.mv (.const (.int .i64 0)))))])
  (.block 0 (.loop (.seq (.seq (.reg [((some 6), (none, (.mv (.tmp 5)))),
      ((some 7), (none, (.mv (.tmp 0)))),
      ((some 8), (none, (.len (.tmp 7)))),
      ((some 9), (none, (.bi .lss (.tmp 6) (.tmp 8))))])
  (.cond (.tmp 9)
      .skip
      (.exit 0)))
  ref26_NumberC_j1))))
  (.seq (.reg [((some 4), (none, (.mv (.const (.int .i64 0)))))])
  .ret)))
/-- (*macaroon/macaroonmade.Deck).Caveat: 20 slots, results [(.cA 2 10)] -/
def made_Deck_CaveatC_j1 (t_uint8 : Nat) (f_made_Deck_Next : Nat) (f_made_Deck_Bytes : Nat) : PC :=
  (.seq (.reg [((some 9), (none, (.mv (.tmp 0)))),
    ((some 10), (none, (.call f_made_Deck_Next [(.tmp 9), (.const (.int .i64 8))]))),
    ((some 11), (none, (.mv (.tmp 0)))),
    ((some 12), (none, (.call f_made_Deck_Bytes [(.tmp 11), (.const (.int .i64 20))]))),
    ((some 13), (none, (.mks t_uint8 1 false [(.const (.int .u8 1))]))),
    ((some 14), (none, (.app t_uint8 1 1 12 (.tmp 13)))),
    ((some 15), (none, (.mv (.tmp 0)))),
    ((some 16), (none, (.call f_made_Deck_Bytes [(.tmp 15), (.const (.int .i64 20))]))),
    ((some 17), (none, (.mks t_uint8 1 false [(.const (.int .u8 2))]))),
    ((some 18), (none, (.app t_uint8 1 1 16 (.tmp 17)))),
    ((some 19), (none, (.build [(.inr ((.const (.bool true)), 1)), (.inl [(.int .i64 0), (.int .u64 0), (.int .i64 0), (.int .i64 0), (.string ⟨#[]⟩), (.int .i64 0)]), (.inr ((.tmp 10), 1)), (.inr ((.tmp 14), 1)), (.inr ((.tmp 18), 1))]))),
    (none, (none, (.st 10 (.tmp 2) (.tmp 19))))])
  .ret)
def made_Deck_CaveatC (t_uint8 : Nat) (f_made_Deck_Next : Nat) (f_made_Deck_Predicate : Nat) (f_made_Deck_Bytes : Nat) : PC :=
  (.seq (.reg [((some 2), (none, (.alloc [(.bool false), (.int .i64 0), (.int .u64 0), (.int .i64 0), (.int .i64 0), (.string ⟨#[]⟩), (.int .i64 0), (.int .i64 0), (lin t_uint8 []), (lin t_uint8 [])])))])
  (.seq (.seq (.reg [((some 3), (none, (.mv (.tmp 0)))),
    ((some 4), (none, (.call f_made_Deck_Next [(.tmp 3), (.const (.int .i64 4))]))),
    ((some 5), (none, (.bi .gtr (.tmp 4) (.const (.int .i64 0)))))])
  (.cond (.tmp 5)
    (.seq (.reg [((some 6), (none, (.mv (.tmp 0)))),
      ((some 7), (none, (.call f_made_Deck_Predicate [(.tmp 6), (.const (.bool true))]))),
      ((some 8), (none, (.build [(.inl [(.bool false)]), (.inr ((.tmp 7), 6)), (.inl [(.int .i64 0)]), (.inl [(deep [])]), (.inl [(deep [])])]))),
      (none, (none, (.st 10 (.tmp 2) (.tmp 8))))])
  .ret)
    .skip))
  (made_Deck_CaveatC_j1 t_uint8 f_made_Deck_Next f_made_Deck_Bytes)))
/-- macaroon/macaroonref01.SameTags: 26 slots, results [(.t 4)] -/
def ref01_SameTagsC_j1 : PC :=
  (.seq (.block 1 (.seq (.drw [((some 17), (none, (.mv (.tmp 0)))),
       ((some 18), (none, (.mv (.tmp 5)))),
       ((some 19), (none, (.ixS 32 (.tmp 17) (.tmp 18)))),
       ((some 20), (none, (.ldA 32 (.tmp 19)))),
       ((some 21), (none, (.mv (.tmp 1)))),
       ((some 22), (none, (.mv (.tmp 5)))),
       ((some 23), (none, (.ixS 32 (.tmp 21) (.tmp 22)))),
       ((some 24), (none, (.ldA 32 (.tmp 23)))),
       ((some 25), (none, (.eqA true (List.replicate 32 (.int .u8)) (.tmp 20) (.tmp 24))))])
  (.cond (.tmp 25)
       (.seq (.reg [((some 4), (none, (.mv (.const (.bool false)))))])
  .ret)
       .skip)))
  (.reg [((some 15), (none, (.mv (.tmp 5)))),
      ((some 16), (none, (.bi .add (.tmp 15) (.const (.int .i64 1))))),
      ((some 5), (none, (.mv (.tmp 16))))]))
def ref01_SameTagsC_j2 : PC :=
  (.seq (.seq (.reg [((some 5), (none, (.mv (.const (.int .i64 0)))))])
  (.block 0 (.loop (.seq (.seq (.reg [((some 11), (none, (.mv (.tmp 5)))),
      ((some 12), (none, (.mv (.tmp 0)))),
      ((some 13), (none, (.len (.tmp 12)))),
      ((some 14), (none, (.bi .lss (.tmp 11) (.tmp 13))))])
  (.cond (.tmp 14)
      .skip
      (.exit 0)))
  ref01_SameTagsC_j1))))
  (.seq (.reg [((some 4), (none, (.mv (.const (.bool true)))))])
  .ret))
def ref01_SameTagsC : PC :=
  (.seq (.reg [((some 4), (none, (.mv (.const (.bool false)))))])
  (.seq (.seq (.reg [((some 6), (none, (.mv (.tmp 0)))),
    ((some 7), (none, (.len (.tmp 6)))),
    ((some 8), (none, (.mv (.tmp 1)))),
    ((some 9), (none, (.len (.tmp 8)))),
    ((some 10), (none, (.bi .neq (.tmp 7) (.tmp 9))))])
  (.cond (.tmp 10)
    (.seq (.reg [((some 4), (none, (.mv (.const (.bool false)))))])
  .ret)
    .skip))
  ref01_SameTagsC_j2))
/-- macaroon/ledger.Limited: 28 slots, results [(.t 4)] -/
def ledger_LimitedC_j1 (t_api_Tag : Nat) : PC :=
  (.seq (.block 1 (.seq (.reg [((some 13), (none, (.ixS 1 (.tmp 9) (.tmp 11)))),
       ((some 14), (none, (.ld false (.tmp 13)))),
       ((some 7), (none, (.mv (.tmp 14))))])
  (.seq (.reg [((some 15), (none, (.mv (.tmp 7)))),
       ((some 16), (none, (.mv (.tmp 1)))),
       ((some 17), (none, (.len (.tmp 16)))),
       ((some 18), (none, (.bi .lss (.tmp 15) (.tmp 17))))])
  (.cond (.tmp 18)
       (.reg [((some 19), (none, (.steal 5))),
         ((some 20), (none, (.mv (.tmp 1)))),
         ((some 21), (none, (.mv (.tmp 7)))),
         ((some 22), (none, (.ixS 32 (.tmp 20) (.tmp 21)))),
         ((some 23), (none, (.ldA 32 (.tmp 22)))),
         ((some 24), (none, (.mks t_api_Tag 32 false [(.tmp 23)]))),
         ((some 25), (none, (.app t_api_Tag 32 32 19 (.tmp 24)))),
         ((some 5), (none, (.steal 25)))])
       .skip))))
  (.reg [((some 26), (none, (.bi .add (.tmp 11) (.const (.int .i64 1))))),
      ((some 11), (none, (.mv (.tmp 26))))]))
def ledger_LimitedC (t_api_Tag : Nat) (f_verify_Limits : Nat) : PC :=
  (.seq (.reg [((some 2), (none, (.box 38 (.tmp 0)))),
    ((some 4), (none, (.cnil t_api_Tag)))])
  (.seq (.reg [((some 5), (none, (.cnil t_api_Tag)))])
  (.seq (.seq (.reg [((some 8), (none, (.ldA 38 (.tmp 2)))),
    ((some 9), (none, (.call f_verify_Limits [(.tmp 8)]))),
    ((some 10), (none, (.len (.tmp 9)))),
    ((some 11), (none, (.mv (.const (.int .i64 0)))))])
  (.block 0 (.loop (.seq (.reg [((some 12), (none, (.bi .lss (.tmp 11) (.tmp 10))))])
  (.seq (.cond (.tmp 12)
      .skip
      (.exit 0))
  (ledger_LimitedC_j1 t_api_Tag))))))
  (.seq (.reg [((some 27), (none, (.steal 5))),
    ((some 4), (none, (.steal 27)))])
  .ret))))
/-- macaroon/macaroonref26.Limited: 34 slots, results [(.t 4)] -/
def ref26_LimitedC_j1 (t_api_Tag : Nat) : PC :=
  (.seq (.block 1 (.seq (.reg [((some 16), (none, (.mv (.tmp 6)))),
       ((some 17), (none, (.mv (.tmp 7)))),
       ((some 18), (none, (.ixS 1 (.tmp 16) (.tmp 17)))),
       ((some 19), (none, (.ld false (.tmp 18)))),
       ((some 20), (none, (.mv (.tmp 1)))),
       ((some 21), (none, (.len (.tmp 20)))),
       ((some 22), (none, (.bi .lss (.tmp 19) (.tmp 21))))])
  (.cond (.tmp 22)
       (.reg [((some 23), (none, (.steal 5))),
         ((some 24), (none, (.mv (.tmp 1)))),
         ((some 25), (none, (.mv (.tmp 6)))),
         ((some 26), (none, (.mv (.tmp 7)))),
         ((some 27), (none, (.ixS 1 (.tmp 25) (.tmp 26)))),
         ((some 28), (none, (.ld false (.tmp 27)))),
         ((some 29), (none, (.ixS 32 (.tmp 24) (.tmp 28)))),
         ((some 30), (none, (.ldA 32 (.tmp 29)))),
         ((some 31), (none, (.mks t_api_Tag 32 false [(.tmp 30)]))),
         ((some 32), (none, (.app t_api_Tag 32 32 23 (.tmp 31)))),
         ((some 5), (none, (.steal 32)))])
       .skip)))
  (.reg [((some 14), (none, (.mv (.tmp 7)))),
      ((some 15), (none, (.bi .add (.tmp 14) (.const (.int .i64 1))))),
      ((some 7), (none, (.mv (.tmp 15))))]))
def ref26_LimitedC (t_api_Tag : Nat) (f_ref16_Limits : Nat) : PC :=
  (.seq (.reg [((some 2), (none, (.box 38 (.tmp 0)))),
    ((some 4), (none, (.cnil t_api_Tag)))])
  (.seq (.reg [((some 5), (none, (.cnil t_api_Tag)))])
  (.seq (.reg [((some 8), (none, (.ldA 38 (.tmp 2)))),
    ((some 9), (none, (.call f_ref16_Limits [(.tmp 8)]))),
    ((some 6), (none, (.steal 9)))])
  (.seq (.seq (.reg [((some 7), (none, (.mv (.const (.int .i64 0)))))])
  (.block 0 (.loop (.seq (.seq (.reg [((some 10), (none, (.mv (.tmp 7)))),
      ((some 11), (none, (.mv (.tmp 6)))),
      ((some 12), (none, (.len (.tmp 11)))),
      ((some 13), (none, (.bi .lss (.tmp 10) (.tmp 12))))])
  (.cond (.tmp 13)
      .skip
      (.exit 0)))
  (ref26_LimitedC_j1 t_api_Tag)))))
  (.seq (.reg [((some 33), (none, (.steal 5))),
    ((some 4), (none, (.steal 33)))])
  .ret)))))
/-- macaroon/ledger.Room: 38 slots, results [(.t 6)] -/
def ledger_RoomC_j1 (f_ledger_Number : Nat) : PC :=
  (.seq (.block 1 (.seq (.reg [((some 14), (none, (.ixS 1 (.tmp 10) (.tmp 12)))),
       ((some 15), (none, (.ld false (.tmp 14)))),
       ((some 8), (none, (.mv (.tmp 15))))])
  (.seq (.drw [((some 16), (none, (.mv (.tmp 8)))),
       ((some 17), (none, (.mv (.tmp 2)))),
       ((some 18), (none, (.len (.tmp 17)))),
       ((some 19), (none, (.bi .lss (.tmp 16) (.tmp 18)))),
       ((some 20), (none, (.mv (.tmp 19)))),
       ((some 21), ((some (20, true)), (.mv (.tmp 0)))),
       ((some 22), ((some (20, true)), (.mv (.tmp 2)))),
       ((some 23), ((some (20, true)), (.mv (.tmp 8)))),
       ((some 24), ((some (20, true)), (.ixS 32 (.tmp 22) (.tmp 23)))),
       ((some 25), ((some (20, true)), (.ldA 32 (.tmp 24)))),
       ((some 26), ((some (20, true)), (.call f_ledger_Number [(.tmp 21), (.tmp 25)]))),
       ((some 27), ((some (20, true)), (.fa 4 (.tmp 4)))),
       ((some 28), ((some (20, true)), (.ld false (.tmp 27)))),
       ((some 29), ((some (20, true)), (.mv (.tmp 8)))),
       ((some 30), ((some (20, true)), (.bi .sub (.tmp 29) (.const (.int .i64 1))))),
       ((some 31), ((some (20, true)), (.ixS 10 (.tmp 28) (.tmp 30)))),
       ((some 32), ((some (20, true)), (.fa 1 (.tmp 31)))),
       ((some 33), ((some (20, true)), (.fa 5 (.tmp 32)))),
       ((some 34), ((some (20, true)), (.ld false (.tmp 33)))),
       ((some 35), ((some (20, true)), (.bi .geq (.tmp 26) (.tmp 34)))),
       ((some 36), (none, (.pick (.tmp 20) (.tmp 35) (.const (.bool false)))))])
  (.cond (.tmp 36)
       (.seq (.reg [((some 6), (none, (.mv (.const (.int .i64 24)))))])
  .ret)
       .skip))))
  (.reg [((some 37), (none, (.bi .add (.tmp 12) (.const (.int .i64 1))))),
      ((some 12), (none, (.mv (.tmp 37))))]))
def ledger_RoomC (f_verify_Limits : Nat) (f_ledger_Number : Nat) : PC :=
  (.seq (.reg [((some 4), (none, (.box 38 (.tmp 1)))),
    ((some 6), (none, (.mv (.const (.int .i64 0)))))])
  (.seq (.seq (.reg [((some 9), (none, (.ldA 38 (.tmp 4)))),
    ((some 10), (none, (.call f_verify_Limits [(.tmp 9)]))),
    ((some 11), (none, (.len (.tmp 10)))),
    ((some 12), (none, (.mv (.const (.int .i64 0)))))])
  (.block 0 (.loop (.seq (.reg [((some 13), (none, (.bi .lss (.tmp 12) (.tmp 11))))])
  (.seq (.cond (.tmp 13)
      .skip
      (.exit 0))
  (ledger_RoomC_j1 f_ledger_Number))))))
  (.seq (.reg [((some 6), (none, (.mv (.const (.int .i64 0)))))])
  .ret)))
/-- macaroon/macaroonref26.Room: 47 slots, results [(.t 6)] -/
def ref26_RoomC_j1 (f_ref26_Number : Nat) : PC :=
  (.seq (.block 1 (.seq (.drw [((some 17), (none, (.mv (.tmp 7)))),
       ((some 18), (none, (.mv (.tmp 8)))),
       ((some 19), (none, (.ixS 1 (.tmp 17) (.tmp 18)))),
       ((some 20), (none, (.ld false (.tmp 19)))),
       ((some 21), (none, (.mv (.tmp 2)))),
       ((some 22), (none, (.len (.tmp 21)))),
       ((some 23), (none, (.bi .lss (.tmp 20) (.tmp 22)))),
       ((some 24), (none, (.mv (.tmp 23)))),
       ((some 25), ((some (24, true)), (.mv (.tmp 0)))),
       ((some 26), ((some (24, true)), (.mv (.tmp 2)))),
       ((some 27), ((some (24, true)), (.mv (.tmp 7)))),
       ((some 28), ((some (24, true)), (.mv (.tmp 8)))),
       ((some 29), ((some (24, true)), (.ixS 1 (.tmp 27) (.tmp 28)))),
       ((some 30), ((some (24, true)), (.ld false (.tmp 29)))),
       ((some 31), ((some (24, true)), (.ixS 32 (.tmp 26) (.tmp 30)))),
       ((some 32), ((some (24, true)), (.ldA 32 (.tmp 31)))),
       ((some 33), ((some (24, true)), (.call f_ref26_Number [(.tmp 25), (.tmp 32)]))),
       ((some 34), ((some (24, true)), (.fa 4 (.tmp 4)))),
       ((some 35), ((some (24, true)), (.ld false (.tmp 34)))),
       ((some 36), ((some (24, true)), (.mv (.tmp 7)))),
       ((some 37), ((some (24, true)), (.mv (.tmp 8)))),
       ((some 38), ((some (24, true)), (.ixS 1 (.tmp 36) (.tmp 37)))),
       ((some 39), ((some (24, true)), (.ld false (.tmp 38)))),
       ((some 40), ((some (24, true)), (.bi .sub (.tmp 39) (.const (.int .i64 1))))),
       ((some 41), ((some (24, true)), (.ixS 10 (.tmp 35) (.tmp 40)))),
       ((some 42), ((some (24, true)), (.fa 1 (.tmp 41)))),
       ((some 43), ((some (24, true)), (.fa 5 (.tmp 42)))),
       ((some 44), ((some (24, true)), (.ld false (.tmp 43)))),
       ((some 45), ((some (24, true)), (.bi .geq (.tmp 33) (.tmp 44)))),
       ((some 46), (none, (.pick (.tmp 24) (.tmp 45) (.const (.bool false)))))])
  (.cond (.tmp 46)
       (.seq (.reg [((some 6), (none, (.mv (.const (.int .i64 24)))))])
  .ret)
       .skip)))
  (.reg [((some 15), (none, (.mv (.tmp 8)))),
      ((some 16), (none, (.bi .add (.tmp 15) (.const (.int .i64 1))))),
      ((some 8), (none, (.mv (.tmp 16))))]))
def ref26_RoomC (f_ref16_Limits : Nat) (f_ref26_Number : Nat) : PC :=
  (.seq (.reg [((some 4), (none, (.box 38 (.tmp 1)))),
    ((some 6), (none, (.mv (.const (.int .i64 0)))))])
  (.seq (.reg [((some 9), (none, (.ldA 38 (.tmp 4)))),
    ((some 10), (none, (.call f_ref16_Limits [(.tmp 9)]))),
    ((some 7), (none, (.steal 10)))])
  (.seq (.seq (.reg [((some 8), (none, (.mv (.const (.int .i64 0)))))])
  (.block 0 (.loop (.seq (.seq (.reg [((some 11), (none, (.mv (.tmp 8)))),
      ((some 12), (none, (.mv (.tmp 7)))),
      ((some 13), (none, (.len (.tmp 12)))),
      ((some 14), (none, (.bi .lss (.tmp 11) (.tmp 13))))])
  (.cond (.tmp 14)
      .skip
      (.exit 0)))
  (ref26_RoomC_j1 f_ref26_Number)))))
  (.seq (.reg [((some 6), (none, (.mv (.const (.int .i64 0)))))])
  .ret))))
/-- macaroon/ledger.index: 20 slots, results [(.t 4)] -/
def ledger_indexC_j1 : PC :=
  (.seq (.block 1 (.seq (.reg [((some 10), (none, (.mv (.tmp 8)))),
       ((some 5), (none, (.mv (.tmp 10))))])
  (.seq (.drw [((some 11), (none, (.mv (.tmp 0)))),
       ((some 12), (none, (.mv (.tmp 5)))),
       ((some 13), (none, (.ixS 33 (.tmp 11) (.tmp 12)))),
       ((some 14), (none, (.fa 0 (.tmp 13)))),
       ((some 15), (none, (.ldA 32 (.tmp 14)))),
       ((some 16), (none, (.ldA 32 (.tmp 3)))),
       ((some 17), (none, (.eqA false (List.replicate 32 (.int .u8)) (.tmp 15) (.tmp 16))))])
  (.cond (.tmp 17)
       (.seq (.reg [((some 18), (none, (.mv (.tmp 5)))),
         ((some 4), (none, (.mv (.tmp 18))))])
  .ret)
       .skip))))
  (.reg [((some 19), (none, (.bi .add (.tmp 8) (.const (.int .i64 1))))),
      ((some 8), (none, (.mv (.tmp 19))))]))
def ledger_indexC : PC :=
  (.seq (.reg [((some 3), (none, (.box 32 (.tmp 1)))),
    ((some 4), (none, (.mv (.const (.int .i64 0)))))])
  (.seq (.seq (.reg [((some 6), (none, (.mv (.tmp 0)))),
    ((some 7), (none, (.len (.tmp 6)))),
    ((some 8), (none, (.mv (.const (.int .i64 0)))))])
  (.block 0 (.loop (.seq (.reg [((some 9), (none, (.bi .lss (.tmp 8) (.tmp 7))))])
  (.seq (.cond (.tmp 9)
      .skip
      (.exit 0))
  ledger_indexC_j1)))))
  (.seq (.reg [((some 4), (none, (.mv (.const (.int .i64 (-1))))))])
  .ret)))
/-- (*macaroon/macaroonmade.Deck).Bytes: 22 slots, results [(.t 4)] -/
def made_Deck_BytesC_j1 (t_uint8 : Nat) (f_made_Deck_Next : Nat) : PC :=
  (.seq (.block 1 (.reg [((some 15), (none, (.steal 5))),
       ((some 16), (none, (.mv (.tmp 0)))),
       ((some 17), (none, (.call f_made_Deck_Next [(.tmp 16), (.const (.int .i64 256))]))),
       ((some 18), (none, (.cv .u8 (.tmp 17)))),
       ((some 19), (none, (.mks t_uint8 1 false [(.tmp 18)]))),
       ((some 20), (none, (.app t_uint8 1 1 15 (.tmp 19)))),
       ((some 5), (none, (.steal 20)))]))
  (.reg [((some 13), (none, (.mv (.tmp 6)))),
      ((some 14), (none, (.bi .sub (.tmp 13) (.const (.int .i64 1))))),
      ((some 6), (none, (.mv (.tmp 14))))]))
def made_Deck_BytesC (t_uint8 : Nat) (f_made_Deck_Next : Nat) : PC :=
  (.seq (.reg [((some 4), (none, (.cnil t_uint8)))])
  (.seq (.reg [((some 5), (none, (.cnil t_uint8)))])
  (.seq (.seq (.reg [((some 7), (none, (.mv (.tmp 0)))),
    ((some 8), (none, (.mv (.tmp 1)))),
    ((some 9), (none, (.bi .add (.tmp 8) (.const (.int .i64 1))))),
    ((some 10), (none, (.call f_made_Deck_Next [(.tmp 7), (.tmp 9)]))),
    ((some 6), (none, (.mv (.tmp 10))))])
  (.block 0 (.loop (.seq (.seq (.reg [((some 11), (none, (.mv (.tmp 6)))),
      ((some 12), (none, (.bi .gtr (.tmp 11) (.const (.int .i64 0)))))])
  (.cond (.tmp 12)
      .skip
      (.exit 0)))
  (made_Deck_BytesC_j1 t_uint8 f_made_Deck_Next)))))
  (.seq (.reg [((some 21), (none, (.steal 5))),
    ((some 4), (none, (.steal 21)))])
  .ret))))
/-- macaroon/verify.Limits: 30 slots, results [(.t 2)] -/
def verify_LimitsC_j1 (t_int : Nat) (t_uint8 : Nat) : PC :=
  (.seq (.block 1 (.seq (.reg [((some 11), (none, (.mv (.tmp 9)))),
       ((some 12), (none, (.ixS 10 (.tmp 7) (.tmp 9)))),
       ((some 13), (none, (.ldA 10 (.tmp 12)))),
       ((some 5), (none, (.alloc [(.bool false), (.int .i64 0), (.int .u64 0), (.int .i64 0), (.int .i64 0), (.string ⟨#[]⟩), (.int .i64 0), (.int .i64 0), (lin t_uint8 []), (lin t_uint8 [])]))),
       ((some 4), (none, (.mv (.tmp 11)))),
       (none, (none, (.st 10 (.tmp 5) (.tmp 13))))])
  (.seq (.reg [((some 14), (none, (.fa 0 (.tmp 5)))),
       ((some 15), (none, (.ld false (.tmp 14)))),
       ((some 16), (none, (.un .not (.tmp 15)))),
       ((some 17), (none, (.mv (.tmp 16)))),
       ((some 18), ((some (17, true)), (.fa 1 (.tmp 5)))),
       ((some 19), ((some (17, true)), (.fa 0 (.tmp 18)))),
       ((some 20), ((some (17, true)), (.ld false (.tmp 19)))),
       ((some 21), ((some (17, true)), (.bi .eql (.tmp 20) (.const (.int .i64 7))))),
       ((some 22), (none, (.pick (.tmp 17) (.tmp 21) (.const (.bool false)))))])
  (.cond (.tmp 22)
       (.reg [((some 23), (none, (.steal 3))),
         ((some 24), (none, (.mv (.tmp 4)))),
         ((some 25), (none, (.bi .add (.tmp 24) (.const (.int .i64 1))))),
         ((some 26), (none, (.mks t_int 1 false [(.tmp 25)]))),
         ((some 27), (none, (.app t_int 1 8 23 (.tmp 26)))),
         ((some 3), (none, (.steal 27)))])
       .skip))))
  (.reg [((some 28), (none, (.bi .add (.tmp 9) (.const (.int .i64 1))))),
      ((some 9), (none, (.mv (.tmp 28))))]))
def verify_LimitsC (t_int : Nat) (t_uint8 : Nat) : PC :=
  (.seq (.reg [((some 1), (none, (.box 38 (.tmp 0)))),
    ((some 2), (none, (.cnil t_int)))])
  (.seq (.reg [((some 3), (none, (.cnil t_int)))])
  (.seq (.seq (.reg [((some 6), (none, (.fa 4 (.tmp 1)))),
    ((some 7), (none, (.ld false (.tmp 6)))),
    ((some 8), (none, (.len (.tmp 7)))),
    ((some 9), (none, (.mv (.const (.int .i64 0)))))])
  (.block 0 (.loop (.seq (.reg [((some 10), (none, (.bi .lss (.tmp 9) (.tmp 8))))])
  (.seq (.cond (.tmp 10)
      .skip
      (.exit 0))
  (verify_LimitsC_j1 t_int t_uint8))))))
  (.seq (.reg [((some 29), (none, (.steal 3))),
    ((some 2), (none, (.steal 29)))])
  .ret))))
/-- macaroon/macaroonref16.Limits: 35 slots, results [(.t 2)] -/
def ref16_LimitsC_j1 (t_int : Nat) : PC :=
  (.seq (.block 1 (.seq (.reg [((some 12), (none, (.fa 4 (.tmp 1)))),
       ((some 13), (none, (.ld false (.tmp 12)))),
       ((some 14), (none, (.mv (.tmp 4)))),
       ((some 15), (none, (.ixS 10 (.tmp 13) (.tmp 14)))),
       ((some 16), (none, (.fa 0 (.tmp 15)))),
       ((some 17), (none, (.ld false (.tmp 16)))),
       ((some 18), (none, (.un .not (.tmp 17)))),
       ((some 19), (none, (.mv (.tmp 18)))),
       ((some 20), ((some (19, true)), (.fa 4 (.tmp 1)))),
       ((some 21), ((some (19, true)), (.ld false (.tmp 20)))),
       ((some 22), ((some (19, true)), (.mv (.tmp 4)))),
       ((some 23), ((some (19, true)), (.ixS 10 (.tmp 21) (.tmp 22)))),
       ((some 24), ((some (19, true)), (.fa 1 (.tmp 23)))),
       ((some 25), ((some (19, true)), (.fa 0 (.tmp 24)))),
       ((some 26), ((some (19, true)), (.ld false (.tmp 25)))),
       ((some 27), ((some (19, true)), (.bi .eql (.tmp 26) (.const (.int .i64 7))))),
       ((some 28), (none, (.pick (.tmp 19) (.tmp 27) (.const (.bool false)))))])
  (.cond (.tmp 28)
       (.reg [((some 29), (none, (.steal 3))),
         ((some 30), (none, (.mv (.tmp 4)))),
         ((some 31), (none, (.bi .add (.tmp 30) (.const (.int .i64 1))))),
         ((some 32), (none, (.mks t_int 1 false [(.tmp 31)]))),
         ((some 33), (none, (.app t_int 1 8 29 (.tmp 32)))),
         ((some 3), (none, (.steal 33)))])
       .skip)))
  (.reg [((some 10), (none, (.mv (.tmp 4)))),
      ((some 11), (none, (.bi .add (.tmp 10) (.const (.int .i64 1))))),
      ((some 4), (none, (.mv (.tmp 11))))]))
def ref16_LimitsC (t_int : Nat) : PC :=
  (.seq (.reg [((some 1), (none, (.box 38 (.tmp 0)))),
    ((some 2), (none, (.cnil t_int)))])
  (.seq (.reg [((some 3), (none, (.cnil t_int)))])
  (.seq (.seq (.reg [((some 4), (none, (.mv (.const (.int .i64 0)))))])
  (.block 0 (.loop (.seq (.seq (.reg [((some 5), (none, (.mv (.tmp 4)))),
      ((some 6), (none, (.fa 4 (.tmp 1)))),
      ((some 7), (none, (.ld false (.tmp 6)))),
      ((some 8), (none, (.len (.tmp 7)))),
      ((some 9), (none, (.bi .lss (.tmp 5) (.tmp 8))))])
  (.cond (.tmp 9)
      .skip
      (.exit 0)))
  (ref16_LimitsC_j1 t_int)))))
  (.seq (.reg [((some 34), (none, (.steal 3))),
    ((some 2), (none, (.steal 34)))])
  .ret))))
end Go.PE
namespace Go.PE
open Go
/-- macaroon/macaroonlaw28.LedgerSteps: 106 slots, results [(.t 8)] -/
def law28_LedgerStepsC_j1 (f_ledger_Add : Nat) (f_ref26_AddRides : Nat) (f_ref26_SameCounts : Nat) (f_ledger_Valid : Nat) (f_ref26_CountsOk : Nat) (f_ledger_Number : Nat) (f_ref26_Number : Nat) : PC :=
  (.seq (.block 3 (.seq (.reg [((some 64), (none, (.ixS 1 (.tmp 60) (.tmp 62)))),
          ((some 65), (none, (.ld true (.tmp 64)))),
          ((some 15), (none, (.steal 65)))])
  (.seq (.reg [((some 67), (none, (.mv (.tmp 13)))),
          ((some 68), (none, (.mv (.tmp 15)))),
          ((some 69), (none, (.call f_ledger_Add [(.tmp 67), (.tmp 68)]))),
          ((some 66), (none, (.steal 69))),
          ((some 70), (none, (.extr 66 0))),
          ((some 71), (none, (.extr 66 1))),
          ((some 16), (none, (.steal 70))),
          ((some 17), (none, (.mv (.tmp 71))))])
  (.seq (.reg [((some 73), (none, (.mv (.tmp 13)))),
          ((some 74), (none, (.mv (.tmp 15)))),
          ((some 75), (none, (.call f_ref26_AddRides [(.tmp 73), (.tmp 74)]))),
          ((some 72), (none, (.steal 75))),
          ((some 76), (none, (.extr 72 0))),
          ((some 77), (none, (.extr 72 1))),
          ((some 18), (none, (.steal 76))),
          ((some 19), (none, (.mv (.tmp 77))))])
  (.seq (.drw [((some 78), (none, (.mv (.tmp 16)))),
          ((some 79), (none, (.mv (.tmp 18)))),
          ((some 80), (none, (.call f_ref26_SameCounts [(.tmp 78), (.tmp 79)]))),
          ((some 81), (none, (.un .not (.tmp 80)))),
          ((some 82), (none, (.mv (.tmp 81)))),
          ((some 83), ((some (82, false)), (.mv (.tmp 17)))),
          ((some 84), ((some (82, false)), (.mv (.tmp 19)))),
          ((some 85), ((some (82, false)), (.bi .neq (.tmp 83) (.tmp 84)))),
          ((some 86), (none, (.pick (.tmp 82) (.const (.bool true)) (.tmp 85)))),
          ((some 87), (none, (.mv (.tmp 86)))),
          ((some 88), ((some (87, false)), (.mv (.tmp 13)))),
          ((some 89), ((some (87, false)), (.call f_ledger_Valid [(.tmp 88)]))),
          ((some 90), ((some (87, false)), (.mv (.tmp 13)))),
          ((some 91), ((some (87, false)), (.call f_ref26_CountsOk [(.tmp 90)]))),
          ((some 92), ((some (87, false)), (.bb true (.tmp 89) (.tmp 91)))),
          ((some 93), (none, (.pick (.tmp 87) (.const (.bool true)) (.tmp 92)))),
          ((some 94), (none, (.mv (.tmp 93)))),
          ((some 95), ((some (94, false)), (.mv (.tmp 13)))),
          ((some 96), ((some (94, false)), (.ldA 32 (.tmp 7)))),
          ((some 97), ((some (94, false)), (.call f_ledger_Number [(.tmp 95), (.tmp 96)]))),
          ((some 98), ((some (94, false)), (.mv (.tmp 13)))),
          ((some 99), ((some (94, false)), (.ldA 32 (.tmp 7)))),
          ((some 100), ((some (94, false)), (.call f_ref26_Number [(.tmp 98), (.tmp 99)]))),
          ((some 101), ((some (94, false)), (.bi .neq (.tmp 97) (.tmp 100)))),
          ((some 102), (none, (.pick (.tmp 94) (.const (.bool true)) (.tmp 101))))])
  (.cond (.tmp 102)
          (.seq (.reg [((some 8), (none, (.mv (.const (.bool false)))))])
  .ret)
          .skip))))))
  (.reg [((some 103), (none, (.bi .add (.tmp 62) (.const (.int .i64 1))))),
         ((some 62), (none, (.mv (.tmp 103))))]))
def law28_LedgerStepsC_j2 (t_api_Tag : Nat) (t_api_Tag_2 : Nat) (f_ledger_Add : Nat) (f_ref26_AddRides : Nat) (f_ref26_SameCounts : Nat) (f_ledger_Valid : Nat) (f_ref26_CountsOk : Nat) (f_ledger_Number : Nat) (f_ref26_Number : Nat) : PC :=
  (.seq (.block 1 (.seq (.reg [((some 54), (none, (.ixS 1 (.tmp 50) (.tmp 52)))),
       ((some 55), (none, (.ld true (.tmp 54)))),
       ((some 13), (none, (.steal 55)))])
  (.seq (.reg [((some 56), (none, (.mv (.tmp 11)))),
       ((some 57), (none, (.mv (.tmp 1)))),
       ((some 58), (none, (.ldA 32 (.tmp 7)))),
       ((some 59), (none, (.mks t_api_Tag 32 false [(.tmp 58)]))),
       ((some 60), (none, (.mks t_api_Tag_2 1 false [(.tmp 56), (.tmp 57), (.tmp 59)]))),
       ((some 61), (none, (.len (.tmp 60)))),
       ((some 62), (none, (.mv (.const (.int .i64 0)))))])
  (.block 2 (.loop (.seq (.reg [((some 63), (none, (.bi .lss (.tmp 62) (.tmp 61))))])
  (.seq (.cond (.tmp 63)
         .skip
         (.exit 2))
  (law28_LedgerStepsC_j1 f_ledger_Add f_ref26_AddRides f_ref26_SameCounts f_ledger_Valid f_ref26_CountsOk f_ledger_Number f_ref26_Number))))))))
  (.reg [((some 104), (none, (.bi .add (.tmp 52) (.const (.int .i64 1))))),
      ((some 52), (none, (.mv (.tmp 104))))]))
def law28_LedgerStepsC_j3 (f_law28_awake : Nat) (f_made_New : Nat) (f_law28_counts : Nat) (f_law28_tags : Nat) (t_api_Count : Nat) (f_made_Deck_Next : Nat) (t_api_Count_2 : Nat) (t_api_Tag : Nat) (t_api_Tag_2 : Nat) (f_ledger_Add : Nat) (f_ref26_AddRides : Nat) (f_ref26_SameCounts : Nat) (f_ledger_Valid : Nat) (f_ref26_CountsOk : Nat) (f_ledger_Number : Nat) (f_ref26_Number : Nat) : PC :=
  (.seq (.reg [((some 29), (none, (.mv (.tmp 2)))),
    ((some 30), (none, (.call f_made_New [(.tmp 29)]))),
    ((some 9), (none, (.mv (.tmp 30))))])
  (.seq (.reg [((some 31), (none, (.mv (.tmp 9)))),
    ((some 32), (none, (.call f_law28_counts [(.tmp 31)]))),
    ((some 33), (none, (.mv (.tmp 9)))),
    ((some 34), (none, (.call f_law28_tags [(.tmp 33), (.const (.int .i64 6))]))),
    ((some 10), (none, (.steal 32))),
    ((some 11), (none, (.steal 34)))])
  (.seq (.seq (.reg [((some 35), (none, (.mv (.tmp 10)))),
    ((some 36), (none, (.mv (.tmp 0)))),
    ((some 37), (none, (.mks t_api_Count 33 true []))),
    ((some 38), (none, (.mv (.tmp 10)))),
    ((some 39), (none, (.app t_api_Count 33 40 37 (.tmp 38)))),
    ((some 40), (none, (.mv (.tmp 9)))),
    ((some 41), (none, (.call f_made_Deck_Next [(.tmp 40), (.const (.int .i64 6))]))),
    ((some 42), (none, (.cv .u8 (.tmp 41)))),
    ((some 43), (none, (.build [(.inr ((.tmp 42), 1)), (.inl [(.int .u8 0)]), (.inl [(.int .u8 0)]), (.inl [(.int .u8 0)]), (.inl [(.int .u8 0)]), (.inl [(.int .u8 0)]), (.inl [(.int .u8 0)]), (.inl [(.int .u8 0)]), (.inl [(.int .u8 0)]), (.inl [(.int .u8 0)]), (.inl [(.int .u8 0)]), (.inl [(.int .u8 0)]), (.inl [(.int .u8 0)]), (.inl [(.int .u8 0)]), (.inl [(.int .u8 0)]), (.inl [(.int .u8 0)]), (.inl [(.int .u8 0)]), (.inl [(.int .u8 0)]), (.inl [(.int .u8 0)]), (.inl [(.int .u8 0)]), (.inl [(.int .u8 0)]), (.inl [(.int .u8 0)]), (.inl [(.int .u8 0)]), (.inl [(.int .u8 0)]), (.inl [(.int .u8 0)]), (.inl [(.int .u8 0)]), (.inl [(.int .u8 0)]), (.inl [(.int .u8 0)]), (.inl [(.int .u8 0)]), (.inl [(.int .u8 0)]), (.inl [(.int .u8 0)]), (.inl [(.int .u8 0)])]))),
    ((some 44), (none, (.mv (.tmp 9)))),
    ((some 45), (none, (.call f_made_Deck_Next [(.tmp 44), (.const (.int .i64 3))]))),
    ((some 46), (none, (.bi .sub (.tmp 45) (.const (.int .i64 1))))),
    ((some 47), (none, (.build [(.inr ((.tmp 43), 32)), (.inr ((.tmp 46), 1))]))),
    ((some 48), (none, (.mks t_api_Count 33 false [(.tmp 47)]))),
    ((some 49), (none, (.app t_api_Count 33 40 39 (.tmp 48)))),
    ((some 50), (none, (.mks t_api_Count_2 1 false [(.tmp 35), (.tmp 36), (.tmp 49)]))),
    ((some 51), (none, (.len (.tmp 50)))),
    ((some 52), (none, (.mv (.const (.int .i64 0)))))])
  (.block 0 (.loop (.seq (.reg [((some 53), (none, (.bi .lss (.tmp 52) (.tmp 51))))])
  (.seq (.cond (.tmp 53)
      .skip
      (.exit 0))
  (law28_LedgerStepsC_j2 t_api_Tag t_api_Tag_2 f_ledger_Add f_ref26_AddRides f_ref26_SameCounts f_ledger_Valid f_ref26_CountsOk f_ledger_Number f_ref26_Number))))))
  (.seq (.reg [((some 105), (none, (.call f_law28_awake []))),
    ((some 8), (none, (.mv (.tmp 105))))])
  .ret))))
def law28_LedgerStepsC (f_law28_awake : Nat) (f_made_New : Nat) (f_law28_counts : Nat) (f_law28_tags : Nat) (t_api_Count : Nat) (f_made_Deck_Next : Nat) (t_api_Count_2 : Nat) (t_api_Tag : Nat) (t_api_Tag_2 : Nat) (f_ledger_Add : Nat) (f_ref26_AddRides : Nat) (f_ref26_SameCounts : Nat) (f_ledger_Valid : Nat) (f_ref26_CountsOk : Nat) (f_ledger_Number : Nat) (f_ref26_Number : Nat) : PC :=
  (.seq (.reg [((some 7), (none, (.box 32 (.tmp 3)))),
    ((some 8), (none, (.mv (.const (.bool false)))))])
  (.seq (.seq (.reg [((some 20), (none, (.mv (.tmp 0)))),
    ((some 21), (none, (.len (.tmp 20)))),
    ((some 22), (none, (.bi .gtr (.tmp 21) (.const (.int .i64 60))))),
    ((some 23), (none, (.mv (.tmp 22)))),
    ((some 24), ((some (23, false)), (.mv (.tmp 1)))),
    ((some 25), ((some (23, false)), (.len (.tmp 24)))),
    ((some 26), ((some (23, false)), (.bi .gtr (.tmp 25) (.const (.int .i64 60))))),
    ((some 27), (none, (.pick (.tmp 23) (.const (.bool true)) (.tmp 26))))])
  (.cond (.tmp 27)
    (.seq (.reg [((some 28), (none, (.call f_law28_awake []))),
      ((some 8), (none, (.mv (.tmp 28))))])
  .ret)
    .skip))
  (law28_LedgerStepsC_j3 f_law28_awake f_made_New f_law28_counts f_law28_tags t_api_Count f_made_Deck_Next t_api_Count_2 t_api_Tag t_api_Tag_2 f_ledger_Add f_ref26_AddRides f_ref26_SameCounts f_ledger_Valid f_ref26_CountsOk f_ledger_Number f_ref26_Number)))
/-- macaroon/macaroonlaw28.LedgerAdds: 70 slots, results [(.t 4)] -/
def law28_LedgerAddsC_j1 : PC :=
  (.seq (.block 1 (.seq (.drw [((some 46), (none, (.mv (.tmp 7)))),
       ((some 47), (none, (.mv (.tmp 12)))),
       ((some 48), (none, (.ixS 32 (.tmp 46) (.tmp 47)))),
       ((some 49), (none, (.ldA 32 (.tmp 48)))),
       ((some 50), (none, (.ldA 32 (.tmp 10)))),
       ((some 51), (none, (.eqA false (List.replicate 32 (.int .u8)) (.tmp 49) (.tmp 50))))])
  (.cond (.tmp 51)
       (.reg [((some 52), (none, (.mv (.tmp 11)))),
         ((some 53), (none, (.bi .add (.tmp 52) (.const (.int .i64 1))))),
         ((some 11), (none, (.mv (.tmp 53))))])
       .skip)))
  (.reg [((some 44), (none, (.mv (.tmp 12)))),
      ((some 45), (none, (.bi .add (.tmp 44) (.const (.int .i64 1))))),
      ((some 12), (none, (.mv (.tmp 45))))]))
def law28_LedgerAddsC_j2 (f_law28_awake : Nat) (f_ledger_Number : Nat) (f_ledger_Valid : Nat) : PC :=
  (.seq (.drw [((some 54), (none, (.mv (.tmp 8)))),
    ((some 55), (none, (.ldA 32 (.tmp 10)))),
    ((some 56), (none, (.call f_ledger_Number [(.tmp 54), (.tmp 55)]))),
    ((some 57), (none, (.mv (.tmp 6)))),
    ((some 58), (none, (.ldA 32 (.tmp 10)))),
    ((some 59), (none, (.call f_ledger_Number [(.tmp 57), (.tmp 58)]))),
    ((some 60), (none, (.mv (.tmp 11)))),
    ((some 61), (none, (.bi .add (.tmp 59) (.tmp 60)))),
    ((some 62), (none, (.bi .eql (.tmp 56) (.tmp 61)))),
    ((some 63), (none, (.mv (.tmp 62)))),
    ((some 64), ((some (63, true)), (.mv (.tmp 8)))),
    ((some 65), ((some (63, true)), (.call f_ledger_Valid [(.tmp 64)]))),
    ((some 66), (none, (.pick (.tmp 63) (.tmp 65) (.const (.bool false))))),
    ((some 67), (none, (.mv (.tmp 66)))),
    ((some 68), ((some (67, true)), (.call f_law28_awake []))),
    ((some 69), (none, (.pick (.tmp 67) (.tmp 68) (.const (.bool false))))),
    ((some 4), (none, (.mv (.tmp 69))))])
  .ret)
def law28_LedgerAddsC_j3 (f_law28_awake : Nat) (f_ledger_Number : Nat) (f_ledger_Valid : Nat) : PC :=
  (.seq (.reg [((some 37), (none, (.mv (.tmp 1)))),
    ((some 38), (none, (.bi .rem (.tmp 37) (.const (.int .u8 6))))),
    ((some 39), (none, (.build [(.inr ((.tmp 38), 1)), (.inl [(.int .u8 0)]), (.inl [(.int .u8 0)]), (.inl [(.int .u8 0)]), (.inl [(.int .u8 0)]), (.inl [(.int .u8 0)]), (.inl [(.int .u8 0)]), (.inl [(.int .u8 0)]), (.inl [(.int .u8 0)]), (.inl [(.int .u8 0)]), (.inl [(.int .u8 0)]), (.inl [(.int .u8 0)]), (.inl [(.int .u8 0)]), (.inl [(.int .u8 0)]), (.inl [(.int .u8 0)]), (.inl [(.int .u8 0)]), (.inl [(.int .u8 0)]), (.inl [(.int .u8 0)]), (.inl [(.int .u8 0)]), (.inl [(.int .u8 0)]), (.inl [(.int .u8 0)]), (.inl [(.int .u8 0)]), (.inl [(.int .u8 0)]), (.inl [(.int .u8 0)]), (.inl [(.int .u8 0)]), (.inl [(.int .u8 0)]), (.inl [(.int .u8 0)]), (.inl [(.int .u8 0)]), (.inl [(.int .u8 0)]), (.inl [(.int .u8 0)]), (.inl [(.int .u8 0)]), (.inl [(.int .u8 0)])]))),
    ((some 10), (none, (.alloc (List.replicate 32 (.int .u8 0))))),
    (none, (none, (.st 32 (.tmp 10) (.tmp 39))))])
  (.seq (.reg [((some 11), (none, (.mv (.const (.int .i64 0)))))])
  (.seq (.seq (.reg [((some 12), (none, (.mv (.const (.int .i64 0)))))])
  (.block 0 (.loop (.seq (.seq (.reg [((some 40), (none, (.mv (.tmp 12)))),
      ((some 41), (none, (.mv (.tmp 7)))),
      ((some 42), (none, (.len (.tmp 41)))),
      ((some 43), (none, (.bi .lss (.tmp 40) (.tmp 42))))])
  (.cond (.tmp 43)
      .skip
      (.exit 0)))
  law28_LedgerAddsC_j1))))
  (law28_LedgerAddsC_j2 f_law28_awake f_ledger_Number f_ledger_Valid))))
def law28_LedgerAddsC (f_made_New : Nat) (f_law28_counts : Nat) (f_law28_tags : Nat) (f_ledger_Add : Nat) (f_law28_awake : Nat) (f_ledger_Number : Nat) (f_ledger_Valid : Nat) : PC :=
  (.seq (.reg [((some 4), (none, (.mv (.const (.bool false)))))])
  (.seq (.reg [((some 13), (none, (.mv (.tmp 0)))),
    ((some 14), (none, (.call f_made_New [(.tmp 13)]))),
    ((some 5), (none, (.mv (.tmp 14))))])
  (.seq (.reg [((some 15), (none, (.mv (.tmp 5)))),
    ((some 16), (none, (.call f_law28_counts [(.tmp 15)]))),
    ((some 17), (none, (.mv (.tmp 5)))),
    ((some 18), (none, (.call f_law28_tags [(.tmp 17), (.const (.int .i64 6))]))),
    ((some 6), (none, (.steal 16))),
    ((some 7), (none, (.steal 18)))])
  (.seq (.reg [((some 20), (none, (.mv (.tmp 6)))),
    ((some 21), (none, (.mv (.tmp 7)))),
    ((some 22), (none, (.call f_ledger_Add [(.tmp 20), (.tmp 21)]))),
    ((some 19), (none, (.steal 22))),
    ((some 23), (none, (.extr 19 0))),
    ((some 24), (none, (.extr 19 1))),
    ((some 8), (none, (.steal 23))),
    ((some 9), (none, (.mv (.tmp 24))))])
  (.seq (.seq (.reg [((some 25), (none, (.mv (.tmp 9)))),
    ((some 26), (none, (.bi .neq (.tmp 25) (.const (.int .i64 0)))))])
  (.cond (.tmp 26)
    (.seq (.reg [((some 27), (none, (.mv (.tmp 9)))),
      ((some 28), (none, (.bi .eql (.tmp 27) (.const (.int .i64 1))))),
      ((some 29), (none, (.mv (.tmp 28)))),
      ((some 30), ((some (29, true)), (.mv (.tmp 8)))),
      ((some 31), ((some (29, true)), (.len (.tmp 30)))),
      ((some 32), ((some (29, true)), (.bi .eql (.tmp 31) (.const (.int .i64 0))))),
      ((some 33), (none, (.pick (.tmp 29) (.tmp 32) (.const (.bool false))))),
      ((some 34), (none, (.mv (.tmp 33)))),
      ((some 35), ((some (34, true)), (.call f_law28_awake []))),
      ((some 36), (none, (.pick (.tmp 34) (.tmp 35) (.const (.bool false))))),
      ((some 4), (none, (.mv (.tmp 36))))])
  .ret)
    .skip))
  (law28_LedgerAddsC_j3 f_law28_awake f_ledger_Number f_ledger_Valid))))))
/-- macaroon/macaroonlaw28.LedgerRoom: 124 slots, results [(.t 8)] -/
def law28_LedgerRoomC_j1 (t_api_Caveat : Nat) (t_api_Tag : Nat) (f_made_Deck_Next : Nat) : PC :=
  (.reg [((some 55), (none, (.fa 4 (.tmp 11)))),
       ((some 56), (none, (.ld true (.tmp 55)))),
       ((some 57), (none, (.ldA 10 (.tmp 14)))),
       ((some 58), (none, (.mks t_api_Caveat 10 false [(.tmp 57)]))),
       ((some 59), (none, (.app t_api_Caveat 10 120 56 (.tmp 58)))),
       ((some 60), (none, (.steal 12))),
       ((some 61), (none, (.mv (.tmp 9)))),
       ((some 62), (none, (.call f_made_Deck_Next [(.tmp 61), (.const (.int .i64 6))]))),
       ((some 63), (none, (.cv .u8 (.tmp 62)))),
       ((some 64), (none, (.build [(.inr ((.tmp 63), 1)), (.inl [(.int .u8 0)]), (.inl [(.int .u8 0)]), (.inl [(.int .u8 0)]), (.inl [(.int .u8 0)]), (.inl [(.int .u8 0)]), (.inl [(.int .u8 0)]), (.inl [(.int .u8 0)]), (.inl [(.int .u8 0)]), (.inl [(.int .u8 0)]), (.inl [(.int .u8 0)]), (.inl [(.int .u8 0)]), (.inl [(.int .u8 0)]), (.inl [(.int .u8 0)]), (.inl [(.int .u8 0)]), (.inl [(.int .u8 0)]), (.inl [(.int .u8 0)]), (.inl [(.int .u8 0)]), (.inl [(.int .u8 0)]), (.inl [(.int .u8 0)]), (.inl [(.int .u8 0)]), (.inl [(.int .u8 0)]), (.inl [(.int .u8 0)]), (.inl [(.int .u8 0)]), (.inl [(.int .u8 0)]), (.inl [(.int .u8 0)]), (.inl [(.int .u8 0)]), (.inl [(.int .u8 0)]), (.inl [(.int .u8 0)]), (.inl [(.int .u8 0)]), (.inl [(.int .u8 0)]), (.inl [(.int .u8 0)])]))),
       ((some 65), (none, (.mks t_api_Tag 32 false [(.tmp 64)]))),
       ((some 66), (none, (.app t_api_Tag 32 32 60 (.tmp 65)))),
       ((some 67), (none, (.fa 4 (.tmp 11)))),
       (none, (none, (.sts (.tmp 67) 59))),
       ((some 12), (none, (.steal 66)))])
def law28_LedgerRoomC_j2 (t_api_Caveat : Nat) (t_api_Tag : Nat) (f_made_Deck_Next : Nat) (f_made_Deck_Caveat : Nat) (t_uint8 : Nat) : PC :=
  (.seq (.block 1 (.seq (.reg [((some 46), (none, (.mv (.tmp 9)))),
       ((some 47), (none, (.call f_made_Deck_Caveat [(.tmp 46)]))),
       ((some 14), (none, (.alloc [(.bool false), (.int .i64 0), (.int .u64 0), (.int .i64 0), (.int .i64 0), (.string ⟨#[]⟩), (.int .i64 0), (.int .i64 0), (lin t_uint8 []), (lin t_uint8 [])]))),
       (none, (none, (.st 10 (.tmp 14) (.tmp 47))))])
  (.seq (.seq (.reg [((some 48), (none, (.mv (.tmp 9)))),
       ((some 49), (none, (.call f_made_Deck_Next [(.tmp 48), (.const (.int .i64 2))]))),
       ((some 50), (none, (.bi .eql (.tmp 49) (.const (.int .i64 0)))))])
  (.cond (.tmp 50)
       (.reg [((some 51), (none, (.mv (.tmp 9)))),
         ((some 52), (none, (.call f_made_Deck_Next [(.tmp 51), (.const (.int .i64 4))]))),
         ((some 53), (none, (.build [(.inr ((.const (.int .i64 7)), 1)), (.inl [(.int .u64 0)]), (.inl [(.int .i64 0)]), (.inl [(.int .i64 0)]), (.inl [(.string ⟨#[]⟩)]), (.inr ((.tmp 52), 1))]))),
         ((some 54), (none, (.build [(.inl [(.bool false)]), (.inr ((.tmp 53), 6)), (.inl [(.int .i64 0)]), (.inl [(deep [])]), (.inl [(deep [])])]))),
         (none, (none, (.st 10 (.tmp 14) (.tmp 54))))])
       .skip))
  (law28_LedgerRoomC_j1 t_api_Caveat t_api_Tag f_made_Deck_Next))))
  (.reg [((some 44), (none, (.mv (.tmp 13)))),
      ((some 45), (none, (.bi .sub (.tmp 44) (.const (.int .i64 1))))),
      ((some 13), (none, (.mv (.tmp 45))))]))
def law28_LedgerRoomC_j3 (f_ledger_Limited : Nat) (f_ref26_Limited : Nat) (f_ref01_SameTags : Nat) (f_ledger_Room : Nat) (f_ref26_Room : Nat) : PC :=
  (.seq (.block 5 (.seq (.reg [((some 89), (none, (.ixS 1 (.tmp 85) (.tmp 87)))),
          ((some 90), (none, (.ld true (.tmp 89)))),
          ((some 18), (none, (.steal 90)))])
  (.seq (.ord (.one ((some 92), (none, (.mv (.tmp 18))))
          (.one ((some 95), (none, (.mv (.tmp 18))))
          (.alt (.one ((some 91), (none, (.ldA 38 (.tmp 16))))
           (.alt (.one ((some 93), (none, (.call f_ledger_Limited [(.tmp 91), (.tmp 92)])))
            (.one ((some 94), (none, (.ldA 38 (.tmp 16))))
            (.one ((some 96), (none, (.call f_ref26_Limited [(.tmp 94), (.tmp 95)])))
            (.one ((some 97), (none, (.call f_ref01_SameTags [(.tmp 93), (.tmp 96)])))
            (.one ((some 98), (none, (.un .not (.tmp 97))))
            (.one ((some 99), (none, (.mv (.tmp 98))))
            (.one ((some 100), ((some (99, false)), (.mv (.tmp 10))))
            (.one ((some 102), ((some (99, false)), (.mv (.tmp 18))))
            (.one ((some 104), ((some (99, false)), (.mv (.tmp 10))))
            (.one ((some 106), ((some (99, false)), (.mv (.tmp 18))))
            (.alt (.one ((some 101), ((some (99, false)), (.ldA 38 (.tmp 16))))
             (.alt (.one ((some 103), ((some (99, false)), (.call f_ledger_Room [(.tmp 100), (.tmp 101), (.tmp 102)])))
              (.one ((some 105), ((some (99, false)), (.ldA 38 (.tmp 16))))
              (.one ((some 107), ((some (99, false)), (.call f_ref26_Room [(.tmp 104), (.tmp 105), (.tmp 106)])))
              (.one ((some 108), ((some (99, false)), (.bi .neq (.tmp 103) (.tmp 107))))
              (.one ((some 109), (none, (.pick (.tmp 99) (.const (.bool true)) (.tmp 108))))
              (.one ((some 110), (none, (.mv (.tmp 109))))
              (.one ((some 111), ((some (110, false)), (.mv (.tmp 3))))
              (.one ((some 113), ((some (110, false)), (.mv (.tmp 18))))
              (.one ((some 115), ((some (110, false)), (.mv (.tmp 3))))
              (.one ((some 117), ((some (110, false)), (.mv (.tmp 18))))
              (.alt (.one ((some 112), ((some (110, false)), (.ldA 38 (.tmp 16))))
               (.alt (.one ((some 114), ((some (110, false)), (.call f_ledger_Room [(.tmp 111), (.tmp 112), (.tmp 113)])))
                (.one ((some 116), ((some (110, false)), (.ldA 38 (.tmp 16))))
                (.one ((some 118), ((some (110, false)), (.call f_ref26_Room [(.tmp 115), (.tmp 116), (.tmp 117)])))
                (.one ((some 119), ((some (110, false)), (.bi .neq (.tmp 114) (.tmp 118))))
                (.one ((some 120), (none, (.pick (.tmp 110) (.const (.bool true)) (.tmp 119))))
                .done)))))
               (.one ((some 116), ((some (110, false)), (.ldA 38 (.tmp 16))))
                (.one ((some 114), ((some (110, false)), (.call f_ledger_Room [(.tmp 111), (.tmp 112), (.tmp 113)])))
                (.one ((some 118), ((some (110, false)), (.call f_ref26_Room [(.tmp 115), (.tmp 116), (.tmp 117)])))
                (.one ((some 119), ((some (110, false)), (.bi .neq (.tmp 114) (.tmp 118))))
                (.one ((some 120), (none, (.pick (.tmp 110) (.const (.bool true)) (.tmp 119))))
                .done)))))))
              (.one ((some 116), ((some (110, false)), (.ldA 38 (.tmp 16))))
               (.one ((some 112), ((some (110, false)), (.ldA 38 (.tmp 16))))
               (.one ((some 114), ((some (110, false)), (.call f_ledger_Room [(.tmp 111), (.tmp 112), (.tmp 113)])))
               (.one ((some 118), ((some (110, false)), (.call f_ref26_Room [(.tmp 115), (.tmp 116), (.tmp 117)])))
               (.one ((some 119), ((some (110, false)), (.bi .neq (.tmp 114) (.tmp 118))))
               (.one ((some 120), (none, (.pick (.tmp 110) (.const (.bool true)) (.tmp 119))))
               .done)))))))))))))))))
             (.one ((some 105), ((some (99, false)), (.ldA 38 (.tmp 16))))
              (.one ((some 103), ((some (99, false)), (.call f_ledger_Room [(.tmp 100), (.tmp 101), (.tmp 102)])))
              (.one ((some 107), ((some (99, false)), (.call f_ref26_Room [(.tmp 104), (.tmp 105), (.tmp 106)])))
              (.one ((some 108), ((some (99, false)), (.bi .neq (.tmp 103) (.tmp 107))))
              (.one ((some 109), (none, (.pick (.tmp 99) (.const (.bool true)) (.tmp 108))))
              (.one ((some 110), (none, (.mv (.tmp 109))))
              (.one ((some 111), ((some (110, false)), (.mv (.tmp 3))))
              (.one ((some 113), ((some (110, false)), (.mv (.tmp 18))))
              (.one ((some 115), ((some (110, false)), (.mv (.tmp 3))))
              (.one ((some 117), ((some (110, false)), (.mv (.tmp 18))))
              (.alt (.one ((some 112), ((some (110, false)), (.ldA 38 (.tmp 16))))
               (.alt (.one ((some 114), ((some (110, false)), (.call f_ledger_Room [(.tmp 111), (.tmp 112), (.tmp 113)])))
                (.one ((some 116), ((some (110, false)), (.ldA 38 (.tmp 16))))
                (.one ((some 118), ((some (110, false)), (.call f_ref26_Room [(.tmp 115), (.tmp 116), (.tmp 117)])))
                (.one ((some 119), ((some (110, false)), (.bi .neq (.tmp 114) (.tmp 118))))
                (.one ((some 120), (none, (.pick (.tmp 110) (.const (.bool true)) (.tmp 119))))
                .done)))))
               (.one ((some 116), ((some (110, false)), (.ldA 38 (.tmp 16))))
                (.one ((some 114), ((some (110, false)), (.call f_ledger_Room [(.tmp 111), (.tmp 112), (.tmp 113)])))
                (.one ((some 118), ((some (110, false)), (.call f_ref26_Room [(.tmp 115), (.tmp 116), (.tmp 117)])))
                (.one ((some 119), ((some (110, false)), (.bi .neq (.tmp 114) (.tmp 118))))
                (.one ((some 120), (none, (.pick (.tmp 110) (.const (.bool true)) (.tmp 119))))
                .done)))))))
              (.one ((some 116), ((some (110, false)), (.ldA 38 (.tmp 16))))
               (.one ((some 112), ((some (110, false)), (.ldA 38 (.tmp 16))))
               (.one ((some 114), ((some (110, false)), (.call f_ledger_Room [(.tmp 111), (.tmp 112), (.tmp 113)])))
               (.one ((some 118), ((some (110, false)), (.call f_ref26_Room [(.tmp 115), (.tmp 116), (.tmp 117)])))
               (.one ((some 119), ((some (110, false)), (.bi .neq (.tmp 114) (.tmp 118))))
               (.one ((some 120), (none, (.pick (.tmp 110) (.const (.bool true)) (.tmp 119))))
               .done)))))))))))))))))))
            (.one ((some 105), ((some (99, false)), (.ldA 38 (.tmp 16))))
             (.one ((some 101), ((some (99, false)), (.ldA 38 (.tmp 16))))
             (.one ((some 103), ((some (99, false)), (.call f_ledger_Room [(.tmp 100), (.tmp 101), (.tmp 102)])))
             (.one ((some 107), ((some (99, false)), (.call f_ref26_Room [(.tmp 104), (.tmp 105), (.tmp 106)])))
             (.one ((some 108), ((some (99, false)), (.bi .neq (.tmp 103) (.tmp 107))))
             (.one ((some 109), (none, (.pick (.tmp 99) (.const (.bool true)) (.tmp 108))))
             (.one ((some 110), (none, (.mv (.tmp 109))))
             (.one ((some 111), ((some (110, false)), (.mv (.tmp 3))))
             (.one ((some 113), ((some (110, false)), (.mv (.tmp 18))))
             (.one ((some 115), ((some (110, false)), (.mv (.tmp 3))))
             (.one ((some 117), ((some (110, false)), (.mv (.tmp 18))))
             (.alt (.one ((some 112), ((some (110, false)), (.ldA 38 (.tmp 16))))
              (.alt (.one ((some 114), ((some (110, false)), (.call f_ledger_Room [(.tmp 111), (.tmp 112), (.tmp 113)])))
               (.one ((some 116), ((some (110, false)), (.ldA 38 (.tmp 16))))
               (.one ((some 118), ((some (110, false)), (.call f_ref26_Room [(.tmp 115), (.tmp 116), (.tmp 117)])))
               (.one ((some 119), ((some (110, false)), (.bi .neq (.tmp 114) (.tmp 118))))
               (.one ((some 120), (none, (.pick (.tmp 110) (.const (.bool true)) (.tmp 119))))
               .done)))))
              (.one ((some 116), ((some (110, false)), (.ldA 38 (.tmp 16))))
               (.one ((some 114), ((some (110, false)), (.call f_ledger_Room [(.tmp 111), (.tmp 112), (.tmp 113)])))
               (.one ((some 118), ((some (110, false)), (.call f_ref26_Room [(.tmp 115), (.tmp 116), (.tmp 117)])))
               (.one ((some 119), ((some (110, false)), (.bi .neq (.tmp 114) (.tmp 118))))
               (.one ((some 120), (none, (.pick (.tmp 110) (.const (.bool true)) (.tmp 119))))
               .done)))))))
             (.one ((some 116), ((some (110, false)), (.ldA 38 (.tmp 16))))
              (.one ((some 112), ((some (110, false)), (.ldA 38 (.tmp 16))))
              (.one ((some 114), ((some (110, false)), (.call f_ledger_Room [(.tmp 111), (.tmp 112), (.tmp 113)])))
              (.one ((some 118), ((some (110, false)), (.call f_ref26_Room [(.tmp 115), (.tmp 116), (.tmp 117)])))
              (.one ((some 119), ((some (110, false)), (.bi .neq (.tmp 114) (.tmp 118))))
              (.one ((some 120), (none, (.pick (.tmp 110) (.const (.bool true)) (.tmp 119))))
              .done)))))))))))))))))))))))))))))
           (.one ((some 94), (none, (.ldA 38 (.tmp 16))))
            (.one ((some 93), (none, (.call f_ledger_Limited [(.tmp 91), (.tmp 92)])))
            (.one ((some 96), (none, (.call f_ref26_Limited [(.tmp 94), (.tmp 95)])))
            (.one ((some 97), (none, (.call f_ref01_SameTags [(.tmp 93), (.tmp 96)])))
            (.one ((some 98), (none, (.un .not (.tmp 97))))
            (.one ((some 99), (none, (.mv (.tmp 98))))
            (.one ((some 100), ((some (99, false)), (.mv (.tmp 10))))
            (.one ((some 102), ((some (99, false)), (.mv (.tmp 18))))
            (.one ((some 104), ((some (99, false)), (.mv (.tmp 10))))
            (.one ((some 106), ((some (99, false)), (.mv (.tmp 18))))
            (.alt (.one ((some 101), ((some (99, false)), (.ldA 38 (.tmp 16))))
             (.alt (.one ((some 103), ((some (99, false)), (.call f_ledger_Room [(.tmp 100), (.tmp 101), (.tmp 102)])))
              (.one ((some 105), ((some (99, false)), (.ldA 38 (.tmp 16))))
              (.one ((some 107), ((some (99, false)), (.call f_ref26_Room [(.tmp 104), (.tmp 105), (.tmp 106)])))
              (.one ((some 108), ((some (99, false)), (.bi .neq (.tmp 103) (.tmp 107))))
              (.one ((some 109), (none, (.pick (.tmp 99) (.const (.bool true)) (.tmp 108))))
              (.one ((some 110), (none, (.mv (.tmp 109))))
              (.one ((some 111), ((some (110, false)), (.mv (.tmp 3))))
              (.one ((some 113), ((some (110, false)), (.mv (.tmp 18))))
              (.one ((some 115), ((some (110, false)), (.mv (.tmp 3))))
              (.one ((some 117), ((some (110, false)), (.mv (.tmp 18))))
              (.alt (.one ((some 112), ((some (110, false)), (.ldA 38 (.tmp 16))))
               (.alt (.one ((some 114), ((some (110, false)), (.call f_ledger_Room [(.tmp 111), (.tmp 112), (.tmp 113)])))
                (.one ((some 116), ((some (110, false)), (.ldA 38 (.tmp 16))))
                (.one ((some 118), ((some (110, false)), (.call f_ref26_Room [(.tmp 115), (.tmp 116), (.tmp 117)])))
                (.one ((some 119), ((some (110, false)), (.bi .neq (.tmp 114) (.tmp 118))))
                (.one ((some 120), (none, (.pick (.tmp 110) (.const (.bool true)) (.tmp 119))))
                .done)))))
               (.one ((some 116), ((some (110, false)), (.ldA 38 (.tmp 16))))
                (.one ((some 114), ((some (110, false)), (.call f_ledger_Room [(.tmp 111), (.tmp 112), (.tmp 113)])))
                (.one ((some 118), ((some (110, false)), (.call f_ref26_Room [(.tmp 115), (.tmp 116), (.tmp 117)])))
                (.one ((some 119), ((some (110, false)), (.bi .neq (.tmp 114) (.tmp 118))))
                (.one ((some 120), (none, (.pick (.tmp 110) (.const (.bool true)) (.tmp 119))))
                .done)))))))
              (.one ((some 116), ((some (110, false)), (.ldA 38 (.tmp 16))))
               (.one ((some 112), ((some (110, false)), (.ldA 38 (.tmp 16))))
               (.one ((some 114), ((some (110, false)), (.call f_ledger_Room [(.tmp 111), (.tmp 112), (.tmp 113)])))
               (.one ((some 118), ((some (110, false)), (.call f_ref26_Room [(.tmp 115), (.tmp 116), (.tmp 117)])))
               (.one ((some 119), ((some (110, false)), (.bi .neq (.tmp 114) (.tmp 118))))
               (.one ((some 120), (none, (.pick (.tmp 110) (.const (.bool true)) (.tmp 119))))
               .done)))))))))))))))))
             (.one ((some 105), ((some (99, false)), (.ldA 38 (.tmp 16))))
              (.one ((some 103), ((some (99, false)), (.call f_ledger_Room [(.tmp 100), (.tmp 101), (.tmp 102)])))
              (.one ((some 107), ((some (99, false)), (.call f_ref26_Room [(.tmp 104), (.tmp 105), (.tmp 106)])))
              (.one ((some 108), ((some (99, false)), (.bi .neq (.tmp 103) (.tmp 107))))
              (.one ((some 109), (none, (.pick (.tmp 99) (.const (.bool true)) (.tmp 108))))
              (.one ((some 110), (none, (.mv (.tmp 109))))
              (.one ((some 111), ((some (110, false)), (.mv (.tmp 3))))
              (.one ((some 113), ((some (110, false)), (.mv (.tmp 18))))
              (.one ((some 115), ((some (110, false)), (.mv (.tmp 3))))
              (.one ((some 117), ((some (110, false)), (.mv (.tmp 18))))
              (.alt (.one ((some 112), ((some (110, false)), (.ldA 38 (.tmp 16))))
               (.alt (.one ((some 114), ((some (110, false)), (.call f_ledger_Room [(.tmp 111), (.tmp 112), (.tmp 113)])))
                (.one ((some 116), ((some (110, false)), (.ldA 38 (.tmp 16))))
                (.one ((some 118), ((some (110, false)), (.call f_ref26_Room [(.tmp 115), (.tmp 116), (.tmp 117)])))
                (.one ((some 119), ((some (110, false)), (.bi .neq (.tmp 114) (.tmp 118))))
                (.one ((some 120), (none, (.pick (.tmp 110) (.const (.bool true)) (.tmp 119))))
                .done)))))
               (.one ((some 116), ((some (110, false)), (.ldA 38 (.tmp 16))))
                (.one ((some 114), ((some (110, false)), (.call f_ledger_Room [(.tmp 111), (.tmp 112), (.tmp 113)])))
                (.one ((some 118), ((some (110, false)), (.call f_ref26_Room [(.tmp 115), (.tmp 116), (.tmp 117)])))
                (.one ((some 119), ((some (110, false)), (.bi .neq (.tmp 114) (.tmp 118))))
                (.one ((some 120), (none, (.pick (.tmp 110) (.const (.bool true)) (.tmp 119))))
                .done)))))))
              (.one ((some 116), ((some (110, false)), (.ldA 38 (.tmp 16))))
               (.one ((some 112), ((some (110, false)), (.ldA 38 (.tmp 16))))
               (.one ((some 114), ((some (110, false)), (.call f_ledger_Room [(.tmp 111), (.tmp 112), (.tmp 113)])))
               (.one ((some 118), ((some (110, false)), (.call f_ref26_Room [(.tmp 115), (.tmp 116), (.tmp 117)])))
               (.one ((some 119), ((some (110, false)), (.bi .neq (.tmp 114) (.tmp 118))))
               (.one ((some 120), (none, (.pick (.tmp 110) (.const (.bool true)) (.tmp 119))))
               .done)))))))))))))))))))
            (.one ((some 105), ((some (99, false)), (.ldA 38 (.tmp 16))))
             (.one ((some 101), ((some (99, false)), (.ldA 38 (.tmp 16))))
             (.one ((some 103), ((some (99, false)), (.call f_ledger_Room [(.tmp 100), (.tmp 101), (.tmp 102)])))
             (.one ((some 107), ((some (99, false)), (.call f_ref26_Room [(.tmp 104), (.tmp 105), (.tmp 106)])))
             (.one ((some 108), ((some (99, false)), (.bi .neq (.tmp 103) (.tmp 107))))
             (.one ((some 109), (none, (.pick (.tmp 99) (.const (.bool true)) (.tmp 108))))
             (.one ((some 110), (none, (.mv (.tmp 109))))
             (.one ((some 111), ((some (110, false)), (.mv (.tmp 3))))
             (.one ((some 113), ((some (110, false)), (.mv (.tmp 18))))
             (.one ((some 115), ((some (110, false)), (.mv (.tmp 3))))
             (.one ((some 117), ((some (110, false)), (.mv (.tmp 18))))
             (.alt (.one ((some 112), ((some (110, false)), (.ldA 38 (.tmp 16))))
              (.alt (.one ((some 114), ((some (110, false)), (.call f_ledger_Room [(.tmp 111), (.tmp 112), (.tmp 113)])))
               (.one ((some 116), ((some (110, false)), (.ldA 38 (.tmp 16))))
               (.one ((some 118), ((some (110, false)), (.call f_ref26_Room [(.tmp 115), (.tmp 116), (.tmp 117)])))
               (.one ((some 119), ((some (110, false)), (.bi .neq (.tmp 114) (.tmp 118))))
               (.one ((some 120), (none, (.pick (.tmp 110) (.const (.bool true)) (.tmp 119))))
               .done)))))
              (.one ((some 116), ((some (110, false)), (.ldA 38 (.tmp 16))))
               (.one ((some 114), ((some (110, false)), (.call f_ledger_Room [(.tmp 111), (.tmp 112), (.tmp 113)])))
               (.one ((some 118), ((some (110, false)), (.call f_ref26_Room [(.tmp 115), (.tmp 116), (.tmp 117)])))
               (.one ((some 119), ((some (110, false)), (.bi .neq (.tmp 114) (.tmp 118))))
               (.one ((some 120), (none, (.pick (.tmp 110) (.const (.bool true)) (.tmp 119))))
               .done)))))))
             (.one ((some 116), ((some (110, false)), (.ldA 38 (.tmp 16))))
              (.one ((some 112), ((some (110, false)), (.ldA 38 (.tmp 16))))
              (.one ((some 114), ((some (110, false)), (.call f_ledger_Room [(.tmp 111), (.tmp 112), (.tmp 113)])))
              (.one ((some 118), ((some (110, false)), (.call f_ref26_Room [(.tmp 115), (.tmp 116), (.tmp 117)])))
              (.one ((some 119), ((some (110, false)), (.bi .neq (.tmp 114) (.tmp 118))))
              (.one ((some 120), (none, (.pick (.tmp 110) (.const (.bool true)) (.tmp 119))))
              .done)))))))))))))))))))))))))))))))
          (.one ((some 94), (none, (.ldA 38 (.tmp 16))))
           (.one ((some 91), (none, (.ldA 38 (.tmp 16))))
           (.one ((some 93), (none, (.call f_ledger_Limited [(.tmp 91), (.tmp 92)])))
           (.one ((some 96), (none, (.call f_ref26_Limited [(.tmp 94), (.tmp 95)])))
           (.one ((some 97), (none, (.call f_ref01_SameTags [(.tmp 93), (.tmp 96)])))
           (.one ((some 98), (none, (.un .not (.tmp 97))))
           (.one ((some 99), (none, (.mv (.tmp 98))))
           (.one ((some 100), ((some (99, false)), (.mv (.tmp 10))))
           (.one ((some 102), ((some (99, false)), (.mv (.tmp 18))))
           (.one ((some 104), ((some (99, false)), (.mv (.tmp 10))))
           (.one ((some 106), ((some (99, false)), (.mv (.tmp 18))))
           (.alt (.one ((some 101), ((some (99, false)), (.ldA 38 (.tmp 16))))
            (.alt (.one ((some 103), ((some (99, false)), (.call f_ledger_Room [(.tmp 100), (.tmp 101), (.tmp 102)])))
             (.one ((some 105), ((some (99, false)), (.ldA 38 (.tmp 16))))
             (.one ((some 107), ((some (99, false)), (.call f_ref26_Room [(.tmp 104), (.tmp 105), (.tmp 106)])))
             (.one ((some 108), ((some (99, false)), (.bi .neq (.tmp 103) (.tmp 107))))
             (.one ((some 109), (none, (.pick (.tmp 99) (.const (.bool true)) (.tmp 108))))
             (.one ((some 110), (none, (.mv (.tmp 109))))
             (.one ((some 111), ((some (110, false)), (.mv (.tmp 3))))
             (.one ((some 113), ((some (110, false)), (.mv (.tmp 18))))
             (.one ((some 115), ((some (110, false)), (.mv (.tmp 3))))
             (.one ((some 117), ((some (110, false)), (.mv (.tmp 18))))
             (.alt (.one ((some 112), ((some (110, false)), (.ldA 38 (.tmp 16))))
              (.alt (.one ((some 114), ((some (110, false)), (.call f_ledger_Room [(.tmp 111), (.tmp 112), (.tmp 113)])))
               (.one ((some 116), ((some (110, false)), (.ldA 38 (.tmp 16))))
               (.one ((some 118), ((some (110, false)), (.call f_ref26_Room [(.tmp 115), (.tmp 116), (.tmp 117)])))
               (.one ((some 119), ((some (110, false)), (.bi .neq (.tmp 114) (.tmp 118))))
               (.one ((some 120), (none, (.pick (.tmp 110) (.const (.bool true)) (.tmp 119))))
               .done)))))
              (.one ((some 116), ((some (110, false)), (.ldA 38 (.tmp 16))))
               (.one ((some 114), ((some (110, false)), (.call f_ledger_Room [(.tmp 111), (.tmp 112), (.tmp 113)])))
               (.one ((some 118), ((some (110, false)), (.call f_ref26_Room [(.tmp 115), (.tmp 116), (.tmp 117)])))
               (.one ((some 119), ((some (110, false)), (.bi .neq (.tmp 114) (.tmp 118))))
               (.one ((some 120), (none, (.pick (.tmp 110) (.const (.bool true)) (.tmp 119))))
               .done)))))))
             (.one ((some 116), ((some (110, false)), (.ldA 38 (.tmp 16))))
              (.one ((some 112), ((some (110, false)), (.ldA 38 (.tmp 16))))
              (.one ((some 114), ((some (110, false)), (.call f_ledger_Room [(.tmp 111), (.tmp 112), (.tmp 113)])))
              (.one ((some 118), ((some (110, false)), (.call f_ref26_Room [(.tmp 115), (.tmp 116), (.tmp 117)])))
              (.one ((some 119), ((some (110, false)), (.bi .neq (.tmp 114) (.tmp 118))))
              (.one ((some 120), (none, (.pick (.tmp 110) (.const (.bool true)) (.tmp 119))))
              .done)))))))))))))))))
            (.one ((some 105), ((some (99, false)), (.ldA 38 (.tmp 16))))
             (.one ((some 103), ((some (99, false)), (.call f_ledger_Room [(.tmp 100), (.tmp 101), (.tmp 102)])))
             (.one ((some 107), ((some (99, false)), (.call f_ref26_Room [(.tmp 104), (.tmp 105), (.tmp 106)])))
             (.one ((some 108), ((some (99, false)), (.bi .neq (.tmp 103) (.tmp 107))))
             (.one ((some 109), (none, (.pick (.tmp 99) (.const (.bool true)) (.tmp 108))))
             (.one ((some 110), (none, (.mv (.tmp 109))))
             (.one ((some 111), ((some (110, false)), (.mv (.tmp 3))))
             (.one ((some 113), ((some (110, false)), (.mv (.tmp 18))))
             (.one ((some 115), ((some (110, false)), (.mv (.tmp 3))))
             (.one ((some 117), ((some (110, false)), (.mv (.tmp 18))))
             (.alt (.one ((some 112), ((some (110, false)), (.ldA 38 (.tmp 16))))
              (.alt (.one ((some 114), ((some (110, false)), (.call f_ledger_Room [(.tmp 111), (.tmp 112), (.tmp 113)])))
               (.one ((some 116), ((some (110, false)), (.ldA 38 (.tmp 16))))
               (.one ((some 118), ((some (110, false)), (.call f_ref26_Room [(.tmp 115), (.tmp 116), (.tmp 117)])))
               (.one ((some 119), ((some (110, false)), (.bi .neq (.tmp 114) (.tmp 118))))
               (.one ((some 120), (none, (.pick (.tmp 110) (.const (.bool true)) (.tmp 119))))
               .done)))))
              (.one ((some 116), ((some (110, false)), (.ldA 38 (.tmp 16))))
               (.one ((some 114), ((some (110, false)), (.call f_ledger_Room [(.tmp 111), (.tmp 112), (.tmp 113)])))
               (.one ((some 118), ((some (110, false)), (.call f_ref26_Room [(.tmp 115), (.tmp 116), (.tmp 117)])))
               (.one ((some 119), ((some (110, false)), (.bi .neq (.tmp 114) (.tmp 118))))
               (.one ((some 120), (none, (.pick (.tmp 110) (.const (.bool true)) (.tmp 119))))
               .done)))))))
             (.one ((some 116), ((some (110, false)), (.ldA 38 (.tmp 16))))
              (.one ((some 112), ((some (110, false)), (.ldA 38 (.tmp 16))))
              (.one ((some 114), ((some (110, false)), (.call f_ledger_Room [(.tmp 111), (.tmp 112), (.tmp 113)])))
              (.one ((some 118), ((some (110, false)), (.call f_ref26_Room [(.tmp 115), (.tmp 116), (.tmp 117)])))
              (.one ((some 119), ((some (110, false)), (.bi .neq (.tmp 114) (.tmp 118))))
              (.one ((some 120), (none, (.pick (.tmp 110) (.const (.bool true)) (.tmp 119))))
              .done)))))))))))))))))))
           (.one ((some 105), ((some (99, false)), (.ldA 38 (.tmp 16))))
            (.one ((some 101), ((some (99, false)), (.ldA 38 (.tmp 16))))
            (.one ((some 103), ((some (99, false)), (.call f_ledger_Room [(.tmp 100), (.tmp 101), (.tmp 102)])))
            (.one ((some 107), ((some (99, false)), (.call f_ref26_Room [(.tmp 104), (.tmp 105), (.tmp 106)])))
            (.one ((some 108), ((some (99, false)), (.bi .neq (.tmp 103) (.tmp 107))))
            (.one ((some 109), (none, (.pick (.tmp 99) (.const (.bool true)) (.tmp 108))))
            (.one ((some 110), (none, (.mv (.tmp 109))))
            (.one ((some 111), ((some (110, false)), (.mv (.tmp 3))))
            (.one ((some 113), ((some (110, false)), (.mv (.tmp 18))))
            (.one ((some 115), ((some (110, false)), (.mv (.tmp 3))))
            (.one ((some 117), ((some (110, false)), (.mv (.tmp 18))))
            (.alt (.one ((some 112), ((some (110, false)), (.ldA 38 (.tmp 16))))
             (.alt (.one ((some 114), ((some (110, false)), (.call f_ledger_Room [(.tmp 111), (.tmp 112), (.tmp 113)])))
              (.one ((some 116), ((some (110, false)), (.ldA 38 (.tmp 16))))
              (.one ((some 118), ((some (110, false)), (.call f_ref26_Room [(.tmp 115), (.tmp 116), (.tmp 117)])))
              (.one ((some 119), ((some (110, false)), (.bi .neq (.tmp 114) (.tmp 118))))
              (.one ((some 120), (none, (.pick (.tmp 110) (.const (.bool true)) (.tmp 119))))
              .done)))))
             (.one ((some 116), ((some (110, false)), (.ldA 38 (.tmp 16))))
              (.one ((some 114), ((some (110, false)), (.call f_ledger_Room [(.tmp 111), (.tmp 112), (.tmp 113)])))
              (.one ((some 118), ((some (110, false)), (.call f_ref26_Room [(.tmp 115), (.tmp 116), (.tmp 117)])))
              (.one ((some 119), ((some (110, false)), (.bi .neq (.tmp 114) (.tmp 118))))
              (.one ((some 120), (none, (.pick (.tmp 110) (.const (.bool true)) (.tmp 119))))
              .done)))))))
            (.one ((some 116), ((some (110, false)), (.ldA 38 (.tmp 16))))
             (.one ((some 112), ((some (110, false)), (.ldA 38 (.tmp 16))))
             (.one ((some 114), ((some (110, false)), (.call f_ledger_Room [(.tmp 111), (.tmp 112), (.tmp 113)])))
             (.one ((some 118), ((some (110, false)), (.call f_ref26_Room [(.tmp 115), (.tmp 116), (.tmp 117)])))
             (.one ((some 119), ((some (110, false)), (.bi .neq (.tmp 114) (.tmp 118))))
             (.one ((some 120), (none, (.pick (.tmp 110) (.const (.bool true)) (.tmp 119))))
             .done))))))))))))))))))))))))))))))))))
  (.cond (.tmp 120)
          (.seq (.reg [((some 8), (none, (.mv (.const (.bool false)))))])
  .ret)
          .skip))))
  (.reg [((some 121), (none, (.bi .add (.tmp 87) (.const (.int .i64 1))))),
         ((some 87), (none, (.mv (.tmp 121))))]))
def law28_LedgerRoomC_j4 (t_api_Caveat : Nat) (t_api_Bound : Nat) (f_made_Deck_Next : Nat) (t_api_Tag_2 : Nat) (f_ledger_Limited : Nat) (f_ref26_Limited : Nat) (f_ref01_SameTags : Nat) (f_ledger_Room : Nat) (f_ref26_Room : Nat) : PC :=
  (.seq (.block 3 (.seq (.reg [((some 74), (none, (.ixS 38 (.tmp 70) (.tmp 72)))),
       ((some 75), (none, (.ldA 38 (.tmp 74)))),
       ((some 16), (none, (.alloc [(.int .i64 0), (.int .i64 0), (.int .i64 0), (.int .i64 0), (lin t_api_Caveat []), (.int .u8 0), (.int .u8 0), (.int .u8 0), (.int .u8 0), (.int .u8 0), (.int .u8 0), (.int .u8 0), (.int .u8 0), (.int .u8 0), (.int .u8 0), (.int .u8 0), (.int .u8 0), (.int .u8 0), (.int .u8 0), (.int .u8 0), (.int .u8 0), (.int .u8 0), (.int .u8 0), (.int .u8 0), (.int .u8 0), (.int .u8 0), (.int .u8 0), (.int .u8 0), (.int .u8 0), (.int .u8 0), (.int .u8 0), (.int .u8 0), (.int .u8 0), (.int .u8 0), (.int .u8 0), (.int .u8 0), (.int .u8 0), (lin t_api_Bound [])]))),
       (none, (none, (.st 38 (.tmp 16) (.tmp 75))))])
  (.seq (.reg [((some 76), (none, (.mv (.tmp 12)))),
       ((some 77), (none, (.mv (.tmp 1)))),
       ((some 78), (none, (.mv (.tmp 12)))),
       ((some 79), (none, (.mv (.tmp 9)))),
       ((some 80), (none, (.mv (.tmp 12)))),
       ((some 81), (none, (.len (.tmp 80)))),
       ((some 82), (none, (.bi .add (.tmp 81) (.const (.int .i64 1))))),
       ((some 83), (none, (.call f_made_Deck_Next [(.tmp 79), (.tmp 82)]))),
       ((some 84), (none, (.slS 32 (.tmp 78) none (some (.tmp 83)) none))),
       ((some 85), (none, (.mks t_api_Tag_2 1 false [(.tmp 76), (.tmp 77), (.tmp 84)]))),
       ((some 86), (none, (.len (.tmp 85)))),
       ((some 87), (none, (.mv (.const (.int .i64 0)))))])
  (.block 4 (.loop (.seq (.reg [((some 88), (none, (.bi .lss (.tmp 87) (.tmp 86))))])
  (.seq (.cond (.tmp 88)
         .skip
         (.exit 4))
  (law28_LedgerRoomC_j3 f_ledger_Limited f_ref26_Limited f_ref01_SameTags f_ledger_Room f_ref26_Room))))))))
  (.reg [((some 122), (none, (.bi .add (.tmp 72) (.const (.int .i64 1))))),
      ((some 72), (none, (.mv (.tmp 122))))]))
def law28_LedgerRoomC_j5 (f_law28_awake : Nat) (t_api_Caveat : Nat) (t_api_Bound : Nat) (f_made_Deck_Next : Nat) (t_api_Bundle : Nat) (t_api_Tag_2 : Nat) (f_ledger_Limited : Nat) (f_ref26_Limited : Nat) (f_ref01_SameTags : Nat) (f_ledger_Room : Nat) (f_ref26_Room : Nat) : PC :=
  (.seq (.seq (.reg [((some 68), (none, (.ldA 38 (.tmp 11)))),
    ((some 69), (none, (.ldA 38 (.tmp 4)))),
    ((some 70), (none, (.mks t_api_Bundle 38 false [(.tmp 68), (.tmp 69)]))),
    ((some 71), (none, (.len (.tmp 70)))),
    ((some 72), (none, (.mv (.const (.int .i64 0)))))])
  (.block 2 (.loop (.seq (.reg [((some 73), (none, (.bi .lss (.tmp 72) (.tmp 71))))])
  (.seq (.cond (.tmp 73)
      .skip
      (.exit 2))
  (law28_LedgerRoomC_j4 t_api_Caveat t_api_Bound f_made_Deck_Next t_api_Tag_2 f_ledger_Limited f_ref26_Limited f_ref01_SameTags f_ledger_Room f_ref26_Room))))))
  (.seq (.reg [((some 123), (none, (.call f_law28_awake []))),
    ((some 8), (none, (.mv (.tmp 123))))])
  .ret))
def law28_LedgerRoomC_j6 (f_law28_awake : Nat) (f_made_New : Nat) (f_law28_counts : Nat) (t_api_Caveat : Nat) (t_api_Bound : Nat) (t_api_Tag : Nat) (f_made_Deck_Next : Nat) (f_made_Deck_Caveat : Nat) (t_uint8 : Nat) (t_api_Bundle : Nat) (t_api_Tag_2 : Nat) (f_ledger_Limited : Nat) (f_ref26_Limited : Nat) (f_ref01_SameTags : Nat) (f_ledger_Room : Nat) (f_ref26_Room : Nat) : PC :=
  (.seq (.reg [((some 34), (none, (.mv (.tmp 2)))),
    ((some 35), (none, (.call f_made_New [(.tmp 34)]))),
    ((some 9), (none, (.mv (.tmp 35))))])
  (.seq (.reg [((some 36), (none, (.mv (.tmp 9)))),
    ((some 37), (none, (.call f_law28_counts [(.tmp 36)]))),
    ((some 10), (none, (.steal 37)))])
  (.seq (.reg [((some 11), (none, (.alloc [(.int .i64 0), (.int .i64 0), (.int .i64 0), (.int .i64 0), (lin t_api_Caveat []), (.int .u8 0), (.int .u8 0), (.int .u8 0), (.int .u8 0), (.int .u8 0), (.int .u8 0), (.int .u8 0), (.int .u8 0), (.int .u8 0), (.int .u8 0), (.int .u8 0), (.int .u8 0), (.int .u8 0), (.int .u8 0), (.int .u8 0), (.int .u8 0), (.int .u8 0), (.int .u8 0), (.int .u8 0), (.int .u8 0), (.int .u8 0), (.int .u8 0), (.int .u8 0), (.int .u8 0), (.int .u8 0), (.int .u8 0), (.int .u8 0), (.int .u8 0), (.int .u8 0), (.int .u8 0), (.int .u8 0), (.int .u8 0), (lin t_api_Bound [])])))])
  (.seq (.reg [((some 38), (none, (.build [(.inr ((.const (.int .u8 9)), 1)), (.inl [(.int .u8 0)]), (.inl [(.int .u8 0)]), (.inl [(.int .u8 0)]), (.inl [(.int .u8 0)]), (.inl [(.int .u8 0)]), (.inl [(.int .u8 0)]), (.inl [(.int .u8 0)]), (.inl [(.int .u8 0)]), (.inl [(.int .u8 0)]), (.inl [(.int .u8 0)]), (.inl [(.int .u8 0)]), (.inl [(.int .u8 0)]), (.inl [(.int .u8 0)]), (.inl [(.int .u8 0)]), (.inl [(.int .u8 0)]), (.inl [(.int .u8 0)]), (.inl [(.int .u8 0)]), (.inl [(.int .u8 0)]), (.inl [(.int .u8 0)]), (.inl [(.int .u8 0)]), (.inl [(.int .u8 0)]), (.inl [(.int .u8 0)]), (.inl [(.int .u8 0)]), (.inl [(.int .u8 0)]), (.inl [(.int .u8 0)]), (.inl [(.int .u8 0)]), (.inl [(.int .u8 0)]), (.inl [(.int .u8 0)]), (.inl [(.int .u8 0)]), (.inl [(.int .u8 0)]), (.inl [(.int .u8 0)])]))),
    ((some 39), (none, (.mks t_api_Tag 32 true [(.tmp 38)]))),
    ((some 12), (none, (.steal 39)))])
  (.seq (.seq (.reg [((some 40), (none, (.mv (.tmp 9)))),
    ((some 41), (none, (.call f_made_Deck_Next [(.tmp 40), (.const (.int .i64 6))]))),
    ((some 13), (none, (.mv (.tmp 41))))])
  (.block 0 (.loop (.seq (.seq (.reg [((some 42), (none, (.mv (.tmp 13)))),
      ((some 43), (none, (.bi .gtr (.tmp 42) (.const (.int .i64 0)))))])
  (.cond (.tmp 43)
      .skip
      (.exit 0)))
  (law28_LedgerRoomC_j2 t_api_Caveat t_api_Tag f_made_Deck_Next f_made_Deck_Caveat t_uint8)))))
  (law28_LedgerRoomC_j5 f_law28_awake t_api_Caveat t_api_Bound f_made_Deck_Next t_api_Bundle t_api_Tag_2 f_ledger_Limited f_ref26_Limited f_ref01_SameTags f_ledger_Room f_ref26_Room))))))
def law28_LedgerRoomC (f_law28_awake : Nat) (f_made_New : Nat) (f_law28_counts : Nat) (t_api_Caveat : Nat) (t_api_Bound : Nat) (t_api_Tag : Nat) (f_made_Deck_Next : Nat) (f_made_Deck_Caveat : Nat) (t_uint8 : Nat) (t_api_Bundle : Nat) (t_api_Tag_2 : Nat) (f_ledger_Limited : Nat) (f_ref26_Limited : Nat) (f_ref01_SameTags : Nat) (f_ledger_Room : Nat) (f_ref26_Room : Nat) : PC :=
  (.seq (.reg [((some 4), (none, (.box 38 (.tmp 0)))),
    ((some 8), (none, (.mv (.const (.bool false)))))])
  (.seq (.seq (.reg [((some 19), (none, (.fa 4 (.tmp 4)))),
    ((some 20), (none, (.ld false (.tmp 19)))),
    ((some 21), (none, (.len (.tmp 20)))),
    ((some 22), (none, (.bi .gtr (.tmp 21) (.const (.int .i64 70))))),
    ((some 23), (none, (.mv (.tmp 22)))),
    ((some 24), ((some (23, false)), (.mv (.tmp 1)))),
    ((some 25), ((some (23, false)), (.len (.tmp 24)))),
    ((some 26), ((some (23, false)), (.bi .gtr (.tmp 25) (.const (.int .i64 80))))),
    ((some 27), (none, (.pick (.tmp 23) (.const (.bool true)) (.tmp 26)))),
    ((some 28), (none, (.mv (.tmp 27)))),
    ((some 29), ((some (28, false)), (.mv (.tmp 3)))),
    ((some 30), ((some (28, false)), (.len (.tmp 29)))),
    ((some 31), ((some (28, false)), (.bi .gtr (.tmp 30) (.const (.int .i64 60))))),
    ((some 32), (none, (.pick (.tmp 28) (.const (.bool true)) (.tmp 31))))])
  (.cond (.tmp 32)
    (.seq (.reg [((some 33), (none, (.call f_law28_awake []))),
      ((some 8), (none, (.mv (.tmp 33))))])
  .ret)
    .skip))
  (law28_LedgerRoomC_j6 f_law28_awake f_made_New f_law28_counts t_api_Caveat t_api_Bound t_api_Tag f_made_Deck_Next f_made_Deck_Caveat t_uint8 t_api_Bundle t_api_Tag_2 f_ledger_Limited f_ref26_Limited f_ref01_SameTags f_ledger_Room f_ref26_Room)))
/-- macaroon/macaroonlaw28.LedgerNever: 108 slots, results [(.t 2)] -/
def law28_LedgerNeverC_j1 (t_api_Caveat : Nat) (t_api_Tag : Nat) (f_made_Deck_Next : Nat) : PC :=
  (.seq (.block 1 (.ord (.one ((some 25), (none, (.fa 4 (.tmp 4))))
       (.one ((some 27), (none, (.mv (.tmp 3))))
       (.alt (.one ((some 26), (none, (.ld true (.tmp 25))))
        (.alt (.one ((some 28), (none, (.call f_made_Deck_Next [(.tmp 27), (.const (.int .i64 5))])))
         (.one ((some 29), (none, (.build [(.inr ((.const (.int .i64 7)), 1)), (.inl [(.int .u64 0)]), (.inl [(.int .i64 0)]), (.inl [(.int .i64 0)]), (.inl [(.string ⟨#[]⟩)]), (.inr ((.tmp 28), 1))])))
         (.one ((some 30), (none, (.build [(.inl [(.bool false)]), (.inr ((.tmp 29), 6)), (.inl [(.int .i64 0)]), (.inl [(deep [])]), (.inl [(deep [])])])))
         (.one ((some 31), (none, (.mks t_api_Caveat 10 false [(.tmp 30)])))
         (.one ((some 32), (none, (.app t_api_Caveat 10 120 26 (.tmp 31))))
         (.one ((some 40), (none, (.fa 4 (.tmp 4))))
         (.alt (.one ((some 33), (none, (.steal 5)))
          (.one ((some 34), (none, (.mv (.tmp 5))))
          (.one ((some 35), (none, (.len (.tmp 34))))
          (.one ((some 36), (none, (.cv .u8 (.tmp 35))))
          (.one ((some 37), (none, (.build [(.inr ((.tmp 36), 1)), (.inl [(.int .u8 0)]), (.inl [(.int .u8 0)]), (.inl [(.int .u8 0)]), (.inl [(.int .u8 0)]), (.inl [(.int .u8 0)]), (.inl [(.int .u8 0)]), (.inl [(.int .u8 0)]), (.inl [(.int .u8 0)]), (.inl [(.int .u8 0)]), (.inl [(.int .u8 0)]), (.inl [(.int .u8 0)]), (.inl [(.int .u8 0)]), (.inl [(.int .u8 0)]), (.inl [(.int .u8 0)]), (.inl [(.int .u8 0)]), (.inl [(.int .u8 0)]), (.inl [(.int .u8 0)]), (.inl [(.int .u8 0)]), (.inl [(.int .u8 0)]), (.inl [(.int .u8 0)]), (.inl [(.int .u8 0)]), (.inl [(.int .u8 0)]), (.inl [(.int .u8 0)]), (.inl [(.int .u8 0)]), (.inl [(.int .u8 0)]), (.inl [(.int .u8 0)]), (.inl [(.int .u8 0)]), (.inl [(.int .u8 0)]), (.inl [(.int .u8 0)]), (.inl [(.int .u8 0)]), (.inl [(.int .u8 0)])])))
          (.one ((some 38), (none, (.mks t_api_Tag 32 false [(.tmp 37)])))
          (.one ((some 39), (none, (.app t_api_Tag 32 32 33 (.tmp 38))))
          (.one (none, (none, (.sts (.tmp 40) 32)))
          (.one ((some 5), (none, (.steal 39)))
          .done)))))))))
         (.one ((some 34), (none, (.mv (.tmp 5))))
          (.one ((some 33), (none, (.steal 5)))
          (.one ((some 35), (none, (.len (.tmp 34))))
          (.one ((some 36), (none, (.cv .u8 (.tmp 35))))
          (.one ((some 37), (none, (.build [(.inr ((.tmp 36), 1)), (.inl [(.int .u8 0)]), (.inl [(.int .u8 0)]), (.inl [(.int .u8 0)]), (.inl [(.int .u8 0)]), (.inl [(.int .u8 0)]), (.inl [(.int .u8 0)]), (.inl [(.int .u8 0)]), (.inl [(.int .u8 0)]), (.inl [(.int .u8 0)]), (.inl [(.int .u8 0)]), (.inl [(.int .u8 0)]), (.inl [(.int .u8 0)]), (.inl [(.int .u8 0)]), (.inl [(.int .u8 0)]), (.inl [(.int .u8 0)]), (.inl [(.int .u8 0)]), (.inl [(.int .u8 0)]), (.inl [(.int .u8 0)]), (.inl [(.int .u8 0)]), (.inl [(.int .u8 0)]), (.inl [(.int .u8 0)]), (.inl [(.int .u8 0)]), (.inl [(.int .u8 0)]), (.inl [(.int .u8 0)]), (.inl [(.int .u8 0)]), (.inl [(.int .u8 0)]), (.inl [(.int .u8 0)]), (.inl [(.int .u8 0)]), (.inl [(.int .u8 0)]), (.inl [(.int .u8 0)]), (.inl [(.int .u8 0)])])))
          (.one ((some 38), (none, (.mks t_api_Tag 32 false [(.tmp 37)])))
          (.one ((some 39), (none, (.app t_api_Tag 32 32 33 (.tmp 38))))
          (.one (none, (none, (.sts (.tmp 40) 32)))
          (.one ((some 5), (none, (.steal 39)))
          .done))))))))))))))))
        (.alt (.one ((some 33), (none, (.steal 5)))
          (.one ((some 34), (none, (.mv (.tmp 5))))
          (.one ((some 35), (none, (.len (.tmp 34))))
          (.one ((some 36), (none, (.cv .u8 (.tmp 35))))
          (.one ((some 37), (none, (.build [(.inr ((.tmp 36), 1)), (.inl [(.int .u8 0)]), (.inl [(.int .u8 0)]), (.inl [(.int .u8 0)]), (.inl [(.int .u8 0)]), (.inl [(.int .u8 0)]), (.inl [(.int .u8 0)]), (.inl [(.int .u8 0)]), (.inl [(.int .u8 0)]), (.inl [(.int .u8 0)]), (.inl [(.int .u8 0)]), (.inl [(.int .u8 0)]), (.inl [(.int .u8 0)]), (.inl [(.int .u8 0)]), (.inl [(.int .u8 0)]), (.inl [(.int .u8 0)]), (.inl [(.int .u8 0)]), (.inl [(.int .u8 0)]), (.inl [(.int .u8 0)]), (.inl [(.int .u8 0)]), (.inl [(.int .u8 0)]), (.inl [(.int .u8 0)]), (.inl [(.int .u8 0)]), (.inl [(.int .u8 0)]), (.inl [(.int .u8 0)]), (.inl [(.int .u8 0)]), (.inl [(.int .u8 0)]), (.inl [(.int .u8 0)]), (.inl [(.int .u8 0)]), (.inl [(.int .u8 0)]), (.inl [(.int .u8 0)]), (.inl [(.int .u8 0)])])))
          (.one ((some 38), (none, (.mks t_api_Tag 32 false [(.tmp 37)])))
          (.one ((some 28), (none, (.call f_made_Deck_Next [(.tmp 27), (.const (.int .i64 5))])))
          (.one ((some 29), (none, (.build [(.inr ((.const (.int .i64 7)), 1)), (.inl [(.int .u64 0)]), (.inl [(.int .i64 0)]), (.inl [(.int .i64 0)]), (.inl [(.string ⟨#[]⟩)]), (.inr ((.tmp 28), 1))])))
          (.one ((some 30), (none, (.build [(.inl [(.bool false)]), (.inr ((.tmp 29), 6)), (.inl [(.int .i64 0)]), (.inl [(deep [])]), (.inl [(deep [])])])))
          (.one ((some 31), (none, (.mks t_api_Caveat 10 false [(.tmp 30)])))
          (.one ((some 32), (none, (.app t_api_Caveat 10 120 26 (.tmp 31))))
          (.one ((some 39), (none, (.app t_api_Tag 32 32 33 (.tmp 38))))
          (.one ((some 40), (none, (.fa 4 (.tmp 4))))
          (.one (none, (none, (.sts (.tmp 40) 32)))
          (.one ((some 5), (none, (.steal 39)))
          .done)))))))))))))))
         (.one ((some 34), (none, (.mv (.tmp 5))))
          (.one ((some 33), (none, (.steal 5)))
          (.one ((some 35), (none, (.len (.tmp 34))))
          (.one ((some 36), (none, (.cv .u8 (.tmp 35))))
          (.one ((some 37), (none, (.build [(.inr ((.tmp 36), 1)), (.inl [(.int .u8 0)]), (.inl [(.int .u8 0)]), (.inl [(.int .u8 0)]), (.inl [(.int .u8 0)]), (.inl [(.int .u8 0)]), (.inl [(.int .u8 0)]), (.inl [(.int .u8 0)]), (.inl [(.int .u8 0)]), (.inl [(.int .u8 0)]), (.inl [(.int .u8 0)]), (.inl [(.int .u8 0)]), (.inl [(.int .u8 0)]), (.inl [(.int .u8 0)]), (.inl [(.int .u8 0)]), (.inl [(.int .u8 0)]), (.inl [(.int .u8 0)]), (.inl [(.int .u8 0)]), (.inl [(.int .u8 0)]), (.inl [(.int .u8 0)]), (.inl [(.int .u8 0)]), (.inl [(.int .u8 0)]), (.inl [(.int .u8 0)]), (.inl [(.int .u8 0)]), (.inl [(.int .u8 0)]), (.inl [(.int .u8 0)]), (.inl [(.int .u8 0)]), (.inl [(.int .u8 0)]), (.inl [(.int .u8 0)]), (.inl [(.int .u8 0)]), (.inl [(.int .u8 0)]), (.inl [(.int .u8 0)])])))
          (.one ((some 38), (none, (.mks t_api_Tag 32 false [(.tmp 37)])))
          (.one ((some 28), (none, (.call f_made_Deck_Next [(.tmp 27), (.const (.int .i64 5))])))
          (.one ((some 29), (none, (.build [(.inr ((.const (.int .i64 7)), 1)), (.inl [(.int .u64 0)]), (.inl [(.int .i64 0)]), (.inl [(.int .i64 0)]), (.inl [(.string ⟨#[]⟩)]), (.inr ((.tmp 28), 1))])))
          (.one ((some 30), (none, (.build [(.inl [(.bool false)]), (.inr ((.tmp 29), 6)), (.inl [(.int .i64 0)]), (.inl [(deep [])]), (.inl [(deep [])])])))
          (.one ((some 31), (none, (.mks t_api_Caveat 10 false [(.tmp 30)])))
          (.one ((some 32), (none, (.app t_api_Caveat 10 120 26 (.tmp 31))))
          (.one ((some 39), (none, (.app t_api_Tag 32 32 33 (.tmp 38))))
          (.one ((some 40), (none, (.fa 4 (.tmp 4))))
          (.one (none, (none, (.sts (.tmp 40) 32)))
          (.one ((some 5), (none, (.steal 39)))
          .done))))))))))))))))))
       (.alt (.one ((some 28), (none, (.call f_made_Deck_Next [(.tmp 27), (.const (.int .i64 5))])))
         (.one ((some 29), (none, (.build [(.inr ((.const (.int .i64 7)), 1)), (.inl [(.int .u64 0)]), (.inl [(.int .i64 0)]), (.inl [(.int .i64 0)]), (.inl [(.string ⟨#[]⟩)]), (.inr ((.tmp 28), 1))])))
         (.one ((some 30), (none, (.build [(.inl [(.bool false)]), (.inr ((.tmp 29), 6)), (.inl [(.int .i64 0)]), (.inl [(deep [])]), (.inl [(deep [])])])))
         (.one ((some 31), (none, (.mks t_api_Caveat 10 false [(.tmp 30)])))
         (.alt (.one ((some 26), (none, (.ld true (.tmp 25))))
          (.one ((some 32), (none, (.app t_api_Caveat 10 120 26 (.tmp 31))))
          (.one ((some 40), (none, (.fa 4 (.tmp 4))))
          (.alt (.one ((some 33), (none, (.steal 5)))
           (.one ((some 34), (none, (.mv (.tmp 5))))
           (.one ((some 35), (none, (.len (.tmp 34))))
           (.one ((some 36), (none, (.cv .u8 (.tmp 35))))
           (.one ((some 37), (none, (.build [(.inr ((.tmp 36), 1)), (.inl [(.int .u8 0)]), (.inl [(.int .u8 0)]), (.inl [(.int .u8 0)]), (.inl [(.int .u8 0)]), (.inl [(.int .u8 0)]), (.inl [(.int .u8 0)]), (.inl [(.int .u8 0)]), (.inl [(.int .u8 0)]), (.inl [(.int .u8 0)]), (.inl [(.int .u8 0)]), (.inl [(.int .u8 0)]), (.inl [(.int .u8 0)]), (.inl [(.int .u8 0)]), (.inl [(.int .u8 0)]), (.inl [(.int .u8 0)]), (.inl [(.int .u8 0)]), (.inl [(.int .u8 0)]), (.inl [(.int .u8 0)]), (.inl [(.int .u8 0)]), (.inl [(.int .u8 0)]), (.inl [(.int .u8 0)]), (.inl [(.int .u8 0)]), (.inl [(.int .u8 0)]), (.inl [(.int .u8 0)]), (.inl [(.int .u8 0)]), (.inl [(.int .u8 0)]), (.inl [(.int .u8 0)]), (.inl [(.int .u8 0)]), (.inl [(.int .u8 0)]), (.inl [(.int .u8 0)]), (.inl [(.int .u8 0)])])))
           (.one ((some 38), (none, (.mks t_api_Tag 32 false [(.tmp 37)])))
           (.one ((some 39), (none, (.app t_api_Tag 32 32 33 (.tmp 38))))
           (.one (none, (none, (.sts (.tmp 40) 32)))
           (.one ((some 5), (none, (.steal 39)))
           .done)))))))))
          (.one ((some 34), (none, (.mv (.tmp 5))))
           (.one ((some 33), (none, (.steal 5)))
           (.one ((some 35), (none, (.len (.tmp 34))))
           (.one ((some 36), (none, (.cv .u8 (.tmp 35))))
           (.one ((some 37), (none, (.build [(.inr ((.tmp 36), 1)), (.inl [(.int .u8 0)]), (.inl [(.int .u8 0)]), (.inl [(.int .u8 0)]), (.inl [(.int .u8 0)]), (.inl [(.int .u8 0)]), (.inl [(.int .u8 0)]), (.inl [(.int .u8 0)]), (.inl [(.int .u8 0)]), (.inl [(.int .u8 0)]), (.inl [(.int .u8 0)]), (.inl [(.int .u8 0)]), (.inl [(.int .u8 0)]), (.inl [(.int .u8 0)]), (.inl [(.int .u8 0)]), (.inl [(.int .u8 0)]), (.inl [(.int .u8 0)]), (.inl [(.int .u8 0)]), (.inl [(.int .u8 0)]), (.inl [(.int .u8 0)]), (.inl [(.int .u8 0)]), (.inl [(.int .u8 0)]), (.inl [(.int .u8 0)]), (.inl [(.int .u8 0)]), (.inl [(.int .u8 0)]), (.inl [(.int .u8 0)]), (.inl [(.int .u8 0)]), (.inl [(.int .u8 0)]), (.inl [(.int .u8 0)]), (.inl [(.int .u8 0)]), (.inl [(.int .u8 0)]), (.inl [(.int .u8 0)])])))
           (.one ((some 38), (none, (.mks t_api_Tag 32 false [(.tmp 37)])))
           (.one ((some 39), (none, (.app t_api_Tag 32 32 33 (.tmp 38))))
           (.one (none, (none, (.sts (.tmp 40) 32)))
           (.one ((some 5), (none, (.steal 39)))
           .done)))))))))))))
         (.alt (.one ((some 33), (none, (.steal 5)))
           (.one ((some 34), (none, (.mv (.tmp 5))))
           (.one ((some 35), (none, (.len (.tmp 34))))
           (.one ((some 36), (none, (.cv .u8 (.tmp 35))))
           (.one ((some 37), (none, (.build [(.inr ((.tmp 36), 1)), (.inl [(.int .u8 0)]), (.inl [(.int .u8 0)]), (.inl [(.int .u8 0)]), (.inl [(.int .u8 0)]), (.inl [(.int .u8 0)]), (.inl [(.int .u8 0)]), (.inl [(.int .u8 0)]), (.inl [(.int .u8 0)]), (.inl [(.int .u8 0)]), (.inl [(.int .u8 0)]), (.inl [(.int .u8 0)]), (.inl [(.int .u8 0)]), (.inl [(.int .u8 0)]), (.inl [(.int .u8 0)]), (.inl [(.int .u8 0)]), (.inl [(.int .u8 0)]), (.inl [(.int .u8 0)]), (.inl [(.int .u8 0)]), (.inl [(.int .u8 0)]), (.inl [(.int .u8 0)]), (.inl [(.int .u8 0)]), (.inl [(.int .u8 0)]), (.inl [(.int .u8 0)]), (.inl [(.int .u8 0)]), (.inl [(.int .u8 0)]), (.inl [(.int .u8 0)]), (.inl [(.int .u8 0)]), (.inl [(.int .u8 0)]), (.inl [(.int .u8 0)]), (.inl [(.int .u8 0)]), (.inl [(.int .u8 0)])])))
           (.one ((some 38), (none, (.mks t_api_Tag 32 false [(.tmp 37)])))
           (.one ((some 26), (none, (.ld true (.tmp 25))))
           (.one ((some 32), (none, (.app t_api_Caveat 10 120 26 (.tmp 31))))
           (.one ((some 39), (none, (.app t_api_Tag 32 32 33 (.tmp 38))))
           (.one ((some 40), (none, (.fa 4 (.tmp 4))))
           (.one (none, (none, (.sts (.tmp 40) 32)))
           (.one ((some 5), (none, (.steal 39)))
           .done))))))))))))
          (.one ((some 34), (none, (.mv (.tmp 5))))
           (.one ((some 33), (none, (.steal 5)))
           (.one ((some 35), (none, (.len (.tmp 34))))
           (.one ((some 36), (none, (.cv .u8 (.tmp 35))))
           (.one ((some 37), (none, (.build [(.inr ((.tmp 36), 1)), (.inl [(.int .u8 0)]), (.inl [(.int .u8 0)]), (.inl [(.int .u8 0)]), (.inl [(.int .u8 0)]), (.inl [(.int .u8 0)]), (.inl [(.int .u8 0)]), (.inl [(.int .u8 0)]), (.inl [(.int .u8 0)]), (.inl [(.int .u8 0)]), (.inl [(.int .u8 0)]), (.inl [(.int .u8 0)]), (.inl [(.int .u8 0)]), (.inl [(.int .u8 0)]), (.inl [(.int .u8 0)]), (.inl [(.int .u8 0)]), (.inl [(.int .u8 0)]), (.inl [(.int .u8 0)]), (.inl [(.int .u8 0)]), (.inl [(.int .u8 0)]), (.inl [(.int .u8 0)]), (.inl [(.int .u8 0)]), (.inl [(.int .u8 0)]), (.inl [(.int .u8 0)]), (.inl [(.int .u8 0)]), (.inl [(.int .u8 0)]), (.inl [(.int .u8 0)]), (.inl [(.int .u8 0)]), (.inl [(.int .u8 0)]), (.inl [(.int .u8 0)]), (.inl [(.int .u8 0)]), (.inl [(.int .u8 0)])])))
           (.one ((some 38), (none, (.mks t_api_Tag 32 false [(.tmp 37)])))
           (.one ((some 26), (none, (.ld true (.tmp 25))))
           (.one ((some 32), (none, (.app t_api_Caveat 10 120 26 (.tmp 31))))
           (.one ((some 39), (none, (.app t_api_Tag 32 32 33 (.tmp 38))))
           (.one ((some 40), (none, (.fa 4 (.tmp 4))))
           (.one (none, (none, (.sts (.tmp 40) 32)))
           (.one ((some 5), (none, (.steal 39)))
           .done))))))))))))))))))
        (.alt (.one ((some 33), (none, (.steal 5)))
          (.one ((some 34), (none, (.mv (.tmp 5))))
          (.one ((some 35), (none, (.len (.tmp 34))))
          (.one ((some 36), (none, (.cv .u8 (.tmp 35))))
          (.one ((some 37), (none, (.build [(.inr ((.tmp 36), 1)), (.inl [(.int .u8 0)]), (.inl [(.int .u8 0)]), (.inl [(.int .u8 0)]), (.inl [(.int .u8 0)]), (.inl [(.int .u8 0)]), (.inl [(.int .u8 0)]), (.inl [(.int .u8 0)]), (.inl [(.int .u8 0)]), (.inl [(.int .u8 0)]), (.inl [(.int .u8 0)]), (.inl [(.int .u8 0)]), (.inl [(.int .u8 0)]), (.inl [(.int .u8 0)]), (.inl [(.int .u8 0)]), (.inl [(.int .u8 0)]), (.inl [(.int .u8 0)]), (.inl [(.int .u8 0)]), (.inl [(.int .u8 0)]), (.inl [(.int .u8 0)]), (.inl [(.int .u8 0)]), (.inl [(.int .u8 0)]), (.inl [(.int .u8 0)]), (.inl [(.int .u8 0)]), (.inl [(.int .u8 0)]), (.inl [(.int .u8 0)]), (.inl [(.int .u8 0)]), (.inl [(.int .u8 0)]), (.inl [(.int .u8 0)]), (.inl [(.int .u8 0)]), (.inl [(.int .u8 0)]), (.inl [(.int .u8 0)])])))
          (.one ((some 38), (none, (.mks t_api_Tag 32 false [(.tmp 37)])))
          (.alt (.one ((some 26), (none, (.ld true (.tmp 25))))
           (.one ((some 28), (none, (.call f_made_Deck_Next [(.tmp 27), (.const (.int .i64 5))])))
           (.one ((some 29), (none, (.build [(.inr ((.const (.int .i64 7)), 1)), (.inl [(.int .u64 0)]), (.inl [(.int .i64 0)]), (.inl [(.int .i64 0)]), (.inl [(.string ⟨#[]⟩)]), (.inr ((.tmp 28), 1))])))
           (.one ((some 30), (none, (.build [(.inl [(.bool false)]), (.inr ((.tmp 29), 6)), (.inl [(.int .i64 0)]), (.inl [(deep [])]), (.inl [(deep [])])])))
           (.one ((some 31), (none, (.mks t_api_Caveat 10 false [(.tmp 30)])))
           (.one ((some 32), (none, (.app t_api_Caveat 10 120 26 (.tmp 31))))
           (.one ((some 39), (none, (.app t_api_Tag 32 32 33 (.tmp 38))))
           (.one ((some 40), (none, (.fa 4 (.tmp 4))))
           (.one (none, (none, (.sts (.tmp 40) 32)))
           (.one ((some 5), (none, (.steal 39)))
           .done))))))))))
          (.one ((some 28), (none, (.call f_made_Deck_Next [(.tmp 27), (.const (.int .i64 5))])))
           (.one ((some 29), (none, (.build [(.inr ((.const (.int .i64 7)), 1)), (.inl [(.int .u64 0)]), (.inl [(.int .i64 0)]), (.inl [(.int .i64 0)]), (.inl [(.string ⟨#[]⟩)]), (.inr ((.tmp 28), 1))])))
           (.one ((some 30), (none, (.build [(.inl [(.bool false)]), (.inr ((.tmp 29), 6)), (.inl [(.int .i64 0)]), (.inl [(deep [])]), (.inl [(deep [])])])))
           (.one ((some 31), (none, (.mks t_api_Caveat 10 false [(.tmp 30)])))
           (.one ((some 26), (none, (.ld true (.tmp 25))))
           (.one ((some 32), (none, (.app t_api_Caveat 10 120 26 (.tmp 31))))
           (.one ((some 39), (none, (.app t_api_Tag 32 32 33 (.tmp 38))))
           (.one ((some 40), (none, (.fa 4 (.tmp 4))))
           (.one (none, (none, (.sts (.tmp 40) 32)))
           (.one ((some 5), (none, (.steal 39)))
           .done)))))))))))))))))
         (.one ((some 34), (none, (.mv (.tmp 5))))
          (.one ((some 33), (none, (.steal 5)))
          (.one ((some 35), (none, (.len (.tmp 34))))
          (.one ((some 36), (none, (.cv .u8 (.tmp 35))))
          (.one ((some 37), (none, (.build [(.inr ((.tmp 36), 1)), (.inl [(.int .u8 0)]), (.inl [(.int .u8 0)]), (.inl [(.int .u8 0)]), (.inl [(.int .u8 0)]), (.inl [(.int .u8 0)]), (.inl [(.int .u8 0)]), (.inl [(.int .u8 0)]), (.inl [(.int .u8 0)]), (.inl [(.int .u8 0)]), (.inl [(.int .u8 0)]), (.inl [(.int .u8 0)]), (.inl [(.int .u8 0)]), (.inl [(.int .u8 0)]), (.inl [(.int .u8 0)]), (.inl [(.int .u8 0)]), (.inl [(.int .u8 0)]), (.inl [(.int .u8 0)]), (.inl [(.int .u8 0)]), (.inl [(.int .u8 0)]), (.inl [(.int .u8 0)]), (.inl [(.int .u8 0)]), (.inl [(.int .u8 0)]), (.inl [(.int .u8 0)]), (.inl [(.int .u8 0)]), (.inl [(.int .u8 0)]), (.inl [(.int .u8 0)]), (.inl [(.int .u8 0)]), (.inl [(.int .u8 0)]), (.inl [(.int .u8 0)]), (.inl [(.int .u8 0)]), (.inl [(.int .u8 0)])])))
          (.one ((some 38), (none, (.mks t_api_Tag 32 false [(.tmp 37)])))
          (.alt (.one ((some 26), (none, (.ld true (.tmp 25))))
           (.one ((some 28), (none, (.call f_made_Deck_Next [(.tmp 27), (.const (.int .i64 5))])))
           (.one ((some 29), (none, (.build [(.inr ((.const (.int .i64 7)), 1)), (.inl [(.int .u64 0)]), (.inl [(.int .i64 0)]), (.inl [(.int .i64 0)]), (.inl [(.string ⟨#[]⟩)]), (.inr ((.tmp 28), 1))])))
           (.one ((some 30), (none, (.build [(.inl [(.bool false)]), (.inr ((.tmp 29), 6)), (.inl [(.int .i64 0)]), (.inl [(deep [])]), (.inl [(deep [])])])))
           (.one ((some 31), (none, (.mks t_api_Caveat 10 false [(.tmp 30)])))
           (.one ((some 32), (none, (.app t_api_Caveat 10 120 26 (.tmp 31))))
           (.one ((some 39), (none, (.app t_api_Tag 32 32 33 (.tmp 38))))
           (.one ((some 40), (none, (.fa 4 (.tmp 4))))
           (.one (none, (none, (.sts (.tmp 40) 32)))
           (.one ((some 5), (none, (.steal 39)))
           .done))))))))))
          (.one ((some 28), (none, (.call f_made_Deck_Next [(.tmp 27), (.const (.int .i64 5))])))
           (.one ((some 29), (none, (.build [(.inr ((.const (.int .i64 7)), 1)), (.inl [(.int .u64 0)]), (.inl [(.int .i64 0)]), (.inl [(.int .i64 0)]), (.inl [(.string ⟨#[]⟩)]), (.inr ((.tmp 28), 1))])))
           (.one ((some 30), (none, (.build [(.inl [(.bool false)]), (.inr ((.tmp 29), 6)), (.inl [(.int .i64 0)]), (.inl [(deep [])]), (.inl [(deep [])])])))
           (.one ((some 31), (none, (.mks t_api_Caveat 10 false [(.tmp 30)])))
           (.one ((some 26), (none, (.ld true (.tmp 25))))
           (.one ((some 32), (none, (.app t_api_Caveat 10 120 26 (.tmp 31))))
           (.one ((some 39), (none, (.app t_api_Tag 32 32 33 (.tmp 38))))
           (.one ((some 40), (none, (.fa 4 (.tmp 4))))
           (.one (none, (none, (.sts (.tmp 40) 32)))
           (.one ((some 5), (none, (.steal 39)))
           .done))))))))))))))))))))))))
  (.reg [((some 23), (none, (.mv (.tmp 6)))),
      ((some 24), (none, (.bi .sub (.tmp 23) (.const (.int .i64 1))))),
      ((some 6), (none, (.mv (.tmp 24))))]))
def law28_LedgerNeverC_j2 : PC :=
  (.seq (.block 3 (.reg [((some 48), (none, (.mv (.tmp 8)))),
       ((some 49), (none, (.fa 4 (.tmp 4)))),
       ((some 50), (none, (.ld false (.tmp 49)))),
       ((some 51), (none, (.mv (.tmp 10)))),
       ((some 52), (none, (.ixS 10 (.tmp 50) (.tmp 51)))),
       ((some 53), (none, (.fa 1 (.tmp 52)))),
       ((some 54), (none, (.fa 5 (.tmp 53)))),
       ((some 55), (none, (.ld false (.tmp 54)))),
       ((some 56), (none, (.mm false (.tmp 48) (.tmp 55)))),
       ((some 8), (none, (.mv (.tmp 56))))]))
  (.reg [((some 46), (none, (.mv (.tmp 10)))),
      ((some 47), (none, (.bi .add (.tmp 46) (.const (.int .i64 1))))),
      ((some 10), (none, (.mv (.tmp 47))))]))
def law28_LedgerNeverC_j3 (f_ledger_Limited : Nat) (f_ledger_Add : Nat) : PC :=
  (.seq (.reg [((some 67), (none, (.mv (.tmp 7)))),
       ((some 68), (none, (.ldA 38 (.tmp 4)))),
       ((some 69), (none, (.mv (.tmp 5)))),
       ((some 70), (none, (.call f_ledger_Limited [(.tmp 68), (.tmp 69)]))),
       ((some 71), (none, (.call f_ledger_Add [(.tmp 67), (.tmp 70)]))),
       ((some 66), (none, (.steal 71))),
       ((some 72), (none, (.extr 66 0))),
       ((some 73), (none, (.extr 66 1))),
       ((some 12), (none, (.steal 72))),
       ((some 13), (none, (.mv (.tmp 73))))])
  (.seq (.seq (.reg [((some 74), (none, (.mv (.tmp 13)))),
       ((some 75), (none, (.bi .neq (.tmp 74) (.const (.int .i64 0)))))])
  (.cond (.tmp 75)
       (.seq (.reg [((some 2), (none, (.mv (.const (.bool false)))))])
  .ret)
       .skip))
  (.reg [((some 76), (none, (.steal 12))),
       ((some 77), (none, (.mv (.tmp 9)))),
       ((some 78), (none, (.bi .add (.tmp 77) (.const (.int .i64 1))))),
       ((some 7), (none, (.steal 76))),
       ((some 9), (none, (.mv (.tmp 78))))])))
def law28_LedgerNeverC_j4 (f_ledger_Room : Nat) (f_ledger_Limited : Nat) (f_ledger_Add : Nat) : PC :=
  (.seq (.block 5 (.seq (.seq (.reg [((some 61), (none, (.mv (.tmp 7)))),
       ((some 62), (none, (.ldA 38 (.tmp 4)))),
       ((some 63), (none, (.mv (.tmp 5)))),
       ((some 64), (none, (.call f_ledger_Room [(.tmp 61), (.tmp 62), (.tmp 63)]))),
       ((some 65), (none, (.bi .neq (.tmp 64) (.const (.int .i64 0)))))])
  (.cond (.tmp 65)
       (.exit 5)
       .skip))
  (law28_LedgerNeverC_j3 f_ledger_Limited f_ledger_Add)))
  (.reg [((some 59), (none, (.mv (.tmp 11)))),
      ((some 60), (none, (.bi .add (.tmp 59) (.const (.int .i64 1))))),
      ((some 11), (none, (.mv (.tmp 60))))]))
def law28_LedgerNeverC_j5 (f_ledger_Number : Nat) : PC :=
  (.seq (.block 7 (.seq (.drw [((some 86), (none, (.mv (.tmp 7)))),
       ((some 87), (none, (.mv (.tmp 5)))),
       ((some 88), (none, (.mv (.tmp 14)))),
       ((some 89), (none, (.bi .add (.tmp 88) (.const (.int .i64 1))))),
       ((some 90), (none, (.ixS 32 (.tmp 87) (.tmp 89)))),
       ((some 91), (none, (.ldA 32 (.tmp 90)))),
       ((some 92), (none, (.call f_ledger_Number [(.tmp 86), (.tmp 91)]))),
       ((some 93), (none, (.fa 4 (.tmp 4)))),
       ((some 94), (none, (.ld false (.tmp 93)))),
       ((some 95), (none, (.mv (.tmp 14)))),
       ((some 96), (none, (.ixS 10 (.tmp 94) (.tmp 95)))),
       ((some 97), (none, (.fa 1 (.tmp 96)))),
       ((some 98), (none, (.fa 5 (.tmp 97)))),
       ((some 99), (none, (.ld false (.tmp 98)))),
       ((some 100), (none, (.bi .gtr (.tmp 92) (.tmp 99))))])
  (.cond (.tmp 100)
       (.seq (.reg [((some 2), (none, (.mv (.const (.bool false)))))])
  .ret)
       .skip)))
  (.reg [((some 84), (none, (.mv (.tmp 14)))),
      ((some 85), (none, (.bi .add (.tmp 84) (.const (.int .i64 1))))),
      ((some 14), (none, (.mv (.tmp 85))))]))
def law28_LedgerNeverC_j6 (f_law28_awake : Nat) : PC :=
  (.seq (.reg [((some 101), (none, (.mv (.tmp 9)))),
    ((some 102), (none, (.mv (.tmp 8)))),
    ((some 103), (none, (.mm false (.tmp 102) (.const (.int .i64 8))))),
    ((some 104), (none, (.bi .eql (.tmp 101) (.tmp 103)))),
    ((some 105), (none, (.mv (.tmp 104)))),
    ((some 106), ((some (105, true)), (.call f_law28_awake []))),
    ((some 107), (none, (.pick (.tmp 105) (.tmp 106) (.const (.bool false))))),
    ((some 2), (none, (.mv (.tmp 107))))])
  .ret)
def law28_LedgerNeverC_j7 (f_ledger_Number : Nat) (f_law28_awake : Nat) : PC :=
  (.seq (.seq (.reg [((some 14), (none, (.mv (.const (.int .i64 0)))))])
  (.block 6 (.loop (.seq (.seq (.reg [((some 79), (none, (.mv (.tmp 14)))),
      ((some 80), (none, (.fa 4 (.tmp 4)))),
      ((some 81), (none, (.ld false (.tmp 80)))),
      ((some 82), (none, (.len (.tmp 81)))),
      ((some 83), (none, (.bi .lss (.tmp 79) (.tmp 82))))])
  (.cond (.tmp 83)
      .skip
      (.exit 6)))
  (law28_LedgerNeverC_j5 f_ledger_Number)))))
  (law28_LedgerNeverC_j6 f_law28_awake))
def law28_LedgerNeverC_j8 (f_ledger_Room : Nat) (f_ledger_Limited : Nat) (f_ledger_Add : Nat) (f_ledger_Number : Nat) (f_law28_awake : Nat) : PC :=
  (.seq (.seq (.reg [((some 11), (none, (.mv (.const (.int .i64 0)))))])
  (.block 4 (.loop (.seq (.seq (.reg [((some 57), (none, (.mv (.tmp 11)))),
      ((some 58), (none, (.bi .lss (.tmp 57) (.const (.int .i64 8)))))])
  (.cond (.tmp 58)
      .skip
      (.exit 4)))
  (law28_LedgerNeverC_j4 f_ledger_Room f_ledger_Limited f_ledger_Add)))))
  (law28_LedgerNeverC_j7 f_ledger_Number f_law28_awake))
def law28_LedgerNeverC_j9 (t_api_Count : Nat) (f_ledger_Room : Nat) (f_ledger_Limited : Nat) (f_ledger_Add : Nat) (f_ledger_Number : Nat) (f_law28_awake : Nat) : PC :=
  (.seq (.reg [((some 7), (none, (.cnil t_api_Count)))])
  (.seq (.reg [((some 8), (none, (.mv (.const (.int .i64 99))))),
    ((some 9), (none, (.mv (.const (.int .i64 0)))))])
  (.seq (.seq (.reg [((some 10), (none, (.mv (.const (.int .i64 0)))))])
  (.block 2 (.loop (.seq (.seq (.reg [((some 41), (none, (.mv (.tmp 10)))),
      ((some 42), (none, (.fa 4 (.tmp 4)))),
      ((some 43), (none, (.ld false (.tmp 42)))),
      ((some 44), (none, (.len (.tmp 43)))),
      ((some 45), (none, (.bi .lss (.tmp 41) (.tmp 44))))])
  (.cond (.tmp 45)
      .skip
      (.exit 2)))
  law28_LedgerNeverC_j2))))
  (law28_LedgerNeverC_j8 f_ledger_Room f_ledger_Limited f_ledger_Add f_ledger_Number f_law28_awake))))
def law28_LedgerNeverC (f_made_New : Nat) (t_api_Caveat : Nat) (t_api_Bound : Nat) (t_api_Tag : Nat) (f_made_Deck_Next : Nat) (t_api_Count : Nat) (f_ledger_Room : Nat) (f_ledger_Limited : Nat) (f_ledger_Add : Nat) (f_ledger_Number : Nat) (f_law28_awake : Nat) : PC :=
  (.seq (.reg [((some 2), (none, (.mv (.const (.bool false)))))])
  (.seq (.reg [((some 15), (none, (.mv (.tmp 0)))),
    ((some 16), (none, (.call f_made_New [(.tmp 15)]))),
    ((some 3), (none, (.mv (.tmp 16))))])
  (.seq (.reg [((some 4), (none, (.alloc [(.int .i64 0), (.int .i64 0), (.int .i64 0), (.int .i64 0), (lin t_api_Caveat []), (.int .u8 0), (.int .u8 0), (.int .u8 0), (.int .u8 0), (.int .u8 0), (.int .u8 0), (.int .u8 0), (.int .u8 0), (.int .u8 0), (.int .u8 0), (.int .u8 0), (.int .u8 0), (.int .u8 0), (.int .u8 0), (.int .u8 0), (.int .u8 0), (.int .u8 0), (.int .u8 0), (.int .u8 0), (.int .u8 0), (.int .u8 0), (.int .u8 0), (.int .u8 0), (.int .u8 0), (.int .u8 0), (.int .u8 0), (.int .u8 0), (.int .u8 0), (.int .u8 0), (.int .u8 0), (.int .u8 0), (.int .u8 0), (lin t_api_Bound [])])))])
  (.seq (.reg [((some 17), (none, (.build [(.inr ((.const (.int .u8 9)), 1)), (.inl [(.int .u8 0)]), (.inl [(.int .u8 0)]), (.inl [(.int .u8 0)]), (.inl [(.int .u8 0)]), (.inl [(.int .u8 0)]), (.inl [(.int .u8 0)]), (.inl [(.int .u8 0)]), (.inl [(.int .u8 0)]), (.inl [(.int .u8 0)]), (.inl [(.int .u8 0)]), (.inl [(.int .u8 0)]), (.inl [(.int .u8 0)]), (.inl [(.int .u8 0)]), (.inl [(.int .u8 0)]), (.inl [(.int .u8 0)]), (.inl [(.int .u8 0)]), (.inl [(.int .u8 0)]), (.inl [(.int .u8 0)]), (.inl [(.int .u8 0)]), (.inl [(.int .u8 0)]), (.inl [(.int .u8 0)]), (.inl [(.int .u8 0)]), (.inl [(.int .u8 0)]), (.inl [(.int .u8 0)]), (.inl [(.int .u8 0)]), (.inl [(.int .u8 0)]), (.inl [(.int .u8 0)]), (.inl [(.int .u8 0)]), (.inl [(.int .u8 0)]), (.inl [(.int .u8 0)]), (.inl [(.int .u8 0)])]))),
    ((some 18), (none, (.mks t_api_Tag 32 true [(.tmp 17)]))),
    ((some 5), (none, (.steal 18)))])
  (.seq (.seq (.reg [((some 19), (none, (.mv (.tmp 3)))),
    ((some 20), (none, (.call f_made_Deck_Next [(.tmp 19), (.const (.int .i64 5))]))),
    ((some 6), (none, (.mv (.tmp 20))))])
  (.block 0 (.loop (.seq (.seq (.reg [((some 21), (none, (.mv (.tmp 6)))),
      ((some 22), (none, (.bi .gtr (.tmp 21) (.const (.int .i64 0)))))])
  (.cond (.tmp 22)
      .skip
      (.exit 0)))
  (law28_LedgerNeverC_j1 t_api_Caveat t_api_Tag f_made_Deck_Next)))))
  (law28_LedgerNeverC_j9 t_api_Count f_ledger_Room f_ledger_Limited f_ledger_Add f_ledger_Number f_law28_awake))))))
/-- macaroon/macaroonlaw28.awake: 42 slots, results [(.t 0)] -/
def law28_awakeC (t_api_Caveat : Nat) (t_api_Bound : Nat) (t_api_Tag : Nat) (f_ledger_Limited : Nat) (f_ledger_Add : Nat) (f_ledger_Number : Nat) : PC :=
  (.seq (.reg [((some 0), (none, (.mv (.const (.bool false)))))])
  (.seq (.reg [((some 5), (none, (.build [(.inr ((.const (.int .i64 1)), 1)), (.inr ((.const (.int .u64 2)), 1)), (.inl [(.int .i64 0)]), (.inl [(.int .i64 0)]), (.inl [(.string ⟨#[]⟩)]), (.inl [(.int .i64 0)])]))),
    ((some 6), (none, (.build [(.inl [(.bool false)]), (.inr ((.tmp 5), 6)), (.inl [(.int .i64 0)]), (.inl [(deep [])]), (.inl [(deep [])])]))),
    ((some 7), (none, (.build [(.inr ((.const (.int .i64 7)), 1)), (.inl [(.int .u64 0)]), (.inl [(.int .i64 0)]), (.inl [(.int .i64 0)]), (.inl [(.string ⟨#[]⟩)]), (.inr ((.const (.int .i64 2)), 1))]))),
    ((some 8), (none, (.build [(.inl [(.bool false)]), (.inr ((.tmp 7), 6)), (.inl [(.int .i64 0)]), (.inl [(deep [])]), (.inl [(deep [])])]))),
    ((some 9), (none, (.mks t_api_Caveat 10 false [(.tmp 6), (.tmp 8)]))),
    ((some 10), (none, (.build [(.inl [(.int .i64 0), (.int .i64 0)]), (.inl [(.int .i64 0)]), (.inl [(.int .i64 0)]), (.inr ((.tmp 9), 1)), (.inl (List.replicate 32 (.int .u8 0))), (.inl [(deep [])])]))),
    ((some 1), (none, (.alloc [(.int .i64 0), (.int .i64 0), (.int .i64 0), (.int .i64 0), (lin t_api_Caveat []), (.int .u8 0), (.int .u8 0), (.int .u8 0), (.int .u8 0), (.int .u8 0), (.int .u8 0), (.int .u8 0), (.int .u8 0), (.int .u8 0), (.int .u8 0), (.int .u8 0), (.int .u8 0), (.int .u8 0), (.int .u8 0), (.int .u8 0), (.int .u8 0), (.int .u8 0), (.int .u8 0), (.int .u8 0), (.int .u8 0), (.int .u8 0), (.int .u8 0), (.int .u8 0), (.int .u8 0), (.int .u8 0), (.int .u8 0), (.int .u8 0), (.int .u8 0), (.int .u8 0), (.int .u8 0), (.int .u8 0), (.int .u8 0), (lin t_api_Bound [])]))),
    (none, (none, (.st 38 (.tmp 1) (.tmp 10))))])
  (.seq (.reg [((some 11), (none, (.ldA 38 (.tmp 1)))),
    ((some 12), (none, (.build [(.inr ((.const (.int .u8 1)), 1)), (.inl [(.int .u8 0)]), (.inl [(.int .u8 0)]), (.inl [(.int .u8 0)]), (.inl [(.int .u8 0)]), (.inl [(.int .u8 0)]), (.inl [(.int .u8 0)]), (.inl [(.int .u8 0)]), (.inl [(.int .u8 0)]), (.inl [(.int .u8 0)]), (.inl [(.int .u8 0)]), (.inl [(.int .u8 0)]), (.inl [(.int .u8 0)]), (.inl [(.int .u8 0)]), (.inl [(.int .u8 0)]), (.inl [(.int .u8 0)]), (.inl [(.int .u8 0)]), (.inl [(.int .u8 0)]), (.inl [(.int .u8 0)]), (.inl [(.int .u8 0)]), (.inl [(.int .u8 0)]), (.inl [(.int .u8 0)]), (.inl [(.int .u8 0)]), (.inl [(.int .u8 0)]), (.inl [(.int .u8 0)]), (.inl [(.int .u8 0)]), (.inl [(.int .u8 0)]), (.inl [(.int .u8 0)]), (.inl [(.int .u8 0)]), (.inl [(.int .u8 0)]), (.inl [(.int .u8 0)]), (.inl [(.int .u8 0)])]))),
    ((some 13), (none, (.build [(.inr ((.const (.int .u8 2)), 1)), (.inl [(.int .u8 0)]), (.inl [(.int .u8 0)]), (.inl [(.int .u8 0)]), (.inl [(.int .u8 0)]), (.inl [(.int .u8 0)]), (.inl [(.int .u8 0)]), (.inl [(.int .u8 0)]), (.inl [(.int .u8 0)]), (.inl [(.int .u8 0)]), (.inl [(.int .u8 0)]), (.inl [(.int .u8 0)]), (.inl [(.int .u8 0)]), (.inl [(.int .u8 0)]), (.inl [(.int .u8 0)]), (.inl [(.int .u8 0)]), (.inl [(.int .u8 0)]), (.inl [(.int .u8 0)]), (.inl [(.int .u8 0)]), (.inl [(.int .u8 0)]), (.inl [(.int .u8 0)]), (.inl [(.int .u8 0)]), (.inl [(.int .u8 0)]), (.inl [(.int .u8 0)]), (.inl [(.int .u8 0)]), (.inl [(.int .u8 0)]), (.inl [(.int .u8 0)]), (.inl [(.int .u8 0)]), (.inl [(.int .u8 0)]), (.inl [(.int .u8 0)]), (.inl [(.int .u8 0)]), (.inl [(.int .u8 0)])]))),
    ((some 14), (none, (.build [(.inr ((.const (.int .u8 3)), 1)), (.inl [(.int .u8 0)]), (.inl [(.int .u8 0)]), (.inl [(.int .u8 0)]), (.inl [(.int .u8 0)]), (.inl [(.int .u8 0)]), (.inl [(.int .u8 0)]), (.inl [(.int .u8 0)]), (.inl [(.int .u8 0)]), (.inl [(.int .u8 0)]), (.inl [(.int .u8 0)]), (.inl [(.int .u8 0)]), (.inl [(.int .u8 0)]), (.inl [(.int .u8 0)]), (.inl [(.int .u8 0)]), (.inl [(.int .u8 0)]), (.inl [(.int .u8 0)]), (.inl [(.int .u8 0)]), (.inl [(.int .u8 0)]), (.inl [(.int .u8 0)]), (.inl [(.int .u8 0)]), (.inl [(.int .u8 0)]), (.inl [(.int .u8 0)]), (.inl [(.int .u8 0)]), (.inl [(.int .u8 0)]), (.inl [(.int .u8 0)]), (.inl [(.int .u8 0)]), (.inl [(.int .u8 0)]), (.inl [(.int .u8 0)]), (.inl [(.int .u8 0)]), (.inl [(.int .u8 0)]), (.inl [(.int .u8 0)])]))),
    ((some 15), (none, (.mks t_api_Tag 32 false [(.tmp 12), (.tmp 13), (.tmp 14)]))),
    ((some 16), (none, (.call f_ledger_Limited [(.tmp 11), (.tmp 15)]))),
    ((some 2), (none, (.steal 16)))])
  (.seq (.reg [((some 18), (none, (.mv (.tmp 2)))),
    ((some 19), (none, (.call f_ledger_Add [(.const (.slice none 0 0)), (.tmp 18)]))),
    ((some 17), (none, (.steal 19))),
    ((some 20), (none, (.extr 17 0))),
    ((some 21), (none, (.extr 17 1))),
    ((some 3), (none, (.steal 20))),
    ((some 4), (none, (.mv (.tmp 21))))])
  (.seq (.reg [((some 22), (none, (.mv (.tmp 4)))),
    ((some 23), (none, (.bi .eql (.tmp 22) (.const (.int .i64 0))))),
    ((some 24), (none, (.mv (.tmp 23)))),
    ((some 25), ((some (24, true)), (.mv (.tmp 2)))),
    ((some 26), ((some (24, true)), (.len (.tmp 25)))),
    ((some 27), ((some (24, true)), (.bi .eql (.tmp 26) (.const (.int .i64 1))))),
    ((some 28), (none, (.pick (.tmp 24) (.tmp 27) (.const (.bool false))))),
    ((some 29), (none, (.mv (.tmp 28)))),
    ((some 30), ((some (29, true)), (.mv (.tmp 2)))),
    ((some 31), ((some (29, true)), (.ixS 32 (.tmp 30) (.const (.int .i64 0))))),
    ((some 32), ((some (29, true)), (.ldA 32 (.tmp 31)))),
    ((some 33), ((some (29, true)), (.build [(.inr ((.const (.int .u8 3)), 1)), (.inl [(.int .u8 0)]), (.inl [(.int .u8 0)]), (.inl [(.int .u8 0)]), (.inl [(.int .u8 0)]), (.inl [(.int .u8 0)]), (.inl [(.int .u8 0)]), (.inl [(.int .u8 0)]), (.inl [(.int .u8 0)]), (.inl [(.int .u8 0)]), (.inl [(.int .u8 0)]), (.inl [(.int .u8 0)]), (.inl [(.int .u8 0)]), (.inl [(.int .u8 0)]), (.inl [(.int .u8 0)]), (.inl [(.int .u8 0)]), (.inl [(.int .u8 0)]), (.inl [(.int .u8 0)]), (.inl [(.int .u8 0)]), (.inl [(.int .u8 0)]), (.inl [(.int .u8 0)]), (.inl [(.int .u8 0)]), (.inl [(.int .u8 0)]), (.inl [(.int .u8 0)]), (.inl [(.int .u8 0)]), (.inl [(.int .u8 0)]), (.inl [(.int .u8 0)]), (.inl [(.int .u8 0)]), (.inl [(.int .u8 0)]), (.inl [(.int .u8 0)]), (.inl [(.int .u8 0)]), (.inl [(.int .u8 0)])]))),
    ((some 34), ((some (29, true)), (.eqA false (List.replicate 32 (.int .u8)) (.tmp 32) (.tmp 33)))),
    ((some 35), (none, (.pick (.tmp 29) (.tmp 34) (.const (.bool false))))),
    ((some 36), (none, (.mv (.tmp 35)))),
    ((some 37), ((some (36, true)), (.mv (.tmp 3)))),
    ((some 38), ((some (36, true)), (.build [(.inr ((.const (.int .u8 3)), 1)), (.inl [(.int .u8 0)]), (.inl [(.int .u8 0)]), (.inl [(.int .u8 0)]), (.inl [(.int .u8 0)]), (.inl [(.int .u8 0)]), (.inl [(.int .u8 0)]), (.inl [(.int .u8 0)]), (.inl [(.int .u8 0)]), (.inl [(.int .u8 0)]), (.inl [(.int .u8 0)]), (.inl [(.int .u8 0)]), (.inl [(.int .u8 0)]), (.inl [(.int .u8 0)]), (.inl [(.int .u8 0)]), (.inl [(.int .u8 0)]), (.inl [(.int .u8 0)]), (.inl [(.int .u8 0)]), (.inl [(.int .u8 0)]), (.inl [(.int .u8 0)]), (.inl [(.int .u8 0)]), (.inl [(.int .u8 0)]), (.inl [(.int .u8 0)]), (.inl [(.int .u8 0)]), (.inl [(.int .u8 0)]), (.inl [(.int .u8 0)]), (.inl [(.int .u8 0)]), (.inl [(.int .u8 0)]), (.inl [(.int .u8 0)]), (.inl [(.int .u8 0)]), (.inl [(.int .u8 0)]), (.inl [(.int .u8 0)])]))),
    ((some 39), ((some (36, true)), (.call f_ledger_Number [(.tmp 37), (.tmp 38)]))),
    ((some 40), ((some (36, true)), (.bi .eql (.tmp 39) (.const (.int .i64 1))))),
    ((some 41), (none, (.pick (.tmp 36) (.tmp 40) (.const (.bool false))))),
    ((some 0), (none, (.mv (.tmp 41))))])
  .ret)))))
end Go.PE
