/- Pure code, printed by a program: the registry. Mints; is a caveat valid? Mints: lists of caveats; is a list of mints valid? Mints: copies. Mints: copies of lists of mints; Add. Mints: Add. Mints: Find. Mints: are they the same? -/
import Derived.Test.YtgipgpopmpcddaaPartE
import Derived.Test.YtgipgpopmpcddaaPartD
set_option linter.all false
namespace Go.PE
open Go
/-- macaroon/macaroonlaw22.few: 20 slots, results [(.t 2)] -/
def law22_fewC_j1 : PC :=
  (.seq (.block 1 (.seq (.reg [((some 10), (none, (.mv (.tmp 0)))),
       ((some 11), (none, (.mv (.tmp 3)))),
       ((some 12), (none, (.ixS 3 (.tmp 10) (.tmp 11)))),
       ((some 13), (none, (.fa 2 (.tmp 12)))),
       ((some 14), (none, (.ld false (.tmp 13)))),
       ((some 15), (none, (.len (.tmp 14)))),
       ((some 16), (none, (.bi .gtr (.tmp 15) (.const (.int .i64 70)))))])
  (.cond (.tmp 16)
       (.seq (.reg [((some 2), (none, (.mv (.const (.bool false)))))])
  .ret)
       .skip)))
  (.reg [((some 8), (none, (.mv (.tmp 3)))),
      ((some 9), (none, (.bi .add (.tmp 8) (.const (.int .i64 1))))),
      ((some 3), (none, (.mv (.tmp 9))))]))
def law22_fewC : PC :=
  (.seq (.reg [((some 2), (none, (.mv (.const (.bool false)))))])
  (.seq (.seq (.reg [((some 3), (none, (.mv (.const (.int .i64 0)))))])
  (.block 0 (.loop (.seq (.seq (.reg [((some 4), (none, (.mv (.tmp 3)))),
      ((some 5), (none, (.mv (.tmp 0)))),
      ((some 6), (none, (.len (.tmp 5)))),
      ((some 7), (none, (.bi .lss (.tmp 4) (.tmp 6))))])
  (.cond (.tmp 7)
      .skip
      (.exit 0)))
  law22_fewC_j1))))
  (.seq (.reg [((some 17), (none, (.mv (.tmp 0)))),
    ((some 18), (none, (.len (.tmp 17)))),
    ((some 19), (none, (.bi .leq (.tmp 18) (.const (.int .i64 40))))),
    ((some 2), (none, (.mv (.tmp 19))))])
  .ret)))
/-- macaroon/macaroonlaw22.awake: 28 slots, results [(.t 0)] -/
def law22_awakeC (f_law22_rides : Nat) (t_api_Caveat : Nat) (f_registry_Add : Nat) (f_registry_Extends : Nat) : PC :=
  (.seq (.reg [((some 0), (none, (.mv (.const (.bool false)))))])
  (.seq (.reg [((some 4), (none, (.call f_law22_rides [(.const (.int .i64 1))]))),
    ((some 5), (none, (.call f_law22_rides [(.const (.int .i64 2))]))),
    ((some 6), (none, (.mks t_api_Caveat 10 false [(.tmp 4), (.tmp 5)]))),
    ((some 7), (none, (.build [(.inr ((.const (.int .i64 1)), 1)), (.inr ((.const (.int .i64 1)), 1)), (.inr ((.tmp 6), 1))]))),
    ((some 8), (none, (.call f_registry_Add [(.const (.slice none 0 0)), (.tmp 7)]))),
    ((some 3), (none, (.steal 8))),
    ((some 9), (none, (.extr 3 0))),
    ((some 10), (none, (.extr 3 1))),
    ((some 1), (none, (.steal 9))),
    ((some 2), (none, (.mv (.tmp 10))))])
  (.seq (.reg [((some 11), (none, (.mv (.tmp 2)))),
    ((some 12), (none, (.bi .eql (.tmp 11) (.const (.int .i64 0))))),
    ((some 13), (none, (.mv (.tmp 12)))),
    ((some 14), ((some (13, true)), (.mv (.tmp 1)))),
    ((some 15), ((some (13, true)), (.call f_law22_rides [(.const (.int .i64 1))]))),
    ((some 16), ((some (13, true)), (.call f_law22_rides [(.const (.int .i64 2))]))),
    ((some 17), ((some (13, true)), (.call f_law22_rides [(.const (.int .i64 3))]))),
    ((some 18), ((some (13, true)), (.mks t_api_Caveat 10 false [(.tmp 15), (.tmp 16), (.tmp 17)]))),
    ((some 19), ((some (13, true)), (.call f_registry_Extends [(.tmp 14), (.const (.int .i64 1)), (.const (.int .i64 1)), (.tmp 18)]))),
    ((some 20), (none, (.pick (.tmp 13) (.tmp 19) (.const (.bool false))))),
    ((some 21), (none, (.mv (.tmp 20)))),
    ((some 22), ((some (21, true)), (.mv (.tmp 1)))),
    ((some 23), ((some (21, true)), (.call f_law22_rides [(.const (.int .i64 1))]))),
    ((some 24), ((some (21, true)), (.mks t_api_Caveat 10 false [(.tmp 23)]))),
    ((some 25), ((some (21, true)), (.call f_registry_Extends [(.tmp 22), (.const (.int .i64 1)), (.const (.int .i64 1)), (.tmp 24)]))),
    ((some 26), ((some (21, true)), (.un .not (.tmp 25)))),
    ((some 27), (none, (.pick (.tmp 21) (.tmp 26) (.const (.bool false))))),
    ((some 0), (none, (.mv (.tmp 27))))])
  .ret)))
/-- macaroon/macaroonlaw22.made: 38 slots, results [(.t 2)] -/
def law22_madeC_j1 (f_made_Deck_Next : Nat) (t_api_Caveat : Nat) (f_law22_rides : Nat) : PC :=
  (.seq (.block 3 (.ord (.one ((some 25), (none, (.fa 2 (.tmp 5))))
          (.one ((some 27), (none, (.mv (.tmp 0))))
          (.alt (.one ((some 26), (none, (.ld true (.tmp 25))))
           (.one ((some 28), (none, (.call f_made_Deck_Next [(.tmp 27), (.const (.int .i64 3))])))
           (.one ((some 29), (none, (.call f_law22_rides [(.tmp 28)])))
           (.one ((some 30), (none, (.mks t_api_Caveat 10 false [(.tmp 29)])))
           (.one ((some 31), (none, (.app t_api_Caveat 10 120 26 (.tmp 30))))
           (.one ((some 32), (none, (.fa 2 (.tmp 5))))
           (.one (none, (none, (.sts (.tmp 32) 31)))
           .done)))))))
          (.one ((some 28), (none, (.call f_made_Deck_Next [(.tmp 27), (.const (.int .i64 3))])))
           (.alt (.one ((some 26), (none, (.ld true (.tmp 25))))
            (.one ((some 29), (none, (.call f_law22_rides [(.tmp 28)])))
            (.one ((some 30), (none, (.mks t_api_Caveat 10 false [(.tmp 29)])))
            (.one ((some 31), (none, (.app t_api_Caveat 10 120 26 (.tmp 30))))
            (.one ((some 32), (none, (.fa 2 (.tmp 5))))
            (.one (none, (none, (.sts (.tmp 32) 31)))
            .done))))))
           (.one ((some 29), (none, (.call f_law22_rides [(.tmp 28)])))
            (.one ((some 30), (none, (.mks t_api_Caveat 10 false [(.tmp 29)])))
            (.one ((some 26), (none, (.ld true (.tmp 25))))
            (.one ((some 31), (none, (.app t_api_Caveat 10 120 26 (.tmp 30))))
            (.one ((some 32), (none, (.fa 2 (.tmp 5))))
            (.one (none, (none, (.sts (.tmp 32) 31)))
            .done)))))))))))))
  (.reg [((some 23), (none, (.mv (.tmp 6)))),
         ((some 24), (none, (.bi .sub (.tmp 23) (.const (.int .i64 1))))),
         ((some 6), (none, (.mv (.tmp 24))))]))
def law22_madeC_j2 (t_api_Mint : Nat) (f_made_Deck_Next : Nat) (f_made_Deck_Range : Nat) (t_api_Caveat : Nat) (f_law22_rides : Nat) : PC :=
  (.seq (.block 1 (.seq (.reg [((some 13), (none, (.mv (.tmp 3)))),
       ((some 14), (none, (.len (.tmp 13)))),
       ((some 15), (none, (.bi .add (.tmp 14) (.const (.int .i64 1))))),
       ((some 16), (none, (.mv (.tmp 0)))),
       ((some 17), (none, (.call f_made_Deck_Range [(.tmp 16), (.const (.int .i64 1)), (.const (.int .i64 3))]))),
       ((some 18), (none, (.build [(.inr ((.tmp 15), 1)), (.inr ((.tmp 17), 1)), (.inl [(deep [])])]))),
       ((some 5), (none, (.alloc [(.int .i64 0), (.int .i64 0), (lin t_api_Caveat [])]))),
       (none, (none, (.st 3 (.tmp 5) (.tmp 18))))])
  (.seq (.seq (.reg [((some 19), (none, (.mv (.tmp 0)))),
       ((some 20), (none, (.call f_made_Deck_Next [(.tmp 19), (.const (.int .i64 4))]))),
       ((some 6), (none, (.mv (.tmp 20))))])
  (.block 2 (.loop (.seq (.seq (.reg [((some 21), (none, (.mv (.tmp 6)))),
         ((some 22), (none, (.bi .gtr (.tmp 21) (.const (.int .i64 0)))))])
  (.cond (.tmp 22)
         .skip
         (.exit 2)))
  (law22_madeC_j1 f_made_Deck_Next t_api_Caveat f_law22_rides)))))
  (.reg [((some 33), (none, (.steal 3))),
       ((some 34), (none, (.ldA 3 (.tmp 5)))),
       ((some 35), (none, (.mks t_api_Mint 3 false [(.tmp 34)]))),
       ((some 36), (none, (.app t_api_Mint 3 40 33 (.tmp 35)))),
       ((some 3), (none, (.steal 36)))]))))
  (.reg [((some 11), (none, (.mv (.tmp 4)))),
      ((some 12), (none, (.bi .sub (.tmp 11) (.const (.int .i64 1))))),
      ((some 4), (none, (.mv (.tmp 12))))]))
def law22_madeC (t_api_Mint : Nat) (f_made_Deck_Next : Nat) (f_made_Deck_Range : Nat) (t_api_Caveat : Nat) (f_law22_rides : Nat) : PC :=
  (.seq (.reg [((some 2), (none, (.cnil t_api_Mint)))])
  (.seq (.reg [((some 3), (none, (.cnil t_api_Mint)))])
  (.seq (.seq (.reg [((some 7), (none, (.mv (.tmp 0)))),
    ((some 8), (none, (.call f_made_Deck_Next [(.tmp 7), (.const (.int .i64 5))]))),
    ((some 4), (none, (.mv (.tmp 8))))])
  (.block 0 (.loop (.seq (.seq (.reg [((some 9), (none, (.mv (.tmp 4)))),
      ((some 10), (none, (.bi .gtr (.tmp 9) (.const (.int .i64 0)))))])
  (.cond (.tmp 10)
      .skip
      (.exit 0)))
  (law22_madeC_j2 t_api_Mint f_made_Deck_Next f_made_Deck_Range t_api_Caveat f_law22_rides)))))
  (.seq (.reg [((some 37), (none, (.steal 3))),
    ((some 2), (none, (.steal 37)))])
  .ret))))
/-- macaroon/macaroonlaw22.rides: 6 slots, results [(.cA 2 10)] -/
def law22_ridesC (t_uint8 : Nat) : PC :=
  (.seq (.reg [((some 2), (none, (.alloc [(.bool false), (.int .i64 0), (.int .u64 0), (.int .i64 0), (.int .i64 0), (.string ⟨#[]⟩), (.int .i64 0), (.int .i64 0), (lin t_uint8 []), (lin t_uint8 [])])))])
  (.seq (.reg [((some 3), (none, (.mv (.tmp 0)))),
    ((some 4), (none, (.build [(.inr ((.const (.int .i64 7)), 1)), (.inl [(.int .u64 0)]), (.inl [(.int .i64 0)]), (.inl [(.int .i64 0)]), (.inl [(.string ⟨#[]⟩)]), (.inr ((.tmp 3), 1))]))),
    ((some 5), (none, (.build [(.inl [(.bool false)]), (.inr ((.tmp 4), 6)), (.inl [(.int .i64 0)]), (.inl [(deep [])]), (.inl [(deep [])])]))),
    (none, (none, (.st 10 (.tmp 2) (.tmp 5))))])
  .ret))
/-- macaroon/macaroonref21.AddMint: 42 slots, results [(.t 4), (.t 5)] -/
def ref21_AddMintC_j1 (t_api_Mint : Nat) : PC :=
  (.seq (.ord (.one ((some 36), (none, (.mks t_api_Mint 3 true [])))
    (.one ((some 37), (none, (.mv (.tmp 0))))
    (.one ((some 38), (none, (.app t_api_Mint 3 40 36 (.tmp 37))))
    (.one ((some 39), (none, (.ldA 3 (.tmp 3))))
    (.one ((some 40), (none, (.mks t_api_Mint 3 false [(.tmp 39)])))
    (.one ((some 41), (none, (.app t_api_Mint 3 40 38 (.tmp 40))))
    (.one ((some 4), (none, (.steal 41)))
    (.one ((some 5), (none, (.mv (.const (.int .i64 0)))))
    .done)))))))))
  .ret)
def ref21_AddMintC (t_api_Mint : Nat) (f_ref21_MintsOk : Nat) (f_ref10_AllValid : Nat) : PC :=
  (.seq (.reg [((some 3), (none, (.box 3 (.tmp 1)))),
    ((some 4), (none, (.cnil t_api_Mint))),
    ((some 5), (none, (.mv (.const (.int .i64 0)))))])
  (.seq (.block 0 (.seq (.reg [((some 7), (none, (.mv (.tmp 0)))),
     ((some 8), (none, (.call f_ref21_MintsOk [(.tmp 7)]))),
     ((some 9), (none, (.un .not (.tmp 8)))),
     ((some 6), (none, (.mv (.tmp 9))))])
  (.cond (.tmp 6)
     (.seq (.reg [((some 4), (none, (.cnil t_api_Mint))),
       ((some 5), (none, (.mv (.const (.int .i64 5)))))])
  .ret)
     (.seq (.reg [((some 11), (none, (.fa 0 (.tmp 3)))),
       ((some 12), (none, (.ld false (.tmp 11)))),
       ((some 13), (none, (.mv (.tmp 0)))),
       ((some 14), (none, (.len (.tmp 13)))),
       ((some 15), (none, (.bi .add (.tmp 14) (.const (.int .i64 1))))),
       ((some 16), (none, (.bi .neq (.tmp 12) (.tmp 15)))),
       ((some 10), (none, (.mv (.tmp 16))))])
  (.cond (.tmp 10)
       (.seq (.reg [((some 4), (none, (.cnil t_api_Mint))),
         ((some 5), (none, (.mv (.const (.int .i64 11)))))])
  .ret)
       (.seq (.reg [((some 18), (none, (.fa 1 (.tmp 3)))),
         ((some 19), (none, (.ld false (.tmp 18)))),
         ((some 20), (none, (.bi .lss (.tmp 19) (.const (.int .i64 1))))),
         ((some 21), (none, (.mv (.tmp 20)))),
         ((some 22), ((some (21, false)), (.fa 1 (.tmp 3)))),
         ((some 23), ((some (21, false)), (.ld false (.tmp 22)))),
         ((some 24), ((some (21, false)), (.bi .gtr (.tmp 23) (.const (.int .i64 1000))))),
         ((some 25), (none, (.pick (.tmp 21) (.const (.bool true)) (.tmp 24)))),
         ((some 17), (none, (.mv (.tmp 25))))])
  (.cond (.tmp 17)
         (.seq (.reg [((some 4), (none, (.cnil t_api_Mint))),
           ((some 5), (none, (.mv (.const (.int .i64 1)))))])
  .ret)
         (.seq (.reg [((some 27), (none, (.fa 2 (.tmp 3)))),
           ((some 28), (none, (.ld false (.tmp 27)))),
           ((some 29), (none, (.len (.tmp 28)))),
           ((some 30), (none, (.bi .gtr (.tmp 29) (.const (.int .i64 64))))),
           ((some 26), (none, (.mv (.tmp 30))))])
  (.cond (.tmp 26)
           (.seq (.reg [((some 4), (none, (.cnil t_api_Mint))),
             ((some 5), (none, (.mv (.const (.int .i64 2)))))])
  .ret)
           (.seq (.reg [((some 32), (none, (.fa 2 (.tmp 3)))),
             ((some 33), (none, (.ld false (.tmp 32)))),
             ((some 34), (none, (.call f_ref10_AllValid [(.tmp 33)]))),
             ((some 35), (none, (.un .not (.tmp 34)))),
             ((some 31), (none, (.mv (.tmp 35))))])
  (.cond (.tmp 31)
             (.seq (.reg [((some 4), (none, (.cnil t_api_Mint))),
               ((some 5), (none, (.mv (.const (.int .i64 5)))))])
  .ret)
             .skip)))))))))))
  (ref21_AddMintC_j1 t_api_Mint)))
/-- macaroon/macaroonref21.SameMints: 27 slots, results [(.t 4)] -/
def ref21_SameMintsC_j1 (f_ref18_SameMint : Nat) : PC :=
  (.seq (.block 1 (.seq (.drw [((some 17), (none, (.mv (.tmp 0)))),
       ((some 18), (none, (.mv (.tmp 5)))),
       ((some 19), (none, (.ixS 3 (.tmp 17) (.tmp 18)))),
       ((some 20), (none, (.ldA 3 (.tmp 19)))),
       ((some 21), (none, (.mv (.tmp 1)))),
       ((some 22), (none, (.mv (.tmp 5)))),
       ((some 23), (none, (.ixS 3 (.tmp 21) (.tmp 22)))),
       ((some 24), (none, (.ldA 3 (.tmp 23)))),
       ((some 25), (none, (.call f_ref18_SameMint [(.tmp 20), (.tmp 24)]))),
       ((some 26), (none, (.un .not (.tmp 25))))])
  (.cond (.tmp 26)
       (.seq (.reg [((some 4), (none, (.mv (.const (.bool false)))))])
  .ret)
       .skip)))
  (.reg [((some 15), (none, (.mv (.tmp 5)))),
      ((some 16), (none, (.bi .add (.tmp 15) (.const (.int .i64 1))))),
      ((some 5), (none, (.mv (.tmp 16))))]))
def ref21_SameMintsC_j2 (f_ref18_SameMint : Nat) : PC :=
  (.seq (.seq (.reg [((some 5), (none, (.mv (.const (.int .i64 0)))))])
  (.block 0 (.loop (.seq (.seq (.reg [((some 11), (none, (.mv (.tmp 5)))),
      ((some 12), (none, (.mv (.tmp 0)))),
      ((some 13), (none, (.len (.tmp 12)))),
      ((some 14), (none, (.bi .lss (.tmp 11) (.tmp 13))))])
  (.cond (.tmp 14)
      .skip
      (.exit 0)))
  (ref21_SameMintsC_j1 f_ref18_SameMint)))))
  (.seq (.reg [((some 4), (none, (.mv (.const (.bool true)))))])
  .ret))
def ref21_SameMintsC (f_ref18_SameMint : Nat) : PC :=
  (.seq (.reg [((some 4), (none, (.mv (.const (.bool false)))))])
  (.seq (.seq (.reg [((some 6), (none, (.mv (.tmp 0)))),
    ((some 7), (none, (.len (.tmp 6)))),
    ((some 8), (none, (.mv (.tmp 1)))),
    ((some 9), (none, (.len (.tmp 8)))),
    ((some 10), (none, (.bi .neq (.tmp 7) (.tmp 9))))])
  (.cond (.tmp 10)
    (.seq (.reg [((some 4), (none, (.mv (.const (.bool false)))))])
  .ret)
    .skip))
  (ref21_SameMintsC_j2 f_ref18_SameMint)))
/-- macaroon/registry.Find: 23 slots, results [(.cA 4 3), (.t 5)] -/
def registry_FindC_j1 (t_api_Caveat : Nat) (f_chain_Copied : Nat) : PC :=
  (.seq (.reg [((some 14), (none, (.mv (.tmp 0)))),
    ((some 15), (none, (.mv (.tmp 6)))),
    ((some 16), (none, (.ixS 3 (.tmp 14) (.tmp 15)))),
    ((some 17), (none, (.ldA 3 (.tmp 16)))),
    ((some 7), (none, (.alloc [(.int .i64 0), (.int .i64 0), (lin t_api_Caveat [])]))),
    (none, (none, (.st 3 (.tmp 7) (.tmp 17))))])
  (.seq (.reg [((some 18), (none, (.fa 2 (.tmp 7)))),
    ((some 19), (none, (.ld false (.tmp 18)))),
    ((some 20), (none, (.call f_chain_Copied [(.tmp 19)]))),
    ((some 21), (none, (.fa 2 (.tmp 7)))),
    (none, (none, (.sts (.tmp 21) 20)))])
  (.seq (.reg [((some 22), (none, (.ldA 3 (.tmp 7)))),
    (none, (none, (.st 3 (.tmp 4) (.tmp 22)))),
    ((some 5), (none, (.mv (.const (.bool true)))))])
  .ret)))
def registry_FindC (t_api_Caveat : Nat) (f_registry_Find_1 : Nat) (f_slices_IndexFunc_api_Mint_api_Mint : Nat) (f_chain_Copied : Nat) : PC :=
  (.seq (.reg [((some 3), (none, (.box 1 (.tmp 1)))),
    ((some 4), (none, (.alloc [(.int .i64 0), (.int .i64 0), (lin t_api_Caveat [])]))),
    ((some 5), (none, (.mv (.const (.bool false)))))])
  (.seq (.reg [((some 8), (none, (.mv (.tmp 0)))),
    ((some 9), (none, (.mkf f_registry_Find_1 [] [(.tmp 3)]))),
    ((some 10), (none, (.call f_slices_IndexFunc_api_Mint_api_Mint [(.tmp 8), (.tmp 9)]))),
    ((some 6), (none, (.mv (.tmp 10))))])
  (.seq (.seq (.reg [((some 11), (none, (.mv (.tmp 6)))),
    ((some 12), (none, (.bi .lss (.tmp 11) (.const (.int .i64 0)))))])
  (.cond (.tmp 12)
    (.seq (.reg [((some 13), (none, (.build [(.inl [(.int .i64 0)]), (.inl [(.int .i64 0)]), (.inl [(deep [])])]))),
      (none, (none, (.st 3 (.tmp 4) (.tmp 13)))),
      ((some 5), (none, (.mv (.const (.bool false)))))])
  .ret)
    .skip))
  (registry_FindC_j1 t_api_Caveat f_chain_Copied))))
/-- macaroon/macaroonref21.FindMint: 25 slots, results [(.cA 4 3), (.t 5)] -/
def ref21_FindMintC_j1 : PC :=
  (.seq (.block 1 (.seq (.reg [((some 13), (none, (.mv (.tmp 0)))),
       ((some 14), (none, (.mv (.tmp 6)))),
       ((some 15), (none, (.ixS 3 (.tmp 13) (.tmp 14)))),
       ((some 16), (none, (.fa 0 (.tmp 15)))),
       ((some 17), (none, (.ld false (.tmp 16)))),
       ((some 18), (none, (.mv (.tmp 1)))),
       ((some 19), (none, (.bi .eql (.tmp 17) (.tmp 18))))])
  (.cond (.tmp 19)
       (.seq (.reg [((some 20), (none, (.mv (.tmp 0)))),
         ((some 21), (none, (.mv (.tmp 6)))),
         ((some 22), (none, (.ixS 3 (.tmp 20) (.tmp 21)))),
         ((some 23), (none, (.ldA 3 (.tmp 22)))),
         (none, (none, (.st 3 (.tmp 4) (.tmp 23)))),
         ((some 5), (none, (.mv (.const (.bool true)))))])
  .ret)
       .skip)))
  (.reg [((some 11), (none, (.mv (.tmp 6)))),
      ((some 12), (none, (.bi .add (.tmp 11) (.const (.int .i64 1))))),
      ((some 6), (none, (.mv (.tmp 12))))]))
def ref21_FindMintC (t_api_Caveat : Nat) : PC :=
  (.seq (.reg [((some 4), (none, (.alloc [(.int .i64 0), (.int .i64 0), (lin t_api_Caveat [])]))),
    ((some 5), (none, (.mv (.const (.bool false)))))])
  (.seq (.seq (.reg [((some 6), (none, (.mv (.const (.int .i64 0)))))])
  (.block 0 (.loop (.seq (.seq (.reg [((some 7), (none, (.mv (.tmp 6)))),
      ((some 8), (none, (.mv (.tmp 0)))),
      ((some 9), (none, (.len (.tmp 8)))),
      ((some 10), (none, (.bi .lss (.tmp 7) (.tmp 9))))])
  (.cond (.tmp 10)
      .skip
      (.exit 0)))
  ref21_FindMintC_j1))))
  (.seq (.reg [((some 24), (none, (.build [(.inl [(.int .i64 0)]), (.inl [(.int .i64 0)]), (.inl [(deep [])])]))),
    (none, (none, (.st 3 (.tmp 4) (.tmp 24)))),
    ((some 5), (none, (.mv (.const (.bool false)))))])
  .ret)))
/-- macaroon/registry.Valid: 35 slots, results [(.t 2)] -/
def registry_ValidC_j1 (t_api_Caveat : Nat) (f_registry_epochs : Nat) (f_registry_bad : Nat) : PC :=
  (.seq (.block 1 (.seq (.reg [((some 9), (none, (.mv (.tmp 7)))),
       ((some 10), (none, (.ixS 3 (.tmp 5) (.tmp 7)))),
       ((some 11), (none, (.ldA 3 (.tmp 10)))),
       ((some 4), (none, (.alloc [(.int .i64 0), (.int .i64 0), (lin t_api_Caveat [])]))),
       ((some 3), (none, (.mv (.tmp 9)))),
       (none, (none, (.st 3 (.tmp 4) (.tmp 11))))])
  (.seq (.reg [((some 12), (none, (.fa 0 (.tmp 4)))),
       ((some 13), (none, (.ld false (.tmp 12)))),
       ((some 14), (none, (.mv (.tmp 3)))),
       ((some 15), (none, (.bi .add (.tmp 14) (.const (.int .i64 1))))),
       ((some 16), (none, (.bi .neq (.tmp 13) (.tmp 15)))),
       ((some 17), (none, (.mv (.tmp 16)))),
       ((some 18), ((some (17, false)), (.fa 1 (.tmp 4)))),
       ((some 19), ((some (17, false)), (.ld false (.tmp 18)))),
       ((some 20), ((some (17, false)), (.call f_registry_epochs [(.tmp 19)]))),
       ((some 21), ((some (17, false)), (.un .not (.tmp 20)))),
       ((some 22), (none, (.pick (.tmp 17) (.const (.bool true)) (.tmp 21)))),
       ((some 23), (none, (.mv (.tmp 22)))),
       ((some 24), ((some (23, false)), (.fa 2 (.tmp 4)))),
       ((some 25), ((some (23, false)), (.ld false (.tmp 24)))),
       ((some 26), ((some (23, false)), (.len (.tmp 25)))),
       ((some 27), ((some (23, false)), (.bi .gtr (.tmp 26) (.const (.int .i64 64))))),
       ((some 28), (none, (.pick (.tmp 23) (.const (.bool true)) (.tmp 27)))),
       ((some 29), (none, (.mv (.tmp 28)))),
       ((some 30), ((some (29, false)), (.fa 2 (.tmp 4)))),
       ((some 31), ((some (29, false)), (.ld false (.tmp 30)))),
       ((some 32), ((some (29, false)), (.call f_registry_bad [(.tmp 31)]))),
       ((some 33), (none, (.pick (.tmp 29) (.const (.bool true)) (.tmp 32))))])
  (.cond (.tmp 33)
       (.seq (.reg [((some 2), (none, (.mv (.const (.bool false)))))])
  .ret)
       .skip))))
  (.reg [((some 34), (none, (.bi .add (.tmp 7) (.const (.int .i64 1))))),
      ((some 7), (none, (.mv (.tmp 34))))]))
def registry_ValidC (t_api_Caveat : Nat) (f_registry_epochs : Nat) (f_registry_bad : Nat) : PC :=
  (.seq (.reg [((some 2), (none, (.mv (.const (.bool false)))))])
  (.seq (.seq (.reg [((some 5), (none, (.mv (.tmp 0)))),
    ((some 6), (none, (.len (.tmp 5)))),
    ((some 7), (none, (.mv (.const (.int .i64 0)))))])
  (.block 0 (.loop (.seq (.reg [((some 8), (none, (.bi .lss (.tmp 7) (.tmp 6))))])
  (.seq (.cond (.tmp 8)
      .skip
      (.exit 0))
  (registry_ValidC_j1 t_api_Caveat f_registry_epochs f_registry_bad))))))
  (.seq (.reg [((some 2), (none, (.mv (.const (.bool true)))))])
  .ret)))
/-- macaroon/macaroonref21.MintsOk: 52 slots, results [(.t 2)] -/
def ref21_MintsOkC_j1 (f_ref10_AllValid : Nat) : PC :=
  (.seq (.block 1 (.seq (.reg [((some 10), (none, (.mv (.tmp 0)))),
       ((some 11), (none, (.mv (.tmp 3)))),
       ((some 12), (none, (.ixS 3 (.tmp 10) (.tmp 11)))),
       ((some 13), (none, (.fa 0 (.tmp 12)))),
       ((some 14), (none, (.ld false (.tmp 13)))),
       ((some 15), (none, (.mv (.tmp 3)))),
       ((some 16), (none, (.bi .add (.tmp 15) (.const (.int .i64 1))))),
       ((some 17), (none, (.bi .neq (.tmp 14) (.tmp 16)))),
       ((some 18), (none, (.mv (.tmp 17)))),
       ((some 19), ((some (18, false)), (.mv (.tmp 0)))),
       ((some 20), ((some (18, false)), (.mv (.tmp 3)))),
       ((some 21), ((some (18, false)), (.ixS 3 (.tmp 19) (.tmp 20)))),
       ((some 22), ((some (18, false)), (.fa 1 (.tmp 21)))),
       ((some 23), ((some (18, false)), (.ld false (.tmp 22)))),
       ((some 24), ((some (18, false)), (.bi .lss (.tmp 23) (.const (.int .i64 1))))),
       ((some 25), (none, (.pick (.tmp 18) (.const (.bool true)) (.tmp 24)))),
       ((some 26), (none, (.mv (.tmp 25)))),
       ((some 27), ((some (26, false)), (.mv (.tmp 0)))),
       ((some 28), ((some (26, false)), (.mv (.tmp 3)))),
       ((some 29), ((some (26, false)), (.ixS 3 (.tmp 27) (.tmp 28)))),
       ((some 30), ((some (26, false)), (.fa 1 (.tmp 29)))),
       ((some 31), ((some (26, false)), (.ld false (.tmp 30)))),
       ((some 32), ((some (26, false)), (.bi .gtr (.tmp 31) (.const (.int .i64 1000))))),
       ((some 33), (none, (.pick (.tmp 26) (.const (.bool true)) (.tmp 32)))),
       ((some 34), (none, (.mv (.tmp 33)))),
       ((some 35), ((some (34, false)), (.mv (.tmp 0)))),
       ((some 36), ((some (34, false)), (.mv (.tmp 3)))),
       ((some 37), ((some (34, false)), (.ixS 3 (.tmp 35) (.tmp 36)))),
       ((some 38), ((some (34, false)), (.fa 2 (.tmp 37)))),
       ((some 39), ((some (34, false)), (.ld false (.tmp 38)))),
       ((some 40), ((some (34, false)), (.len (.tmp 39)))),
       ((some 41), ((some (34, false)), (.bi .gtr (.tmp 40) (.const (.int .i64 64))))),
       ((some 42), (none, (.pick (.tmp 34) (.const (.bool true)) (.tmp 41)))),
       ((some 43), (none, (.mv (.tmp 42)))),
       ((some 44), ((some (43, false)), (.mv (.tmp 0)))),
       ((some 45), ((some (43, false)), (.mv (.tmp 3)))),
       ((some 46), ((some (43, false)), (.ixS 3 (.tmp 44) (.tmp 45)))),
       ((some 47), ((some (43, false)), (.fa 2 (.tmp 46)))),
       ((some 48), ((some (43, false)), (.ld false (.tmp 47)))),
       ((some 49), ((some (43, false)), (.call f_ref10_AllValid [(.tmp 48)]))),
       ((some 50), ((some (43, false)), (.un .not (.tmp 49)))),
       ((some 51), (none, (.pick (.tmp 43) (.const (.bool true)) (.tmp 50))))])
  (.cond (.tmp 51)
       (.seq (.reg [((some 2), (none, (.mv (.const (.bool false)))))])
  .ret)
       .skip)))
  (.reg [((some 8), (none, (.mv (.tmp 3)))),
      ((some 9), (none, (.bi .add (.tmp 8) (.const (.int .i64 1))))),
      ((some 3), (none, (.mv (.tmp 9))))]))
def ref21_MintsOkC (f_ref10_AllValid : Nat) : PC :=
  (.seq (.reg [((some 2), (none, (.mv (.const (.bool false)))))])
  (.seq (.seq (.reg [((some 3), (none, (.mv (.const (.int .i64 0)))))])
  (.block 0 (.loop (.seq (.seq (.reg [((some 4), (none, (.mv (.tmp 3)))),
      ((some 5), (none, (.mv (.tmp 0)))),
      ((some 6), (none, (.len (.tmp 5)))),
      ((some 7), (none, (.bi .lss (.tmp 4) (.tmp 6))))])
  (.cond (.tmp 7)
      .skip
      (.exit 0)))
  (ref21_MintsOkC_j1 f_ref10_AllValid)))))
  (.seq (.reg [((some 2), (none, (.mv (.const (.bool true)))))])
  .ret)))
/-- macaroon/registry.Extends: 31 slots, results [(.t 8)] -/
def registry_ExtendsC (f_registry_Find : Nat) (t_api_Caveat : Nat) (f_caveat_Same : Nat) (f_registry_order_begins : Nat) : PC :=
  (.seq (.reg [((some 8), (none, (.mv (.const (.bool false)))))])
  (.seq (.reg [((some 12), (none, (.mv (.tmp 0)))),
    ((some 13), (none, (.mv (.tmp 2)))),
    ((some 14), (none, (.call f_registry_Find [(.tmp 12), (.tmp 13)]))),
    ((some 11), (none, (.steal 14))),
    ((some 15), (none, (.extr 11 0))),
    ((some 16), (none, (.extr 11 1))),
    ((some 9), (none, (.alloc [(.int .i64 0), (.int .i64 0), (lin t_api_Caveat [])]))),
    (none, (none, (.st 3 (.tmp 9) (.tmp 15)))),
    ((some 10), (none, (.mv (.tmp 16))))])
  (.seq (.reg [((some 17), (none, (.mv (.tmp 10)))),
    ((some 18), (none, (.mv (.tmp 17)))),
    ((some 19), ((some (18, true)), (.fa 1 (.tmp 9)))),
    ((some 20), ((some (18, true)), (.ld false (.tmp 19)))),
    ((some 21), ((some (18, true)), (.mv (.tmp 1)))),
    ((some 22), ((some (18, true)), (.bi .eql (.tmp 20) (.tmp 21)))),
    ((some 23), (none, (.pick (.tmp 18) (.tmp 22) (.const (.bool false))))),
    ((some 24), (none, (.mv (.tmp 23)))),
    ((some 25), ((some (24, true)), (.build [(.inr ((.func f_caveat_Same), 1))]))),
    ((some 26), ((some (24, true)), (.mv (.tmp 3)))),
    ((some 27), ((some (24, true)), (.fa 2 (.tmp 9)))),
    ((some 28), ((some (24, true)), (.ld false (.tmp 27)))),
    ((some 29), ((some (24, true)), (.call f_registry_order_begins [(.tmp 25), (.tmp 26), (.tmp 28)]))),
    ((some 30), (none, (.pick (.tmp 24) (.tmp 29) (.const (.bool false))))),
    ((some 8), (none, (.mv (.tmp 30))))])
  .ret)))
/-- macaroon/macaroonref21.Extends: 42 slots, results [(.t 8)] -/
def ref21_ExtendsC (f_ref21_FindMint : Nat) (t_api_Caveat : Nat) (f_ref10_Same : Nat) : PC :=
  (.seq (.reg [((some 8), (none, (.mv (.const (.bool false)))))])
  (.seq (.reg [((some 12), (none, (.mv (.tmp 0)))),
    ((some 13), (none, (.mv (.tmp 2)))),
    ((some 14), (none, (.call f_ref21_FindMint [(.tmp 12), (.tmp 13)]))),
    ((some 11), (none, (.steal 14))),
    ((some 15), (none, (.extr 11 0))),
    ((some 16), (none, (.extr 11 1))),
    ((some 9), (none, (.alloc [(.int .i64 0), (.int .i64 0), (lin t_api_Caveat [])]))),
    (none, (none, (.st 3 (.tmp 9) (.tmp 15)))),
    ((some 10), (none, (.mv (.tmp 16))))])
  (.seq (.drw [((some 17), (none, (.mv (.tmp 10)))),
    ((some 18), (none, (.mv (.tmp 17)))),
    ((some 19), ((some (18, true)), (.fa 1 (.tmp 9)))),
    ((some 20), ((some (18, true)), (.ld false (.tmp 19)))),
    ((some 21), ((some (18, true)), (.mv (.tmp 1)))),
    ((some 22), ((some (18, true)), (.bi .eql (.tmp 20) (.tmp 21)))),
    ((some 23), (none, (.pick (.tmp 18) (.tmp 22) (.const (.bool false))))),
    ((some 24), (none, (.mv (.tmp 23)))),
    ((some 25), ((some (24, true)), (.fa 2 (.tmp 9)))),
    ((some 26), ((some (24, true)), (.ld false (.tmp 25)))),
    ((some 27), ((some (24, true)), (.len (.tmp 26)))),
    ((some 28), ((some (24, true)), (.mv (.tmp 3)))),
    ((some 29), ((some (24, true)), (.len (.tmp 28)))),
    ((some 30), ((some (24, true)), (.bi .leq (.tmp 27) (.tmp 29)))),
    ((some 31), (none, (.pick (.tmp 24) (.tmp 30) (.const (.bool false))))),
    ((some 32), (none, (.mv (.tmp 31)))),
    ((some 33), ((some (32, true)), (.fa 2 (.tmp 9)))),
    ((some 34), ((some (32, true)), (.ld false (.tmp 33)))),
    ((some 35), ((some (32, true)), (.mv (.tmp 3)))),
    ((some 36), ((some (32, true)), (.fa 2 (.tmp 9)))),
    ((some 37), ((some (32, true)), (.ld false (.tmp 36)))),
    ((some 38), ((some (32, true)), (.len (.tmp 37)))),
    ((some 39), ((some (32, true)), (.slS 10 (.tmp 35) none (some (.tmp 38)) none))),
    ((some 40), ((some (32, true)), (.call f_ref10_Same [(.tmp 34), (.tmp 39)]))),
    ((some 41), (none, (.pick (.tmp 32) (.tmp 40) (.const (.bool false))))),
    ((some 8), (none, (.mv (.tmp 41))))])
  .ret)))
/-- macaroon/registry.epochs: 9 slots, results [(.t 2)] -/
def registry_epochsC : PC :=
  (.seq (.reg [((some 2), (none, (.mv (.const (.bool false)))))])
  (.seq (.reg [((some 3), (none, (.mv (.tmp 0)))),
    ((some 4), (none, (.bi .geq (.tmp 3) (.const (.int .i64 1))))),
    ((some 5), (none, (.mv (.tmp 4)))),
    ((some 6), ((some (5, true)), (.mv (.tmp 0)))),
    ((some 7), ((some (5, true)), (.bi .leq (.tmp 6) (.const (.int .i64 1000))))),
    ((some 8), (none, (.pick (.tmp 5) (.tmp 7) (.const (.bool false))))),
    ((some 2), (none, (.mv (.tmp 8))))])
  .ret))
/-- macaroon/registry.bad: 5 slots, results [(.t 2)] -/
def registry_badC (f_slices_ContainsFunc_api_Caveat_api_Caveat : Nat) (f_registry_bad_1 : Nat) : PC :=
  (.seq (.reg [((some 2), (none, (.mv (.const (.bool false)))))])
  (.seq (.reg [((some 3), (none, (.mv (.tmp 0)))),
    ((some 4), (none, (.call f_slices_ContainsFunc_api_Caveat_api_Caveat [(.tmp 3), (.func f_registry_bad_1)]))),
    ((some 2), (none, (.mv (.tmp 4))))])
  .ret))
/-- macaroon/macaroonref10.AllValid: 16 slots, results [(.t 2)] -/
def ref10_AllValidC_j1 (f_ref10_Valid : Nat) : PC :=
  (.seq (.block 1 (.seq (.reg [((some 10), (none, (.mv (.tmp 0)))),
       ((some 11), (none, (.mv (.tmp 3)))),
       ((some 12), (none, (.ixS 10 (.tmp 10) (.tmp 11)))),
       ((some 13), (none, (.ldA 10 (.tmp 12)))),
       ((some 14), (none, (.call f_ref10_Valid [(.tmp 13)]))),
       ((some 15), (none, (.un .not (.tmp 14))))])
  (.cond (.tmp 15)
       (.seq (.reg [((some 2), (none, (.mv (.const (.bool false)))))])
  .ret)
       .skip)))
  (.reg [((some 8), (none, (.mv (.tmp 3)))),
      ((some 9), (none, (.bi .add (.tmp 8) (.const (.int .i64 1))))),
      ((some 3), (none, (.mv (.tmp 9))))]))
def ref10_AllValidC (f_ref10_Valid : Nat) : PC :=
  (.seq (.reg [((some 2), (none, (.mv (.const (.bool false)))))])
  (.seq (.seq (.reg [((some 3), (none, (.mv (.const (.int .i64 0)))))])
  (.block 0 (.loop (.seq (.seq (.reg [((some 4), (none, (.mv (.tmp 3)))),
      ((some 5), (none, (.mv (.tmp 0)))),
      ((some 6), (none, (.len (.tmp 5)))),
      ((some 7), (none, (.bi .lss (.tmp 4) (.tmp 6))))])
  (.cond (.tmp 7)
      .skip
      (.exit 0)))
  (ref10_AllValidC_j1 f_ref10_Valid)))))
  (.seq (.reg [((some 2), (none, (.mv (.const (.bool true)))))])
  .ret)))
/-- macaroon/macaroonref18.SameMint: 24 slots, results [(.t 4)] -/
def ref18_SameMintC (f_ref10_Same : Nat) : PC :=
  (.seq (.reg [((some 2), (none, (.box 3 (.tmp 0)))),
    ((some 3), (none, (.box 3 (.tmp 1)))),
    ((some 4), (none, (.mv (.const (.bool false)))))])
  (.seq (.reg [((some 5), (none, (.fa 0 (.tmp 2)))),
    ((some 6), (none, (.ld false (.tmp 5)))),
    ((some 7), (none, (.fa 0 (.tmp 3)))),
    ((some 8), (none, (.ld false (.tmp 7)))),
    ((some 9), (none, (.bi .eql (.tmp 6) (.tmp 8)))),
    ((some 10), (none, (.mv (.tmp 9)))),
    ((some 11), ((some (10, true)), (.fa 1 (.tmp 2)))),
    ((some 12), ((some (10, true)), (.ld false (.tmp 11)))),
    ((some 13), ((some (10, true)), (.fa 1 (.tmp 3)))),
    ((some 14), ((some (10, true)), (.ld false (.tmp 13)))),
    ((some 15), ((some (10, true)), (.bi .eql (.tmp 12) (.tmp 14)))),
    ((some 16), (none, (.pick (.tmp 10) (.tmp 15) (.const (.bool false))))),
    ((some 17), (none, (.mv (.tmp 16)))),
    ((some 18), ((some (17, true)), (.fa 2 (.tmp 2)))),
    ((some 19), ((some (17, true)), (.ld false (.tmp 18)))),
    ((some 20), ((some (17, true)), (.fa 2 (.tmp 3)))),
    ((some 21), ((some (17, true)), (.ld false (.tmp 20)))),
    ((some 22), ((some (17, true)), (.call f_ref10_Same [(.tmp 19), (.tmp 21)]))),
    ((some 23), (none, (.pick (.tmp 17) (.tmp 22) (.const (.bool false))))),
    ((some 4), (none, (.mv (.tmp 23))))])
  .ret))
/-- slices.IndexFunc[[]macaroon/api.Mint,macaroon/api.Mint]: 19 slots, results [(.t 4)] -/
def slices_IndexFunc_api_Mint_api_MintC_j1 : PC :=
  (.seq (.block 1 (.seq (.reg [((some 10), (none, (.mv (.tmp 8)))),
       ((some 5), (none, (.mv (.tmp 10))))])
  (.seq (.reg [((some 11), (none, (.mv (.tmp 1)))),
       ((some 12), (none, (.mv (.tmp 0)))),
       ((some 13), (none, (.mv (.tmp 5)))),
       ((some 14), (none, (.ixS 3 (.tmp 12) (.tmp 13)))),
       ((some 15), (none, (.ldA 3 (.tmp 14)))),
       ((some 16), (none, (.callv (.tmp 11) [(.tmp 15)])))])
  (.cond (.tmp 16)
       (.seq (.reg [((some 17), (none, (.mv (.tmp 5)))),
         ((some 4), (none, (.mv (.tmp 17))))])
  .ret)
       .skip))))
  (.reg [((some 18), (none, (.bi .add (.tmp 8) (.const (.int .i64 1))))),
      ((some 8), (none, (.mv (.tmp 18))))]))
def slices_IndexFunc_api_Mint_api_MintC : PC :=
  (.seq (.reg [((some 4), (none, (.mv (.const (.int .i64 0)))))])
  (.seq (.seq (.reg [((some 6), (none, (.mv (.tmp 0)))),
    ((some 7), (none, (.len (.tmp 6)))),
    ((some 8), (none, (.mv (.const (.int .i64 0)))))])
  (.block 0 (.loop (.seq (.reg [((some 9), (none, (.bi .lss (.tmp 8) (.tmp 7))))])
  (.seq (.cond (.tmp 9)
      .skip
      (.exit 0))
  slices_IndexFunc_api_Mint_api_MintC_j1)))))
  (.seq (.reg [((some 4), (none, (.mv (.const (.int .i64 (-1))))))])
  .ret)))
/-- macaroon/registry.Find$1: 8 slots, results [(.t 3)] -/
def registry_Find_1C : PC :=
  (.seq (.reg [((some 2), (none, (.box 3 (.tmp 0)))),
    ((some 3), (none, (.mv (.const (.bool false)))))])
  (.seq (.reg [((some 4), (none, (.fa 0 (.tmp 2)))),
    ((some 5), (none, (.ld false (.tmp 4)))),
    ((some 6), (none, (.ld false (.tmp 1)))),
    ((some 7), (none, (.bi .eql (.tmp 5) (.tmp 6)))),
    ((some 3), (none, (.mv (.tmp 7))))])
  .ret))
/-- macaroon/caveat.Same: 8 slots, results [(.t 4)] -/
def caveat_SameC (f_slices_EqualFunc_api_Caveat_api_Caveat_api_Caveat_api_Caveat : Nat) (f_caveat_Same_1 : Nat) : PC :=
  (.seq (.reg [((some 4), (none, (.mv (.const (.bool false)))))])
  (.seq (.reg [((some 5), (none, (.mv (.tmp 0)))),
    ((some 6), (none, (.mv (.tmp 1)))),
    ((some 7), (none, (.call f_slices_EqualFunc_api_Caveat_api_Caveat_api_Caveat_api_Caveat [(.tmp 5), (.tmp 6), (.func f_caveat_Same_1)]))),
    ((some 4), (none, (.mv (.tmp 7))))])
  .ret))
/-- (macaroon/registry.order).begins: 22 slots, results [(.t 6)] -/
def registry_order_beginsC : PC :=
  (.seq (.reg [((some 3), (none, (.box 1 (.tmp 0)))),
    ((some 6), (none, (.mv (.const (.bool false)))))])
  (.seq (.ord (.one ((some 7), (none, (.mv (.tmp 2))))
    (.one ((some 8), (none, (.len (.tmp 7))))
    (.one ((some 9), (none, (.mv (.tmp 1))))
    (.one ((some 10), (none, (.len (.tmp 9))))
    (.one ((some 11), (none, (.bi .leq (.tmp 8) (.tmp 10))))
    (.one ((some 12), (none, (.mv (.tmp 11))))
    (.one ((some 13), ((some (12, true)), (.fa 0 (.tmp 3))))
    (.one ((some 14), ((some (12, true)), (.ld false (.tmp 13))))
    (.one ((some 15), ((some (12, true)), (.mv (.tmp 1))))
    (.one ((some 16), ((some (12, true)), (.mv (.tmp 2))))
    (.one ((some 17), ((some (12, true)), (.len (.tmp 16))))
    (.one ((some 18), ((some (12, true)), (.slS 10 (.tmp 15) none (some (.tmp 17)) none)))
    (.one ((some 19), ((some (12, true)), (.mv (.tmp 2))))
    (.one ((some 20), ((some (12, true)), (.callv (.tmp 14) [(.tmp 18), (.tmp 19)])))
    (.one ((some 21), (none, (.pick (.tmp 12) (.tmp 20) (.const (.bool false)))))
    (.one ((some 6), (none, (.mv (.tmp 21))))
    .done)))))))))))))))))
  .ret))
/-- macaroon/macaroonref10.Same: 62 slots, results [(.t 4)] -/
def ref10_SameC_j1 (f_ref01_Same : Nat) : PC :=
  (.seq (.reg [((some 27), (none, (.fa 0 (.tmp 6)))),
       ((some 28), (none, (.ld false (.tmp 27)))),
       ((some 29), (none, (.fa 0 (.tmp 7)))),
       ((some 30), (none, (.ld false (.tmp 29)))),
       ((some 31), (none, (.bb true (.tmp 28) (.tmp 30)))),
       ((some 32), (none, (.mv (.tmp 31)))),
       ((some 33), ((some (32, false)), (.fa 1 (.tmp 6)))),
       ((some 34), ((some (32, false)), (.ldA 6 (.tmp 33)))),
       ((some 35), ((some (32, false)), (.fa 1 (.tmp 7)))),
       ((some 36), ((some (32, false)), (.ldA 6 (.tmp 35)))),
       ((some 37), ((some (32, false)), (.eqA true [(.int .i64), (.int .u64), (.int .i64), (.int .i64), .string, (.int .i64)] (.tmp 34) (.tmp 36)))),
       ((some 38), (none, (.pick (.tmp 32) (.const (.bool true)) (.tmp 37)))),
       ((some 39), (none, (.mv (.tmp 38)))),
       ((some 40), ((some (39, false)), (.fa 7 (.tmp 6)))),
       ((some 41), ((some (39, false)), (.ld false (.tmp 40)))),
       ((some 42), ((some (39, false)), (.fa 7 (.tmp 7)))),
       ((some 43), ((some (39, false)), (.ld false (.tmp 42)))),
       ((some 44), ((some (39, false)), (.bi .neq (.tmp 41) (.tmp 43)))),
       ((some 45), (none, (.pick (.tmp 39) (.const (.bool true)) (.tmp 44)))),
       ((some 46), (none, (.mv (.tmp 45)))),
       ((some 47), ((some (46, false)), (.fa 8 (.tmp 6)))),
       ((some 48), ((some (46, false)), (.ld false (.tmp 47)))),
       ((some 49), ((some (46, false)), (.fa 8 (.tmp 7)))),
       ((some 50), ((some (46, false)), (.ld false (.tmp 49)))),
       ((some 51), ((some (46, false)), (.call f_ref01_Same [(.tmp 48), (.tmp 50)]))),
       ((some 52), ((some (46, false)), (.un .not (.tmp 51)))),
       ((some 53), (none, (.pick (.tmp 46) (.const (.bool true)) (.tmp 52)))),
       ((some 54), (none, (.mv (.tmp 53)))),
       ((some 55), ((some (54, false)), (.fa 9 (.tmp 6)))),
       ((some 56), ((some (54, false)), (.ld false (.tmp 55)))),
       ((some 57), ((some (54, false)), (.fa 9 (.tmp 7)))),
       ((some 58), ((some (54, false)), (.ld false (.tmp 57)))),
       ((some 59), ((some (54, false)), (.call f_ref01_Same [(.tmp 56), (.tmp 58)]))),
       ((some 60), ((some (54, false)), (.un .not (.tmp 59)))),
       ((some 61), (none, (.pick (.tmp 54) (.const (.bool true)) (.tmp 60))))])
  (.cond (.tmp 61)
       (.seq (.reg [((some 4), (none, (.mv (.const (.bool false)))))])
  .ret)
       .skip))
def ref10_SameC_j2 (t_uint8 : Nat) (f_ref01_Same : Nat) : PC :=
  (.seq (.block 1 (.seq (.ord (.one ((some 19), (none, (.mv (.tmp 0))))
       (.one ((some 20), (none, (.mv (.tmp 5))))
       (.one ((some 21), (none, (.ixS 10 (.tmp 19) (.tmp 20))))
       (.one ((some 23), (none, (.mv (.tmp 1))))
       (.one ((some 24), (none, (.mv (.tmp 5))))
       (.one ((some 25), (none, (.ixS 10 (.tmp 23) (.tmp 24))))
       (.alt (.one ((some 22), (none, (.ldA 10 (.tmp 21))))
        (.alt (.one ((some 26), (none, (.ldA 10 (.tmp 25))))
         (.alt (.one ((some 6), (none, (.alloc [(.bool false), (.int .i64 0), (.int .u64 0), (.int .i64 0), (.int .i64 0), (.string ⟨#[]⟩), (.int .i64 0), (.int .i64 0), (lin t_uint8 []), (lin t_uint8 [])])))
          (.one ((some 7), (none, (.alloc [(.bool false), (.int .i64 0), (.int .u64 0), (.int .i64 0), (.int .i64 0), (.string ⟨#[]⟩), (.int .i64 0), (.int .i64 0), (lin t_uint8 []), (lin t_uint8 [])])))
          (.one (none, (none, (.st 10 (.tmp 6) (.tmp 22))))
          (.one (none, (none, (.st 10 (.tmp 7) (.tmp 26))))
          .done))))
         (.one ((some 7), (none, (.alloc [(.bool false), (.int .i64 0), (.int .u64 0), (.int .i64 0), (.int .i64 0), (.string ⟨#[]⟩), (.int .i64 0), (.int .i64 0), (lin t_uint8 []), (lin t_uint8 [])])))
          (.one ((some 6), (none, (.alloc [(.bool false), (.int .i64 0), (.int .u64 0), (.int .i64 0), (.int .i64 0), (.string ⟨#[]⟩), (.int .i64 0), (.int .i64 0), (lin t_uint8 []), (lin t_uint8 [])])))
          (.one (none, (none, (.st 10 (.tmp 6) (.tmp 22))))
          (.one (none, (none, (.st 10 (.tmp 7) (.tmp 26))))
          .done))))))
        (.alt (.one ((some 6), (none, (.alloc [(.bool false), (.int .i64 0), (.int .u64 0), (.int .i64 0), (.int .i64 0), (.string ⟨#[]⟩), (.int .i64 0), (.int .i64 0), (lin t_uint8 []), (lin t_uint8 [])])))
          (.alt (.one ((some 26), (none, (.ldA 10 (.tmp 25))))
           (.one ((some 7), (none, (.alloc [(.bool false), (.int .i64 0), (.int .u64 0), (.int .i64 0), (.int .i64 0), (.string ⟨#[]⟩), (.int .i64 0), (.int .i64 0), (lin t_uint8 []), (lin t_uint8 [])])))
           (.one (none, (none, (.st 10 (.tmp 6) (.tmp 22))))
           (.one (none, (none, (.st 10 (.tmp 7) (.tmp 26))))
           .done))))
          (.one ((some 7), (none, (.alloc [(.bool false), (.int .i64 0), (.int .u64 0), (.int .i64 0), (.int .i64 0), (.string ⟨#[]⟩), (.int .i64 0), (.int .i64 0), (lin t_uint8 []), (lin t_uint8 [])])))
           (.alt (.one ((some 26), (none, (.ldA 10 (.tmp 25))))
            (.one (none, (none, (.st 10 (.tmp 6) (.tmp 22))))
            (.one (none, (none, (.st 10 (.tmp 7) (.tmp 26))))
            .done)))
           (.one (none, (none, (.st 10 (.tmp 6) (.tmp 22))))
            (.one ((some 26), (none, (.ldA 10 (.tmp 25))))
            (.one (none, (none, (.st 10 (.tmp 7) (.tmp 26))))
            .done)))))))
         (.one ((some 7), (none, (.alloc [(.bool false), (.int .i64 0), (.int .u64 0), (.int .i64 0), (.int .i64 0), (.string ⟨#[]⟩), (.int .i64 0), (.int .i64 0), (lin t_uint8 []), (lin t_uint8 [])])))
          (.alt (.one ((some 26), (none, (.ldA 10 (.tmp 25))))
           (.one ((some 6), (none, (.alloc [(.bool false), (.int .i64 0), (.int .u64 0), (.int .i64 0), (.int .i64 0), (.string ⟨#[]⟩), (.int .i64 0), (.int .i64 0), (lin t_uint8 []), (lin t_uint8 [])])))
           (.one (none, (none, (.st 10 (.tmp 6) (.tmp 22))))
           (.one (none, (none, (.st 10 (.tmp 7) (.tmp 26))))
           .done))))
          (.one ((some 6), (none, (.alloc [(.bool false), (.int .i64 0), (.int .u64 0), (.int .i64 0), (.int .i64 0), (.string ⟨#[]⟩), (.int .i64 0), (.int .i64 0), (lin t_uint8 []), (lin t_uint8 [])])))
           (.alt (.one ((some 26), (none, (.ldA 10 (.tmp 25))))
            (.one (none, (none, (.st 10 (.tmp 6) (.tmp 22))))
            (.one (none, (none, (.st 10 (.tmp 7) (.tmp 26))))
            .done)))
           (.one (none, (none, (.st 10 (.tmp 6) (.tmp 22))))
            (.one ((some 26), (none, (.ldA 10 (.tmp 25))))
            (.one (none, (none, (.st 10 (.tmp 7) (.tmp 26))))
            .done))))))))))
       (.alt (.one ((some 26), (none, (.ldA 10 (.tmp 25))))
         (.alt (.one ((some 22), (none, (.ldA 10 (.tmp 21))))
          (.alt (.one ((some 6), (none, (.alloc [(.bool false), (.int .i64 0), (.int .u64 0), (.int .i64 0), (.int .i64 0), (.string ⟨#[]⟩), (.int .i64 0), (.int .i64 0), (lin t_uint8 []), (lin t_uint8 [])])))
           (.one ((some 7), (none, (.alloc [(.bool false), (.int .i64 0), (.int .u64 0), (.int .i64 0), (.int .i64 0), (.string ⟨#[]⟩), (.int .i64 0), (.int .i64 0), (lin t_uint8 []), (lin t_uint8 [])])))
           (.one (none, (none, (.st 10 (.tmp 6) (.tmp 22))))
           (.one (none, (none, (.st 10 (.tmp 7) (.tmp 26))))
           .done))))
          (.one ((some 7), (none, (.alloc [(.bool false), (.int .i64 0), (.int .u64 0), (.int .i64 0), (.int .i64 0), (.string ⟨#[]⟩), (.int .i64 0), (.int .i64 0), (lin t_uint8 []), (lin t_uint8 [])])))
           (.one ((some 6), (none, (.alloc [(.bool false), (.int .i64 0), (.int .u64 0), (.int .i64 0), (.int .i64 0), (.string ⟨#[]⟩), (.int .i64 0), (.int .i64 0), (lin t_uint8 []), (lin t_uint8 [])])))
           (.one (none, (none, (.st 10 (.tmp 6) (.tmp 22))))
           (.one (none, (none, (.st 10 (.tmp 7) (.tmp 26))))
           .done))))))
         (.alt (.one ((some 6), (none, (.alloc [(.bool false), (.int .i64 0), (.int .u64 0), (.int .i64 0), (.int .i64 0), (.string ⟨#[]⟩), (.int .i64 0), (.int .i64 0), (lin t_uint8 []), (lin t_uint8 [])])))
           (.alt (.one ((some 22), (none, (.ldA 10 (.tmp 21))))
            (.one ((some 7), (none, (.alloc [(.bool false), (.int .i64 0), (.int .u64 0), (.int .i64 0), (.int .i64 0), (.string ⟨#[]⟩), (.int .i64 0), (.int .i64 0), (lin t_uint8 []), (lin t_uint8 [])])))
            (.one (none, (none, (.st 10 (.tmp 6) (.tmp 22))))
            (.one (none, (none, (.st 10 (.tmp 7) (.tmp 26))))
            .done))))
           (.one ((some 7), (none, (.alloc [(.bool false), (.int .i64 0), (.int .u64 0), (.int .i64 0), (.int .i64 0), (.string ⟨#[]⟩), (.int .i64 0), (.int .i64 0), (lin t_uint8 []), (lin t_uint8 [])])))
            (.one ((some 22), (none, (.ldA 10 (.tmp 21))))
            (.one (none, (none, (.st 10 (.tmp 6) (.tmp 22))))
            (.one (none, (none, (.st 10 (.tmp 7) (.tmp 26))))
            .done))))))
          (.one ((some 7), (none, (.alloc [(.bool false), (.int .i64 0), (.int .u64 0), (.int .i64 0), (.int .i64 0), (.string ⟨#[]⟩), (.int .i64 0), (.int .i64 0), (lin t_uint8 []), (lin t_uint8 [])])))
           (.alt (.one ((some 22), (none, (.ldA 10 (.tmp 21))))
            (.one ((some 6), (none, (.alloc [(.bool false), (.int .i64 0), (.int .u64 0), (.int .i64 0), (.int .i64 0), (.string ⟨#[]⟩), (.int .i64 0), (.int .i64 0), (lin t_uint8 []), (lin t_uint8 [])])))
            (.one (none, (none, (.st 10 (.tmp 6) (.tmp 22))))
            (.one (none, (none, (.st 10 (.tmp 7) (.tmp 26))))
            .done))))
           (.one ((some 6), (none, (.alloc [(.bool false), (.int .i64 0), (.int .u64 0), (.int .i64 0), (.int .i64 0), (.string ⟨#[]⟩), (.int .i64 0), (.int .i64 0), (lin t_uint8 []), (lin t_uint8 [])])))
            (.one ((some 22), (none, (.ldA 10 (.tmp 21))))
            (.one (none, (none, (.st 10 (.tmp 6) (.tmp 22))))
            (.one (none, (none, (.st 10 (.tmp 7) (.tmp 26))))
            .done)))))))))
        (.alt (.one ((some 6), (none, (.alloc [(.bool false), (.int .i64 0), (.int .u64 0), (.int .i64 0), (.int .i64 0), (.string ⟨#[]⟩), (.int .i64 0), (.int .i64 0), (lin t_uint8 []), (lin t_uint8 [])])))
          (.alt (.one ((some 22), (none, (.ldA 10 (.tmp 21))))
           (.alt (.one ((some 26), (none, (.ldA 10 (.tmp 25))))
            (.one ((some 7), (none, (.alloc [(.bool false), (.int .i64 0), (.int .u64 0), (.int .i64 0), (.int .i64 0), (.string ⟨#[]⟩), (.int .i64 0), (.int .i64 0), (lin t_uint8 []), (lin t_uint8 [])])))
            (.one (none, (none, (.st 10 (.tmp 6) (.tmp 22))))
            (.one (none, (none, (.st 10 (.tmp 7) (.tmp 26))))
            .done))))
           (.one ((some 7), (none, (.alloc [(.bool false), (.int .i64 0), (.int .u64 0), (.int .i64 0), (.int .i64 0), (.string ⟨#[]⟩), (.int .i64 0), (.int .i64 0), (lin t_uint8 []), (lin t_uint8 [])])))
            (.alt (.one ((some 26), (none, (.ldA 10 (.tmp 25))))
             (.one (none, (none, (.st 10 (.tmp 6) (.tmp 22))))
             (.one (none, (none, (.st 10 (.tmp 7) (.tmp 26))))
             .done)))
            (.one (none, (none, (.st 10 (.tmp 6) (.tmp 22))))
             (.one ((some 26), (none, (.ldA 10 (.tmp 25))))
             (.one (none, (none, (.st 10 (.tmp 7) (.tmp 26))))
             .done)))))))
          (.alt (.one ((some 26), (none, (.ldA 10 (.tmp 25))))
            (.alt (.one ((some 22), (none, (.ldA 10 (.tmp 21))))
             (.one ((some 7), (none, (.alloc [(.bool false), (.int .i64 0), (.int .u64 0), (.int .i64 0), (.int .i64 0), (.string ⟨#[]⟩), (.int .i64 0), (.int .i64 0), (lin t_uint8 []), (lin t_uint8 [])])))
             (.one (none, (none, (.st 10 (.tmp 6) (.tmp 22))))
             (.one (none, (none, (.st 10 (.tmp 7) (.tmp 26))))
             .done))))
            (.one ((some 7), (none, (.alloc [(.bool false), (.int .i64 0), (.int .u64 0), (.int .i64 0), (.int .i64 0), (.string ⟨#[]⟩), (.int .i64 0), (.int .i64 0), (lin t_uint8 []), (lin t_uint8 [])])))
             (.one ((some 22), (none, (.ldA 10 (.tmp 21))))
             (.one (none, (none, (.st 10 (.tmp 6) (.tmp 22))))
             (.one (none, (none, (.st 10 (.tmp 7) (.tmp 26))))
             .done))))))
           (.one ((some 7), (none, (.alloc [(.bool false), (.int .i64 0), (.int .u64 0), (.int .i64 0), (.int .i64 0), (.string ⟨#[]⟩), (.int .i64 0), (.int .i64 0), (lin t_uint8 []), (lin t_uint8 [])])))
            (.one ((some 22), (none, (.ldA 10 (.tmp 21))))
            (.alt (.one ((some 26), (none, (.ldA 10 (.tmp 25))))
             (.one (none, (none, (.st 10 (.tmp 6) (.tmp 22))))
             (.one (none, (none, (.st 10 (.tmp 7) (.tmp 26))))
             .done)))
            (.one (none, (none, (.st 10 (.tmp 6) (.tmp 22))))
             (.one ((some 26), (none, (.ldA 10 (.tmp 25))))
             (.one (none, (none, (.st 10 (.tmp 7) (.tmp 26))))
             .done)))))))))
         (.one ((some 7), (none, (.alloc [(.bool false), (.int .i64 0), (.int .u64 0), (.int .i64 0), (.int .i64 0), (.string ⟨#[]⟩), (.int .i64 0), (.int .i64 0), (lin t_uint8 []), (lin t_uint8 [])])))
          (.alt (.one ((some 22), (none, (.ldA 10 (.tmp 21))))
           (.alt (.one ((some 26), (none, (.ldA 10 (.tmp 25))))
            (.one ((some 6), (none, (.alloc [(.bool false), (.int .i64 0), (.int .u64 0), (.int .i64 0), (.int .i64 0), (.string ⟨#[]⟩), (.int .i64 0), (.int .i64 0), (lin t_uint8 []), (lin t_uint8 [])])))
            (.one (none, (none, (.st 10 (.tmp 6) (.tmp 22))))
            (.one (none, (none, (.st 10 (.tmp 7) (.tmp 26))))
            .done))))
           (.one ((some 6), (none, (.alloc [(.bool false), (.int .i64 0), (.int .u64 0), (.int .i64 0), (.int .i64 0), (.string ⟨#[]⟩), (.int .i64 0), (.int .i64 0), (lin t_uint8 []), (lin t_uint8 [])])))
            (.alt (.one ((some 26), (none, (.ldA 10 (.tmp 25))))
             (.one (none, (none, (.st 10 (.tmp 6) (.tmp 22))))
             (.one (none, (none, (.st 10 (.tmp 7) (.tmp 26))))
             .done)))
            (.one (none, (none, (.st 10 (.tmp 6) (.tmp 22))))
             (.one ((some 26), (none, (.ldA 10 (.tmp 25))))
             (.one (none, (none, (.st 10 (.tmp 7) (.tmp 26))))
             .done)))))))
          (.alt (.one ((some 26), (none, (.ldA 10 (.tmp 25))))
            (.alt (.one ((some 22), (none, (.ldA 10 (.tmp 21))))
             (.one ((some 6), (none, (.alloc [(.bool false), (.int .i64 0), (.int .u64 0), (.int .i64 0), (.int .i64 0), (.string ⟨#[]⟩), (.int .i64 0), (.int .i64 0), (lin t_uint8 []), (lin t_uint8 [])])))
             (.one (none, (none, (.st 10 (.tmp 6) (.tmp 22))))
             (.one (none, (none, (.st 10 (.tmp 7) (.tmp 26))))
             .done))))
            (.one ((some 6), (none, (.alloc [(.bool false), (.int .i64 0), (.int .u64 0), (.int .i64 0), (.int .i64 0), (.string ⟨#[]⟩), (.int .i64 0), (.int .i64 0), (lin t_uint8 []), (lin t_uint8 [])])))
             (.one ((some 22), (none, (.ldA 10 (.tmp 21))))
             (.one (none, (none, (.st 10 (.tmp 6) (.tmp 22))))
             (.one (none, (none, (.st 10 (.tmp 7) (.tmp 26))))
             .done))))))
           (.one ((some 6), (none, (.alloc [(.bool false), (.int .i64 0), (.int .u64 0), (.int .i64 0), (.int .i64 0), (.string ⟨#[]⟩), (.int .i64 0), (.int .i64 0), (lin t_uint8 []), (lin t_uint8 [])])))
            (.one ((some 22), (none, (.ldA 10 (.tmp 21))))
            (.alt (.one ((some 26), (none, (.ldA 10 (.tmp 25))))
             (.one (none, (none, (.st 10 (.tmp 6) (.tmp 22))))
             (.one (none, (none, (.st 10 (.tmp 7) (.tmp 26))))
             .done)))
            (.one (none, (none, (.st 10 (.tmp 6) (.tmp 22))))
             (.one ((some 26), (none, (.ldA 10 (.tmp 25))))
             (.one (none, (none, (.st 10 (.tmp 7) (.tmp 26))))
             .done)))))))))))))))))))
  (ref10_SameC_j1 f_ref01_Same)))
  (.reg [((some 17), (none, (.mv (.tmp 5)))),
      ((some 18), (none, (.bi .add (.tmp 17) (.const (.int .i64 1))))),
      ((some 5), (none, (.mv (.tmp 18))))]))
def ref10_SameC_j3 (t_uint8 : Nat) (f_ref01_Same : Nat) : PC :=
  (.seq (.seq (.reg [((some 5), (none, (.mv (.const (.int .i64 0)))))])
  (.block 0 (.loop (.seq (.seq (.reg [((some 13), (none, (.mv (.tmp 5)))),
      ((some 14), (none, (.mv (.tmp 0)))),
      ((some 15), (none, (.len (.tmp 14)))),
      ((some 16), (none, (.bi .lss (.tmp 13) (.tmp 15))))])
  (.cond (.tmp 16)
      .skip
      (.exit 0)))
  (ref10_SameC_j2 t_uint8 f_ref01_Same)))))
  (.seq (.reg [((some 4), (none, (.mv (.const (.bool true)))))])
  .ret))
def ref10_SameC (t_uint8 : Nat) (f_ref01_Same : Nat) : PC :=
  (.seq (.reg [((some 4), (none, (.mv (.const (.bool false)))))])
  (.seq (.seq (.reg [((some 8), (none, (.mv (.tmp 0)))),
    ((some 9), (none, (.len (.tmp 8)))),
    ((some 10), (none, (.mv (.tmp 1)))),
    ((some 11), (none, (.len (.tmp 10)))),
    ((some 12), (none, (.bi .neq (.tmp 9) (.tmp 11))))])
  (.cond (.tmp 12)
    (.seq (.reg [((some 4), (none, (.mv (.const (.bool false)))))])
  .ret)
    .skip))
  (ref10_SameC_j3 t_uint8 f_ref01_Same)))
/-- slices.ContainsFunc[[]macaroon/api.Caveat,macaroon/api.Caveat]: 9 slots, results [(.t 4)] -/
def slices_ContainsFunc_api_Caveat_api_CaveatC (f_slices_IndexFunc_api_Caveat_api_Caveat : Nat) : PC :=
  (.seq (.reg [((some 4), (none, (.mv (.const (.bool false)))))])
  (.seq (.reg [((some 5), (none, (.mv (.tmp 0)))),
    ((some 6), (none, (.mv (.tmp 1)))),
    ((some 7), (none, (.call f_slices_IndexFunc_api_Caveat_api_Caveat [(.tmp 5), (.tmp 6)]))),
    ((some 8), (none, (.bi .geq (.tmp 7) (.const (.int .i64 0))))),
    ((some 4), (none, (.mv (.tmp 8))))])
  .ret))
/-- macaroon/registry.bad$1: 6 slots, results [(.t 2)] -/
def registry_bad_1C (f_caveat_Valid : Nat) : PC :=
  (.seq (.reg [((some 1), (none, (.box 10 (.tmp 0)))),
    ((some 2), (none, (.mv (.const (.bool false)))))])
  (.seq (.reg [((some 3), (none, (.ldA 10 (.tmp 1)))),
    ((some 4), (none, (.call f_caveat_Valid [(.tmp 3)]))),
    ((some 5), (none, (.un .not (.tmp 4)))),
    ((some 2), (none, (.mv (.tmp 5))))])
  .ret))
/-- macaroon/caveat.Valid: 50 slots, results [(.t 2)] -/
def caveat_ValidC_j1 (f_caveat_sized : Nat) : PC :=
  (.seq (.reg [((some 26), (none, (.fa 1 (.tmp 1)))),
    ((some 27), (none, (.ldA 6 (.tmp 26)))),
    ((some 28), (none, (.build [(.inl [(.int .i64 0)]), (.inl [(.int .u64 0)]), (.inl [(.int .i64 0)]), (.inl [(.int .i64 0)]), (.inl [(.string ⟨#[]⟩)]), (.inl [(.int .i64 0)])]))),
    ((some 29), (none, (.eqA false [(.int .i64), (.int .u64), (.int .i64), (.int .i64), .string, (.int .i64)] (.tmp 27) (.tmp 28)))),
    ((some 30), (none, (.mv (.tmp 29)))),
    ((some 31), ((some (30, true)), (.fa 7 (.tmp 1)))),
    ((some 32), ((some (30, true)), (.ld false (.tmp 31)))),
    ((some 33), ((some (30, true)), (.bi .geq (.tmp 32) (.const (.int .i64 0))))),
    ((some 34), (none, (.pick (.tmp 30) (.tmp 33) (.const (.bool false))))),
    ((some 35), (none, (.mv (.tmp 34)))),
    ((some 36), ((some (35, true)), (.fa 7 (.tmp 1)))),
    ((some 37), ((some (35, true)), (.ld false (.tmp 36)))),
    ((some 38), ((some (35, true)), (.bi .leq (.tmp 37) (.const (.int .i64 7))))),
    ((some 39), (none, (.pick (.tmp 35) (.tmp 38) (.const (.bool false))))),
    ((some 40), (none, (.mv (.tmp 39)))),
    ((some 41), ((some (40, true)), (.fa 8 (.tmp 1)))),
    ((some 42), ((some (40, true)), (.ld false (.tmp 41)))),
    ((some 43), ((some (40, true)), (.call f_caveat_sized [(.tmp 42)]))),
    ((some 44), (none, (.pick (.tmp 40) (.tmp 43) (.const (.bool false))))),
    ((some 45), (none, (.mv (.tmp 44)))),
    ((some 46), ((some (45, true)), (.fa 9 (.tmp 1)))),
    ((some 47), ((some (45, true)), (.ld false (.tmp 46)))),
    ((some 48), ((some (45, true)), (.call f_caveat_sized [(.tmp 47)]))),
    ((some 49), (none, (.pick (.tmp 45) (.tmp 48) (.const (.bool false))))),
    ((some 2), (none, (.mv (.tmp 49))))])
  .ret)
def caveat_ValidC (f_predicate_Valid : Nat) (f_caveat_sized : Nat) : PC :=
  (.seq (.reg [((some 1), (none, (.box 10 (.tmp 0)))),
    ((some 2), (none, (.mv (.const (.bool false)))))])
  (.seq (.seq (.reg [((some 3), (none, (.fa 0 (.tmp 1)))),
    ((some 4), (none, (.ld false (.tmp 3)))),
    ((some 5), (none, (.un .not (.tmp 4))))])
  (.cond (.tmp 5)
    (.seq (.reg [((some 6), (none, (.fa 1 (.tmp 1)))),
      ((some 7), (none, (.ldA 6 (.tmp 6)))),
      ((some 8), (none, (.call f_predicate_Valid [(.tmp 7)]))),
      ((some 9), (none, (.mv (.tmp 8)))),
      ((some 10), ((some (9, true)), (.fa 7 (.tmp 1)))),
      ((some 11), ((some (9, true)), (.ld false (.tmp 10)))),
      ((some 12), ((some (9, true)), (.bi .eql (.tmp 11) (.const (.int .i64 0))))),
      ((some 13), (none, (.pick (.tmp 9) (.tmp 12) (.const (.bool false))))),
      ((some 14), (none, (.mv (.tmp 13)))),
      ((some 15), ((some (14, true)), (.fa 8 (.tmp 1)))),
      ((some 16), ((some (14, true)), (.ld false (.tmp 15)))),
      ((some 17), ((some (14, true)), (.len (.tmp 16)))),
      ((some 18), ((some (14, true)), (.bi .eql (.tmp 17) (.const (.int .i64 0))))),
      ((some 19), (none, (.pick (.tmp 14) (.tmp 18) (.const (.bool false))))),
      ((some 20), (none, (.mv (.tmp 19)))),
      ((some 21), ((some (20, true)), (.fa 9 (.tmp 1)))),
      ((some 22), ((some (20, true)), (.ld false (.tmp 21)))),
      ((some 23), ((some (20, true)), (.len (.tmp 22)))),
      ((some 24), ((some (20, true)), (.bi .eql (.tmp 23) (.const (.int .i64 0))))),
      ((some 25), (none, (.pick (.tmp 20) (.tmp 24) (.const (.bool false))))),
      ((some 2), (none, (.mv (.tmp 25))))])
  .ret)
    .skip))
  (caveat_ValidC_j1 f_caveat_sized)))
/-- macaroon/macaroonref10.Valid: 64 slots, results [(.t 2)] -/
def ref10_ValidC_j1 : PC :=
  (.seq (.reg [((some 26), (none, (.fa 1 (.tmp 1)))),
    ((some 27), (none, (.ldA 6 (.tmp 26)))),
    ((some 28), (none, (.build [(.inl [(.int .i64 0)]), (.inl [(.int .u64 0)]), (.inl [(.int .i64 0)]), (.inl [(.int .i64 0)]), (.inl [(.string ⟨#[]⟩)]), (.inl [(.int .i64 0)])]))),
    ((some 29), (none, (.eqA false [(.int .i64), (.int .u64), (.int .i64), (.int .i64), .string, (.int .i64)] (.tmp 27) (.tmp 28)))),
    ((some 30), (none, (.mv (.tmp 29)))),
    ((some 31), ((some (30, true)), (.fa 7 (.tmp 1)))),
    ((some 32), ((some (30, true)), (.ld false (.tmp 31)))),
    ((some 33), ((some (30, true)), (.bi .geq (.tmp 32) (.const (.int .i64 0))))),
    ((some 34), (none, (.pick (.tmp 30) (.tmp 33) (.const (.bool false))))),
    ((some 35), (none, (.mv (.tmp 34)))),
    ((some 36), ((some (35, true)), (.fa 7 (.tmp 1)))),
    ((some 37), ((some (35, true)), (.ld false (.tmp 36)))),
    ((some 38), ((some (35, true)), (.bi .leq (.tmp 37) (.const (.int .i64 7))))),
    ((some 39), (none, (.pick (.tmp 35) (.tmp 38) (.const (.bool false))))),
    ((some 40), (none, (.mv (.tmp 39)))),
    ((some 41), ((some (40, true)), (.fa 8 (.tmp 1)))),
    ((some 42), ((some (40, true)), (.ld false (.tmp 41)))),
    ((some 43), ((some (40, true)), (.len (.tmp 42)))),
    ((some 44), ((some (40, true)), (.bi .geq (.tmp 43) (.const (.int .i64 1))))),
    ((some 45), (none, (.pick (.tmp 40) (.tmp 44) (.const (.bool false))))),
    ((some 46), (none, (.mv (.tmp 45)))),
    ((some 47), ((some (46, true)), (.fa 8 (.tmp 1)))),
    ((some 48), ((some (46, true)), (.ld false (.tmp 47)))),
    ((some 49), ((some (46, true)), (.len (.tmp 48)))),
    ((some 50), ((some (46, true)), (.bi .leq (.tmp 49) (.const (.int .i64 1024))))),
    ((some 51), (none, (.pick (.tmp 46) (.tmp 50) (.const (.bool false))))),
    ((some 52), (none, (.mv (.tmp 51)))),
    ((some 53), ((some (52, true)), (.fa 9 (.tmp 1)))),
    ((some 54), ((some (52, true)), (.ld false (.tmp 53)))),
    ((some 55), ((some (52, true)), (.len (.tmp 54)))),
    ((some 56), ((some (52, true)), (.bi .geq (.tmp 55) (.const (.int .i64 1))))),
    ((some 57), (none, (.pick (.tmp 52) (.tmp 56) (.const (.bool false))))),
    ((some 58), (none, (.mv (.tmp 57)))),
    ((some 59), ((some (58, true)), (.fa 9 (.tmp 1)))),
    ((some 60), ((some (58, true)), (.ld false (.tmp 59)))),
    ((some 61), ((some (58, true)), (.len (.tmp 60)))),
    ((some 62), ((some (58, true)), (.bi .leq (.tmp 61) (.const (.int .i64 1024))))),
    ((some 63), (none, (.pick (.tmp 58) (.tmp 62) (.const (.bool false))))),
    ((some 2), (none, (.mv (.tmp 63))))])
  .ret)
def ref10_ValidC (f_ref06_Valid : Nat) : PC :=
  (.seq (.reg [((some 1), (none, (.box 10 (.tmp 0)))),
    ((some 2), (none, (.mv (.const (.bool false)))))])
  (.seq (.seq (.reg [((some 3), (none, (.fa 0 (.tmp 1)))),
    ((some 4), (none, (.ld false (.tmp 3)))),
    ((some 5), (none, (.un .not (.tmp 4))))])
  (.cond (.tmp 5)
    (.seq (.reg [((some 6), (none, (.fa 1 (.tmp 1)))),
      ((some 7), (none, (.ldA 6 (.tmp 6)))),
      ((some 8), (none, (.call f_ref06_Valid [(.tmp 7)]))),
      ((some 9), (none, (.mv (.tmp 8)))),
      ((some 10), ((some (9, true)), (.fa 7 (.tmp 1)))),
      ((some 11), ((some (9, true)), (.ld false (.tmp 10)))),
      ((some 12), ((some (9, true)), (.bi .eql (.tmp 11) (.const (.int .i64 0))))),
      ((some 13), (none, (.pick (.tmp 9) (.tmp 12) (.const (.bool false))))),
      ((some 14), (none, (.mv (.tmp 13)))),
      ((some 15), ((some (14, true)), (.fa 8 (.tmp 1)))),
      ((some 16), ((some (14, true)), (.ld false (.tmp 15)))),
      ((some 17), ((some (14, true)), (.len (.tmp 16)))),
      ((some 18), ((some (14, true)), (.bi .eql (.tmp 17) (.const (.int .i64 0))))),
      ((some 19), (none, (.pick (.tmp 14) (.tmp 18) (.const (.bool false))))),
      ((some 20), (none, (.mv (.tmp 19)))),
      ((some 21), ((some (20, true)), (.fa 9 (.tmp 1)))),
      ((some 22), ((some (20, true)), (.ld false (.tmp 21)))),
      ((some 23), ((some (20, true)), (.len (.tmp 22)))),
      ((some 24), ((some (20, true)), (.bi .eql (.tmp 23) (.const (.int .i64 0))))),
      ((some 25), (none, (.pick (.tmp 20) (.tmp 24) (.const (.bool false))))),
      ((some 2), (none, (.mv (.tmp 25))))])
  .ret)
    .skip))
  ref10_ValidC_j1))
/-- bytes.Clone: 8 slots, results [(.t 2)] -/
def bytes_CloneC (t_uint8 : Nat) : PC :=
  (.seq (.reg [((some 2), (none, (.cnil t_uint8)))])
  (.seq (.seq (.reg [((some 3), (none, (.mv (.tmp 0)))),
    ((some 4), (none, (.nilS false (.tmp 3))))])
  (.cond (.tmp 4)
    (.seq (.reg [((some 2), (none, (.cnil t_uint8)))])
  .ret)
    .skip))
  (.seq (.reg [((some 5), (none, (.mks t_uint8 1 true []))),
    ((some 6), (none, (.mv (.tmp 0)))),
    ((some 7), (none, (.app t_uint8 1 1 5 (.tmp 6)))),
    ((some 2), (none, (.steal 7)))])
  .ret)))
/-- slices.EqualFunc[[]macaroon/api.Caveat,[]macaroon/api.Caveat,macaroon/api.Caveat,macaroon/api.Caveat]: 32 slots, results [(.t 6)] -/
def slices_EqualFunc_api_Caveat_api_Caveat_api_Caveat_api_CaveatC_j1 (t_uint8 : Nat) : PC :=
  (.seq (.block 1 (.seq (.reg [((some 19), (none, (.mv (.tmp 17)))),
       ((some 20), (none, (.ixS 10 (.tmp 15) (.tmp 17)))),
       ((some 21), (none, (.ldA 10 (.tmp 20)))),
       ((some 8), (none, (.alloc [(.bool false), (.int .i64 0), (.int .u64 0), (.int .i64 0), (.int .i64 0), (.string ⟨#[]⟩), (.int .i64 0), (.int .i64 0), (lin t_uint8 []), (lin t_uint8 [])]))),
       ((some 7), (none, (.mv (.tmp 19)))),
       (none, (none, (.st 10 (.tmp 8) (.tmp 21))))])
  (.seq (.reg [((some 22), (none, (.mv (.tmp 1)))),
       ((some 23), (none, (.mv (.tmp 7)))),
       ((some 24), (none, (.ixS 10 (.tmp 22) (.tmp 23)))),
       ((some 25), (none, (.ldA 10 (.tmp 24)))),
       ((some 9), (none, (.alloc [(.bool false), (.int .i64 0), (.int .u64 0), (.int .i64 0), (.int .i64 0), (.string ⟨#[]⟩), (.int .i64 0), (.int .i64 0), (lin t_uint8 []), (lin t_uint8 [])]))),
       (none, (none, (.st 10 (.tmp 9) (.tmp 25))))])
  (.seq (.reg [((some 26), (none, (.mv (.tmp 2)))),
       ((some 27), (none, (.ldA 10 (.tmp 8)))),
       ((some 28), (none, (.ldA 10 (.tmp 9)))),
       ((some 29), (none, (.callv (.tmp 26) [(.tmp 27), (.tmp 28)]))),
       ((some 30), (none, (.un .not (.tmp 29))))])
  (.cond (.tmp 30)
       (.seq (.reg [((some 6), (none, (.mv (.const (.bool false)))))])
  .ret)
       .skip)))))
  (.reg [((some 31), (none, (.bi .add (.tmp 17) (.const (.int .i64 1))))),
      ((some 17), (none, (.mv (.tmp 31))))]))
def slices_EqualFunc_api_Caveat_api_Caveat_api_Caveat_api_CaveatC_j2 (t_uint8 : Nat) : PC :=
  (.seq (.seq (.reg [((some 15), (none, (.mv (.tmp 0)))),
    ((some 16), (none, (.len (.tmp 15)))),
    ((some 17), (none, (.mv (.const (.int .i64 0)))))])
  (.block 0 (.loop (.seq (.reg [((some 18), (none, (.bi .lss (.tmp 17) (.tmp 16))))])
  (.seq (.cond (.tmp 18)
      .skip
      (.exit 0))
  (slices_EqualFunc_api_Caveat_api_Caveat_api_Caveat_api_CaveatC_j1 t_uint8))))))
  (.seq (.reg [((some 6), (none, (.mv (.const (.bool true)))))])
  .ret))
def slices_EqualFunc_api_Caveat_api_Caveat_api_Caveat_api_CaveatC (t_uint8 : Nat) : PC :=
  (.seq (.reg [((some 6), (none, (.mv (.const (.bool false)))))])
  (.seq (.seq (.reg [((some 10), (none, (.mv (.tmp 0)))),
    ((some 11), (none, (.len (.tmp 10)))),
    ((some 12), (none, (.mv (.tmp 1)))),
    ((some 13), (none, (.len (.tmp 12)))),
    ((some 14), (none, (.bi .neq (.tmp 11) (.tmp 13))))])
  (.cond (.tmp 14)
    (.seq (.reg [((some 6), (none, (.mv (.const (.bool false)))))])
  .ret)
    .skip))
  (slices_EqualFunc_api_Caveat_api_Caveat_api_Caveat_api_CaveatC_j2 t_uint8)))
/-- macaroon/caveat.Same$1: 38 slots, results [(.t 4)] -/
def caveat_Same_1C (f_bytes_Equal : Nat) : PC :=
  (.seq (.reg [((some 2), (none, (.box 10 (.tmp 0)))),
    ((some 3), (none, (.box 10 (.tmp 1)))),
    ((some 4), (none, (.mv (.const (.bool false)))))])
  (.seq (.reg [((some 5), (none, (.fa 0 (.tmp 2)))),
    ((some 6), (none, (.ld false (.tmp 5)))),
    ((some 7), (none, (.fa 0 (.tmp 3)))),
    ((some 8), (none, (.ld false (.tmp 7)))),
    ((some 9), (none, (.bb false (.tmp 6) (.tmp 8)))),
    ((some 10), (none, (.mv (.tmp 9)))),
    ((some 11), ((some (10, true)), (.fa 1 (.tmp 2)))),
    ((some 12), ((some (10, true)), (.ldA 6 (.tmp 11)))),
    ((some 13), ((some (10, true)), (.fa 1 (.tmp 3)))),
    ((some 14), ((some (10, true)), (.ldA 6 (.tmp 13)))),
    ((some 15), ((some (10, true)), (.eqA false [(.int .i64), (.int .u64), (.int .i64), (.int .i64), .string, (.int .i64)] (.tmp 12) (.tmp 14)))),
    ((some 16), (none, (.pick (.tmp 10) (.tmp 15) (.const (.bool false))))),
    ((some 17), (none, (.mv (.tmp 16)))),
    ((some 18), ((some (17, true)), (.fa 7 (.tmp 2)))),
    ((some 19), ((some (17, true)), (.ld false (.tmp 18)))),
    ((some 20), ((some (17, true)), (.fa 7 (.tmp 3)))),
    ((some 21), ((some (17, true)), (.ld false (.tmp 20)))),
    ((some 22), ((some (17, true)), (.bi .eql (.tmp 19) (.tmp 21)))),
    ((some 23), (none, (.pick (.tmp 17) (.tmp 22) (.const (.bool false))))),
    ((some 24), (none, (.mv (.tmp 23)))),
    ((some 25), ((some (24, true)), (.fa 8 (.tmp 2)))),
    ((some 26), ((some (24, true)), (.ld false (.tmp 25)))),
    ((some 27), ((some (24, true)), (.fa 8 (.tmp 3)))),
    ((some 28), ((some (24, true)), (.ld false (.tmp 27)))),
    ((some 29), ((some (24, true)), (.call f_bytes_Equal [(.tmp 26), (.tmp 28)]))),
    ((some 30), (none, (.pick (.tmp 24) (.tmp 29) (.const (.bool false))))),
    ((some 31), (none, (.mv (.tmp 30)))),
    ((some 32), ((some (31, true)), (.fa 9 (.tmp 2)))),
    ((some 33), ((some (31, true)), (.ld false (.tmp 32)))),
    ((some 34), ((some (31, true)), (.fa 9 (.tmp 3)))),
    ((some 35), ((some (31, true)), (.ld false (.tmp 34)))),
    ((some 36), ((some (31, true)), (.call f_bytes_Equal [(.tmp 33), (.tmp 35)]))),
    ((some 37), (none, (.pick (.tmp 31) (.tmp 36) (.const (.bool false))))),
    ((some 4), (none, (.mv (.tmp 37))))])
  .ret))
/-- bytes.Equal: 10 slots, results [(.t 4)] -/
def bytes_EqualC : PC :=
  (.seq (.reg [((some 4), (none, (.mv (.const (.bool false)))))])
  (.seq (.reg [((some 5), (none, (.mv (.tmp 0)))),
    ((some 6), (none, (.b2s (.tmp 5)))),
    ((some 7), (none, (.mv (.tmp 1)))),
    ((some 8), (none, (.b2s (.tmp 7)))),
    ((some 9), (none, (.bi .eql (.tmp 6) (.tmp 8)))),
    ((some 4), (none, (.mv (.tmp 9))))])
  .ret))
/-- macaroon/macaroonref01.Same: 26 slots, results [(.t 4)] -/
def ref01_SameC_j1 : PC :=
  (.seq (.block 1 (.seq (.drw [((some 17), (none, (.mv (.tmp 0)))),
       ((some 18), (none, (.mv (.tmp 5)))),
       ((some 19), (none, (.ixS 1 (.tmp 17) (.tmp 18)))),
       ((some 20), (none, (.ld false (.tmp 19)))),
       ((some 21), (none, (.mv (.tmp 1)))),
       ((some 22), (none, (.mv (.tmp 5)))),
       ((some 23), (none, (.ixS 1 (.tmp 21) (.tmp 22)))),
       ((some 24), (none, (.ld false (.tmp 23)))),
       ((some 25), (none, (.bi .neq (.tmp 20) (.tmp 24))))])
  (.cond (.tmp 25)
       (.seq (.reg [((some 4), (none, (.mv (.const (.bool false)))))])
  .ret)
       .skip)))
  (.reg [((some 15), (none, (.mv (.tmp 5)))),
      ((some 16), (none, (.bi .add (.tmp 15) (.const (.int .i64 1))))),
      ((some 5), (none, (.mv (.tmp 16))))]))
def ref01_SameC_j2 : PC :=
  (.seq (.seq (.reg [((some 5), (none, (.mv (.const (.int .i64 0)))))])
  (.block 0 (.loop (.seq (.seq (.reg [((some 11), (none, (.mv (.tmp 5)))),
      ((some 12), (none, (.mv (.tmp 0)))),
      ((some 13), (none, (.len (.tmp 12)))),
      ((some 14), (none, (.bi .lss (.tmp 11) (.tmp 13))))])
  (.cond (.tmp 14)
      .skip
      (.exit 0)))
  ref01_SameC_j1))))
  (.seq (.reg [((some 4), (none, (.mv (.const (.bool true)))))])
  .ret))
def ref01_SameC : PC :=
  (.seq (.reg [((some 4), (none, (.mv (.const (.bool false)))))])
  (.seq (.seq (.reg [((some 6), (none, (.mv (.tmp 0)))),
    ((some 7), (none, (.len (.tmp 6)))),
    ((some 8), (none, (.mv (.tmp 1)))),
    ((some 9), (none, (.len (.tmp 8)))),
    ((some 10), (none, (.bi .neq (.tmp 7) (.tmp 9))))])
  (.cond (.tmp 10)
    (.seq (.reg [((some 4), (none, (.mv (.const (.bool false)))))])
  .ret)
    .skip))
  ref01_SameC_j2))
/-- slices.IndexFunc[[]macaroon/api.Caveat,macaroon/api.Caveat]: 19 slots, results [(.t 4)] -/
def slices_IndexFunc_api_Caveat_api_CaveatC_j1 : PC :=
  (.seq (.block 1 (.seq (.reg [((some 10), (none, (.mv (.tmp 8)))),
       ((some 5), (none, (.mv (.tmp 10))))])
  (.seq (.reg [((some 11), (none, (.mv (.tmp 1)))),
       ((some 12), (none, (.mv (.tmp 0)))),
       ((some 13), (none, (.mv (.tmp 5)))),
       ((some 14), (none, (.ixS 10 (.tmp 12) (.tmp 13)))),
       ((some 15), (none, (.ldA 10 (.tmp 14)))),
       ((some 16), (none, (.callv (.tmp 11) [(.tmp 15)])))])
  (.cond (.tmp 16)
       (.seq (.reg [((some 17), (none, (.mv (.tmp 5)))),
         ((some 4), (none, (.mv (.tmp 17))))])
  .ret)
       .skip))))
  (.reg [((some 18), (none, (.bi .add (.tmp 8) (.const (.int .i64 1))))),
      ((some 8), (none, (.mv (.tmp 18))))]))
def slices_IndexFunc_api_Caveat_api_CaveatC : PC :=
  (.seq (.reg [((some 4), (none, (.mv (.const (.int .i64 0)))))])
  (.seq (.seq (.reg [((some 6), (none, (.mv (.tmp 0)))),
    ((some 7), (none, (.len (.tmp 6)))),
    ((some 8), (none, (.mv (.const (.int .i64 0)))))])
  (.block 0 (.loop (.seq (.reg [((some 9), (none, (.bi .lss (.tmp 8) (.tmp 7))))])
  (.seq (.cond (.tmp 9)
      .skip
      (.exit 0))
  slices_IndexFunc_api_Caveat_api_CaveatC_j1)))))
  (.seq (.reg [((some 4), (none, (.mv (.const (.int .i64 (-1))))))])
  .ret)))
/-- macaroon/caveat.sized: 11 slots, results [(.t 2)] -/
def caveat_sizedC : PC :=
  (.seq (.reg [((some 2), (none, (.mv (.const (.bool false)))))])
  (.seq (.reg [((some 3), (none, (.mv (.tmp 0)))),
    ((some 4), (none, (.len (.tmp 3)))),
    ((some 5), (none, (.bi .geq (.tmp 4) (.const (.int .i64 1))))),
    ((some 6), (none, (.mv (.tmp 5)))),
    ((some 7), ((some (6, true)), (.mv (.tmp 0)))),
    ((some 8), ((some (6, true)), (.len (.tmp 7)))),
    ((some 9), ((some (6, true)), (.bi .leq (.tmp 8) (.const (.int .i64 1024))))),
    ((some 10), (none, (.pick (.tmp 6) (.tmp 9) (.const (.bool false))))),
    ((some 2), (none, (.mv (.tmp 10))))])
  .ret))
/-- slices.Clone[[]macaroon/api.Mint,macaroon/api.Mint]: 8 slots, results [(.t 2)] -/
def slices_Clone_api_Mint_api_Mint_BC : PC :=
  (.seq (.reg [((some 2), (none, .cns))])
  (.seq (.seq (.reg [((some 3), (none, (.mv (.tmp 0)))),
    ((some 4), (none, (.nilS false (.tmp 3))))])
  (.cond (.tmp 4)
    (.seq (.reg [((some 2), (none, .cns))])
  .ret)
    .skip))
  (.seq (.reg [((some 5), (none, .mks0)),
    ((some 6), (none, (.mv (.tmp 0)))),
    ((some 7), (none, (.appB 3 40 [(.int .i64 0), (.int .i64 0), (deep [])] 5 (.tmp 6)))),
    ((some 2), (none, (.steal 7)))])
  .ret)))
/-- slices.Clone[[]macaroon/api.Caveat,macaroon/api.Caveat]: 8 slots, results [(.t 2)] -/
def slices_Clone_api_Caveat_api_Caveat_BC_j1 : PC :=
  (.seq (.reg [((some 5), (none, .mks0)),
    ((some 6), (none, (.mv (.tmp 0)))),
    ((some 7), (none, (.appB 10 120 [(.bool false), (.int .i64 0), (.int .u64 0), (.int .i64 0), (.int .i64 0), (.string ⟨#[]⟩), (.int .i64 0), (.int .i64 0), (deep []), (deep [])] 5 (.tmp 6)))),
    ((some 2), (none, (.steal 7)))])
  .ret)
def slices_Clone_api_Caveat_api_Caveat_BC : PC :=
  (.seq (.reg [((some 2), (none, .cns))])
  (.seq (.seq (.reg [((some 3), (none, (.mv (.tmp 0)))),
    ((some 4), (none, (.nilS false (.tmp 3))))])
  (.cond (.tmp 4)
    (.seq (.reg [((some 2), (none, .cns))])
  .ret)
    .skip))
  slices_Clone_api_Caveat_api_Caveat_BC_j1))
/-- macaroon/chain.Copied: 34 slots, results [(.t 2)] -/
def chain_Copied_BC_j1 (f_bytes_Clone : Nat) : PC :=
  (.seq (.block 1 (.seq (.reg [((some 11), (none, (.mv (.tmp 9)))),
       ((some 4), (none, (.mv (.tmp 11))))])
  (.ord (.one ((some 12), (none, (.mv (.tmp 3))))
       (.one ((some 13), (none, (.mv (.tmp 4))))
       (.one ((some 14), (none, (.mv (.tmp 3))))
       (.one ((some 15), (none, (.mv (.tmp 4))))
       (.one ((some 16), (none, (.mv (.tmp 3))))
       (.one ((some 17), (none, (.mv (.tmp 4))))
       (.one ((some 18), (none, (.ixB 10 (.tmp 16) (.tmp 17))))
       (.one ((some 19), (none, (.fa 8 (.tmp 18))))
       (.one ((some 22), (none, (.mv (.tmp 3))))
       (.one ((some 23), (none, (.mv (.tmp 4))))
       (.one ((some 24), (none, (.ixB 10 (.tmp 22) (.tmp 23))))
       (.one ((some 25), (none, (.fa 9 (.tmp 24))))
       (.alt (.one ((some 20), (none, (.ld false (.tmp 19))))
        (.alt (.one ((some 21), (none, (.callB f_bytes_Clone [(.tmp 20)])))
         (.one ((some 26), (none, (.ld false (.tmp 25))))
         (.one ((some 27), (none, (.callB f_bytes_Clone [(.tmp 26)])))
         (.one ((some 28), (none, (.ixB 10 (.tmp 12) (.tmp 13))))
         (.one ((some 29), (none, (.fa 8 (.tmp 28))))
         (.one (none, (none, (.st 1 (.tmp 29) (.tmp 21))))
         (.one ((some 30), (none, (.ixB 10 (.tmp 14) (.tmp 15))))
         (.one ((some 31), (none, (.fa 9 (.tmp 30))))
         (.one (none, (none, (.st 1 (.tmp 31) (.tmp 27))))
         .done)))))))))
        (.one ((some 26), (none, (.ld false (.tmp 25))))
         (.one ((some 21), (none, (.callB f_bytes_Clone [(.tmp 20)])))
         (.one ((some 27), (none, (.callB f_bytes_Clone [(.tmp 26)])))
         (.one ((some 28), (none, (.ixB 10 (.tmp 12) (.tmp 13))))
         (.one ((some 29), (none, (.fa 8 (.tmp 28))))
         (.one (none, (none, (.st 1 (.tmp 29) (.tmp 21))))
         (.one ((some 30), (none, (.ixB 10 (.tmp 14) (.tmp 15))))
         (.one ((some 31), (none, (.fa 9 (.tmp 30))))
         (.one (none, (none, (.st 1 (.tmp 31) (.tmp 27))))
         .done)))))))))))
       (.one ((some 26), (none, (.ld false (.tmp 25))))
        (.one ((some 20), (none, (.ld false (.tmp 19))))
        (.one ((some 21), (none, (.callB f_bytes_Clone [(.tmp 20)])))
        (.one ((some 27), (none, (.callB f_bytes_Clone [(.tmp 26)])))
        (.one ((some 28), (none, (.ixB 10 (.tmp 12) (.tmp 13))))
        (.one ((some 29), (none, (.fa 8 (.tmp 28))))
        (.one (none, (none, (.st 1 (.tmp 29) (.tmp 21))))
        (.one ((some 30), (none, (.ixB 10 (.tmp 14) (.tmp 15))))
        (.one ((some 31), (none, (.fa 9 (.tmp 30))))
        (.one (none, (none, (.st 1 (.tmp 31) (.tmp 27))))
        .done))))))))))))))))))))))))))
  (.reg [((some 32), (none, (.bi .add (.tmp 9) (.const (.int .i64 1))))),
      ((some 9), (none, (.mv (.tmp 32))))]))
def chain_Copied_BC (f_slices_Clone_api_Caveat_api_Caveat : Nat) (f_bytes_Clone : Nat) : PC :=
  (.seq (.reg [((some 2), (none, .cns))])
  (.seq (.reg [((some 5), (none, (.mv (.tmp 0)))),
    ((some 6), (none, (.callB f_slices_Clone_api_Caveat_api_Caveat [(.tmp 5)]))),
    ((some 3), (none, (.steal 6)))])
  (.seq (.seq (.reg [((some 7), (none, (.mv (.tmp 3)))),
    ((some 8), (none, (.lenB (.tmp 7)))),
    ((some 9), (none, (.mv (.const (.int .i64 0)))))])
  (.block 0 (.loop (.seq (.reg [((some 10), (none, (.bi .lss (.tmp 9) (.tmp 8))))])
  (.seq (.cond (.tmp 10)
      .skip
      (.exit 0))
  (chain_Copied_BC_j1 f_bytes_Clone))))))
  (.seq (.reg [((some 33), (none, (.steal 3))),
    ((some 2), (none, (.steal 33)))])
  .ret))))
/-- macaroon/registry.Copied: 24 slots, results [(.t 2)] -/
def registry_Copied_BC_j1 (f_chain_Copied : Nat) : PC :=
  (.seq (.block 1 (.seq (.reg [((some 11), (none, (.mv (.tmp 9)))),
       ((some 4), (none, (.mv (.tmp 11))))])
  (.reg [((some 12), (none, (.mv (.tmp 3)))),
       ((some 13), (none, (.mv (.tmp 4)))),
       ((some 14), (none, (.mv (.tmp 3)))),
       ((some 15), (none, (.mv (.tmp 4)))),
       ((some 16), (none, (.ixB 3 (.tmp 14) (.tmp 15)))),
       ((some 17), (none, (.fa 2 (.tmp 16)))),
       ((some 18), (none, (.ld false (.tmp 17)))),
       ((some 19), (none, (.callB f_chain_Copied [(.tmp 18)]))),
       ((some 20), (none, (.ixB 3 (.tmp 12) (.tmp 13)))),
       ((some 21), (none, (.fa 2 (.tmp 20)))),
       (none, (none, (.st 1 (.tmp 21) (.tmp 19))))])))
  (.reg [((some 22), (none, (.bi .add (.tmp 9) (.const (.int .i64 1))))),
      ((some 9), (none, (.mv (.tmp 22))))]))
def registry_Copied_BC (f_slices_Clone_api_Mint_api_Mint : Nat) (f_chain_Copied : Nat) : PC :=
  (.seq (.reg [((some 2), (none, .cns))])
  (.seq (.reg [((some 5), (none, (.mv (.tmp 0)))),
    ((some 6), (none, (.callB f_slices_Clone_api_Mint_api_Mint [(.tmp 5)]))),
    ((some 3), (none, (.steal 6)))])
  (.seq (.seq (.reg [((some 7), (none, (.mv (.tmp 3)))),
    ((some 8), (none, (.lenB (.tmp 7)))),
    ((some 9), (none, (.mv (.const (.int .i64 0)))))])
  (.block 0 (.loop (.seq (.reg [((some 10), (none, (.bi .lss (.tmp 9) (.tmp 8))))])
  (.seq (.cond (.tmp 10)
      .skip
      (.exit 0))
  (registry_Copied_BC_j1 f_chain_Copied))))))
  (.seq (.reg [((some 23), (none, (.steal 3))),
    ((some 2), (none, (.steal 23)))])
  .ret))))
/-- slices.Clip[[]macaroon/api.Mint,macaroon/api.Mint]: 9 slots, results [(.t 2)] -/
def slices_Clip_api_Mint_api_Mint_BC : PC :=
  (.seq (.reg [((some 2), (none, .cns))])
  (.seq (.reg [((some 3), (none, (.mv (.tmp 0)))),
    ((some 4), (none, (.mv (.tmp 0)))),
    ((some 5), (none, (.lenB (.tmp 4)))),
    ((some 6), (none, (.mv (.tmp 0)))),
    ((some 7), (none, (.lenB (.tmp 6)))),
    ((some 8), (none, (.slB 3 (.tmp 3) none (some (.tmp 5)) (some (.tmp 7))))),
    ((some 2), (none, (.steal 8)))])
  .ret))
/-- macaroon/registry.Add: 37 slots, results [(.t 4), (.t 5)] -/
def registry_Add_BC_j1 (f_slices_Clip_api_Mint_api_Mint : Nat) (t_api_Mint : Nat) (f_registry_Copied : Nat) : PC :=
  (.seq (.ord (.one ((some 31), (none, (.mv (.tmp 0))))
    (.alt (.one ((some 32), (none, (.callB f_slices_Clip_api_Mint_api_Mint [(.tmp 31)])))
     (.one ((some 33), (none, (.ldA 3 (.tmp 3))))
     (.one ((some 34), (none, (.mks t_api_Mint 3 false [(.tmp 33)])))
     (.one ((some 35), (none, (.appB 3 40 [(.int .i64 0), (.int .i64 0), (deep [])] 32 (.tmp 34))))
     (.one ((some 36), (none, (.callB f_registry_Copied [(.tmp 35)])))
     (.one ((some 4), (none, (.steal 36)))
     (.one ((some 5), (none, (.mv (.const (.int .i64 0)))))
     .done)))))))
    (.one ((some 33), (none, (.ldA 3 (.tmp 3))))
     (.one ((some 34), (none, (.mks t_api_Mint 3 false [(.tmp 33)])))
     (.one ((some 32), (none, (.callB f_slices_Clip_api_Mint_api_Mint [(.tmp 31)])))
     (.one ((some 35), (none, (.appB 3 40 [(.int .i64 0), (.int .i64 0), (deep [])] 32 (.tmp 34))))
     (.one ((some 36), (none, (.callB f_registry_Copied [(.tmp 35)])))
     (.one ((some 4), (none, (.steal 36)))
     (.one ((some 5), (none, (.mv (.const (.int .i64 0)))))
     .done))))))))))
  .ret)
def registry_Add_BC (f_registry_Valid : Nat) (f_registry_epochs : Nat) (f_registry_bad : Nat) (f_slices_Clip_api_Mint_api_Mint : Nat) (t_api_Mint : Nat) (f_registry_Copied : Nat) : PC :=
  (.seq (.reg [((some 3), (none, (.box 3 (.tmp 1)))),
    ((some 4), (none, .cns)),
    ((some 5), (none, (.mv (.const (.int .i64 0)))))])
  (.seq (.block 0 (.seq (.reg [((some 7), (none, (.mv (.tmp 0)))),
     ((some 8), (none, (.callB f_registry_Valid [(.tmp 7)]))),
     ((some 9), (none, (.un .not (.tmp 8)))),
     ((some 6), (none, (.mv (.tmp 9))))])
  (.cond (.tmp 6)
     (.seq (.reg [((some 4), (none, .cns)),
       ((some 5), (none, (.mv (.const (.int .i64 5)))))])
  .ret)
     (.seq (.reg [((some 11), (none, (.fa 0 (.tmp 3)))),
       ((some 12), (none, (.ld false (.tmp 11)))),
       ((some 13), (none, (.mv (.tmp 0)))),
       ((some 14), (none, (.lenB (.tmp 13)))),
       ((some 15), (none, (.bi .add (.tmp 14) (.const (.int .i64 1))))),
       ((some 16), (none, (.bi .neq (.tmp 12) (.tmp 15)))),
       ((some 10), (none, (.mv (.tmp 16))))])
  (.cond (.tmp 10)
       (.seq (.reg [((some 4), (none, .cns)),
         ((some 5), (none, (.mv (.const (.int .i64 11)))))])
  .ret)
       (.seq (.reg [((some 18), (none, (.fa 1 (.tmp 3)))),
         ((some 19), (none, (.ld false (.tmp 18)))),
         ((some 20), (none, (.callB f_registry_epochs [(.tmp 19)]))),
         ((some 21), (none, (.un .not (.tmp 20)))),
         ((some 17), (none, (.mv (.tmp 21))))])
  (.cond (.tmp 17)
         (.seq (.reg [((some 4), (none, .cns)),
           ((some 5), (none, (.mv (.const (.int .i64 1)))))])
  .ret)
         (.seq (.reg [((some 23), (none, (.fa 2 (.tmp 3)))),
           ((some 24), (none, (.ld false (.tmp 23)))),
           ((some 25), (none, (.len (.tmp 24)))),
           ((some 26), (none, (.bi .gtr (.tmp 25) (.const (.int .i64 64))))),
           ((some 22), (none, (.mv (.tmp 26))))])
  (.cond (.tmp 22)
           (.seq (.reg [((some 4), (none, .cns)),
             ((some 5), (none, (.mv (.const (.int .i64 2)))))])
  .ret)
           (.seq (.reg [((some 28), (none, (.fa 2 (.tmp 3)))),
             ((some 29), (none, (.ld false (.tmp 28)))),
             ((some 30), (none, (.callB f_registry_bad [(.tmp 29)]))),
             ((some 27), (none, (.mv (.tmp 30))))])
  (.cond (.tmp 27)
             (.seq (.reg [((some 4), (none, .cns)),
               ((some 5), (none, (.mv (.const (.int .i64 5)))))])
  .ret)
             .skip)))))))))))
  (registry_Add_BC_j1 f_slices_Clip_api_Mint_api_Mint t_api_Mint f_registry_Copied)))
end Go.PE
namespace Go.PE
open Go
@[simp] theorem Cav.p6 (c : Cav) : List.take 6 c.cells.tail = c.p.cells := _root_.id rfl
@[simp] theorem Cav.get7 (c : Cav) : c.cells[7]? = some (.int .i64 c.party) := _root_.id rfl
@[simp] theorem Cav.get8 (c : Cav) : c.cells[8]? = some (bytesV c.tk) := _root_.id rfl
@[simp] theorem Cav.get9 (c : Cav) : c.cells[9]? = some (bytesV c.bx) := _root_.id rfl
@[simp] theorem Cav.getE7 (c : Cav) (h : 7 < c.cells.length) : c.cells[7] = .int .i64 c.party := _root_.id rfl
@[simp] theorem Cav.getE8 (c : Cav) (h : 8 < c.cells.length) : c.cells[8] = bytesV c.tk := _root_.id rfl
@[simp] theorem Cav.getE9 (c : Cav) (h : 9 < c.cells.length) : c.cells[9] = bytesV c.bx := _root_.id rfl
@[simp] theorem asDeep_bytesV (l : List Int) : asDeep (bytesV l) = some (l.map (Value.int .u8)) := _root_.id rfl
theorem Cav.ag (c : Cav) : PE.ag c.cells = c.v := rfl
@[simp] theorem Cav.dg1v (p : Cav) : dg1 p.v = p.v := _root_.id rfl
@[simp] theorem Cav.dgTv (p : Cav) : dgT p.v = p.v := _root_.id rfl
def inBytes (l : List Int) : Prop := l.length ≤ maxLen ∧ ∀ x ∈ l, 0 ≤ x ∧ x ≤ 255
def Cav.wf (c : Cav) : Prop := c.p.wf ∧ inBytes c.tk ∧ inBytes c.bx
def zPred : Pred := ⟨0, 0, 0, 0, ⟨#[]⟩, 0⟩
def sizedV (l : List Int) : Bool := decide (1 ≤ l.length) && decide (l.length ≤ 1024)
@[simp] theorem Pred.fitsC (p : Pred) : fitsL [.int .i64, .int .u64, .int .i64, .int .i64, .string, .int .i64] p.cells = true := _root_.id rfl
def zPr (p : Pred) : Bool := eqL p.cells [.int .i64 0, .int .u64 0, .int .i64 0, .int .i64 0, .string ⟨#[]⟩, .int .i64 0]
def cavOK (c : Cav) : Bool :=
  if c.third = false then c.p.valid && (c.party == 0) && ((c.tk.length : Int) == 0) && ((c.bx.length : Int) == 0)
  else zPr c.p && decide (0 ≤ c.party) && decide (c.party ≤ 7) && sizedV c.tk && sizedV c.bx
def SizedOK (P : Program) (f : Nat) : Prop := ∀ (l : List Int) (H : Nat → Option (List Value)) (nx : Nat), PCalls P f [bytesV l] H nx (fun _ => False) (fun r H' _ => r = .bool (sizedV l) ∧ H' = H)
theorem sized_ok {P : Program} {f : Nat} (hc : compFn P f = some (11, caveat_sizedC, [.t 2])) : SizedOK P f := by
  intro l H nx
  refine PCalls_of hc (by simp) fun hw => ?_
  by_cases h : 1 ≤ l.length
  · simp [caveat_sizedC, show (1 : Int) ≤ l.length by omega]
    exact wF_own hw (by simp) ⟨by simp [sizedV, h]; omega, rfl⟩
  · simp [caveat_sizedC, show ¬ (1 : Int) ≤ l.length by omega]
    exact wF_own hw (by simp) ⟨by simp [sizedV, h], rfl⟩
def CavOK (P : Program) (f g : Nat) : Prop := ∀ (c : Cav), c.wf → ∀ (H : Nat → Option (List Value)) (nx : Nat), H g = some bitsRow → g < nx → PCalls P f [c.v] H nx (fun _ => False) (fun r H' _ => r = .bool (cavOK c) ∧ H' = H)
theorem cavv_ok {P : Program} {f g pv sz : Nat} (hc : compFn P f = some (50, caveat_ValidC pv sz, [.t 2])) (hp : PValidOK P pv g) (hs : SizedOK P sz) : CavOK P f g := by
  intro c hwf H nx hg hgn
  refine PCalls_of hc (by simp) fun hw => ?_
  have g1 : ¬ g = nx := by omega
  cases h3 : c.third with
  | false =>
    simp [caveat_ValidC, h3]
    refine wCall_eq (Q := fun r => r = .bool c.p.valid) (hp c.p hwf.1.1 _ _ (by simp [g1, hg]) (by simp; omega)) fun r n1 hr hn1 => ?_
    subst hr
    cases hA : c.p.valid with
    | false =>
      simp
      exact wF_own hw (by simp) ⟨by simp [cavOK, h3, hA], rfl⟩
    | true =>
      cases hB : (c.party == 0) with
      | false =>
        simp [hB]
        exact wF_own hw (by simp) ⟨by simp [cavOK, h3, hA, hB], rfl⟩
      | true =>
        cases hC : ((c.tk.length : Int) == 0) with
        | false =>
          simp [hB, hC]
          exact wF_own hw (by simp) ⟨by simp [cavOK, h3, hA, hB, hC], rfl⟩
        | true =>
          simp [hB, hC]
          exact wF_own hw (by simp) ⟨by simp [cavOK, h3, hA, hB, hC], rfl⟩
  | true =>
    have hz : eqL c.p.cells [.int .i64 0, .int .u64 0, .int .i64 0, .int .i64 0, .string ⟨#[]⟩, .int .i64 0] = zPr c.p := rfl
    simp [caveat_ValidC, caveat_ValidC_j1, h3, hz]
    cases hA : zPr c.p with
    | false =>
      simp
      exact wF_own hw (by simp) ⟨by simp [cavOK, h3, hA], rfl⟩
    | true =>
      by_cases hB : 0 ≤ c.party
      case neg =>
        simp [hB]
        exact wF_own hw (by simp) ⟨by simp [cavOK, h3, hA, hB], rfl⟩
      by_cases hC : c.party ≤ 7
      case neg =>
        simp [hB, hC]
        exact wF_own hw (by simp) ⟨by simp [cavOK, h3, hA, hB, hC], rfl⟩
      simp [hB, hC]
      refine wCall_eq (Q := fun r => r = .bool (sizedV c.tk)) (hs _ _ _) fun r n1 hr hn1 => ?_
      subst hr
      cases hD : sizedV c.tk with
      | false =>
        simp
        exact wF_own hw (by simp) ⟨by simp [cavOK, h3, hA, hB, hC, hD], rfl⟩
      | true =>
        simp
        refine wCall_eq (Q := fun r => r = .bool (sizedV c.bx)) (hs _ _ _) fun r n2 hr hn2 => ?_
        subst hr
        simp
        exact wF_own hw (by simp) ⟨by simp [cavOK, h3, hA, hB, hC, hD], rfl⟩
def RCavOK (P : Program) (f : Nat) : Prop := ∀ (c : Cav), c.wf → ∀ (H : Nat → Option (List Value)) (nx : Nat), PCalls P f [c.v] H nx (fun _ => False) (fun r H' _ => r = .bool (cavOK c) ∧ H' = H)
theorem rcavv_ok {P : Program} {f pv : Nat} (hc : compFn P f = some (64, ref10_ValidC pv, [.t 2])) (hp : RValidOK P pv) : RCavOK P f := by
  intro c hwf H nx
  refine PCalls_of hc (by simp) fun hw => ?_
  cases h3 : c.third with
  | false =>
    simp [ref10_ValidC, h3]
    refine wCall_eq (Q := fun r => r = .bool c.p.valid) (hp c.p hwf.1.1 hwf.1.2.1 _ _) fun r n1 hr hn1 => ?_
    subst hr
    cases hA : c.p.valid with
    | false =>
      simp
      exact wF_own hw (by simp) ⟨by simp [cavOK, h3, hA], rfl⟩
    | true =>
      cases hB : (c.party == 0) with
      | false =>
        simp [hB]
        exact wF_own hw (by simp) ⟨by simp [cavOK, h3, hA, hB], rfl⟩
      | true =>
        cases hC : ((c.tk.length : Int) == 0) with
        | false =>
          simp [hB, hC]
          exact wF_own hw (by simp) ⟨by simp [cavOK, h3, hA, hB, hC], rfl⟩
        | true =>
          simp [hB, hC]
          exact wF_own hw (by simp) ⟨by simp [cavOK, h3, hA, hB, hC], rfl⟩
  | true =>
    have hz : eqL c.p.cells [.int .i64 0, .int .u64 0, .int .i64 0, .int .i64 0, .string ⟨#[]⟩, .int .i64 0] = zPr c.p := rfl
    simp [ref10_ValidC, ref10_ValidC_j1, h3, hz]
    cases hA : zPr c.p with
    | false =>
      simp
      exact wF_own hw (by simp) ⟨by simp [cavOK, h3, hA], rfl⟩
    | true =>
      by_cases hB : 0 ≤ c.party
      case neg =>
        simp [hB]
        exact wF_own hw (by simp) ⟨by simp [cavOK, h3, hA, hB], rfl⟩
      by_cases hC : c.party ≤ 7
      case neg =>
        simp [hB, hC]
        exact wF_own hw (by simp) ⟨by simp [cavOK, h3, hA, hB, hC], rfl⟩
      by_cases hD : 1 ≤ c.tk.length
      case neg =>
        simp [hB, hC, show ¬ (1 : Int) ≤ c.tk.length by omega]
        exact wF_own hw (by simp) ⟨by simp [cavOK, h3, hA, hB, hC, sizedV, hD], rfl⟩
      by_cases hE : c.tk.length ≤ 1024
      case neg =>
        simp [hB, hC, show (1 : Int) ≤ c.tk.length by omega, show ¬ (c.tk.length : Int) ≤ 1024 by omega]
        exact wF_own hw (by simp) ⟨by simp [cavOK, h3, hA, hB, hC, sizedV, hD, hE], rfl⟩
      by_cases hF : 1 ≤ c.bx.length
      case neg =>
        simp [hB, hC, show (1 : Int) ≤ c.tk.length by omega, show (c.tk.length : Int) ≤ 1024 by omega, show ¬ (1 : Int) ≤ c.bx.length by omega]
        exact wF_own hw (by simp) ⟨by simp [cavOK, h3, hA, hB, hC, sizedV, hD, hE, hF], rfl⟩
      simp [hB, hC, show (1 : Int) ≤ c.tk.length by omega, show (c.tk.length : Int) ≤ 1024 by omega, show (1 : Int) ≤ c.bx.length by omega]
      exact wF_own hw (by simp) ⟨by simp [cavOK, h3, hA, hB, hC, sizedV, hD, hE, hF]; omega, rfl⟩
end Go.PE
namespace Go.PE
open Go
structure Mnt where
  ser : Int
  ep : Int
  cs : List Cav
def Mnt.cells (m : Mnt) : List Value := [.int .i64 m.ser, .int .i64 m.ep, deep (m.cs.map Cav.v)]
def Mnt.v (m : Mnt) : Value := PE.ag m.cells
@[simp] theorem Mnt.len (m : Mnt) : m.cells.length = 3 := _root_.id rfl
@[simp] theorem Mnt.dg1s (m : Mnt) : m.cells.map dg1 = m.cells := _root_.id rfl
@[simp] theorem Mnt.dgv (m : Mnt) : dg m.v = m.v := _root_.id rfl
@[simp] theorem Mnt.dg1v (m : Mnt) : dg1 m.v = m.v := _root_.id rfl
@[simp] theorem Mnt.dgTv (m : Mnt) : dgT m.v = m.v := _root_.id rfl
@[simp] theorem Mnt.cellsOf (m : Mnt) : PE.cellsOf m.v = some m.cells := _root_.id rfl
@[simp] theorem Mnt.lcv (m : Mnt) : lc m.v = m.cells := _root_.id rfl
@[simp] theorem Mnt.asAgv (m : Mnt) : asAg m.v = some m.cells := _root_.id rfl
@[simp] theorem Mnt.take3 (m : Mnt) : m.cells.take 3 = m.cells := _root_.id rfl
@[simp] theorem Mnt.drop3 (m : Mnt) : m.cells.drop 3 = [] := _root_.id rfl
@[simp] theorem Mnt.get0 (m : Mnt) : m.cells[0]? = some (.int .i64 m.ser) := _root_.id rfl
@[simp] theorem Mnt.get1 (m : Mnt) : m.cells[1]? = some (.int .i64 m.ep) := _root_.id rfl
@[simp] theorem Mnt.get2 (m : Mnt) : m.cells[2]? = some (deep (m.cs.map Cav.v)) := _root_.id rfl
@[simp] theorem Mnt.getE0 (m : Mnt) (h : 0 < m.cells.length) : m.cells[0] = .int .i64 m.ser := _root_.id rfl
@[simp] theorem Mnt.getE1 (m : Mnt) (h : 1 < m.cells.length) : m.cells[1] = .int .i64 m.ep := _root_.id rfl
@[simp] theorem Mnt.getE2 (m : Mnt) (h : 2 < m.cells.length) : m.cells[2] = deep (m.cs.map Cav.v) := _root_.id rfl
theorem Mnt.ag (m : Mnt) : PE.ag m.cells = m.v := rfl
theorem elem_mnt {l : List Mnt} {n : Int} (h0 : 0 ≤ n) (hn : n.toNat < l.length) : elemAt (l.map Mnt.v) n 3 = some (dptr 0 l[n.toNat].cells) := elemAt_map h0 hn rfl (by simp)
def Mnt.wf (m : Mnt) : Prop := (∀ c ∈ m.cs, c.wf) ∧ m.cs.length ≤ maxLen
def epV (n : Int) : Bool := decide (1 ≤ n) && decide (n ≤ 1000)
def badV (l : List Cav) : Bool := l.any fun c => !cavOK c
theorem badV_all (l : List Cav) : badV l = !l.all cavOK := by
  unfold badV
  induction l with
  | nil => rfl
  | cons a r ih => simp only [List.any_cons, List.all_cons, Bool.not_and, ih]
def mntOK (m : Mnt) (i : Nat) : Bool := decide (m.ser = i + 1) && epV m.ep && decide (m.cs.length ≤ 64) && m.cs.all cavOK
def mntF : List Mnt → Nat → Bool
  | [], _ => true
  | m :: r, i => mntOK m i && mntF r (i + 1)
theorem mntF_step {l : List Mnt} {i : Nat} (hi : i < l.length) : mntF (l.drop i) i = (mntOK l[i] i && mntF (l.drop (i + 1)) (i + 1)) := by
  rw [List.drop_eq_getElem_cons hi]; rfl

def IxCavOK (P : Program) (f : Nat) : Prop := ∀ (l : List Cav) (g : FuncId) (caps : List Value) (p : Cav → Bool) (H : Nat → Option (List Value)) (nx : Nat), l.length ≤ maxLen → FnB P Cav.v g caps H nx p l →
    PCalls P f [deep (l.map Cav.v), clo g [] caps] H nx (fun _ => False) (fun r H' _ => r = .int .i64 (ixF p l 0) ∧ H' = H)
theorem ixCav_ok {P : Program} {f : Nat} (hc : compFn P f = some (19, slices_IndexFunc_api_Caveat_api_CaveatC, [.t 4])) : IxCavOK P f := by
  intro l g caps p H nx hlen ⟨hfn, hf⟩
  refine PCalls_of hc (by simp) fun hw => ?_
  have hmx : (maxLen : Int) = 9223372036854775807 := rfl
  simp [slices_IndexFunc_api_Caveat_api_CaveatC]
  refine wpc_loop _ _ _ _ _ _ (fun s => ∃ i : Nat, i ≤ l.length ∧ s.t 0 = deep (l.map Cav.v) ∧ s.t 1 = clo g [] caps ∧ s.t 7 = .int .i64 l.length ∧ s.t 8 = .int .i64 i ∧ s.H = H ∧ nx ≤ s.nx ∧ ixF p l 0 = ixF p (l.drop i) i)
    (fun s => match s.t 8 with | .int _ i => (l.length - i).toNat | _ => 0) _ ⟨0, by omega, by simp, by simp, by simp, by simp, rfl, by simp, by simp⟩ ?_
  rintro ⟨T, H', nx'⟩ ⟨i, hi, e0, e1, e7, e8, rfl, hnx, hall⟩
  simp only at e0 e1 e7 e8 hnx
  simp [e7, e8]
  refine wB_of (fun hlt => ?_) (fun hlt => ?_)
  · simp at hlt
    have he := elem_cav (l := l) (n := (i : Int)) (by omega) (by simpa using hlt)
    simp at he
    have hst := ixF_step (p := p) hlt
    simp [slices_IndexFunc_api_Caveat_api_CaveatC_j1, e0, e1, e8, he, hfn, Cav.ag]
    refine wCall_eq (Q := fun r => r = .bool (p l[i])) (hf _ (List.getElem_mem _) _ hnx) fun r n4 hr hn4 => ?_
    subst hr
    cases hp : p l[i] with
    | true =>
      simp
      exact wF_own hw (by simp) ⟨by rw [hall, hst, hp]; rfl, rfl⟩
    | false =>
      simp [e8]
      rw [w64 (x := (i : Int) + 1) (by omega) (by omega)]
      simp at hn4
      refine kLoop_nrm _ _ _ _ (Sub_refl _ _) ⟨i + 1, by omega, by simp [e0], by simp [e1], by simp [e7], by simp, rfl, by simp; omega, by rw [hall, hst, hp]; rfl⟩ (by simp; omega)
  · simp at hlt
    have : i = l.length := by omega
    subst this
    rw [List.drop_length] at hall
    exact wF_own hw (by simp) ⟨by rw [hall]; rfl, rfl⟩
def IxMntOK (P : Program) (f : Nat) : Prop := ∀ (l : List Mnt) (g : FuncId) (caps : List Value) (p : Mnt → Bool) (H : Nat → Option (List Value)) (nx : Nat), l.length ≤ maxLen → FnB P Mnt.v g caps H nx p l →
    PCalls P f [deep (l.map Mnt.v), clo g [] caps] H nx (fun _ => False) (fun r H' _ => r = .int .i64 (ixF p l 0) ∧ H' = H)
theorem ixMnt_ok {P : Program} {f : Nat} (hc : compFn P f = some (19, slices_IndexFunc_api_Mint_api_MintC, [.t 4])) : IxMntOK P f := by
  intro l g caps p H nx hlen ⟨hfn, hf⟩
  refine PCalls_of hc (by simp) fun hw => ?_
  have hmx : (maxLen : Int) = 9223372036854775807 := rfl
  simp [slices_IndexFunc_api_Mint_api_MintC]
  refine wpc_loop _ _ _ _ _ _ (fun s => ∃ i : Nat, i ≤ l.length ∧ s.t 0 = deep (l.map Mnt.v) ∧ s.t 1 = clo g [] caps ∧ s.t 7 = .int .i64 l.length ∧ s.t 8 = .int .i64 i ∧ s.H = H ∧ nx ≤ s.nx ∧ ixF p l 0 = ixF p (l.drop i) i)
    (fun s => match s.t 8 with | .int _ i => (l.length - i).toNat | _ => 0) _ ⟨0, by omega, by simp, by simp, by simp, by simp, rfl, by simp, by simp⟩ ?_
  rintro ⟨T, H', nx'⟩ ⟨i, hi, e0, e1, e7, e8, rfl, hnx, hall⟩
  simp only at e0 e1 e7 e8 hnx
  simp [e7, e8]
  refine wB_of (fun hlt => ?_) (fun hlt => ?_)
  · simp at hlt
    have he := elem_mnt (l := l) (n := (i : Int)) (by omega) (by simpa using hlt)
    simp at he
    have hst := ixF_step (p := p) hlt
    simp [slices_IndexFunc_api_Mint_api_MintC_j1, e0, e1, e8, he, hfn, Mnt.ag]
    refine wCall_eq (Q := fun r => r = .bool (p l[i])) (hf _ (List.getElem_mem _) _ hnx) fun r n4 hr hn4 => ?_
    subst hr
    cases hp : p l[i] with
    | true =>
      simp
      exact wF_own hw (by simp) ⟨by rw [hall, hst, hp]; rfl, rfl⟩
    | false =>
      simp [e8]
      rw [w64 (x := (i : Int) + 1) (by omega) (by omega)]
      simp at hn4
      refine kLoop_nrm _ _ _ _ (Sub_refl _ _) ⟨i + 1, by omega, by simp [e0], by simp [e1], by simp [e7], by simp, rfl, by simp; omega, by rw [hall, hst, hp]; rfl⟩ (by simp; omega)
  · simp at hlt
    have : i = l.length := by omega
    subst this
    rw [List.drop_length] at hall
    exact wF_own hw (by simp) ⟨by rw [hall]; rfl, rfl⟩
def BadOK (P : Program) (f g : Nat) : Prop := ∀ (l : List Cav), (∀ c ∈ l, c.wf) → l.length ≤ maxLen → ∀ (H : Nat → Option (List Value)) (nx : Nat), H g = some bitsRow → g < nx → PCalls P f [deep (l.map Cav.v)] H nx (fun _ => False) (fun r H' _ => r = .bool (badV l) ∧ H' = H)
theorem bad1_ok {P : Program} {f g cv : Nat} (hc : compFn P f = some (6, registry_bad_1C cv, [.t 2])) (hcv : CavOK P cv g) (c : Cav) (hwf : c.wf) (H : Nat → Option (List Value)) (nx : Nat) (hg : H g = some bitsRow) (hgn : g < nx) :
    PCalls P f [c.v] H nx (fun _ => False) (fun r H' _ => r = .bool (!cavOK c) ∧ H' = H) := by
  refine PCalls_of hc (by simp) fun hw => ?_
  have g1 : ¬ g = nx := by omega
  simp [registry_bad_1C, Cav.ag]
  refine wCall_eq (Q := fun r => r = .bool (cavOK c)) (hcv c hwf _ _ (by simp [g1, hg]) (by simp; omega)) fun r n1 hr hn1 => ?_
  subst hr
  simp
  exact wF_own hw (by simp) ⟨rfl, rfl⟩
theorem bad_ok {P : Program} {f g cf b1 cv x : Nat} (hc : compFn P f = some (5, registry_badC cf b1, [.t 2])) (hcf : compFn P cf = some (9, slices_ContainsFunc_api_Caveat_api_CaveatC x, [.t 4])) (hx : IxCavOK P x)
    (hb1 : compFn P b1 = some (6, registry_bad_1C cv, [.t 2])) (hfn : okFn P b1 = true) (hcv : CavOK P cv g) : BadOK P f g := by
  have hcf' : ∀ (l : List Cav) (gf : FuncId) (caps : List Value) (p : Cav → Bool) (H : Nat → Option (List Value)) (nx : Nat), l.length ≤ maxLen → FnB P Cav.v gf caps H nx p l →
      PCalls P cf [deep (l.map Cav.v), clo gf [] caps] H nx (fun _ => False) (fun r H' _ => r = .bool (l.any p) ∧ H' = H) := by
    intro l gf caps p H nx hlen hf
    refine PCalls_of hcf (by simp) fun hw => ?_
    simp [slices_ContainsFunc_api_Caveat_api_CaveatC]
    refine wCall_eq (Q := fun r => r = .int .i64 (ixF p l 0)) (hx l gf caps p H nx hlen hf) fun r n4 hr hn4 => ?_
    subst hr
    simp
    exact wF_own hw (by simp) ⟨by rw [ixF_any]; rfl, rfl⟩
  intro l hwf hlen H nx hg hgn
  refine PCalls_of hc (by simp) fun hw => ?_
  simp [registry_badC]
  refine wCall_eq (Q := fun r => r = .bool (badV l)) (hcf' l b1 [] (fun c => !cavOK c) _ _ hlen ⟨hfn, fun c hcm nx' hnx' => bad1_ok hb1 hcv c (hwf c hcm) _ _ hg (by simp at hnx'; omega)⟩) fun r n4 hr hn4 => ?_
  subst hr
  simp
  exact wF_own hw (by simp) ⟨rfl, rfl⟩
def AllCOK (P : Program) (f : Nat) : Prop := ∀ (l : List Cav), (∀ c ∈ l, c.wf) → l.length ≤ maxLen → ∀ (H : Nat → Option (List Value)) (nx : Nat), PCalls P f [deep (l.map Cav.v)] H nx (fun _ => False) (fun r H' _ => r = .bool (l.all cavOK) ∧ H' = H)
theorem allC_ok {P : Program} {f cv : Nat} (hc : compFn P f = some (16, ref10_AllValidC cv, [.t 2])) (hcv : RCavOK P cv) : AllCOK P f := by
  intro l hwf hlen H nx
  refine PCalls_of hc (by simp) fun hw => ?_
  have hmx : (maxLen : Int) = 9223372036854775807 := rfl
  simp [ref10_AllValidC]
  refine wpc_loop _ _ _ _ _ _ (fun s => ∃ i : Nat, i ≤ l.length ∧ s.t 0 = deep (l.map Cav.v) ∧ s.t 3 = .int .i64 i ∧ s.H = H ∧ l.all cavOK = (l.drop i).all cavOK)
    (fun s => match s.t 3 with | .int _ i => (l.length - i).toNat | _ => 0) _ ⟨0, by omega, by simp, by simp, rfl, by simp⟩ ?_
  rintro ⟨T, H', nx'⟩ ⟨i, hi, e0, e3, rfl, hall⟩
  simp only at e0 e3
  simp [e0, e3]
  refine wB_of (fun hlt => ?_) (fun hlt => ?_)
  · simp at hlt
    have he := elem_cav (l := l) (n := (i : Int)) (by omega) (by simpa using hlt)
    simp at he
    rw [List.drop_eq_getElem_cons hlt, List.all_cons] at hall
    simp [ref10_AllValidC_j1, e0, e3, he, Cav.ag]
    refine wCall_eq (Q := fun r => r = .bool (cavOK l[i])) (hcv _ (hwf _ (List.getElem_mem _)) _ _) fun r n4 hr hn4 => ?_
    subst hr
    cases hp : cavOK l[i] with
    | false =>
      simp
      exact wF_own hw (by simp) ⟨by rw [hall, hp]; rfl, rfl⟩
    | true =>
      simp [e3]
      rw [w64 (x := (i : Int) + 1) (by omega) (by omega)]
      refine kLoop_nrm _ _ _ _ (Sub_refl _ _) ⟨i + 1, by omega, by simp [e0], by simp, rfl, by rw [hall, hp]; rfl⟩ (by simp; omega)
  · simp at hlt
    have : i = l.length := by omega
    subst this
    rw [List.drop_length] at hall
    exact wF_own hw (by simp) ⟨by rw [hall]; rfl, rfl⟩
def EpOK (P : Program) (f : Nat) : Prop := ∀ (n : Int) (H : Nat → Option (List Value)) (nx : Nat), PCalls P f [.int .i64 n] H nx (fun _ => False) (fun r H' _ => r = .bool (epV n) ∧ H' = H)
theorem ep_ok {P : Program} {f : Nat} (hc : compFn P f = some (9, registry_epochsC, [.t 2])) : EpOK P f := by
  intro n H nx
  refine PCalls_of hc (by simp) fun hw => ?_
  by_cases h : 1 ≤ n
  · simp [registry_epochsC, h]
    exact wF_own hw (by simp) (by simp [epV, h])
  · simp [registry_epochsC, h]
    exact wF_own hw (by simp) (by simp [epV, h])
def MVOK (P : Program) (f g : Nat) : Prop := ∀ (l : List Mnt), (∀ m ∈ l, m.wf) → l.length ≤ maxLen → ∀ (H : Nat → Option (List Value)) (nx : Nat), H g = some bitsRow → g < nx → PCalls P f [deep (l.map Mnt.v)] H nx (fun _ => False) (fun r H' _ => r = .bool (mntF l 0) ∧ H' = H)
theorem mv_ok {P : Program} {f g t ep bad : Nat} (hc : compFn P f = some (35, registry_ValidC t ep bad, [.t 2])) (hep : EpOK P ep) (hbad : BadOK P bad g) : MVOK P f g := by
  intro l hwf hlen H nx hg hgn
  refine PCalls_of hc (by simp) fun hw => ?_
  have hmx : (maxLen : Int) = 9223372036854775807 := rfl
  simp [registry_ValidC]
  refine wpc_loop _ _ _ _ _ _ (fun s => ∃ i : Nat, i ≤ l.length ∧ s.t 5 = deep (l.map Mnt.v) ∧ s.t 6 = .int .i64 l.length ∧ s.t 7 = .int .i64 i ∧ nx ≤ s.nx ∧ Own nx H s.H ∧ mntF l 0 = mntF (l.drop i) i)
    (fun s => match s.t 7 with | .int _ i => (l.length - i).toNat | _ => 0) _ ⟨0, by omega, by simp, by simp, by simp, by simp, by simp, by simp⟩ ?_
  rintro ⟨T, H', nx'⟩ ⟨i, hi, e5, e6, e7, hnx, hown, hall⟩
  simp only at e5 e6 e7 hnx hown
  simp [e6, e7]
  refine wB_of (fun hlt => ?_) (fun hlt => ?_)
  · simp at hlt
    have he := elem_mnt (l := l) (n := (i : Int)) (by omega) (by simpa using hlt)
    simp at he
    have hst := mntF_step hlt
    have hmw := hwf _ (List.getElem_mem hlt)
    have hgH : H' g = some bitsRow := by rw [hown g hgn]; exact hg
    have g1 : ¬ g = nx' := by omega
    have hw1 := w64 (x := (i : Int) + 1) (by omega) (by omega)
    rw [hall, hst] at *
    by_cases h1 : l[i].ser = i + 1
    case neg =>
      have hb : (l[i].ser != ((i : Int) + 1)) = true := by simpa using h1
      simp [registry_ValidC_j1, e5, e7, he, hw1, hb, hnx]
      exact wF_own hw (by simp [hnx, hown]) ⟨by simp [mntOK, h1], rfl⟩
    simp [registry_ValidC_j1, e5, e7, he, hw1, h1, hnx]
    refine wCall_eq (Q := fun r => r = .bool (epV l[i].ep)) (hep _ _ _) fun r n4 hr hn4 => ?_
    subst hr
    cases h2 : epV l[i].ep with
    | false =>
      simp
      exact wF_own hw (by simp [hnx, hown]) ⟨by simp [mntOK, h2], rfl⟩
    | true =>
      by_cases h3 : l[i].cs.length ≤ 64
      case neg =>
        simp [show (64 : Int) < l[i].cs.length by omega]
        exact wF_own hw (by simp [hnx, hown]) ⟨by simp [mntOK, h3], rfl⟩
      simp [show ¬ (64 : Int) < l[i].cs.length by omega]
      refine wCall_eq (Q := fun r => r = .bool (badV l[i].cs)) (hbad _ hmw.1 hmw.2 _ _ (by simp [g1, hgH]) (by simp at hn4 ⊢; omega)) fun r n5 hr hn5 => ?_
      subst hr
      rw [badV_all]
      cases h4 : l[i].cs.all cavOK with
      | false =>
        simp
        exact wF_own hw (by simp [hnx, hown]) ⟨by simp only [mntOK, h4]; simp, rfl⟩
      | true =>
        simp [e7, hw1]
        simp at hn4 hn5
        refine kLoop_nrm _ _ _ _ (Sub_refl _ _) ⟨i + 1, by omega, by simp [e5], by simp [e6], by simp, by simp; omega, by simp [hnx, hown], by simp only [mntOK, h1, h2, h3, h4]; simp⟩ (by simp; omega)
  · simp at hlt
    have : i = l.length := by omega
    subst this
    rw [List.drop_length] at hall
    exact wF_own hw (by simpa using hown) ⟨by rw [hall]; rfl, rfl⟩
end Go.PE
namespace Go.PE
open Go
theorem row_same {row : List Value} {o : Nat} {v : Value} (h : row[o]? = some v) : row.take o ++ v :: row.drop (o + 1) = row := by
  obtain ⟨hlt, rfl⟩ := List.getElem?_eq_some_iff.1 h
  rw [← List.drop_eq_getElem_cons hlt, List.take_append_drop]
def cavEl : El Cav := ⟨Cav.cells, Cav.v, 10, fun _ => rfl, Cav.len, Cav.dg1s⟩
def mntEl : El Mnt := ⟨Mnt.cells, Mnt.v, 3, fun _ => rfl, Mnt.len, Mnt.dg1s⟩
def BCloneOK (P : Program) (f e : Nat) : Prop := ∀ (l : List Int) (H : Nat → Option (List Value)) (nx : Nat), l.length ≤ 140737488351232 →
    PCalls P f [bytesV l] H nx (fun _ => False) (fun r H' _ => r = lin e (l.map (.int .u8)) ∧ H' = H)
theorem bclone_ok {P : Program} {f t : Nat} (hc : compFn P f = some (8, bytes_CloneC t, [.t 2])) : BCloneOK P f t := by
  intro l H nx hlen
  refine PCalls_of hc (by simp) fun hw => ?_
  have hmx : (maxLen : Int) = 9223372036854775807 := rfl
  simp [bytes_CloneC, bytesV]
  refine nilS_deep (xs := l.map (.int .u8)) (by simp) (fun hn => ?_) ?_
  · have : l = [] := by simpa using hn
    subst this
    simp
    exact wF_own hw (by simp) ⟨rfl, rfl⟩
  · simp
    refine ⟨by omega, by omega, ?_⟩
    exact wF_own hw (by simp) ⟨rfl, rfl⟩
def CloneBOK {α : Type} (P : Program) (f : Nat) (E : El α) : Prop := ∀ (l : List α) (H : Nat → Option (List Value)) (nx : Nat), l.length ≤ 1000000 → (∀ k, nx ≤ k → H k = none) →
    PCalls P f [deep (l.map E.g)] H nx (fun _ => False) (fun r H' nx' => Bx E nx H H' nx' r l)
theorem cloneMnt_ok {P : Program} {f t : Nat} (hc : compFnX P [t] f = some (8, slices_Clone_api_Mint_api_Mint_BC, [.t 2])) : CloneBOK P f mntEl := by
  intro l H nx hlen _
  refine PCalls_ofX hc (by simp) fun hw => ?_
  have hmx : (maxLen : Int) = 9223372036854775807 := rfl
  have hnil : Bx mntEl nx H H nx (ns []) [] := Bx.nil (fun k _ => rfl) (Nat.le_refl _)
  simp [slices_Clone_api_Mint_api_Mint_BC]
  refine nilS_deep (xs := l.map Mnt.v) (by simp; rfl) (fun hn => ?_) ?_
  · have : l = [] := by simpa using hn
    subst this
    simp
    exact wF_of hnil
  · simp
    refine Bx.app (E := mntEl) (l := l) (m := []) hnil rfl rfl (by simp; omega) (by simp; omega) fun v' H3 nx3 hB3 => ?_
    simp
    exact wF_of (by simpa using hB3)
theorem cloneCav_ok {P : Program} {f t : Nat} (hc : compFnX P [t] f = some (8, slices_Clone_api_Caveat_api_Caveat_BC, [.t 2])) : CloneBOK P f cavEl := by
  intro l H nx hlen _
  refine PCalls_ofX hc (by simp) fun hw => ?_
  have hmx : (maxLen : Int) = 9223372036854775807 := rfl
  have hnil : Bx cavEl nx H H nx (ns []) [] := Bx.nil (fun k _ => rfl) (Nat.le_refl _)
  simp [slices_Clone_api_Caveat_api_Caveat_BC]
  refine nilS_deep (xs := l.map Cav.v) (by simp; rfl) (fun hn => ?_) ?_
  · have : l = [] := by simpa using hn
    subst this
    simp
    exact wF_of hnil
  · simp [slices_Clone_api_Caveat_api_Caveat_BC_j1]
    refine Bx.app (E := cavEl) (l := l) (m := []) hnil rfl rfl (by simp; omega) (by simp; omega) fun v' H3 nx3 hB3 => ?_
    simp
    exact wF_of (by simpa using hB3)
def asL {α : Type} (f : α → Value) (l : List α) (v : Value) : Prop := v = ns [] ∧ l = [] ∨ v = deep (l.map f)
theorem asL_dg {α : Type} {f : α → Value} {l : List α} {v : Value} (h : asL f l v) : dg v = deep (l.map f) ∧ dg1 v = deep (l.map f) ∧ dgT v = v := by
  rcases h with ⟨rfl, rfl⟩ | rfl <;> exact ⟨rfl, rfl, rfl⟩
def CopyCavOK (P : Program) (f : Nat) : Prop := ∀ (l : List Cav) (H : Nat → Option (List Value)) (nx : Nat), l.length ≤ 1000000 → (∀ c ∈ l, c.tk.length ≤ 140737488351232 ∧ c.bx.length ≤ 140737488351232) →
    PCalls P f [deep (l.map Cav.v)] H nx (fun _ => False) (fun r H' _ => asL Cav.v l r ∧ H' = H)
theorem copyCav_ok {P : Program} {f t e cl bc : Nat} (hc : compFnX P [t] f = some (34, chain_Copied_BC cl bc, [.t 2])) (hcl : CloneBOK P cl cavEl) (hbc : BCloneOK P bc e) : CopyCavOK P f := by
  intro l H nx hlen hby
  refine PCalls_ofX hc (by simp) fun hw => ?_
  have hmx : (maxLen : Int) = 9223372036854775807 := rfl
  simp [chain_Copied_BC]
  refine wCallB_of (wCall_le (hcl l H nx hlen hw) fun r H1 n1 hB hn1 hown => ?_)
  have hlv := hB.len
  simp [hlv]
  refine wpc_loop _ _ _ _ _ _ (fun s => ∃ i : Nat, i ≤ l.length ∧ s.t 3 = r ∧ s.t 8 = .int .i64 l.length ∧ s.t 9 = .int .i64 i ∧ n1 ≤ s.nx ∧ s.H = H1)
    (fun s => match s.t 9 with | .int _ i => (l.length - i).toNat | _ => 0) _ ⟨0, by omega, by simp, by simp, by simp, by simp, rfl⟩ ?_
  rintro ⟨T, H', nx'⟩ ⟨i, hi, e3, e8, e9, hnx, rfl⟩
  simp only at e3 e8 e9 hnx
  simp [e8, e9]
  refine wB_of (fun hlt => ?_) (fun hlt => ?_)
  · simp at hlt
    obtain ⟨k, cap, rest, rfl, a2, a3, a4, a5, a6, a7⟩ := hB.at (by omega)
    replace a4 : H' k = some (l.flatMap Cav.cells ++ rest) := a4
    have hg8 := fl_get Cav.cells 10 Cav.len rest (i := i) (o := 8) hlt (by omega)
    have hg9 := fl_get Cav.cells 10 Cav.len rest (i := i) (o := 9) hlt (by omega)
    generalize l.flatMap Cav.cells ++ rest = row at a4 hg8 hg9
    have hw1 := w64 (x := (i : Int) + 1) (by omega) (by omega)
    have hb := hby l[i] (List.getElem_mem _)
    have stp : ∀ {x : List Int} {d : Option Nat} {s : PS} {K : PS → Prop}, x.length ≤ 140737488351232 → (∀ n5, s.nx ≤ n5 → K ⟨(s.putO d (lin e (x.map (.int .u8)))).t, s.H, n5⟩) → wCallB (PCalls P) (fun _ => False) nx bc [bytesV x] d s K :=
      fun {x d s K} hx hK => wCallB_of (wCall_eq (Q := fun r => r = lin e (x.map (.int .u8))) (hbc x s.H s.nx hx) fun r n5 hr hn5 => by subst hr; exact hK n5 hn5)
    rw [Cav.get8] at hg8
    rw [Cav.get9] at hg9
    have hr8 : row.take (i * 10 + 8) ++ deep (l[i].tk.map (Value.int .u8)) :: row.drop (i * 10 + 8 + 1) = row := row_same hg8
    have hr9 : row.take (i * 10 + 9) ++ deep (l[i].bx.map (Value.int .u8)) :: row.drop (i * 10 + 9 + 1) = row := row_same hg9
    have hle8 : i * 10 + 8 + 1 ≤ row.length := by have := (List.getElem?_eq_some_iff.1 hg8).1; omega
    have hle9 : i * 10 + 9 + 1 ≤ row.length := by have := (List.getElem?_eq_some_iff.1 hg9).1; omega
    have hup : upd H' k (some row) = H' := upd_self _ _ _ a4
    simp [chain_Copied_BC_j1, e3, e9, a4, hlt, hg8, hg9]
    repeat' first
      | refine And.intro ?_ ?_
      | omega
      | (refine stp hb.1 fun n5 hn5 => ?_; dsimp only at hn5; simp [e3, e9, a4, hlt, hg8, hg9, hw1, hr8, hr9, hle8, hle9, hup])
      | (refine stp hb.2 fun n6 hn6 => ?_; dsimp only at hn6; simp [e3, e9, a4, hlt, hg8, hg9, hw1, hr8, hr9, hle8, hle9, hup])
    all_goals
      refine kLoop_nrm _ _ _ _ (Sub_refl _ _) ⟨i + 1, by omega, by simp [e3], by simp [e8], by simp, by simp; omega, rfl⟩ (by simp; omega)
  · simp [e3]
    exact Bx.fin1 (hB.mo hnx) hw fun v' h => ⟨h, rfl⟩
end Go.PE
namespace Go.PE
open Go
def Cav.fin (c : Cav) : Prop := c.tk.length ≤ 140737488351232 ∧ c.bx.length ≤ 140737488351232
def Mnt.fin (m : Mnt) : Prop := m.cs.length ≤ 1000000 ∧ ∀ c ∈ m.cs, c.fin
def CopyMntOK (P : Program) (f : Nat) : Prop := ∀ (l : List Mnt) (H : Nat → Option (List Value)) (nx : Nat), l.length ≤ 1000000 → (∀ m ∈ l, m.fin) →
    PCalls P f [deep (l.map Mnt.v)] H nx (fun _ => False) (fun r H' _ => asL Mnt.v l r ∧ H' = H)
theorem copyMnt_ok {P : Program} {f t cl cc : Nat} (hc : compFnX P [t] f = some (24, registry_Copied_BC cl cc, [.t 2])) (hcl : CloneBOK P cl mntEl) (hcc : CopyCavOK P cc) : CopyMntOK P f := by
  intro l H nx hlen hfi
  refine PCalls_ofX hc (by simp) fun hw => ?_
  have hmx : (maxLen : Int) = 9223372036854775807 := rfl
  simp [registry_Copied_BC]
  refine wCallB_of (wCall_le (hcl l H nx hlen hw) fun r H1 n1 hB hn1 hown => ?_)
  have hlv := hB.len
  simp [hlv]
  refine wpc_loop _ _ _ _ _ _ (fun s => ∃ i : Nat, i ≤ l.length ∧ s.t 3 = r ∧ s.t 8 = .int .i64 l.length ∧ s.t 9 = .int .i64 i ∧ n1 ≤ s.nx ∧ s.H = H1)
    (fun s => match s.t 9 with | .int _ i => (l.length - i).toNat | _ => 0) _ ⟨0, by omega, by simp, by simp, by simp, by simp, rfl⟩ ?_
  rintro ⟨T, H', nx'⟩ ⟨i, hi, e3, e8, e9, hnx, rfl⟩
  simp only at e3 e8 e9 hnx
  simp [e8, e9]
  refine wB_of (fun hlt => ?_) (fun hlt => ?_)
  · simp at hlt
    obtain ⟨k, cap, rest, rfl, a2, a3, a4, a5, a6, a7⟩ := hB.at (by omega)
    replace a4 : H' k = some (l.flatMap Mnt.cells ++ rest) := a4
    have hg2 := fl_get Mnt.cells 3 Mnt.len rest (i := i) (o := 2) hlt (by omega)
    generalize l.flatMap Mnt.cells ++ rest = row at a4 hg2
    have hw1 := w64 (x := (i : Int) + 1) (by omega) (by omega)
    have hm := hfi l[i] (List.getElem_mem _)
    rw [Mnt.get2] at hg2
    have hr2 : row.take (i * 3 + 2) ++ deep (l[i].cs.map Cav.v) :: row.drop (i * 3 + 2 + 1) = row := row_same hg2
    have hle2 : i * 3 + 2 + 1 ≤ row.length := by have := (List.getElem?_eq_some_iff.1 hg2).1; omega
    have hup : upd H' k (some row) = H' := upd_self _ _ _ a4
    simp [registry_Copied_BC_j1, e3, e9, a4, hlt, hg2]
    refine wCallB_of (wCall_eq (Q := fun r => asL Cav.v l[i].cs r) (hcc l[i].cs _ _ hm.1 hm.2) fun r n5 hr hn5 => ?_)
    obtain ⟨q1, q2, q3⟩ := asL_dg hr
    simp [q1, e3, e9, a4, hlt, hg2, hw1, hr2, hle2, hup]
    refine ⟨a2, ?_⟩
    refine kLoop_nrm _ _ _ _ (Sub_refl _ _) ⟨i + 1, by omega, by simp [e3], by simp [e8], by simp, by simp at hn5; simp; omega, rfl⟩ (by simp; omega)
  · simp [e3]
    exact Bx.fin1 (hB.mo hnx) hw fun v' h => ⟨h, rfl⟩
def ClipOK (P : Program) (f : Nat) : Prop := ∀ (l : List Mnt) (H : Nat → Option (List Value)) (nx : Nat),
    PCalls P f [deep (l.map Mnt.v)] H nx (fun _ => False) (fun r H' _ => r = ns (l.map Mnt.v) ∧ H' = H)
theorem clip_ok {P : Program} {f t : Nat} (hc : compFnX P [t] f = some (9, slices_Clip_api_Mint_api_Mint_BC, [.t 2])) : ClipOK P f := by
  intro l H nx
  refine PCalls_ofX hc (by simp) fun hw => ?_
  simp [slices_Clip_api_Mint_api_Mint_BC]
  rw [List.take_of_length_le (by simp)]
  exact wF_own hw (by simp) ⟨rfl, rfl⟩
end Go.PE
namespace Go.PE
open Go
theorem Bx.appNs {α : Type} {E : El α} {n0 : Nat} {H0 : Nat → Option (List Value)} {T : Nat → Prop} {d : Option Nat} {s : PS} {K : PS → Prop} {m l : List α} {size bytes : Nat} {zero : List Value}
    (h1 : Own n0 H0 s.H) (h2 : n0 ≤ s.nx) (hsz : size = E.size) (hz : zero.length = E.size) (hm : m.length + l.length ≤ maxLen) (hb : (m.length + l.length) * bytes ≤ 140737488355328) (hl : 0 < l.length)
    (hK : ∀ v' H' nx', Bx E n0 H0 H' nx' v' (m ++ l) → s.nx ≤ nx' → K ⟨(s.putO d v').t, H', nx'⟩) : wAppB T n0 (ns (m.map E.g)) (srcV s.H (deep (l.map E.g)) size) size bytes zero d s K := by
  subst hsz
  rw [El.src]
  refine wAppB_ns (fun y hy => by obtain ⟨a, _, rfl⟩ := List.mem_map.1 hy; rw [E.hg, E.hf]) (by simpa using hm) (by simpa using hb) (fun h0 => by omega) (fun h0 cap hc1 hc2 => ?_)
  rw [List.length_map] at hc1 ⊢
  refine hK _ _ _ ⟨by rw [own_upd h2]; exact h1, by show n0 ≤ s.nx + 1; omega, .inr ⟨s.nx, cap, (List.replicate (cap - (m.length + l.length)) zero).flatten, by simp, h2, by omega, ?_, ?_, by simpa using hc1, hc2⟩⟩ (by omega)
  · rw [upd_same, El.lcs, El.dgs, List.flatMap_append]
  · rw [flat_rep_len, hz, List.length_append, ← Nat.add_mul]; congr 1; omega
/-- a call that takes it -/
theorem Bx.give {α : Type} {E : El α} {P : Program} {n0 f : Nat} {H0 : Nat → Option (List Value)} {T : Nat → Prop} {d : Option Nat} {s : PS} {K : PS → Prop} {v : Value} {m : List α} {as : List Value} {R : Value → Prop}
    (h : Bx E n0 H0 s.H s.nx v m) (hc : ∀ H1, PCalls P f (deep (m.map E.g) :: as) H1 s.nx (fun _ => False) (fun p H' _ => R p ∧ H' = H1))
    (hK : ∀ p H' n', R p → Own n0 H0 H' → s.nx ≤ n' → K ⟨(s.putO d p).t, H', n'⟩) : wCallB (PCalls P) T n0 f (dg v :: as) d s K := by
  obtain ⟨h1, h2, ⟨rfl, rfl⟩ | ⟨k, cap, rest, rfl, a2, a3, a4, a5, a6, a7⟩⟩ := h
  · refine ⟨s.H, _, Sub_refl _ _, Cvs_refl _ _ _ _, .inl ⟨fun _ => False, fun _ h => h.elim, fun _ _ h => h.elim, (hc s.H).more.mono ?_⟩⟩
    rintro p H' nx' ⟨⟨hp, rfl⟩, hn, _⟩
    have := hK p s.H nx' hp h1 hn
    cases d <;> exact this
  · refine ⟨upd s.H k none, deep (m.map E.g) :: as, fun j => ?_, ⟨rfl, fun i a b ha hb => ?_⟩, .inl ⟨fun _ => False, fun _ h => h.elim, fun _ _ h => h.elim, (hc _).more.mono ?_⟩⟩
    · by_cases e : j = k
      · subst e; exact .inr ⟨a2, upd_same _ _ _⟩
      · exact .inl (upd_ne _ _ e)
    · cases i with
      | zero =>
        simp at ha hb; subst ha; subst hb
        exact .inl (Cv1_list E.f E.g E.hg E.size E.hf E.hd a4 (upd_same _ _ _) a2 a7)
      | succ i =>
        simp at ha hb; rw [ha] at hb
        exact .inl (.inl (Option.some.inj hb).symm)
    · rintro p H' nx' ⟨⟨hp, rfl⟩, hn, _⟩
      have := hK p (upd s.H k none) nx' hp (by rw [own_upd a2]; exact h1) hn
      cases d <;> exact this
def addE (l : List Mnt) (m : Mnt) : Int :=
  if mntF l 0 = false then 5 else if m.ser = l.length + 1 then (if epV m.ep = false then 1 else if 64 < m.cs.length then 2 else if m.cs.all cavOK = false then 5 else 0) else 11
def addM (l : List Mnt) (m : Mnt) : List Mnt := if addE l m = 0 then l ++ [m] else []
def addMR (l : List Mnt) (m : Mnt) (r : Value) : Prop := ∃ v, asL Mnt.v (addM l m) v ∧ r = tup [v, .int .i64 (addE l m)]
def AddMOK (P : Program) (f g : Nat) : Prop := ∀ (l : List Mnt) (m : Mnt), (∀ m ∈ l, m.wf) → m.wf → l.length ≤ 1000 → ∀ (H : Nat → Option (List Value)) (nx : Nat), H g = some bitsRow → g < nx →
    PCalls P f [deep (l.map Mnt.v), m.v] H nx (fun _ => False) (fun r H' _ => addMR l m r ∧ H' = H)
theorem cav_fin {c : Cav} (h : cavOK c = true) : c.fin := by
  unfold cavOK at h
  split at h
  · simp at h
    have h1 := h.1.2; have h2 := h.2
    constructor
    · rw [h1]; simp
    · rw [h2]; simp
  · simp [sizedV] at h
    constructor <;> omega
theorem mnt_fin {m : Mnt} (h1 : m.cs.length ≤ 64) (h2 : m.cs.all cavOK = true) : m.fin := ⟨by omega, fun c hc => cav_fin (List.all_eq_true.1 h2 c hc)⟩
theorem mntF_fin : ∀ {l : List Mnt} {i : Nat}, mntF l i = true → ∀ m ∈ l, m.fin
  | [], _, _, _, hm => by simp at hm
  | a :: r, i, h, m, hm => by
    unfold mntF at h
    simp only [Bool.and_eq_true] at h
    rcases List.mem_cons.1 hm with rfl | hm
    · have := h.1
      unfold mntOK at this
      simp only [Bool.and_eq_true, decide_eq_true_eq] at this
      exact mnt_fin this.1.2 this.2
    · exact mntF_fin h.2 m hm
theorem asL_nil {α : Type} (f : α → Value) : asL f [] (ns []) := .inl ⟨rfl, rfl⟩
theorem addM_ok {P : Program} {f g mv ep bad cl t cp : Nat} (hc : compFnX P [t] f = some (37, registry_Add_BC mv ep bad cl t cp, [.t 4, .t 5])) (hmv : MVOK P mv g) (hep : EpOK P ep) (hbad : BadOK P bad g) (hcl : ClipOK P cl) (hcp : CopyMntOK P cp) : AddMOK P f g := by
  intro l m hwl hwm hlen H nx hg hgn
  refine PCalls_ofX hc (by simp) fun hw => ?_
  have hmx : (maxLen : Int) = 9223372036854775807 := rfl
  have g1 : ¬ g = nx := by omega
  have hw1 := w64 (x := (l.length : Int) + 1) (by omega) (by omega)
  simp [registry_Add_BC]
  refine wCallB_of (wCall_eq (Q := fun r => r = .bool (mntF l 0)) (hmv l hwl (by omega) _ _ (by simp [g1, hg]) (by simp; omega)) fun r n1 hr hn1 => ?_)
  subst hr
  cases h1 : mntF l 0 with
  | false =>
    simp
    have he : addE l m = 5 := by simp [addE, h1]
    exact wF_own hw (by simp) ⟨⟨_, by rw [addM, he]; exact asL_nil _, by rw [he]; rfl⟩, rfl⟩
  | true =>
    by_cases h2 : m.ser = l.length + 1
    case neg =>
      have hb : (m.ser != ((l.length : Int) + 1)) = true := by simpa using h2
      simp [hw1, hb]
      have he : addE l m = 11 := by simp [addE, h1, h2]
      exact wF_own hw (by simp) ⟨⟨_, by rw [addM, he]; exact asL_nil _, by rw [he]; rfl⟩, rfl⟩
    simp [hw1, h2]
    refine wCallB_of (wCall_eq (Q := fun r => r = .bool (epV m.ep)) (hep _ _ _) fun r n2 hr hn2 => ?_)
    subst hr
    cases h3 : epV m.ep with
    | false =>
      simp
      have he : addE l m = 1 := by simp [addE, h1, h2, h3]
      exact wF_own hw (by simp) ⟨⟨_, by rw [addM, he]; exact asL_nil _, by rw [he]; rfl⟩, rfl⟩
    | true =>
      by_cases h4 : 64 < m.cs.length
      · simp [show (64 : Int) < m.cs.length by omega]
        have he : addE l m = 2 := by simp [addE, h1, h2, h3, h4]
        exact wF_own hw (by simp) ⟨⟨_, by rw [addM, he]; exact asL_nil _, by rw [he]; rfl⟩, rfl⟩
      simp [show ¬ (64 : Int) < m.cs.length by omega]
      refine wCallB_of (wCall_eq (Q := fun r => r = .bool (badV m.cs)) (hbad _ hwm.1 hwm.2 _ _ (by simp [g1, hg]) (by simp at hn1 hn2 ⊢; omega)) fun r n3 hr hn3 => ?_)
      subst hr
      rw [badV_all]
      cases h5 : m.cs.all cavOK with
      | false =>
        simp
        have he : addE l m = 5 := by simp only [addE, h1, h2, h3, h4, h5]; simp
        exact wF_own hw (by simp) ⟨⟨_, by rw [addM, he]; exact asL_nil _, by rw [he]; rfl⟩, rfl⟩
      | true =>
        have he : addE l m = 0 := by simp only [addE, h1, h2, h3, h4, h5]; simp
        have hadd : addM l m = l ++ [m] := by simp [addM, he]
        have hfin : ∀ x ∈ l ++ [m], x.fin := fun x hx => by
          rcases List.mem_append.1 hx with hx | hx
          · exact mntF_fin h1 x hx
          · simp at hx; subst hx; exact mnt_fin (by omega) h5
        simp at hn1 hn2 hn3
        have hone : Mnt.v m = (fun x : Mnt => x.v) m := rfl
        simp [registry_Add_BC_j1]
        repeat' first
          | refine And.intro ?_ ?_
          | (refine wCallB_of (wCall_eq (Q := fun r => r = ns (l.map Mnt.v)) (hcl _ _ _) fun r n4 hr hn4 => ?_); subst hr; simp at hn4; simp)
          | (refine Bx.appNs (E := mntEl) (n0 := nx) (H0 := H) (m := l) (l := [m]) (by simp) (by simp; omega) rfl rfl (by simp; omega) (by simp; omega) (by simp) fun v' H3 nx3 hB3 hn5 => ?_; simp at hn5; simp)
          | (refine Bx.give (E := mntEl) (R := fun r => asL Mnt.v (l ++ [m]) r) hB3 (fun H1 => hcp _ H1 _ (by simp; omega) hfin) fun p H' n' hp hown hn' => ?_; obtain ⟨q1, q2, q3⟩ := asL_dg hp; simp)
        all_goals exact wF_own hw hown ⟨⟨p, by rw [hadd]; exact hp, by rw [he]; rfl⟩, rfl⟩
def RMVOK (P : Program) (f : Nat) : Prop := ∀ (l : List Mnt), (∀ m ∈ l, m.wf) → l.length ≤ maxLen → ∀ (H : Nat → Option (List Value)) (nx : Nat), PCalls P f [deep (l.map Mnt.v)] H nx (fun _ => False) (fun r H' _ => r = .bool (mntF l 0) ∧ H' = H)
theorem rmv_ok {P : Program} {f av : Nat} (hc : compFn P f = some (52, ref21_MintsOkC av, [.t 2])) (hav : AllCOK P av) : RMVOK P f := by
  intro l hwf hlen H nx
  refine PCalls_of hc (by simp) fun hw => ?_
  have hmx : (maxLen : Int) = 9223372036854775807 := rfl
  simp [ref21_MintsOkC]
  refine wpc_loop _ _ _ _ _ _ (fun s => ∃ i : Nat, i ≤ l.length ∧ s.t 0 = deep (l.map Mnt.v) ∧ s.t 3 = .int .i64 i ∧ s.H = H ∧ mntF l 0 = mntF (l.drop i) i)
    (fun s => match s.t 3 with | .int _ i => (l.length - i).toNat | _ => 0) _ ⟨0, by omega, by simp, by simp, rfl, by simp⟩ ?_
  rintro ⟨T, H', nx'⟩ ⟨i, hi, e0, e3, rfl, hall⟩
  simp only at e0 e3
  simp [e0, e3]
  refine wB_of (fun hlt => ?_) (fun hlt => ?_)
  · simp at hlt
    have he := elem_mnt (l := l) (n := (i : Int)) (by omega) (by simpa using hlt)
    simp at he
    have hst := mntF_step hlt
    have hmw := hwf _ (List.getElem_mem hlt)
    have hw1 := w64 (x := (i : Int) + 1) (by omega) (by omega)
    rw [hall, hst] at *
    by_cases h1 : l[i].ser = i + 1
    case neg =>
      have hb : (l[i].ser != ((i : Int) + 1)) = true := by simpa using h1
      simp [ref21_MintsOkC_j1, e0, e3, he, hw1, hb]
      exact wF_own hw (by simp) ⟨by simp [mntOK, h1], rfl⟩
    by_cases h2 : l[i].ep < 1
    · simp [ref21_MintsOkC_j1, e0, e3, he, hw1, h1, h2]
      exact wF_own hw (by simp) ⟨by simp only [mntOK, epV]; simp; omega, rfl⟩
    by_cases h3 : 1000 < l[i].ep
    · simp [ref21_MintsOkC_j1, e0, e3, he, hw1, h1, h2, h3]
      exact wF_own hw (by simp) ⟨by simp only [mntOK, epV]; simp; omega, rfl⟩
    by_cases h4 : l[i].cs.length ≤ 64
    case neg =>
      simp [ref21_MintsOkC_j1, e0, e3, he, hw1, h1, h2, h3, show (64 : Int) < l[i].cs.length by omega]
      exact wF_own hw (by simp) ⟨by simp [mntOK, h4], rfl⟩
    simp [ref21_MintsOkC_j1, e0, e3, he, hw1, h1, h2, h3, show ¬ (64 : Int) < l[i].cs.length by omega]
    refine wCall_eq (Q := fun r => r = .bool (l[i].cs.all cavOK)) (hav _ hmw.1 hmw.2 _ _) fun r n5 hr hn5 => ?_
    subst hr
    have hep : epV l[i].ep = true := by simp [epV]; omega
    cases h5 : l[i].cs.all cavOK with
    | false =>
      simp
      exact wF_own hw (by simp) ⟨by simp only [mntOK, h5]; simp, rfl⟩
    | true =>
      simp [e3, hw1]
      refine kLoop_nrm _ _ _ _ (Sub_refl _ _) ⟨i + 1, by omega, by simp [e0], by simp, rfl, by simp only [mntOK, h1, hep, h4, h5]; simp⟩ (by simp; omega)
  · simp at hlt
    have : i = l.length := by omega
    subst this
    rw [List.drop_length] at hall
    exact wF_own hw (by simp) ⟨by rw [hall]; rfl, rfl⟩
def RAddMOK (P : Program) (f : Nat) : Prop := ∀ (l : List Mnt) (m : Mnt), (∀ m ∈ l, m.wf) → m.wf → l.length ≤ 1000 → ∀ (H : Nat → Option (List Value)) (nx : Nat),
    PCalls P f [deep (l.map Mnt.v), m.v] H nx (fun _ => False) (fun r H' _ => (∃ e, r = tup [lin e ((addM l m).map Mnt.v), .int .i64 (addE l m)]) ∧ H' = H)
theorem raddM_ok {P : Program} {f mv av t : Nat} (hc : compFn P f = some (42, ref21_AddMintC t mv av, [.t 4, .t 5])) (hmv : RMVOK P mv) (hav : AllCOK P av) : RAddMOK P f := by
  intro l m hwl hwm hlen H nx
  refine PCalls_of hc (by simp) fun hw => ?_
  have hmx : (maxLen : Int) = 9223372036854775807 := rfl
  have hw1 := w64 (x := (l.length : Int) + 1) (by omega) (by omega)
  simp [ref21_AddMintC]
  refine wCall_eq (Q := fun r => r = .bool (mntF l 0)) (hmv l hwl (by omega) _ _) fun r n1 hr hn1 => ?_
  subst hr
  cases h1 : mntF l 0 with
  | false =>
    simp
    have he : addE l m = 5 := by simp [addE, h1]
    exact wF_own hw (by simp) ⟨⟨t, by rw [addM, he]; rfl⟩, rfl⟩
  | true =>
    by_cases h2 : m.ser = l.length + 1
    case neg =>
      have hb : (m.ser != ((l.length : Int) + 1)) = true := by simpa using h2
      simp [hw1, hb]
      have he : addE l m = 11 := by simp [addE, h1, h2]
      exact wF_own hw (by simp) ⟨⟨t, by rw [addM, he]; rfl⟩, rfl⟩
    by_cases h3 : m.ep < 1
    · simp [hw1, h2, h3]
      have he : addE l m = 1 := by
        have : epV m.ep = false := by simp [epV]; omega
        simp [addE, h1, h2, this]
      exact wF_own hw (by simp) ⟨⟨t, by rw [addM, he]; rfl⟩, rfl⟩
    by_cases h4 : 1000 < m.ep
    · simp [hw1, h2, h3, h4]
      have he : addE l m = 1 := by
        have : epV m.ep = false := by simp [epV]; omega
        simp [addE, h1, h2, this]
      exact wF_own hw (by simp) ⟨⟨t, by rw [addM, he]; rfl⟩, rfl⟩
    have hep : epV m.ep = true := by simp [epV]; omega
    by_cases h5 : 64 < m.cs.length
    · simp [hw1, h2, h3, h4, show (64 : Int) < m.cs.length by omega]
      have he : addE l m = 2 := by simp [addE, h1, h2, hep, h5]
      exact wF_own hw (by simp) ⟨⟨t, by rw [addM, he]; rfl⟩, rfl⟩
    simp [hw1, h2, h3, h4, show ¬ (64 : Int) < m.cs.length by omega]
    refine wCall_eq (Q := fun r => r = .bool (m.cs.all cavOK)) (hav _ hwm.1 hwm.2 _ _) fun r n5 hr hn5 => ?_
    subst hr
    cases h6 : m.cs.all cavOK with
    | false =>
      simp
      have he : addE l m = 5 := by simp only [addE, h1, h2, hep, h5, h6]; simp
      exact wF_own hw (by simp) ⟨⟨t, by rw [addM, he]; rfl⟩, rfl⟩
    | true =>
      have he : addE l m = 0 := by simp only [addE, h1, h2, hep, h5, h6]; simp
      have hadd : addM l m = l ++ [m] := by simp [addM, he]
      simp [ref21_AddMintC_j1]
      refine ⟨by omega, by omega, by omega, by omega, ?_⟩
      exact wF_own hw (by simp) ⟨⟨t, by rw [hadd, he, List.map_append]; rfl⟩, rfl⟩
end Go.PE
namespace Go.PE
open Go
def serB (s : Int) (m : Mnt) : Bool := decide (m.ser = s)
theorem find1_ok {P : Program} {f : Nat} (hc : compFn P f = some (8, registry_Find_1C, [.t 3])) (m : Mnt) (s : Int) (H : Nat → Option (List Value)) (nx k : Nat) (hk : H k = some [.int .i64 s]) (hkn : k < nx) :
    PCalls P f [m.v, ptr k 0] H nx (fun _ => False) (fun r H' _ => r = .bool (serB s m) ∧ H' = H) := by
  refine PCalls_of hc (by simp) fun hw => ?_
  have g1 : ¬ k = nx := by omega
  simp [registry_Find_1C, g1, hk]
  exact wF_own hw (by simp) ⟨rfl, rfl⟩
def fm (l : List Mnt) (s : Int) : Mnt := (l.find? (serB s)).getD ⟨0, 0, []⟩
def fb (l : List Mnt) (s : Int) : Bool := (l.find? (serB s)).isSome
theorem ixF_cases {α : Type} (p : α → Bool) : ∀ (l : List α) (i : Nat), (l.find? p = none ∧ ixF p l i = -1) ∨ ∃ (j : Nat) (h : j < l.length), l.find? p = some l[j] ∧ ixF p l i = (i : Int) + j
  | [], _ => .inl ⟨rfl, rfl⟩
  | a :: r, i => by
    cases h : p a with
    | true => exact .inr ⟨0, by simp, by simp [List.find?, h], by simp [ixF, h]⟩
    | false =>
      rcases ixF_cases p r (i + 1) with ⟨h1, h2⟩ | ⟨j, hj, h1, h2⟩
      · exact .inl ⟨by simp [List.find?, h, h1], by simp [ixF, h, h2]⟩
      · exact .inr ⟨j + 1, by simp; omega, by simp [List.find?, h, h1], by simp [ixF, h, h2]; omega⟩
theorem sts_asL {α : Type} {g : α → Value} {l : List α} {C : Known} {P : Program} {T : Nat → Prop} {n0 : Nat} {x : Operand} {t k off : Nat} {row : List Value} {s : PS} {K : PS → Prop} (hx : s.ev x = ptr k off) (hk : s.H k = some row) (ho : off < row.length) (hT : T k ∨ n0 ≤ k) (ht : asL g l (s.t t))
    (h : K ⟨upd s.t t (deep (l.map g)), upd s.H k (some (row.set off (s.t t))), s.nx⟩) : PE.step C P T n0 none (.sts x t) s K := by
  refine ⟨k, off, row, hx, hk, ho, hT, fun ps h => ?_, fun ps h => ?_, ?_⟩
  · rcases ht with ⟨ht, _⟩ | ht <;> (rw [ht] at h; cases h)
  · rcases ht with ⟨ht, _⟩ | ht <;> (rw [ht] at h; cases h)
  · rw [(asL_dg ht).1]; exact h
def FindROK (P : Program) (f : Nat) : Prop := ∀ (l : List Mnt) (s : Int), (∀ m ∈ l, m.fin) → l.length ≤ 1000000 → ∀ (H : Nat → Option (List Value)) (nx : Nat),
    PCalls P f [deep (l.map Mnt.v), .int .i64 s] H nx (fun _ => False) (fun r H' _ => r = tup [(fm l s).v, .bool (fb l s)] ∧ H' = H)
theorem find_ok {P : Program} {f t f1 ix cp : Nat} (hc : compFn P f = some (23, registry_FindC t f1 ix cp, [.cA 4 3, .t 5])) (h1 : compFn P f1 = some (8, registry_Find_1C, [.t 3])) (hfn : okFn P f1 = true) (hix : IxMntOK P ix) (hcp : CopyCavOK P cp) : FindROK P f := by
  intro l s hfin hlen H nx
  refine PCalls_of hc (by simp) fun hw => ?_
  have hmx : (maxLen : Int) = 9223372036854775807 := rfl
  simp [registry_FindC]
  refine wCall_eq (Q := fun r => r = .int .i64 (ixF (serB s) l 0)) (hix l f1 [ptr nx 0] (serB s) _ _ (by omega) ⟨hfn, fun m hm nx' hnx' => find1_ok h1 m s _ _ nx (by simp) (by simp at hnx'; omega)⟩) fun r n4 hr hn4 => ?_
  subst hr
  rcases ixF_cases (serB s) l 0 with ⟨a1, a2⟩ | ⟨j, hj, a1, a2⟩
  · simp [a2]
    exact wF_own hw (by simp) ⟨by simp only [fm, fb, a1]; rfl, rfl⟩
  · have he := elem_mnt (l := l) (n := (j : Int)) (by omega) (by simpa using hj)
    simp at he
    have hm := hfin l[j] (List.getElem_mem _)
    simp [a2, registry_FindC_j1, he, show ¬ (j : Int) < 0 by omega]
    simp at hn4
    refine ⟨by omega, ?_⟩
    refine wCall_eq (Q := fun r => asL Cav.v l[j].cs r) (hcp l[j].cs _ _ hm.1 hm.2) fun r n5 hr hn5 => ?_
    obtain ⟨q1, q2, q3⟩ := asL_dg hr
    have k1 : ¬ n4 = nx := by omega
    have k2 : ¬ n4 = nx + 1 := by omega
    have k3 : ¬ nx + 1 = n4 := by omega
    have k4 : nx ≤ n4 := by omega
    simp [q1, q2, q3, k1, k2, k3, k4, Mnt.cells]
    refine sts_asL (g := Cav.v) (l := l[j].cs) (k := n4) (off := 2) (row := [.int .i64 l[j].ser, .int .i64 l[j].ep, deep (l[j].cs.map Cav.v)]) (by simp) (by simp) (by simp) (.inr k4) (by simpa using hr) ?_
    simp [q1, q2, q3, k1, k2, k3, k4]
    exact wF_own hw (by simp [k4]) ⟨by simp only [fm, fb, a1]; rfl, rfl⟩
def RFindOK (P : Program) (f : Nat) : Prop := ∀ (l : List Mnt) (s : Int), l.length ≤ maxLen → ∀ (H : Nat → Option (List Value)) (nx : Nat),
    PCalls P f [deep (l.map Mnt.v), .int .i64 s] H nx (fun _ => False) (fun r H' _ => r = tup [(fm l s).v, .bool (fb l s)] ∧ H' = H)
theorem rfind_ok {P : Program} {f t : Nat} (hc : compFn P f = some (25, ref21_FindMintC t, [.cA 4 3, .t 5])) : RFindOK P f := by
  intro l s hlen H nx
  refine PCalls_of hc (by simp) fun hw => ?_
  have hmx : (maxLen : Int) = 9223372036854775807 := rfl
  simp [ref21_FindMintC]
  refine wpc_loop _ _ _ _ _ _ (fun z => ∃ i : Nat, i ≤ l.length ∧ z.t 0 = deep (l.map Mnt.v) ∧ z.t 1 = .int .i64 s ∧ z.t 4 = ptr nx 0 ∧ z.t 6 = .int .i64 i ∧ z.H = upd H nx (some [.int .i64 0, .int .i64 0, lin t []]) ∧ l.find? (serB s) = (l.drop i).find? (serB s))
    (fun z => match z.t 6 with | .int _ i => (l.length - i).toNat | _ => 0) _ ⟨0, by omega, by simp, by simp, by simp, by simp, rfl, by simp⟩ ?_
  rintro ⟨T, H', nx'⟩ ⟨i, hi, e0, e1, e4, e6, rfl, hall⟩
  simp only at e0 e1 e4 e6
  simp [e0, e6]
  refine wB_of (fun hlt => ?_) (fun hlt => ?_)
  · simp at hlt
    have he := elem_mnt (l := l) (n := (i : Int)) (by omega) (by simpa using hlt)
    simp at he
    rw [List.drop_eq_getElem_cons hlt, List.find?_cons] at hall
    have hw1 := w64 (x := (i : Int) + 1) (by omega) (by omega)
    simp [ref21_FindMintC_j1, e0, e1, e6, he]
    refine wB_of (fun hs => ?_) (fun hs => ?_)
    · simp at hs
      have hb : serB s l[i] = true := by simp [serB, hs]
      rw [hb] at hall
      simp [e0, e4, e6, he]
      exact wF_own hw (by simp) ⟨by simp only [fm, fb, hall]; rfl, rfl⟩
    · simp at hs
      have hb : serB s l[i] = false := by simp [serB, hs]
      rw [hb] at hall
      simp [e6, hw1]
      refine kLoop_nrm _ _ _ _ (Sub_refl _ _) ⟨i + 1, by omega, by simp [e0], by simp [e1], by simp [e4], by simp, rfl, hall⟩ (by simp; omega)
  · simp at hlt
    have : i = l.length := by omega
    subst this
    rw [List.drop_length] at hall
    simp [e4]
    exact wF_own hw (by simp) ⟨by simp only [fm, fb, hall]; rfl, rfl⟩
end Go.PE
namespace Go.PE
open Go
def sameL {α : Type} (f : α → α → Bool) : List α → List α → Bool
  | [], [] => true
  | a :: r, b :: q => f a b && sameL f r q
  | _, _ => false
theorem sameL_refl {α : Type} {f : α → α → Bool} (h : ∀ a, f a a = true) : ∀ l : List α, sameL f l l = true
  | [] => rfl
  | a :: r => by unfold sameL; rw [h a, sameL_refl h r]; rfl
theorem sameL_ne {α : Type} {f : α → α → Bool} : ∀ {a b : List α}, a.length ≠ b.length → sameL f a b = false
  | [], [], h => (h rfl).elim
  | [], _ :: _, _ => rfl
  | _ :: _, [], _ => rfl
  | a :: r, b :: q, h => by
    unfold sameL; rw [sameL_ne (by simpa using h)]; simp
theorem sameL_step {α : Type} {f : α → α → Bool} {a b : List α} {i : Nat} (h1 : i < a.length) (h2 : i < b.length) : sameL f (a.drop i) (b.drop i) = (f a[i] b[i] && sameL f (a.drop (i + 1)) (b.drop (i + 1))) := by
  rw [List.drop_eq_getElem_cons h1, List.drop_eq_getElem_cons h2]; rfl
def sameB (a b : List Int) : Bool := sameL (fun x y => x == y) a b
theorem sameB_iff : ∀ {a b : List Int}, sameB a b = true ↔ a = b
  | [], [] => by simp [sameB, sameL]
  | [], _ :: _ => by simp [sameB, sameL]
  | _ :: _, [] => by simp [sameB, sameL]
  | a :: r, b :: q => by
    have : sameB (a :: r) (b :: q) = ((a == b) && sameB r q) := rfl
    rw [this, Bool.and_eq_true, sameB_iff]; simp
theorem str_inj : ∀ {a b : List Int}, (∀ x ∈ a, 0 ≤ x ∧ x ≤ 255) → (∀ x ∈ b, 0 ≤ x ∧ x ≤ 255) → (a.map fun n => UInt8.ofNat n.toNat) = (b.map fun n => UInt8.ofNat n.toNat) → a = b
  | [], [], _, _, _ => rfl
  | [], _ :: _, _, _, h => by simp at h
  | _ :: _, [], _, _, h => by simp at h
  | x :: r, y :: q, ha, hb, h => by
    simp only [List.map_cons, List.cons.injEq] at h
    have h1 := ha x (by simp); have h2 := hb y (by simp)
    have e : x = y := by
      have := congrArg UInt8.toNat h.1
      simp only [UInt8.toNat_ofNat'] at this
      omega
    rw [e, str_inj (fun z hz => ha z (by simp [hz])) (fun z hz => hb z (by simp [hz])) h.2]
theorem str_same {a b : List Int} (ha : inBytes a) (hb : inBytes b) : (strOfNums a == strOfNums b) = sameB a b := by
  rw [Bool.eq_iff_iff, beq_iff_eq, sameB_iff]
  constructor
  · intro h
    have := congrArg (fun z : ByteArray => z.data.toList) h
    simp only [strOfNums_data] at this
    exact str_inj ha.2 hb.2 this
  · rintro rfl; rfl
theorem u8s_map (l : List Int) : u8s (l.map (Value.int .u8)) = some l := by
  induction l with
  | nil => rfl
  | cons a r ih => simp [ih]
def BEqOK (P : Program) (f : Nat) : Prop := ∀ (a b : List Int), inBytes a → inBytes b → ∀ (H : Nat → Option (List Value)) (nx : Nat), PCalls P f [bytesV a, bytesV b] H nx (fun _ => False) (fun r H' _ => r = .bool (sameB a b) ∧ H' = H)
theorem beq_ok {P : Program} {f : Nat} (hc : compFn P f = some (10, bytes_EqualC, [.t 4])) : BEqOK P f := by
  intro a b ha hb H nx
  refine PCalls_of hc (by simp) fun hw => ?_
  simp [bytes_EqualC, u8s_map, str_same ha hb]
  exact wF_own hw (by simp) ⟨rfl, rfl⟩
theorem elem_int {l : List Int} {n : Int} (h0 : 0 ≤ n) (hn : n.toNat < l.length) : elemAt (l.map (Value.int .u8)) n 1 = some (dptr 0 [.int .u8 l[n.toNat]]) := elemAt_map h0 hn rfl (by simp)
theorem same01_ok {P : Program} {f : Nat} (hc : compFn P f = some (26, ref01_SameC, [.t 4])) : BEqOK P f := by
  intro la lb hla hlb H nx
  refine PCalls_of hc (by simp) fun hw => ?_
  have hmx : (maxLen : Int) = 9223372036854775807 := rfl
  have h1 := hla.1; have h2 := hlb.1
  simp [ref01_SameC, bytesV]
  refine wB_of (fun h => ?_) (fun h => ?_)
  · simp at h
    exact wF_of ⟨by rw [sameB, sameL_ne (by omega)]; rfl, rfl⟩
  simp at h
  simp [ref01_SameC_j2]
  refine wpc_loop _ _ _ _ _ _ (fun s => ∃ i : Nat, i ≤ la.length ∧ s.t 0 = deep (la.map (Value.int .u8)) ∧ s.t 1 = deep (lb.map (Value.int .u8)) ∧ s.t 5 = .int .i64 i ∧ s.H = H ∧ sameB la lb = sameB (la.drop i) (lb.drop i))
    (fun s => match s.t 5 with | .int _ i => (la.length - i).toNat | _ => 0) _ ⟨0, by omega, by simp, by simp, by simp, rfl, by simp⟩ ?_
  rintro ⟨T, H', nx'⟩ ⟨i, hi1, e0, e1, e5, rfl, hall⟩
  simp only at e0 e1 e5
  simp [e0, e1, e5]
  refine wB_of (fun hlt => ?_) (fun hlt => ?_)
  · simp at hlt
    have hlt' : i < lb.length := by omega
    have he := elem_int (l := la) (n := (i : Int)) (by omega) (by simpa using hlt)
    have he' := elem_int (l := lb) (n := (i : Int)) (by omega) (by simpa using hlt')
    simp at he he'
    simp [ref01_SameC_j1, e0, e1, e5, he, he', -List.reduceReplicate]
    have hst : sameB (la.drop i) (lb.drop i) = ((la[i] == lb[i]) && sameB (la.drop (i + 1)) (lb.drop (i + 1))) := sameL_step hlt hlt'
    refine wB_of (fun h => ?_) (fun h => ?_)
    · simp at h
      refine wF_of ⟨by rw [hall, hst]; simp [h], rfl⟩
    · simp at h
      try simp [e5]
      rw [w64 (x := (i : Int) + 1) (by omega) (by omega)]
      refine kLoop_nrm _ _ _ _ (Sub_refl _ _) ⟨i + 1, by omega, by simp [e0], by simp [e1], by simp, rfl, ?_⟩ (by simp; omega)
      rw [hall, hst]; simp [h]
  · simp at hlt
    refine wF_of ⟨?_, rfl⟩
    rw [drop_all hlt, drop_all (by omega)] at hall
    rw [hall]; rfl
def sameC (a b : Cav) : Bool := (a.third == b.third) && eqL a.p.cells b.p.cells && (a.party == b.party) && sameB a.tk b.tk && sameB a.bx b.bx
theorem eqL_pred (p : Pred) : eqL p.cells p.cells = true := by
  simp [Pred.cells, eqL, eqC]
theorem sameC_refl (a : Cav) : sameC a a = true := by
  have := sameB_iff (a := a.tk) (b := a.tk)
  have := sameB_iff (a := a.bx) (b := a.bx)
  simp_all [sameC, eqL_pred]
theorem csame1_ok {P : Program} {f be : Nat} (hc : compFn P f = some (38, caveat_Same_1C be, [.t 4])) (hb : BEqOK P be) (a b : Cav) (ha : a.wf) (hb' : b.wf) (H : Nat → Option (List Value)) (nx : Nat) :
    PCalls P f [a.v, b.v] H nx (fun _ => False) (fun r H' _ => r = .bool (sameC a b) ∧ H' = H) := by
  refine PCalls_of hc (by simp) fun hw => ?_
  cases h1 : (a.third == b.third) with
  | false =>
    simp [caveat_Same_1C, h1]
    exact wF_own hw (by simp) ⟨by simp [sameC, h1], rfl⟩
  | true =>
    cases h2 : eqL a.p.cells b.p.cells with
    | false =>
      simp [caveat_Same_1C, h1, h2]
      exact wF_own hw (by simp) ⟨by simp [sameC, h2], rfl⟩
    | true =>
      cases h3 : (a.party == b.party) with
      | false =>
        simp [caveat_Same_1C, h1, h2, h3]
        exact wF_own hw (by simp) ⟨by simp [sameC, h3], rfl⟩
      | true =>
        simp [caveat_Same_1C, h1, h2, h3]
        refine wCall_eq (Q := fun r => r = .bool (sameB a.tk b.tk)) (hb _ _ ha.2.1 hb'.2.1 _ _) fun r n4 hr hn4 => ?_
        subst hr
        cases h4 : sameB a.tk b.tk with
        | false =>
          simp
          exact wF_own hw (by simp) ⟨by simp [sameC, h4], rfl⟩
        | true =>
          simp
          refine wCall_eq (Q := fun r => r = .bool (sameB a.bx b.bx)) (hb _ _ ha.2.2 hb'.2.2 _ _) fun r n5 hr hn5 => ?_
          subst hr
          simp
          exact wF_own hw (by simp) ⟨by simp [sameC, h1, h2, h3, h4], rfl⟩
end Go.PE
