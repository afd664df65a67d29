/- Layer 25: the pure code of its functions. Layer 25: the code of its laws. Items and receivers as plain data; is a receiver valid? -/
import Derived.Test.YtgipgpopmpcddaaPartE
import Derived.Test.YtgipgpopmpcddaaPartD
import Derived.Test.YtgipgpopmpcddaaPartF
set_option linter.all false
namespace Go.PE
open Go
/-- the row of a zero item: with a slice of bytes that one may append to; without room -/
def zItR (t : Nat) : List Value := [.int .i64 0, .int .i64 0, .int .i64 0] ++ zTag.cells ++ [lin t []] ++ zTag.cells
def zItD : List Value := [.int .i64 0, .int .i64 0, .int .i64 0] ++ zTag.cells ++ [deep []] ++ zTag.cells
def zItN : List Value := [.int .i64 0, .int .i64 0, .int .i64 0] ++ zTag.cells ++ [ns []] ++ zTag.cells
/-- macaroon/macaroonlaw25.few: 7 slots, results [(.t 2)] -/
def law25_fewC : PC :=
  (.seq (.reg [((some 1), (none, (.box 2 (.tmp 0)))),
    ((some 2), (none, (.mv (.const (.bool false)))))])
  (.seq (.reg [((some 3), (none, (.fa 1 (.tmp 1)))),
    ((some 4), (none, (.ld false (.tmp 3)))),
    ((some 5), (none, (.len (.tmp 4)))),
    ((some 6), (none, (.bi .leq (.tmp 5) (.const (.int .i64 40))))),
    ((some 2), (none, (.mv (.tmp 6))))])
  .ret))
/-- macaroon/macaroonlaw25.awake: 53 slots, results [(.t 0)] -/
def law25_awakeC (f_receiver_Keep : Nat) (t_api_Item : Nat) (f_receiver_Ready : Nat) (t_uint8 : Nat) (f_receiver_Applied : Nat) : PC :=
  (.seq (.reg [((some 0), (none, (.mv (.const (.bool false)))))])
  (.seq (.reg [((some 9), (none, (.build [(.inl [(.int .i64 0)]), (.inl [(deep [])])]))),
    ((some 10), (none, (.build [(.inr ((.const (.int .i64 2)), 1)), (.inl [(.int .i64 0)]), (.inl [(.int .i64 0)]), (.inl zTag.cells), (.inl [(deep [])]), (.inl zTag.cells)]))),
    ((some 11), (none, (.call f_receiver_Keep [(.tmp 9), (.tmp 10)]))),
    ((some 8), (none, (.steal 11))),
    ((some 12), (none, (.extr 8 0))),
    ((some 13), (none, (.extr 8 1))),
    ((some 1), (none, (.alloc [(.int .i64 0), (lin t_api_Item [])]))),
    (none, (none, (.st 2 (.tmp 1) (.tmp 12)))),
    ((some 2), (none, (.mv (.tmp 13))))])
  (.seq (.reg [((some 15), (none, (.ldA 2 (.tmp 1)))),
    ((some 16), (none, (.build [(.inr ((.const (.int .i64 1)), 1)), (.inl [(.int .i64 0)]), (.inl [(.int .i64 0)]), (.inl zTag.cells), (.inl [(deep [])]), (.inl zTag.cells)]))),
    ((some 17), (none, (.call f_receiver_Keep [(.tmp 15), (.tmp 16)]))),
    ((some 14), (none, (.steal 17))),
    ((some 18), (none, (.extr 14 0))),
    ((some 19), (none, (.extr 14 1))),
    (none, (none, (.st 2 (.tmp 1) (.tmp 18)))),
    ((some 3), (none, (.mv (.tmp 19))))])
  (.seq (.reg [((some 21), (none, (.ldA 2 (.tmp 1)))),
    ((some 22), (none, (.call f_receiver_Ready [(.tmp 21)]))),
    ((some 20), (none, (.steal 22))),
    ((some 23), (none, (.extr 20 0))),
    ((some 24), (none, (.extr 20 1))),
    ((some 4), (none, (.alloc (zItR t_uint8)))),
    (none, (none, (.st 68 (.tmp 4) (.tmp 23)))),
    ((some 5), (none, (.mv (.tmp 24))))])
  (.seq (.reg [((some 26), (none, (.ldA 2 (.tmp 1)))),
    ((some 27), (none, (.call f_receiver_Applied [(.tmp 26)]))),
    ((some 28), (none, (.call f_receiver_Ready [(.tmp 27)]))),
    ((some 25), (none, (.steal 28))),
    ((some 29), (none, (.extr 25 0))),
    ((some 30), (none, (.extr 25 1))),
    ((some 6), (none, (.alloc (zItR t_uint8)))),
    (none, (none, (.st 68 (.tmp 6) (.tmp 29)))),
    ((some 7), (none, (.mv (.tmp 30))))])
  (.seq (.reg [((some 31), (none, (.mv (.tmp 2)))),
    ((some 32), (none, (.bi .eql (.tmp 31) (.const (.int .i64 0))))),
    ((some 33), (none, (.mv (.tmp 32)))),
    ((some 34), ((some (33, true)), (.mv (.tmp 3)))),
    ((some 35), ((some (33, true)), (.bi .eql (.tmp 34) (.const (.int .i64 0))))),
    ((some 36), (none, (.pick (.tmp 33) (.tmp 35) (.const (.bool false))))),
    ((some 37), (none, (.mv (.tmp 36)))),
    ((some 38), ((some (37, true)), (.mv (.tmp 5)))),
    ((some 39), (none, (.pick (.tmp 37) (.tmp 38) (.const (.bool false))))),
    ((some 40), (none, (.mv (.tmp 39)))),
    ((some 41), ((some (40, true)), (.mv (.tmp 7)))),
    ((some 42), (none, (.pick (.tmp 40) (.tmp 41) (.const (.bool false))))),
    ((some 43), (none, (.mv (.tmp 42)))),
    ((some 44), ((some (43, true)), (.fa 0 (.tmp 4)))),
    ((some 45), ((some (43, true)), (.ld false (.tmp 44)))),
    ((some 46), ((some (43, true)), (.bi .eql (.tmp 45) (.const (.int .i64 1))))),
    ((some 47), (none, (.pick (.tmp 43) (.tmp 46) (.const (.bool false))))),
    ((some 48), (none, (.mv (.tmp 47)))),
    ((some 49), ((some (48, true)), (.fa 0 (.tmp 6)))),
    ((some 50), ((some (48, true)), (.ld false (.tmp 49)))),
    ((some 51), ((some (48, true)), (.bi .eql (.tmp 50) (.const (.int .i64 2))))),
    ((some 52), (none, (.pick (.tmp 48) (.tmp 51) (.const (.bool false))))),
    ((some 0), (none, (.mv (.tmp 52))))])
  .ret))))))
/-- macaroon/macaroonlaw25.made: 40 slots, results [(.cA 2 2)] -/
def law25_made_t1 (t_api_Item : Nat) (f_made_Deck_Next : Nat) (f_made_Deck_Range : Nat) (f_ref21_Keep : Nat) : PT :=
  (.one ((some 25), (none, (.fa 0 (.tmp 3))))
       (.one ((some 27), (none, (.mv (.tmp 0))))
       (.one ((some 30), (none, (.mv (.tmp 0))))
       (.alt (.one ((some 24), (none, (.ldA 2 (.tmp 3))))
        (.alt (.one ((some 26), (none, (.ld false (.tmp 25))))
         (.alt (.one ((some 28), (none, (.call f_made_Deck_Range [(.tmp 27), (.const (.int .i64 1)), (.const (.int .i64 8))])))
          (.one ((some 29), (none, (.bi .add (.tmp 26) (.tmp 28))))
          (.alt (.one ((some 31), (none, (.call f_made_Deck_Next [(.tmp 30), (.const (.int .i64 9))])))
           (.one ((some 32), (none, (.build [(.inr ((.tmp 29), 1)), (.inl [(.int .i64 0)]), (.inr ((.tmp 31), 1)), (.inl zTag.cells), (.inl [(deep [])]), (.inl zTag.cells)])))
           (.alt (.one ((some 33), (none, (.call f_ref21_Keep [(.tmp 24), (.tmp 32)])))
            (.one ((some 23), (none, (.steal 33)))
            (.alt (.one ((some 34), (none, (.extr 23 0)))
             (.one ((some 35), (none, (.extr 23 1)))
             (.one ((some 5), (none, (.alloc [(.int .i64 0), (lin t_api_Item [])])))
             (.one (none, (none, (.st 2 (.tmp 5) (.tmp 34))))
             (.one ((some 6), (none, (.mv (.tmp 35))))
             .done)))))
            (.alt (.one ((some 35), (none, (.extr 23 1)))
              (.one ((some 34), (none, (.extr 23 0)))
              (.one ((some 5), (none, (.alloc [(.int .i64 0), (lin t_api_Item [])])))
              (.one (none, (none, (.st 2 (.tmp 5) (.tmp 34))))
              (.one ((some 6), (none, (.mv (.tmp 35))))
              .done)))))
             (.one ((some 5), (none, (.alloc [(.int .i64 0), (lin t_api_Item [])])))
              (.alt (.one ((some 34), (none, (.extr 23 0)))
               (.one ((some 35), (none, (.extr 23 1)))
               (.one (none, (none, (.st 2 (.tmp 5) (.tmp 34))))
               (.one ((some 6), (none, (.mv (.tmp 35))))
               .done))))
              (.one ((some 35), (none, (.extr 23 1)))
               (.one ((some 34), (none, (.extr 23 0)))
               (.one (none, (none, (.st 2 (.tmp 5) (.tmp 34))))
               (.one ((some 6), (none, (.mv (.tmp 35))))
               .done))))))))))
           (.one ((some 5), (none, (.alloc [(.int .i64 0), (lin t_api_Item [])])))
            (.one ((some 33), (none, (.call f_ref21_Keep [(.tmp 24), (.tmp 32)])))
            (.one ((some 23), (none, (.steal 33)))
            (.alt (.one ((some 34), (none, (.extr 23 0)))
             (.one ((some 35), (none, (.extr 23 1)))
             (.one (none, (none, (.st 2 (.tmp 5) (.tmp 34))))
             (.one ((some 6), (none, (.mv (.tmp 35))))
             .done))))
            (.one ((some 35), (none, (.extr 23 1)))
             (.one ((some 34), (none, (.extr 23 0)))
             (.one (none, (none, (.st 2 (.tmp 5) (.tmp 34))))
             (.one ((some 6), (none, (.mv (.tmp 35))))
             .done)))))))))))
          (.one ((some 5), (none, (.alloc [(.int .i64 0), (lin t_api_Item [])])))
           (.one ((some 31), (none, (.call f_made_Deck_Next [(.tmp 30), (.const (.int .i64 9))])))
           (.one ((some 32), (none, (.build [(.inr ((.tmp 29), 1)), (.inl [(.int .i64 0)]), (.inr ((.tmp 31), 1)), (.inl zTag.cells), (.inl [(deep [])]), (.inl zTag.cells)])))
           (.one ((some 33), (none, (.call f_ref21_Keep [(.tmp 24), (.tmp 32)])))
           (.one ((some 23), (none, (.steal 33)))
           (.alt (.one ((some 34), (none, (.extr 23 0)))
            (.one ((some 35), (none, (.extr 23 1)))
            (.one (none, (none, (.st 2 (.tmp 5) (.tmp 34))))
            (.one ((some 6), (none, (.mv (.tmp 35))))
            .done))))
           (.one ((some 35), (none, (.extr 23 1)))
            (.one ((some 34), (none, (.extr 23 0)))
            (.one (none, (none, (.st 2 (.tmp 5) (.tmp 34))))
            (.one ((some 6), (none, (.mv (.tmp 35))))
            .done)))))))))))))
         (.one ((some 5), (none, (.alloc [(.int .i64 0), (lin t_api_Item [])])))
          (.one ((some 28), (none, (.call f_made_Deck_Range [(.tmp 27), (.const (.int .i64 1)), (.const (.int .i64 8))])))
          (.one ((some 29), (none, (.bi .add (.tmp 26) (.tmp 28))))
          (.one ((some 31), (none, (.call f_made_Deck_Next [(.tmp 30), (.const (.int .i64 9))])))
          (.one ((some 32), (none, (.build [(.inr ((.tmp 29), 1)), (.inl [(.int .i64 0)]), (.inr ((.tmp 31), 1)), (.inl zTag.cells), (.inl [(deep [])]), (.inl zTag.cells)])))
          (.one ((some 33), (none, (.call f_ref21_Keep [(.tmp 24), (.tmp 32)])))
          (.one ((some 23), (none, (.steal 33)))
          (.alt (.one ((some 34), (none, (.extr 23 0)))
           (.one ((some 35), (none, (.extr 23 1)))
           (.one (none, (none, (.st 2 (.tmp 5) (.tmp 34))))
           (.one ((some 6), (none, (.mv (.tmp 35))))
           .done))))
          (.one ((some 35), (none, (.extr 23 1)))
           (.one ((some 34), (none, (.extr 23 0)))
           (.one (none, (none, (.st 2 (.tmp 5) (.tmp 34))))
           (.one ((some 6), (none, (.mv (.tmp 35))))
           .done))))))))))))))
        (.alt (.one ((some 28), (none, (.call f_made_Deck_Range [(.tmp 27), (.const (.int .i64 1)), (.const (.int .i64 8))])))
          (.alt (.one ((some 26), (none, (.ld false (.tmp 25))))
           (.one ((some 29), (none, (.bi .add (.tmp 26) (.tmp 28))))
           (.alt (.one ((some 31), (none, (.call f_made_Deck_Next [(.tmp 30), (.const (.int .i64 9))])))
            (.one ((some 32), (none, (.build [(.inr ((.tmp 29), 1)), (.inl [(.int .i64 0)]), (.inr ((.tmp 31), 1)), (.inl zTag.cells), (.inl [(deep [])]), (.inl zTag.cells)])))
            (.alt (.one ((some 33), (none, (.call f_ref21_Keep [(.tmp 24), (.tmp 32)])))
             (.one ((some 23), (none, (.steal 33)))
             (.alt (.one ((some 34), (none, (.extr 23 0)))
              (.one ((some 35), (none, (.extr 23 1)))
              (.one ((some 5), (none, (.alloc [(.int .i64 0), (lin t_api_Item [])])))
              (.one (none, (none, (.st 2 (.tmp 5) (.tmp 34))))
              (.one ((some 6), (none, (.mv (.tmp 35))))
              .done)))))
             (.alt (.one ((some 35), (none, (.extr 23 1)))
               (.one ((some 34), (none, (.extr 23 0)))
               (.one ((some 5), (none, (.alloc [(.int .i64 0), (lin t_api_Item [])])))
               (.one (none, (none, (.st 2 (.tmp 5) (.tmp 34))))
               (.one ((some 6), (none, (.mv (.tmp 35))))
               .done)))))
              (.one ((some 5), (none, (.alloc [(.int .i64 0), (lin t_api_Item [])])))
               (.alt (.one ((some 34), (none, (.extr 23 0)))
                (.one ((some 35), (none, (.extr 23 1)))
                (.one (none, (none, (.st 2 (.tmp 5) (.tmp 34))))
                (.one ((some 6), (none, (.mv (.tmp 35))))
                .done))))
               (.one ((some 35), (none, (.extr 23 1)))
                (.one ((some 34), (none, (.extr 23 0)))
                (.one (none, (none, (.st 2 (.tmp 5) (.tmp 34))))
                (.one ((some 6), (none, (.mv (.tmp 35))))
                .done))))))))))
            (.one ((some 5), (none, (.alloc [(.int .i64 0), (lin t_api_Item [])])))
             (.one ((some 33), (none, (.call f_ref21_Keep [(.tmp 24), (.tmp 32)])))
             (.one ((some 23), (none, (.steal 33)))
             (.alt (.one ((some 34), (none, (.extr 23 0)))
              (.one ((some 35), (none, (.extr 23 1)))
              (.one (none, (none, (.st 2 (.tmp 5) (.tmp 34))))
              (.one ((some 6), (none, (.mv (.tmp 35))))
              .done))))
             (.one ((some 35), (none, (.extr 23 1)))
              (.one ((some 34), (none, (.extr 23 0)))
              (.one (none, (none, (.st 2 (.tmp 5) (.tmp 34))))
              (.one ((some 6), (none, (.mv (.tmp 35))))
              .done)))))))))))
           (.one ((some 5), (none, (.alloc [(.int .i64 0), (lin t_api_Item [])])))
            (.one ((some 31), (none, (.call f_made_Deck_Next [(.tmp 30), (.const (.int .i64 9))])))
            (.one ((some 32), (none, (.build [(.inr ((.tmp 29), 1)), (.inl [(.int .i64 0)]), (.inr ((.tmp 31), 1)), (.inl zTag.cells), (.inl [(deep [])]), (.inl zTag.cells)])))
            (.one ((some 33), (none, (.call f_ref21_Keep [(.tmp 24), (.tmp 32)])))
            (.one ((some 23), (none, (.steal 33)))
            (.alt (.one ((some 34), (none, (.extr 23 0)))
             (.one ((some 35), (none, (.extr 23 1)))
             (.one (none, (none, (.st 2 (.tmp 5) (.tmp 34))))
             (.one ((some 6), (none, (.mv (.tmp 35))))
             .done))))
            (.one ((some 35), (none, (.extr 23 1)))
             (.one ((some 34), (none, (.extr 23 0)))
             (.one (none, (none, (.st 2 (.tmp 5) (.tmp 34))))
             (.one ((some 6), (none, (.mv (.tmp 35))))
             .done)))))))))))))
          (.alt (.one ((some 31), (none, (.call f_made_Deck_Next [(.tmp 30), (.const (.int .i64 9))])))
            (.alt (.one ((some 26), (none, (.ld false (.tmp 25))))
             (.one ((some 29), (none, (.bi .add (.tmp 26) (.tmp 28))))
             (.one ((some 32), (none, (.build [(.inr ((.tmp 29), 1)), (.inl [(.int .i64 0)]), (.inr ((.tmp 31), 1)), (.inl zTag.cells), (.inl [(deep [])]), (.inl zTag.cells)])))
             (.alt (.one ((some 33), (none, (.call f_ref21_Keep [(.tmp 24), (.tmp 32)])))
              (.one ((some 23), (none, (.steal 33)))
              (.alt (.one ((some 34), (none, (.extr 23 0)))
               (.one ((some 35), (none, (.extr 23 1)))
               (.one ((some 5), (none, (.alloc [(.int .i64 0), (lin t_api_Item [])])))
               (.one (none, (none, (.st 2 (.tmp 5) (.tmp 34))))
               (.one ((some 6), (none, (.mv (.tmp 35))))
               .done)))))
              (.alt (.one ((some 35), (none, (.extr 23 1)))
                (.one ((some 34), (none, (.extr 23 0)))
                (.one ((some 5), (none, (.alloc [(.int .i64 0), (lin t_api_Item [])])))
                (.one (none, (none, (.st 2 (.tmp 5) (.tmp 34))))
                (.one ((some 6), (none, (.mv (.tmp 35))))
                .done)))))
               (.one ((some 5), (none, (.alloc [(.int .i64 0), (lin t_api_Item [])])))
                (.alt (.one ((some 34), (none, (.extr 23 0)))
                 (.one ((some 35), (none, (.extr 23 1)))
                 (.one (none, (none, (.st 2 (.tmp 5) (.tmp 34))))
                 (.one ((some 6), (none, (.mv (.tmp 35))))
                 .done))))
                (.one ((some 35), (none, (.extr 23 1)))
                 (.one ((some 34), (none, (.extr 23 0)))
                 (.one (none, (none, (.st 2 (.tmp 5) (.tmp 34))))
                 (.one ((some 6), (none, (.mv (.tmp 35))))
                 .done))))))))))
             (.one ((some 5), (none, (.alloc [(.int .i64 0), (lin t_api_Item [])])))
              (.one ((some 33), (none, (.call f_ref21_Keep [(.tmp 24), (.tmp 32)])))
              (.one ((some 23), (none, (.steal 33)))
              (.alt (.one ((some 34), (none, (.extr 23 0)))
               (.one ((some 35), (none, (.extr 23 1)))
               (.one (none, (none, (.st 2 (.tmp 5) (.tmp 34))))
               (.one ((some 6), (none, (.mv (.tmp 35))))
               .done))))
              (.one ((some 35), (none, (.extr 23 1)))
               (.one ((some 34), (none, (.extr 23 0)))
               (.one (none, (none, (.st 2 (.tmp 5) (.tmp 34))))
               (.one ((some 6), (none, (.mv (.tmp 35))))
               .done))))))))))))
            (.one ((some 5), (none, (.alloc [(.int .i64 0), (lin t_api_Item [])])))
             (.one ((some 26), (none, (.ld false (.tmp 25))))
             (.one ((some 29), (none, (.bi .add (.tmp 26) (.tmp 28))))
             (.one ((some 32), (none, (.build [(.inr ((.tmp 29), 1)), (.inl [(.int .i64 0)]), (.inr ((.tmp 31), 1)), (.inl zTag.cells), (.inl [(deep [])]), (.inl zTag.cells)])))
             (.one ((some 33), (none, (.call f_ref21_Keep [(.tmp 24), (.tmp 32)])))
             (.one ((some 23), (none, (.steal 33)))
             (.alt (.one ((some 34), (none, (.extr 23 0)))
              (.one ((some 35), (none, (.extr 23 1)))
              (.one (none, (none, (.st 2 (.tmp 5) (.tmp 34))))
              (.one ((some 6), (none, (.mv (.tmp 35))))
              .done))))
             (.one ((some 35), (none, (.extr 23 1)))
              (.one ((some 34), (none, (.extr 23 0)))
              (.one (none, (none, (.st 2 (.tmp 5) (.tmp 34))))
              (.one ((some 6), (none, (.mv (.tmp 35))))
              .done)))))))))))))
           (.one ((some 5), (none, (.alloc [(.int .i64 0), (lin t_api_Item [])])))
            (.alt (.one ((some 26), (none, (.ld false (.tmp 25))))
             (.one ((some 29), (none, (.bi .add (.tmp 26) (.tmp 28))))
             (.one ((some 31), (none, (.call f_made_Deck_Next [(.tmp 30), (.const (.int .i64 9))])))
             (.one ((some 32), (none, (.build [(.inr ((.tmp 29), 1)), (.inl [(.int .i64 0)]), (.inr ((.tmp 31), 1)), (.inl zTag.cells), (.inl [(deep [])]), (.inl zTag.cells)])))
             (.one ((some 33), (none, (.call f_ref21_Keep [(.tmp 24), (.tmp 32)])))
             (.one ((some 23), (none, (.steal 33)))
             (.alt (.one ((some 34), (none, (.extr 23 0)))
              (.one ((some 35), (none, (.extr 23 1)))
              (.one (none, (none, (.st 2 (.tmp 5) (.tmp 34))))
              (.one ((some 6), (none, (.mv (.tmp 35))))
              .done))))
             (.one ((some 35), (none, (.extr 23 1)))
              (.one ((some 34), (none, (.extr 23 0)))
              (.one (none, (none, (.st 2 (.tmp 5) (.tmp 34))))
              (.one ((some 6), (none, (.mv (.tmp 35))))
              .done)))))))))))
            (.one ((some 31), (none, (.call f_made_Deck_Next [(.tmp 30), (.const (.int .i64 9))])))
             (.one ((some 26), (none, (.ld false (.tmp 25))))
             (.one ((some 29), (none, (.bi .add (.tmp 26) (.tmp 28))))
             (.one ((some 32), (none, (.build [(.inr ((.tmp 29), 1)), (.inl [(.int .i64 0)]), (.inr ((.tmp 31), 1)), (.inl zTag.cells), (.inl [(deep [])]), (.inl zTag.cells)])))
             (.one ((some 33), (none, (.call f_ref21_Keep [(.tmp 24), (.tmp 32)])))
             (.one ((some 23), (none, (.steal 33)))
             (.alt (.one ((some 34), (none, (.extr 23 0)))
              (.one ((some 35), (none, (.extr 23 1)))
              (.one (none, (none, (.st 2 (.tmp 5) (.tmp 34))))
              (.one ((some 6), (none, (.mv (.tmp 35))))
              .done))))
             (.one ((some 35), (none, (.extr 23 1)))
              (.one ((some 34), (none, (.extr 23 0)))
              (.one (none, (none, (.st 2 (.tmp 5) (.tmp 34))))
              (.one ((some 6), (none, (.mv (.tmp 35))))
              .done))))))))))))))))
         (.one ((some 5), (none, (.alloc [(.int .i64 0), (lin t_api_Item [])])))
          (.alt (.one ((some 26), (none, (.ld false (.tmp 25))))
           (.one ((some 28), (none, (.call f_made_Deck_Range [(.tmp 27), (.const (.int .i64 1)), (.const (.int .i64 8))])))
           (.one ((some 29), (none, (.bi .add (.tmp 26) (.tmp 28))))
           (.one ((some 31), (none, (.call f_made_Deck_Next [(.tmp 30), (.const (.int .i64 9))])))
           (.one ((some 32), (none, (.build [(.inr ((.tmp 29), 1)), (.inl [(.int .i64 0)]), (.inr ((.tmp 31), 1)), (.inl zTag.cells), (.inl [(deep [])]), (.inl zTag.cells)])))
           (.one ((some 33), (none, (.call f_ref21_Keep [(.tmp 24), (.tmp 32)])))
           (.one ((some 23), (none, (.steal 33)))
           (.alt (.one ((some 34), (none, (.extr 23 0)))
            (.one ((some 35), (none, (.extr 23 1)))
            (.one (none, (none, (.st 2 (.tmp 5) (.tmp 34))))
            (.one ((some 6), (none, (.mv (.tmp 35))))
            .done))))
           (.one ((some 35), (none, (.extr 23 1)))
            (.one ((some 34), (none, (.extr 23 0)))
            (.one (none, (none, (.st 2 (.tmp 5) (.tmp 34))))
            (.one ((some 6), (none, (.mv (.tmp 35))))
            .done))))))))))))
          (.one ((some 28), (none, (.call f_made_Deck_Range [(.tmp 27), (.const (.int .i64 1)), (.const (.int .i64 8))])))
           (.alt (.one ((some 26), (none, (.ld false (.tmp 25))))
            (.one ((some 29), (none, (.bi .add (.tmp 26) (.tmp 28))))
            (.one ((some 31), (none, (.call f_made_Deck_Next [(.tmp 30), (.const (.int .i64 9))])))
            (.one ((some 32), (none, (.build [(.inr ((.tmp 29), 1)), (.inl [(.int .i64 0)]), (.inr ((.tmp 31), 1)), (.inl zTag.cells), (.inl [(deep [])]), (.inl zTag.cells)])))
            (.one ((some 33), (none, (.call f_ref21_Keep [(.tmp 24), (.tmp 32)])))
            (.one ((some 23), (none, (.steal 33)))
            (.alt (.one ((some 34), (none, (.extr 23 0)))
             (.one ((some 35), (none, (.extr 23 1)))
             (.one (none, (none, (.st 2 (.tmp 5) (.tmp 34))))
             (.one ((some 6), (none, (.mv (.tmp 35))))
             .done))))
            (.one ((some 35), (none, (.extr 23 1)))
             (.one ((some 34), (none, (.extr 23 0)))
             (.one (none, (none, (.st 2 (.tmp 5) (.tmp 34))))
             (.one ((some 6), (none, (.mv (.tmp 35))))
             .done)))))))))))
           (.one ((some 31), (none, (.call f_made_Deck_Next [(.tmp 30), (.const (.int .i64 9))])))
            (.one ((some 26), (none, (.ld false (.tmp 25))))
            (.one ((some 29), (none, (.bi .add (.tmp 26) (.tmp 28))))
            (.one ((some 32), (none, (.build [(.inr ((.tmp 29), 1)), (.inl [(.int .i64 0)]), (.inr ((.tmp 31), 1)), (.inl zTag.cells), (.inl [(deep [])]), (.inl zTag.cells)])))
            (.one ((some 33), (none, (.call f_ref21_Keep [(.tmp 24), (.tmp 32)])))
            (.one ((some 23), (none, (.steal 33)))
            (.alt (.one ((some 34), (none, (.extr 23 0)))
             (.one ((some 35), (none, (.extr 23 1)))
             (.one (none, (none, (.st 2 (.tmp 5) (.tmp 34))))
             (.one ((some 6), (none, (.mv (.tmp 35))))
             .done))))
            (.one ((some 35), (none, (.extr 23 1)))
             (.one ((some 34), (none, (.extr 23 0)))
             (.one (none, (none, (.st 2 (.tmp 5) (.tmp 34))))
             (.one ((some 6), (none, (.mv (.tmp 35))))
             .done))))))))))))))))))
       (.alt (.one ((some 26), (none, (.ld false (.tmp 25))))
         (.alt (.one ((some 24), (none, (.ldA 2 (.tmp 3))))
          (.alt (.one ((some 28), (none, (.call f_made_Deck_Range [(.tmp 27), (.const (.int .i64 1)), (.const (.int .i64 8))])))
           (.one ((some 29), (none, (.bi .add (.tmp 26) (.tmp 28))))
           (.alt (.one ((some 31), (none, (.call f_made_Deck_Next [(.tmp 30), (.const (.int .i64 9))])))
            (.one ((some 32), (none, (.build [(.inr ((.tmp 29), 1)), (.inl [(.int .i64 0)]), (.inr ((.tmp 31), 1)), (.inl zTag.cells), (.inl [(deep [])]), (.inl zTag.cells)])))
            (.alt (.one ((some 33), (none, (.call f_ref21_Keep [(.tmp 24), (.tmp 32)])))
             (.one ((some 23), (none, (.steal 33)))
             (.alt (.one ((some 34), (none, (.extr 23 0)))
              (.one ((some 35), (none, (.extr 23 1)))
              (.one ((some 5), (none, (.alloc [(.int .i64 0), (lin t_api_Item [])])))
              (.one (none, (none, (.st 2 (.tmp 5) (.tmp 34))))
              (.one ((some 6), (none, (.mv (.tmp 35))))
              .done)))))
             (.alt (.one ((some 35), (none, (.extr 23 1)))
               (.one ((some 34), (none, (.extr 23 0)))
               (.one ((some 5), (none, (.alloc [(.int .i64 0), (lin t_api_Item [])])))
               (.one (none, (none, (.st 2 (.tmp 5) (.tmp 34))))
               (.one ((some 6), (none, (.mv (.tmp 35))))
               .done)))))
              (.one ((some 5), (none, (.alloc [(.int .i64 0), (lin t_api_Item [])])))
               (.alt (.one ((some 34), (none, (.extr 23 0)))
                (.one ((some 35), (none, (.extr 23 1)))
                (.one (none, (none, (.st 2 (.tmp 5) (.tmp 34))))
                (.one ((some 6), (none, (.mv (.tmp 35))))
                .done))))
               (.one ((some 35), (none, (.extr 23 1)))
                (.one ((some 34), (none, (.extr 23 0)))
                (.one (none, (none, (.st 2 (.tmp 5) (.tmp 34))))
                (.one ((some 6), (none, (.mv (.tmp 35))))
                .done))))))))))
            (.one ((some 5), (none, (.alloc [(.int .i64 0), (lin t_api_Item [])])))
             (.one ((some 33), (none, (.call f_ref21_Keep [(.tmp 24), (.tmp 32)])))
             (.one ((some 23), (none, (.steal 33)))
             (.alt (.one ((some 34), (none, (.extr 23 0)))
              (.one ((some 35), (none, (.extr 23 1)))
              (.one (none, (none, (.st 2 (.tmp 5) (.tmp 34))))
              (.one ((some 6), (none, (.mv (.tmp 35))))
              .done))))
             (.one ((some 35), (none, (.extr 23 1)))
              (.one ((some 34), (none, (.extr 23 0)))
              (.one (none, (none, (.st 2 (.tmp 5) (.tmp 34))))
              (.one ((some 6), (none, (.mv (.tmp 35))))
              .done)))))))))))
           (.one ((some 5), (none, (.alloc [(.int .i64 0), (lin t_api_Item [])])))
            (.one ((some 31), (none, (.call f_made_Deck_Next [(.tmp 30), (.const (.int .i64 9))])))
            (.one ((some 32), (none, (.build [(.inr ((.tmp 29), 1)), (.inl [(.int .i64 0)]), (.inr ((.tmp 31), 1)), (.inl zTag.cells), (.inl [(deep [])]), (.inl zTag.cells)])))
            (.one ((some 33), (none, (.call f_ref21_Keep [(.tmp 24), (.tmp 32)])))
            (.one ((some 23), (none, (.steal 33)))
            (.alt (.one ((some 34), (none, (.extr 23 0)))
             (.one ((some 35), (none, (.extr 23 1)))
             (.one (none, (none, (.st 2 (.tmp 5) (.tmp 34))))
             (.one ((some 6), (none, (.mv (.tmp 35))))
             .done))))
            (.one ((some 35), (none, (.extr 23 1)))
             (.one ((some 34), (none, (.extr 23 0)))
             (.one (none, (none, (.st 2 (.tmp 5) (.tmp 34))))
             (.one ((some 6), (none, (.mv (.tmp 35))))
             .done)))))))))))))
          (.one ((some 5), (none, (.alloc [(.int .i64 0), (lin t_api_Item [])])))
           (.one ((some 28), (none, (.call f_made_Deck_Range [(.tmp 27), (.const (.int .i64 1)), (.const (.int .i64 8))])))
           (.one ((some 29), (none, (.bi .add (.tmp 26) (.tmp 28))))
           (.one ((some 31), (none, (.call f_made_Deck_Next [(.tmp 30), (.const (.int .i64 9))])))
           (.one ((some 32), (none, (.build [(.inr ((.tmp 29), 1)), (.inl [(.int .i64 0)]), (.inr ((.tmp 31), 1)), (.inl zTag.cells), (.inl [(deep [])]), (.inl zTag.cells)])))
           (.one ((some 33), (none, (.call f_ref21_Keep [(.tmp 24), (.tmp 32)])))
           (.one ((some 23), (none, (.steal 33)))
           (.alt (.one ((some 34), (none, (.extr 23 0)))
            (.one ((some 35), (none, (.extr 23 1)))
            (.one (none, (none, (.st 2 (.tmp 5) (.tmp 34))))
            (.one ((some 6), (none, (.mv (.tmp 35))))
            .done))))
           (.one ((some 35), (none, (.extr 23 1)))
            (.one ((some 34), (none, (.extr 23 0)))
            (.one (none, (none, (.st 2 (.tmp 5) (.tmp 34))))
            (.one ((some 6), (none, (.mv (.tmp 35))))
            .done))))))))))))))
         (.alt (.one ((some 28), (none, (.call f_made_Deck_Range [(.tmp 27), (.const (.int .i64 1)), (.const (.int .i64 8))])))
           (.one ((some 29), (none, (.bi .add (.tmp 26) (.tmp 28))))
           (.alt (.one ((some 24), (none, (.ldA 2 (.tmp 3))))
            (.alt (.one ((some 31), (none, (.call f_made_Deck_Next [(.tmp 30), (.const (.int .i64 9))])))
             (.one ((some 32), (none, (.build [(.inr ((.tmp 29), 1)), (.inl [(.int .i64 0)]), (.inr ((.tmp 31), 1)), (.inl zTag.cells), (.inl [(deep [])]), (.inl zTag.cells)])))
             (.alt (.one ((some 33), (none, (.call f_ref21_Keep [(.tmp 24), (.tmp 32)])))
              (.one ((some 23), (none, (.steal 33)))
              (.alt (.one ((some 34), (none, (.extr 23 0)))
               (.one ((some 35), (none, (.extr 23 1)))
               (.one ((some 5), (none, (.alloc [(.int .i64 0), (lin t_api_Item [])])))
               (.one (none, (none, (.st 2 (.tmp 5) (.tmp 34))))
               (.one ((some 6), (none, (.mv (.tmp 35))))
               .done)))))
              (.alt (.one ((some 35), (none, (.extr 23 1)))
                (.one ((some 34), (none, (.extr 23 0)))
                (.one ((some 5), (none, (.alloc [(.int .i64 0), (lin t_api_Item [])])))
                (.one (none, (none, (.st 2 (.tmp 5) (.tmp 34))))
                (.one ((some 6), (none, (.mv (.tmp 35))))
                .done)))))
               (.one ((some 5), (none, (.alloc [(.int .i64 0), (lin t_api_Item [])])))
                (.alt (.one ((some 34), (none, (.extr 23 0)))
                 (.one ((some 35), (none, (.extr 23 1)))
                 (.one (none, (none, (.st 2 (.tmp 5) (.tmp 34))))
                 (.one ((some 6), (none, (.mv (.tmp 35))))
                 .done))))
                (.one ((some 35), (none, (.extr 23 1)))
                 (.one ((some 34), (none, (.extr 23 0)))
                 (.one (none, (none, (.st 2 (.tmp 5) (.tmp 34))))
                 (.one ((some 6), (none, (.mv (.tmp 35))))
                 .done))))))))))
             (.one ((some 5), (none, (.alloc [(.int .i64 0), (lin t_api_Item [])])))
              (.one ((some 33), (none, (.call f_ref21_Keep [(.tmp 24), (.tmp 32)])))
              (.one ((some 23), (none, (.steal 33)))
              (.alt (.one ((some 34), (none, (.extr 23 0)))
               (.one ((some 35), (none, (.extr 23 1)))
               (.one (none, (none, (.st 2 (.tmp 5) (.tmp 34))))
               (.one ((some 6), (none, (.mv (.tmp 35))))
               .done))))
              (.one ((some 35), (none, (.extr 23 1)))
               (.one ((some 34), (none, (.extr 23 0)))
               (.one (none, (none, (.st 2 (.tmp 5) (.tmp 34))))
               (.one ((some 6), (none, (.mv (.tmp 35))))
               .done)))))))))))
            (.one ((some 5), (none, (.alloc [(.int .i64 0), (lin t_api_Item [])])))
             (.one ((some 31), (none, (.call f_made_Deck_Next [(.tmp 30), (.const (.int .i64 9))])))
             (.one ((some 32), (none, (.build [(.inr ((.tmp 29), 1)), (.inl [(.int .i64 0)]), (.inr ((.tmp 31), 1)), (.inl zTag.cells), (.inl [(deep [])]), (.inl zTag.cells)])))
             (.one ((some 33), (none, (.call f_ref21_Keep [(.tmp 24), (.tmp 32)])))
             (.one ((some 23), (none, (.steal 33)))
             (.alt (.one ((some 34), (none, (.extr 23 0)))
              (.one ((some 35), (none, (.extr 23 1)))
              (.one (none, (none, (.st 2 (.tmp 5) (.tmp 34))))
              (.one ((some 6), (none, (.mv (.tmp 35))))
              .done))))
             (.one ((some 35), (none, (.extr 23 1)))
              (.one ((some 34), (none, (.extr 23 0)))
              (.one (none, (none, (.st 2 (.tmp 5) (.tmp 34))))
              (.one ((some 6), (none, (.mv (.tmp 35))))
              .done))))))))))))
           (.alt (.one ((some 31), (none, (.call f_made_Deck_Next [(.tmp 30), (.const (.int .i64 9))])))
             (.one ((some 32), (none, (.build [(.inr ((.tmp 29), 1)), (.inl [(.int .i64 0)]), (.inr ((.tmp 31), 1)), (.inl zTag.cells), (.inl [(deep [])]), (.inl zTag.cells)])))
             (.alt (.one ((some 24), (none, (.ldA 2 (.tmp 3))))
              (.alt (.one ((some 33), (none, (.call f_ref21_Keep [(.tmp 24), (.tmp 32)])))
               (.one ((some 23), (none, (.steal 33)))
               (.alt (.one ((some 34), (none, (.extr 23 0)))
                (.one ((some 35), (none, (.extr 23 1)))
                (.one ((some 5), (none, (.alloc [(.int .i64 0), (lin t_api_Item [])])))
                (.one (none, (none, (.st 2 (.tmp 5) (.tmp 34))))
                (.one ((some 6), (none, (.mv (.tmp 35))))
                .done)))))
               (.alt (.one ((some 35), (none, (.extr 23 1)))
                 (.one ((some 34), (none, (.extr 23 0)))
                 (.one ((some 5), (none, (.alloc [(.int .i64 0), (lin t_api_Item [])])))
                 (.one (none, (none, (.st 2 (.tmp 5) (.tmp 34))))
                 (.one ((some 6), (none, (.mv (.tmp 35))))
                 .done)))))
                (.one ((some 5), (none, (.alloc [(.int .i64 0), (lin t_api_Item [])])))
                 (.alt (.one ((some 34), (none, (.extr 23 0)))
                  (.one ((some 35), (none, (.extr 23 1)))
                  (.one (none, (none, (.st 2 (.tmp 5) (.tmp 34))))
                  (.one ((some 6), (none, (.mv (.tmp 35))))
                  .done))))
                 (.one ((some 35), (none, (.extr 23 1)))
                  (.one ((some 34), (none, (.extr 23 0)))
                  (.one (none, (none, (.st 2 (.tmp 5) (.tmp 34))))
                  (.one ((some 6), (none, (.mv (.tmp 35))))
                  .done))))))))))
              (.one ((some 5), (none, (.alloc [(.int .i64 0), (lin t_api_Item [])])))
               (.one ((some 33), (none, (.call f_ref21_Keep [(.tmp 24), (.tmp 32)])))
               (.one ((some 23), (none, (.steal 33)))
               (.alt (.one ((some 34), (none, (.extr 23 0)))
                (.one ((some 35), (none, (.extr 23 1)))
                (.one (none, (none, (.st 2 (.tmp 5) (.tmp 34))))
                (.one ((some 6), (none, (.mv (.tmp 35))))
                .done))))
               (.one ((some 35), (none, (.extr 23 1)))
                (.one ((some 34), (none, (.extr 23 0)))
                (.one (none, (none, (.st 2 (.tmp 5) (.tmp 34))))
                (.one ((some 6), (none, (.mv (.tmp 35))))
                .done))))))))))
             (.one ((some 5), (none, (.alloc [(.int .i64 0), (lin t_api_Item [])])))
              (.one ((some 24), (none, (.ldA 2 (.tmp 3))))
              (.one ((some 33), (none, (.call f_ref21_Keep [(.tmp 24), (.tmp 32)])))
              (.one ((some 23), (none, (.steal 33)))
              (.alt (.one ((some 34), (none, (.extr 23 0)))
               (.one ((some 35), (none, (.extr 23 1)))
               (.one (none, (none, (.st 2 (.tmp 5) (.tmp 34))))
               (.one ((some 6), (none, (.mv (.tmp 35))))
               .done))))
              (.one ((some 35), (none, (.extr 23 1)))
               (.one ((some 34), (none, (.extr 23 0)))
               (.one (none, (none, (.st 2 (.tmp 5) (.tmp 34))))
               (.one ((some 6), (none, (.mv (.tmp 35))))
               .done))))))))))))
            (.one ((some 5), (none, (.alloc [(.int .i64 0), (lin t_api_Item [])])))
             (.alt (.one ((some 24), (none, (.ldA 2 (.tmp 3))))
              (.one ((some 31), (none, (.call f_made_Deck_Next [(.tmp 30), (.const (.int .i64 9))])))
              (.one ((some 32), (none, (.build [(.inr ((.tmp 29), 1)), (.inl [(.int .i64 0)]), (.inr ((.tmp 31), 1)), (.inl zTag.cells), (.inl [(deep [])]), (.inl zTag.cells)])))
              (.one ((some 33), (none, (.call f_ref21_Keep [(.tmp 24), (.tmp 32)])))
              (.one ((some 23), (none, (.steal 33)))
              (.alt (.one ((some 34), (none, (.extr 23 0)))
               (.one ((some 35), (none, (.extr 23 1)))
               (.one (none, (none, (.st 2 (.tmp 5) (.tmp 34))))
               (.one ((some 6), (none, (.mv (.tmp 35))))
               .done))))
              (.one ((some 35), (none, (.extr 23 1)))
               (.one ((some 34), (none, (.extr 23 0)))
               (.one (none, (none, (.st 2 (.tmp 5) (.tmp 34))))
               (.one ((some 6), (none, (.mv (.tmp 35))))
               .done))))))))))
             (.one ((some 31), (none, (.call f_made_Deck_Next [(.tmp 30), (.const (.int .i64 9))])))
              (.one ((some 24), (none, (.ldA 2 (.tmp 3))))
              (.one ((some 32), (none, (.build [(.inr ((.tmp 29), 1)), (.inl [(.int .i64 0)]), (.inr ((.tmp 31), 1)), (.inl zTag.cells), (.inl [(deep [])]), (.inl zTag.cells)])))
              (.one ((some 33), (none, (.call f_ref21_Keep [(.tmp 24), (.tmp 32)])))
              (.one ((some 23), (none, (.steal 33)))
              (.alt (.one ((some 34), (none, (.extr 23 0)))
               (.one ((some 35), (none, (.extr 23 1)))
               (.one (none, (none, (.st 2 (.tmp 5) (.tmp 34))))
               (.one ((some 6), (none, (.mv (.tmp 35))))
               .done))))
              (.one ((some 35), (none, (.extr 23 1)))
               (.one ((some 34), (none, (.extr 23 0)))
               (.one (none, (none, (.st 2 (.tmp 5) (.tmp 34))))
               (.one ((some 6), (none, (.mv (.tmp 35))))
               .done))))))))))))))))
          (.one ((some 5), (none, (.alloc [(.int .i64 0), (lin t_api_Item [])])))
           (.alt (.one ((some 24), (none, (.ldA 2 (.tmp 3))))
            (.one ((some 28), (none, (.call f_made_Deck_Range [(.tmp 27), (.const (.int .i64 1)), (.const (.int .i64 8))])))
            (.one ((some 29), (none, (.bi .add (.tmp 26) (.tmp 28))))
            (.one ((some 31), (none, (.call f_made_Deck_Next [(.tmp 30), (.const (.int .i64 9))])))
            (.one ((some 32), (none, (.build [(.inr ((.tmp 29), 1)), (.inl [(.int .i64 0)]), (.inr ((.tmp 31), 1)), (.inl zTag.cells), (.inl [(deep [])]), (.inl zTag.cells)])))
            (.one ((some 33), (none, (.call f_ref21_Keep [(.tmp 24), (.tmp 32)])))
            (.one ((some 23), (none, (.steal 33)))
            (.alt (.one ((some 34), (none, (.extr 23 0)))
             (.one ((some 35), (none, (.extr 23 1)))
             (.one (none, (none, (.st 2 (.tmp 5) (.tmp 34))))
             (.one ((some 6), (none, (.mv (.tmp 35))))
             .done))))
            (.one ((some 35), (none, (.extr 23 1)))
             (.one ((some 34), (none, (.extr 23 0)))
             (.one (none, (none, (.st 2 (.tmp 5) (.tmp 34))))
             (.one ((some 6), (none, (.mv (.tmp 35))))
             .done))))))))))))
           (.one ((some 28), (none, (.call f_made_Deck_Range [(.tmp 27), (.const (.int .i64 1)), (.const (.int .i64 8))])))
            (.one ((some 29), (none, (.bi .add (.tmp 26) (.tmp 28))))
            (.alt (.one ((some 24), (none, (.ldA 2 (.tmp 3))))
             (.one ((some 31), (none, (.call f_made_Deck_Next [(.tmp 30), (.const (.int .i64 9))])))
             (.one ((some 32), (none, (.build [(.inr ((.tmp 29), 1)), (.inl [(.int .i64 0)]), (.inr ((.tmp 31), 1)), (.inl zTag.cells), (.inl [(deep [])]), (.inl zTag.cells)])))
             (.one ((some 33), (none, (.call f_ref21_Keep [(.tmp 24), (.tmp 32)])))
             (.one ((some 23), (none, (.steal 33)))
             (.alt (.one ((some 34), (none, (.extr 23 0)))
              (.one ((some 35), (none, (.extr 23 1)))
              (.one (none, (none, (.st 2 (.tmp 5) (.tmp 34))))
              (.one ((some 6), (none, (.mv (.tmp 35))))
              .done))))
             (.one ((some 35), (none, (.extr 23 1)))
              (.one ((some 34), (none, (.extr 23 0)))
              (.one (none, (none, (.st 2 (.tmp 5) (.tmp 34))))
              (.one ((some 6), (none, (.mv (.tmp 35))))
              .done))))))))))
            (.one ((some 31), (none, (.call f_made_Deck_Next [(.tmp 30), (.const (.int .i64 9))])))
             (.one ((some 24), (none, (.ldA 2 (.tmp 3))))
             (.one ((some 32), (none, (.build [(.inr ((.tmp 29), 1)), (.inl [(.int .i64 0)]), (.inr ((.tmp 31), 1)), (.inl zTag.cells), (.inl [(deep [])]), (.inl zTag.cells)])))
             (.one ((some 33), (none, (.call f_ref21_Keep [(.tmp 24), (.tmp 32)])))
             (.one ((some 23), (none, (.steal 33)))
             (.alt (.one ((some 34), (none, (.extr 23 0)))
              (.one ((some 35), (none, (.extr 23 1)))
              (.one (none, (none, (.st 2 (.tmp 5) (.tmp 34))))
              (.one ((some 6), (none, (.mv (.tmp 35))))
              .done))))
             (.one ((some 35), (none, (.extr 23 1)))
              (.one ((some 34), (none, (.extr 23 0)))
              (.one (none, (none, (.st 2 (.tmp 5) (.tmp 34))))
              (.one ((some 6), (none, (.mv (.tmp 35))))
              .done))))))))))))))))))
        (.alt (.one ((some 28), (none, (.call f_made_Deck_Range [(.tmp 27), (.const (.int .i64 1)), (.const (.int .i64 8))])))
          (.alt (.one ((some 24), (none, (.ldA 2 (.tmp 3))))
           (.alt (.one ((some 26), (none, (.ld false (.tmp 25))))
            (.one ((some 29), (none, (.bi .add (.tmp 26) (.tmp 28))))
            (.alt (.one ((some 31), (none, (.call f_made_Deck_Next [(.tmp 30), (.const (.int .i64 9))])))
             (.one ((some 32), (none, (.build [(.inr ((.tmp 29), 1)), (.inl [(.int .i64 0)]), (.inr ((.tmp 31), 1)), (.inl zTag.cells), (.inl [(deep [])]), (.inl zTag.cells)])))
             (.alt (.one ((some 33), (none, (.call f_ref21_Keep [(.tmp 24), (.tmp 32)])))
              (.one ((some 23), (none, (.steal 33)))
              (.alt (.one ((some 34), (none, (.extr 23 0)))
               (.one ((some 35), (none, (.extr 23 1)))
               (.one ((some 5), (none, (.alloc [(.int .i64 0), (lin t_api_Item [])])))
               (.one (none, (none, (.st 2 (.tmp 5) (.tmp 34))))
               (.one ((some 6), (none, (.mv (.tmp 35))))
               .done)))))
              (.alt (.one ((some 35), (none, (.extr 23 1)))
                (.one ((some 34), (none, (.extr 23 0)))
                (.one ((some 5), (none, (.alloc [(.int .i64 0), (lin t_api_Item [])])))
                (.one (none, (none, (.st 2 (.tmp 5) (.tmp 34))))
                (.one ((some 6), (none, (.mv (.tmp 35))))
                .done)))))
               (.one ((some 5), (none, (.alloc [(.int .i64 0), (lin t_api_Item [])])))
                (.alt (.one ((some 34), (none, (.extr 23 0)))
                 (.one ((some 35), (none, (.extr 23 1)))
                 (.one (none, (none, (.st 2 (.tmp 5) (.tmp 34))))
                 (.one ((some 6), (none, (.mv (.tmp 35))))
                 .done))))
                (.one ((some 35), (none, (.extr 23 1)))
                 (.one ((some 34), (none, (.extr 23 0)))
                 (.one (none, (none, (.st 2 (.tmp 5) (.tmp 34))))
                 (.one ((some 6), (none, (.mv (.tmp 35))))
                 .done))))))))))
             (.one ((some 5), (none, (.alloc [(.int .i64 0), (lin t_api_Item [])])))
              (.one ((some 33), (none, (.call f_ref21_Keep [(.tmp 24), (.tmp 32)])))
              (.one ((some 23), (none, (.steal 33)))
              (.alt (.one ((some 34), (none, (.extr 23 0)))
               (.one ((some 35), (none, (.extr 23 1)))
               (.one (none, (none, (.st 2 (.tmp 5) (.tmp 34))))
               (.one ((some 6), (none, (.mv (.tmp 35))))
               .done))))
              (.one ((some 35), (none, (.extr 23 1)))
               (.one ((some 34), (none, (.extr 23 0)))
               (.one (none, (none, (.st 2 (.tmp 5) (.tmp 34))))
               (.one ((some 6), (none, (.mv (.tmp 35))))
               .done)))))))))))
            (.one ((some 5), (none, (.alloc [(.int .i64 0), (lin t_api_Item [])])))
             (.one ((some 31), (none, (.call f_made_Deck_Next [(.tmp 30), (.const (.int .i64 9))])))
             (.one ((some 32), (none, (.build [(.inr ((.tmp 29), 1)), (.inl [(.int .i64 0)]), (.inr ((.tmp 31), 1)), (.inl zTag.cells), (.inl [(deep [])]), (.inl zTag.cells)])))
             (.one ((some 33), (none, (.call f_ref21_Keep [(.tmp 24), (.tmp 32)])))
             (.one ((some 23), (none, (.steal 33)))
             (.alt (.one ((some 34), (none, (.extr 23 0)))
              (.one ((some 35), (none, (.extr 23 1)))
              (.one (none, (none, (.st 2 (.tmp 5) (.tmp 34))))
              (.one ((some 6), (none, (.mv (.tmp 35))))
              .done))))
             (.one ((some 35), (none, (.extr 23 1)))
              (.one ((some 34), (none, (.extr 23 0)))
              (.one (none, (none, (.st 2 (.tmp 5) (.tmp 34))))
              (.one ((some 6), (none, (.mv (.tmp 35))))
              .done)))))))))))))
           (.alt (.one ((some 31), (none, (.call f_made_Deck_Next [(.tmp 30), (.const (.int .i64 9))])))
             (.alt (.one ((some 26), (none, (.ld false (.tmp 25))))
              (.one ((some 29), (none, (.bi .add (.tmp 26) (.tmp 28))))
              (.one ((some 32), (none, (.build [(.inr ((.tmp 29), 1)), (.inl [(.int .i64 0)]), (.inr ((.tmp 31), 1)), (.inl zTag.cells), (.inl [(deep [])]), (.inl zTag.cells)])))
              (.alt (.one ((some 33), (none, (.call f_ref21_Keep [(.tmp 24), (.tmp 32)])))
               (.one ((some 23), (none, (.steal 33)))
               (.alt (.one ((some 34), (none, (.extr 23 0)))
                (.one ((some 35), (none, (.extr 23 1)))
                (.one ((some 5), (none, (.alloc [(.int .i64 0), (lin t_api_Item [])])))
                (.one (none, (none, (.st 2 (.tmp 5) (.tmp 34))))
                (.one ((some 6), (none, (.mv (.tmp 35))))
                .done)))))
               (.alt (.one ((some 35), (none, (.extr 23 1)))
                 (.one ((some 34), (none, (.extr 23 0)))
                 (.one ((some 5), (none, (.alloc [(.int .i64 0), (lin t_api_Item [])])))
                 (.one (none, (none, (.st 2 (.tmp 5) (.tmp 34))))
                 (.one ((some 6), (none, (.mv (.tmp 35))))
                 .done)))))
                (.one ((some 5), (none, (.alloc [(.int .i64 0), (lin t_api_Item [])])))
                 (.alt (.one ((some 34), (none, (.extr 23 0)))
                  (.one ((some 35), (none, (.extr 23 1)))
                  (.one (none, (none, (.st 2 (.tmp 5) (.tmp 34))))
                  (.one ((some 6), (none, (.mv (.tmp 35))))
                  .done))))
                 (.one ((some 35), (none, (.extr 23 1)))
                  (.one ((some 34), (none, (.extr 23 0)))
                  (.one (none, (none, (.st 2 (.tmp 5) (.tmp 34))))
                  (.one ((some 6), (none, (.mv (.tmp 35))))
                  .done))))))))))
              (.one ((some 5), (none, (.alloc [(.int .i64 0), (lin t_api_Item [])])))
               (.one ((some 33), (none, (.call f_ref21_Keep [(.tmp 24), (.tmp 32)])))
               (.one ((some 23), (none, (.steal 33)))
               (.alt (.one ((some 34), (none, (.extr 23 0)))
                (.one ((some 35), (none, (.extr 23 1)))
                (.one (none, (none, (.st 2 (.tmp 5) (.tmp 34))))
                (.one ((some 6), (none, (.mv (.tmp 35))))
                .done))))
               (.one ((some 35), (none, (.extr 23 1)))
                (.one ((some 34), (none, (.extr 23 0)))
                (.one (none, (none, (.st 2 (.tmp 5) (.tmp 34))))
                (.one ((some 6), (none, (.mv (.tmp 35))))
                .done))))))))))))
             (.one ((some 5), (none, (.alloc [(.int .i64 0), (lin t_api_Item [])])))
              (.one ((some 26), (none, (.ld false (.tmp 25))))
              (.one ((some 29), (none, (.bi .add (.tmp 26) (.tmp 28))))
              (.one ((some 32), (none, (.build [(.inr ((.tmp 29), 1)), (.inl [(.int .i64 0)]), (.inr ((.tmp 31), 1)), (.inl zTag.cells), (.inl [(deep [])]), (.inl zTag.cells)])))
              (.one ((some 33), (none, (.call f_ref21_Keep [(.tmp 24), (.tmp 32)])))
              (.one ((some 23), (none, (.steal 33)))
              (.alt (.one ((some 34), (none, (.extr 23 0)))
               (.one ((some 35), (none, (.extr 23 1)))
               (.one (none, (none, (.st 2 (.tmp 5) (.tmp 34))))
               (.one ((some 6), (none, (.mv (.tmp 35))))
               .done))))
              (.one ((some 35), (none, (.extr 23 1)))
               (.one ((some 34), (none, (.extr 23 0)))
               (.one (none, (none, (.st 2 (.tmp 5) (.tmp 34))))
               (.one ((some 6), (none, (.mv (.tmp 35))))
               .done)))))))))))))
            (.one ((some 5), (none, (.alloc [(.int .i64 0), (lin t_api_Item [])])))
             (.alt (.one ((some 26), (none, (.ld false (.tmp 25))))
              (.one ((some 29), (none, (.bi .add (.tmp 26) (.tmp 28))))
              (.one ((some 31), (none, (.call f_made_Deck_Next [(.tmp 30), (.const (.int .i64 9))])))
              (.one ((some 32), (none, (.build [(.inr ((.tmp 29), 1)), (.inl [(.int .i64 0)]), (.inr ((.tmp 31), 1)), (.inl zTag.cells), (.inl [(deep [])]), (.inl zTag.cells)])))
              (.one ((some 33), (none, (.call f_ref21_Keep [(.tmp 24), (.tmp 32)])))
              (.one ((some 23), (none, (.steal 33)))
              (.alt (.one ((some 34), (none, (.extr 23 0)))
               (.one ((some 35), (none, (.extr 23 1)))
               (.one (none, (none, (.st 2 (.tmp 5) (.tmp 34))))
               (.one ((some 6), (none, (.mv (.tmp 35))))
               .done))))
              (.one ((some 35), (none, (.extr 23 1)))
               (.one ((some 34), (none, (.extr 23 0)))
               (.one (none, (none, (.st 2 (.tmp 5) (.tmp 34))))
               (.one ((some 6), (none, (.mv (.tmp 35))))
               .done)))))))))))
             (.one ((some 31), (none, (.call f_made_Deck_Next [(.tmp 30), (.const (.int .i64 9))])))
              (.one ((some 26), (none, (.ld false (.tmp 25))))
              (.one ((some 29), (none, (.bi .add (.tmp 26) (.tmp 28))))
              (.one ((some 32), (none, (.build [(.inr ((.tmp 29), 1)), (.inl [(.int .i64 0)]), (.inr ((.tmp 31), 1)), (.inl zTag.cells), (.inl [(deep [])]), (.inl zTag.cells)])))
              (.one ((some 33), (none, (.call f_ref21_Keep [(.tmp 24), (.tmp 32)])))
              (.one ((some 23), (none, (.steal 33)))
              (.alt (.one ((some 34), (none, (.extr 23 0)))
               (.one ((some 35), (none, (.extr 23 1)))
               (.one (none, (none, (.st 2 (.tmp 5) (.tmp 34))))
               (.one ((some 6), (none, (.mv (.tmp 35))))
               .done))))
              (.one ((some 35), (none, (.extr 23 1)))
               (.one ((some 34), (none, (.extr 23 0)))
               (.one (none, (none, (.st 2 (.tmp 5) (.tmp 34))))
               (.one ((some 6), (none, (.mv (.tmp 35))))
               .done))))))))))))))))
          (.alt (.one ((some 26), (none, (.ld false (.tmp 25))))
            (.one ((some 29), (none, (.bi .add (.tmp 26) (.tmp 28))))
            (.alt (.one ((some 24), (none, (.ldA 2 (.tmp 3))))
             (.alt (.one ((some 31), (none, (.call f_made_Deck_Next [(.tmp 30), (.const (.int .i64 9))])))
              (.one ((some 32), (none, (.build [(.inr ((.tmp 29), 1)), (.inl [(.int .i64 0)]), (.inr ((.tmp 31), 1)), (.inl zTag.cells), (.inl [(deep [])]), (.inl zTag.cells)])))
              (.alt (.one ((some 33), (none, (.call f_ref21_Keep [(.tmp 24), (.tmp 32)])))
               (.one ((some 23), (none, (.steal 33)))
               (.alt (.one ((some 34), (none, (.extr 23 0)))
                (.one ((some 35), (none, (.extr 23 1)))
                (.one ((some 5), (none, (.alloc [(.int .i64 0), (lin t_api_Item [])])))
                (.one (none, (none, (.st 2 (.tmp 5) (.tmp 34))))
                (.one ((some 6), (none, (.mv (.tmp 35))))
                .done)))))
               (.alt (.one ((some 35), (none, (.extr 23 1)))
                 (.one ((some 34), (none, (.extr 23 0)))
                 (.one ((some 5), (none, (.alloc [(.int .i64 0), (lin t_api_Item [])])))
                 (.one (none, (none, (.st 2 (.tmp 5) (.tmp 34))))
                 (.one ((some 6), (none, (.mv (.tmp 35))))
                 .done)))))
                (.one ((some 5), (none, (.alloc [(.int .i64 0), (lin t_api_Item [])])))
                 (.alt (.one ((some 34), (none, (.extr 23 0)))
                  (.one ((some 35), (none, (.extr 23 1)))
                  (.one (none, (none, (.st 2 (.tmp 5) (.tmp 34))))
                  (.one ((some 6), (none, (.mv (.tmp 35))))
                  .done))))
                 (.one ((some 35), (none, (.extr 23 1)))
                  (.one ((some 34), (none, (.extr 23 0)))
                  (.one (none, (none, (.st 2 (.tmp 5) (.tmp 34))))
                  (.one ((some 6), (none, (.mv (.tmp 35))))
                  .done))))))))))
              (.one ((some 5), (none, (.alloc [(.int .i64 0), (lin t_api_Item [])])))
               (.one ((some 33), (none, (.call f_ref21_Keep [(.tmp 24), (.tmp 32)])))
               (.one ((some 23), (none, (.steal 33)))
               (.alt (.one ((some 34), (none, (.extr 23 0)))
                (.one ((some 35), (none, (.extr 23 1)))
                (.one (none, (none, (.st 2 (.tmp 5) (.tmp 34))))
                (.one ((some 6), (none, (.mv (.tmp 35))))
                .done))))
               (.one ((some 35), (none, (.extr 23 1)))
                (.one ((some 34), (none, (.extr 23 0)))
                (.one (none, (none, (.st 2 (.tmp 5) (.tmp 34))))
                (.one ((some 6), (none, (.mv (.tmp 35))))
                .done)))))))))))
             (.one ((some 5), (none, (.alloc [(.int .i64 0), (lin t_api_Item [])])))
              (.one ((some 31), (none, (.call f_made_Deck_Next [(.tmp 30), (.const (.int .i64 9))])))
              (.one ((some 32), (none, (.build [(.inr ((.tmp 29), 1)), (.inl [(.int .i64 0)]), (.inr ((.tmp 31), 1)), (.inl zTag.cells), (.inl [(deep [])]), (.inl zTag.cells)])))
              (.one ((some 33), (none, (.call f_ref21_Keep [(.tmp 24), (.tmp 32)])))
              (.one ((some 23), (none, (.steal 33)))
              (.alt (.one ((some 34), (none, (.extr 23 0)))
               (.one ((some 35), (none, (.extr 23 1)))
               (.one (none, (none, (.st 2 (.tmp 5) (.tmp 34))))
               (.one ((some 6), (none, (.mv (.tmp 35))))
               .done))))
              (.one ((some 35), (none, (.extr 23 1)))
               (.one ((some 34), (none, (.extr 23 0)))
               (.one (none, (none, (.st 2 (.tmp 5) (.tmp 34))))
               (.one ((some 6), (none, (.mv (.tmp 35))))
               .done))))))))))))
            (.alt (.one ((some 31), (none, (.call f_made_Deck_Next [(.tmp 30), (.const (.int .i64 9))])))
              (.one ((some 32), (none, (.build [(.inr ((.tmp 29), 1)), (.inl [(.int .i64 0)]), (.inr ((.tmp 31), 1)), (.inl zTag.cells), (.inl [(deep [])]), (.inl zTag.cells)])))
              (.alt (.one ((some 24), (none, (.ldA 2 (.tmp 3))))
               (.alt (.one ((some 33), (none, (.call f_ref21_Keep [(.tmp 24), (.tmp 32)])))
                (.one ((some 23), (none, (.steal 33)))
                (.alt (.one ((some 34), (none, (.extr 23 0)))
                 (.one ((some 35), (none, (.extr 23 1)))
                 (.one ((some 5), (none, (.alloc [(.int .i64 0), (lin t_api_Item [])])))
                 (.one (none, (none, (.st 2 (.tmp 5) (.tmp 34))))
                 (.one ((some 6), (none, (.mv (.tmp 35))))
                 .done)))))
                (.alt (.one ((some 35), (none, (.extr 23 1)))
                  (.one ((some 34), (none, (.extr 23 0)))
                  (.one ((some 5), (none, (.alloc [(.int .i64 0), (lin t_api_Item [])])))
                  (.one (none, (none, (.st 2 (.tmp 5) (.tmp 34))))
                  (.one ((some 6), (none, (.mv (.tmp 35))))
                  .done)))))
                 (.one ((some 5), (none, (.alloc [(.int .i64 0), (lin t_api_Item [])])))
                  (.alt (.one ((some 34), (none, (.extr 23 0)))
                   (.one ((some 35), (none, (.extr 23 1)))
                   (.one (none, (none, (.st 2 (.tmp 5) (.tmp 34))))
                   (.one ((some 6), (none, (.mv (.tmp 35))))
                   .done))))
                  (.one ((some 35), (none, (.extr 23 1)))
                   (.one ((some 34), (none, (.extr 23 0)))
                   (.one (none, (none, (.st 2 (.tmp 5) (.tmp 34))))
                   (.one ((some 6), (none, (.mv (.tmp 35))))
                   .done))))))))))
               (.one ((some 5), (none, (.alloc [(.int .i64 0), (lin t_api_Item [])])))
                (.one ((some 33), (none, (.call f_ref21_Keep [(.tmp 24), (.tmp 32)])))
                (.one ((some 23), (none, (.steal 33)))
                (.alt (.one ((some 34), (none, (.extr 23 0)))
                 (.one ((some 35), (none, (.extr 23 1)))
                 (.one (none, (none, (.st 2 (.tmp 5) (.tmp 34))))
                 (.one ((some 6), (none, (.mv (.tmp 35))))
                 .done))))
                (.one ((some 35), (none, (.extr 23 1)))
                 (.one ((some 34), (none, (.extr 23 0)))
                 (.one (none, (none, (.st 2 (.tmp 5) (.tmp 34))))
                 (.one ((some 6), (none, (.mv (.tmp 35))))
                 .done))))))))))
              (.one ((some 5), (none, (.alloc [(.int .i64 0), (lin t_api_Item [])])))
               (.one ((some 24), (none, (.ldA 2 (.tmp 3))))
               (.one ((some 33), (none, (.call f_ref21_Keep [(.tmp 24), (.tmp 32)])))
               (.one ((some 23), (none, (.steal 33)))
               (.alt (.one ((some 34), (none, (.extr 23 0)))
                (.one ((some 35), (none, (.extr 23 1)))
                (.one (none, (none, (.st 2 (.tmp 5) (.tmp 34))))
                (.one ((some 6), (none, (.mv (.tmp 35))))
                .done))))
               (.one ((some 35), (none, (.extr 23 1)))
                (.one ((some 34), (none, (.extr 23 0)))
                (.one (none, (none, (.st 2 (.tmp 5) (.tmp 34))))
                (.one ((some 6), (none, (.mv (.tmp 35))))
                .done))))))))))))
             (.one ((some 5), (none, (.alloc [(.int .i64 0), (lin t_api_Item [])])))
              (.alt (.one ((some 24), (none, (.ldA 2 (.tmp 3))))
               (.one ((some 31), (none, (.call f_made_Deck_Next [(.tmp 30), (.const (.int .i64 9))])))
               (.one ((some 32), (none, (.build [(.inr ((.tmp 29), 1)), (.inl [(.int .i64 0)]), (.inr ((.tmp 31), 1)), (.inl zTag.cells), (.inl [(deep [])]), (.inl zTag.cells)])))
               (.one ((some 33), (none, (.call f_ref21_Keep [(.tmp 24), (.tmp 32)])))
               (.one ((some 23), (none, (.steal 33)))
               (.alt (.one ((some 34), (none, (.extr 23 0)))
                (.one ((some 35), (none, (.extr 23 1)))
                (.one (none, (none, (.st 2 (.tmp 5) (.tmp 34))))
                (.one ((some 6), (none, (.mv (.tmp 35))))
                .done))))
               (.one ((some 35), (none, (.extr 23 1)))
                (.one ((some 34), (none, (.extr 23 0)))
                (.one (none, (none, (.st 2 (.tmp 5) (.tmp 34))))
                (.one ((some 6), (none, (.mv (.tmp 35))))
                .done))))))))))
              (.one ((some 31), (none, (.call f_made_Deck_Next [(.tmp 30), (.const (.int .i64 9))])))
               (.one ((some 24), (none, (.ldA 2 (.tmp 3))))
               (.one ((some 32), (none, (.build [(.inr ((.tmp 29), 1)), (.inl [(.int .i64 0)]), (.inr ((.tmp 31), 1)), (.inl zTag.cells), (.inl [(deep [])]), (.inl zTag.cells)])))
               (.one ((some 33), (none, (.call f_ref21_Keep [(.tmp 24), (.tmp 32)])))
               (.one ((some 23), (none, (.steal 33)))
               (.alt (.one ((some 34), (none, (.extr 23 0)))
                (.one ((some 35), (none, (.extr 23 1)))
                (.one (none, (none, (.st 2 (.tmp 5) (.tmp 34))))
                (.one ((some 6), (none, (.mv (.tmp 35))))
                .done))))
               (.one ((some 35), (none, (.extr 23 1)))
                (.one ((some 34), (none, (.extr 23 0)))
                (.one (none, (none, (.st 2 (.tmp 5) (.tmp 34))))
                (.one ((some 6), (none, (.mv (.tmp 35))))
                .done))))))))))))))))
           (.alt (.one ((some 31), (none, (.call f_made_Deck_Next [(.tmp 30), (.const (.int .i64 9))])))
             (.alt (.one ((some 24), (none, (.ldA 2 (.tmp 3))))
              (.alt (.one ((some 26), (none, (.ld false (.tmp 25))))
               (.one ((some 29), (none, (.bi .add (.tmp 26) (.tmp 28))))
               (.one ((some 32), (none, (.build [(.inr ((.tmp 29), 1)), (.inl [(.int .i64 0)]), (.inr ((.tmp 31), 1)), (.inl zTag.cells), (.inl [(deep [])]), (.inl zTag.cells)])))
               (.alt (.one ((some 33), (none, (.call f_ref21_Keep [(.tmp 24), (.tmp 32)])))
                (.one ((some 23), (none, (.steal 33)))
                (.alt (.one ((some 34), (none, (.extr 23 0)))
                 (.one ((some 35), (none, (.extr 23 1)))
                 (.one ((some 5), (none, (.alloc [(.int .i64 0), (lin t_api_Item [])])))
                 (.one (none, (none, (.st 2 (.tmp 5) (.tmp 34))))
                 (.one ((some 6), (none, (.mv (.tmp 35))))
                 .done)))))
                (.alt (.one ((some 35), (none, (.extr 23 1)))
                  (.one ((some 34), (none, (.extr 23 0)))
                  (.one ((some 5), (none, (.alloc [(.int .i64 0), (lin t_api_Item [])])))
                  (.one (none, (none, (.st 2 (.tmp 5) (.tmp 34))))
                  (.one ((some 6), (none, (.mv (.tmp 35))))
                  .done)))))
                 (.one ((some 5), (none, (.alloc [(.int .i64 0), (lin t_api_Item [])])))
                  (.alt (.one ((some 34), (none, (.extr 23 0)))
                   (.one ((some 35), (none, (.extr 23 1)))
                   (.one (none, (none, (.st 2 (.tmp 5) (.tmp 34))))
                   (.one ((some 6), (none, (.mv (.tmp 35))))
                   .done))))
                  (.one ((some 35), (none, (.extr 23 1)))
                   (.one ((some 34), (none, (.extr 23 0)))
                   (.one (none, (none, (.st 2 (.tmp 5) (.tmp 34))))
                   (.one ((some 6), (none, (.mv (.tmp 35))))
                   .done))))))))))
               (.one ((some 5), (none, (.alloc [(.int .i64 0), (lin t_api_Item [])])))
                (.one ((some 33), (none, (.call f_ref21_Keep [(.tmp 24), (.tmp 32)])))
                (.one ((some 23), (none, (.steal 33)))
                (.alt (.one ((some 34), (none, (.extr 23 0)))
                 (.one ((some 35), (none, (.extr 23 1)))
                 (.one (none, (none, (.st 2 (.tmp 5) (.tmp 34))))
                 (.one ((some 6), (none, (.mv (.tmp 35))))
                 .done))))
                (.one ((some 35), (none, (.extr 23 1)))
                 (.one ((some 34), (none, (.extr 23 0)))
                 (.one (none, (none, (.st 2 (.tmp 5) (.tmp 34))))
                 (.one ((some 6), (none, (.mv (.tmp 35))))
                 .done))))))))))))
              (.one ((some 5), (none, (.alloc [(.int .i64 0), (lin t_api_Item [])])))
               (.one ((some 26), (none, (.ld false (.tmp 25))))
               (.one ((some 29), (none, (.bi .add (.tmp 26) (.tmp 28))))
               (.one ((some 32), (none, (.build [(.inr ((.tmp 29), 1)), (.inl [(.int .i64 0)]), (.inr ((.tmp 31), 1)), (.inl zTag.cells), (.inl [(deep [])]), (.inl zTag.cells)])))
               (.one ((some 33), (none, (.call f_ref21_Keep [(.tmp 24), (.tmp 32)])))
               (.one ((some 23), (none, (.steal 33)))
               (.alt (.one ((some 34), (none, (.extr 23 0)))
                (.one ((some 35), (none, (.extr 23 1)))
                (.one (none, (none, (.st 2 (.tmp 5) (.tmp 34))))
                (.one ((some 6), (none, (.mv (.tmp 35))))
                .done))))
               (.one ((some 35), (none, (.extr 23 1)))
                (.one ((some 34), (none, (.extr 23 0)))
                (.one (none, (none, (.st 2 (.tmp 5) (.tmp 34))))
                (.one ((some 6), (none, (.mv (.tmp 35))))
                .done)))))))))))))
             (.alt (.one ((some 26), (none, (.ld false (.tmp 25))))
               (.one ((some 29), (none, (.bi .add (.tmp 26) (.tmp 28))))
               (.one ((some 32), (none, (.build [(.inr ((.tmp 29), 1)), (.inl [(.int .i64 0)]), (.inr ((.tmp 31), 1)), (.inl zTag.cells), (.inl [(deep [])]), (.inl zTag.cells)])))
               (.alt (.one ((some 24), (none, (.ldA 2 (.tmp 3))))
                (.alt (.one ((some 33), (none, (.call f_ref21_Keep [(.tmp 24), (.tmp 32)])))
                 (.one ((some 23), (none, (.steal 33)))
                 (.alt (.one ((some 34), (none, (.extr 23 0)))
                  (.one ((some 35), (none, (.extr 23 1)))
                  (.one ((some 5), (none, (.alloc [(.int .i64 0), (lin t_api_Item [])])))
                  (.one (none, (none, (.st 2 (.tmp 5) (.tmp 34))))
                  (.one ((some 6), (none, (.mv (.tmp 35))))
                  .done)))))
                 (.alt (.one ((some 35), (none, (.extr 23 1)))
                   (.one ((some 34), (none, (.extr 23 0)))
                   (.one ((some 5), (none, (.alloc [(.int .i64 0), (lin t_api_Item [])])))
                   (.one (none, (none, (.st 2 (.tmp 5) (.tmp 34))))
                   (.one ((some 6), (none, (.mv (.tmp 35))))
                   .done)))))
                  (.one ((some 5), (none, (.alloc [(.int .i64 0), (lin t_api_Item [])])))
                   (.alt (.one ((some 34), (none, (.extr 23 0)))
                    (.one ((some 35), (none, (.extr 23 1)))
                    (.one (none, (none, (.st 2 (.tmp 5) (.tmp 34))))
                    (.one ((some 6), (none, (.mv (.tmp 35))))
                    .done))))
                   (.one ((some 35), (none, (.extr 23 1)))
                    (.one ((some 34), (none, (.extr 23 0)))
                    (.one (none, (none, (.st 2 (.tmp 5) (.tmp 34))))
                    (.one ((some 6), (none, (.mv (.tmp 35))))
                    .done))))))))))
                (.one ((some 5), (none, (.alloc [(.int .i64 0), (lin t_api_Item [])])))
                 (.one ((some 33), (none, (.call f_ref21_Keep [(.tmp 24), (.tmp 32)])))
                 (.one ((some 23), (none, (.steal 33)))
                 (.alt (.one ((some 34), (none, (.extr 23 0)))
                  (.one ((some 35), (none, (.extr 23 1)))
                  (.one (none, (none, (.st 2 (.tmp 5) (.tmp 34))))
                  (.one ((some 6), (none, (.mv (.tmp 35))))
                  .done))))
                 (.one ((some 35), (none, (.extr 23 1)))
                  (.one ((some 34), (none, (.extr 23 0)))
                  (.one (none, (none, (.st 2 (.tmp 5) (.tmp 34))))
                  (.one ((some 6), (none, (.mv (.tmp 35))))
                  .done))))))))))
               (.one ((some 5), (none, (.alloc [(.int .i64 0), (lin t_api_Item [])])))
                (.one ((some 24), (none, (.ldA 2 (.tmp 3))))
                (.one ((some 33), (none, (.call f_ref21_Keep [(.tmp 24), (.tmp 32)])))
                (.one ((some 23), (none, (.steal 33)))
                (.alt (.one ((some 34), (none, (.extr 23 0)))
                 (.one ((some 35), (none, (.extr 23 1)))
                 (.one (none, (none, (.st 2 (.tmp 5) (.tmp 34))))
                 (.one ((some 6), (none, (.mv (.tmp 35))))
                 .done))))
                (.one ((some 35), (none, (.extr 23 1)))
                 (.one ((some 34), (none, (.extr 23 0)))
                 (.one (none, (none, (.st 2 (.tmp 5) (.tmp 34))))
                 (.one ((some 6), (none, (.mv (.tmp 35))))
                 .done)))))))))))))
              (.one ((some 5), (none, (.alloc [(.int .i64 0), (lin t_api_Item [])])))
               (.one ((some 24), (none, (.ldA 2 (.tmp 3))))
               (.one ((some 26), (none, (.ld false (.tmp 25))))
               (.one ((some 29), (none, (.bi .add (.tmp 26) (.tmp 28))))
               (.one ((some 32), (none, (.build [(.inr ((.tmp 29), 1)), (.inl [(.int .i64 0)]), (.inr ((.tmp 31), 1)), (.inl zTag.cells), (.inl [(deep [])]), (.inl zTag.cells)])))
               (.one ((some 33), (none, (.call f_ref21_Keep [(.tmp 24), (.tmp 32)])))
               (.one ((some 23), (none, (.steal 33)))
               (.alt (.one ((some 34), (none, (.extr 23 0)))
                (.one ((some 35), (none, (.extr 23 1)))
                (.one (none, (none, (.st 2 (.tmp 5) (.tmp 34))))
                (.one ((some 6), (none, (.mv (.tmp 35))))
                .done))))
               (.one ((some 35), (none, (.extr 23 1)))
                (.one ((some 34), (none, (.extr 23 0)))
                (.one (none, (none, (.st 2 (.tmp 5) (.tmp 34))))
                (.one ((some 6), (none, (.mv (.tmp 35))))
                .done)))))))))))))))
            (.one ((some 5), (none, (.alloc [(.int .i64 0), (lin t_api_Item [])])))
             (.alt (.one ((some 24), (none, (.ldA 2 (.tmp 3))))
              (.alt (.one ((some 26), (none, (.ld false (.tmp 25))))
               (.one ((some 29), (none, (.bi .add (.tmp 26) (.tmp 28))))
               (.one ((some 31), (none, (.call f_made_Deck_Next [(.tmp 30), (.const (.int .i64 9))])))
               (.one ((some 32), (none, (.build [(.inr ((.tmp 29), 1)), (.inl [(.int .i64 0)]), (.inr ((.tmp 31), 1)), (.inl zTag.cells), (.inl [(deep [])]), (.inl zTag.cells)])))
               (.one ((some 33), (none, (.call f_ref21_Keep [(.tmp 24), (.tmp 32)])))
               (.one ((some 23), (none, (.steal 33)))
               (.alt (.one ((some 34), (none, (.extr 23 0)))
                (.one ((some 35), (none, (.extr 23 1)))
                (.one (none, (none, (.st 2 (.tmp 5) (.tmp 34))))
                (.one ((some 6), (none, (.mv (.tmp 35))))
                .done))))
               (.one ((some 35), (none, (.extr 23 1)))
                (.one ((some 34), (none, (.extr 23 0)))
                (.one (none, (none, (.st 2 (.tmp 5) (.tmp 34))))
                (.one ((some 6), (none, (.mv (.tmp 35))))
                .done)))))))))))
              (.one ((some 31), (none, (.call f_made_Deck_Next [(.tmp 30), (.const (.int .i64 9))])))
               (.one ((some 26), (none, (.ld false (.tmp 25))))
               (.one ((some 29), (none, (.bi .add (.tmp 26) (.tmp 28))))
               (.one ((some 32), (none, (.build [(.inr ((.tmp 29), 1)), (.inl [(.int .i64 0)]), (.inr ((.tmp 31), 1)), (.inl zTag.cells), (.inl [(deep [])]), (.inl zTag.cells)])))
               (.one ((some 33), (none, (.call f_ref21_Keep [(.tmp 24), (.tmp 32)])))
               (.one ((some 23), (none, (.steal 33)))
               (.alt (.one ((some 34), (none, (.extr 23 0)))
                (.one ((some 35), (none, (.extr 23 1)))
                (.one (none, (none, (.st 2 (.tmp 5) (.tmp 34))))
                (.one ((some 6), (none, (.mv (.tmp 35))))
                .done))))
               (.one ((some 35), (none, (.extr 23 1)))
                (.one ((some 34), (none, (.extr 23 0)))
                (.one (none, (none, (.st 2 (.tmp 5) (.tmp 34))))
                (.one ((some 6), (none, (.mv (.tmp 35))))
                .done)))))))))))))
             (.alt (.one ((some 26), (none, (.ld false (.tmp 25))))
               (.one ((some 29), (none, (.bi .add (.tmp 26) (.tmp 28))))
               (.alt (.one ((some 24), (none, (.ldA 2 (.tmp 3))))
                (.one ((some 31), (none, (.call f_made_Deck_Next [(.tmp 30), (.const (.int .i64 9))])))
                (.one ((some 32), (none, (.build [(.inr ((.tmp 29), 1)), (.inl [(.int .i64 0)]), (.inr ((.tmp 31), 1)), (.inl zTag.cells), (.inl [(deep [])]), (.inl zTag.cells)])))
                (.one ((some 33), (none, (.call f_ref21_Keep [(.tmp 24), (.tmp 32)])))
                (.one ((some 23), (none, (.steal 33)))
                (.alt (.one ((some 34), (none, (.extr 23 0)))
                 (.one ((some 35), (none, (.extr 23 1)))
                 (.one (none, (none, (.st 2 (.tmp 5) (.tmp 34))))
                 (.one ((some 6), (none, (.mv (.tmp 35))))
                 .done))))
                (.one ((some 35), (none, (.extr 23 1)))
                 (.one ((some 34), (none, (.extr 23 0)))
                 (.one (none, (none, (.st 2 (.tmp 5) (.tmp 34))))
                 (.one ((some 6), (none, (.mv (.tmp 35))))
                 .done))))))))))
               (.one ((some 31), (none, (.call f_made_Deck_Next [(.tmp 30), (.const (.int .i64 9))])))
                (.one ((some 24), (none, (.ldA 2 (.tmp 3))))
                (.one ((some 32), (none, (.build [(.inr ((.tmp 29), 1)), (.inl [(.int .i64 0)]), (.inr ((.tmp 31), 1)), (.inl zTag.cells), (.inl [(deep [])]), (.inl zTag.cells)])))
                (.one ((some 33), (none, (.call f_ref21_Keep [(.tmp 24), (.tmp 32)])))
                (.one ((some 23), (none, (.steal 33)))
                (.alt (.one ((some 34), (none, (.extr 23 0)))
                 (.one ((some 35), (none, (.extr 23 1)))
                 (.one (none, (none, (.st 2 (.tmp 5) (.tmp 34))))
                 (.one ((some 6), (none, (.mv (.tmp 35))))
                 .done))))
                (.one ((some 35), (none, (.extr 23 1)))
                 (.one ((some 34), (none, (.extr 23 0)))
                 (.one (none, (none, (.st 2 (.tmp 5) (.tmp 34))))
                 (.one ((some 6), (none, (.mv (.tmp 35))))
                 .done)))))))))))))
              (.one ((some 31), (none, (.call f_made_Deck_Next [(.tmp 30), (.const (.int .i64 9))])))
               (.one ((some 24), (none, (.ldA 2 (.tmp 3))))
               (.one ((some 26), (none, (.ld false (.tmp 25))))
               (.one ((some 29), (none, (.bi .add (.tmp 26) (.tmp 28))))
               (.one ((some 32), (none, (.build [(.inr ((.tmp 29), 1)), (.inl [(.int .i64 0)]), (.inr ((.tmp 31), 1)), (.inl zTag.cells), (.inl [(deep [])]), (.inl zTag.cells)])))
               (.one ((some 33), (none, (.call f_ref21_Keep [(.tmp 24), (.tmp 32)])))
               (.one ((some 23), (none, (.steal 33)))
               (.alt (.one ((some 34), (none, (.extr 23 0)))
                (.one ((some 35), (none, (.extr 23 1)))
                (.one (none, (none, (.st 2 (.tmp 5) (.tmp 34))))
                (.one ((some 6), (none, (.mv (.tmp 35))))
                .done))))
               (.one ((some 35), (none, (.extr 23 1)))
                (.one ((some 34), (none, (.extr 23 0)))
                (.one (none, (none, (.st 2 (.tmp 5) (.tmp 34))))
                (.one ((some 6), (none, (.mv (.tmp 35))))
                .done)))))))))))))))))))
         (.one ((some 5), (none, (.alloc [(.int .i64 0), (lin t_api_Item [])])))
          (.alt (.one ((some 24), (none, (.ldA 2 (.tmp 3))))
           (.alt (.one ((some 26), (none, (.ld false (.tmp 25))))
            (.one ((some 28), (none, (.call f_made_Deck_Range [(.tmp 27), (.const (.int .i64 1)), (.const (.int .i64 8))])))
            (.one ((some 29), (none, (.bi .add (.tmp 26) (.tmp 28))))
            (.one ((some 31), (none, (.call f_made_Deck_Next [(.tmp 30), (.const (.int .i64 9))])))
            (.one ((some 32), (none, (.build [(.inr ((.tmp 29), 1)), (.inl [(.int .i64 0)]), (.inr ((.tmp 31), 1)), (.inl zTag.cells), (.inl [(deep [])]), (.inl zTag.cells)])))
            (.one ((some 33), (none, (.call f_ref21_Keep [(.tmp 24), (.tmp 32)])))
            (.one ((some 23), (none, (.steal 33)))
            (.alt (.one ((some 34), (none, (.extr 23 0)))
             (.one ((some 35), (none, (.extr 23 1)))
             (.one (none, (none, (.st 2 (.tmp 5) (.tmp 34))))
             (.one ((some 6), (none, (.mv (.tmp 35))))
             .done))))
            (.one ((some 35), (none, (.extr 23 1)))
             (.one ((some 34), (none, (.extr 23 0)))
             (.one (none, (none, (.st 2 (.tmp 5) (.tmp 34))))
             (.one ((some 6), (none, (.mv (.tmp 35))))
             .done))))))))))))
           (.one ((some 28), (none, (.call f_made_Deck_Range [(.tmp 27), (.const (.int .i64 1)), (.const (.int .i64 8))])))
            (.alt (.one ((some 26), (none, (.ld false (.tmp 25))))
             (.one ((some 29), (none, (.bi .add (.tmp 26) (.tmp 28))))
             (.one ((some 31), (none, (.call f_made_Deck_Next [(.tmp 30), (.const (.int .i64 9))])))
             (.one ((some 32), (none, (.build [(.inr ((.tmp 29), 1)), (.inl [(.int .i64 0)]), (.inr ((.tmp 31), 1)), (.inl zTag.cells), (.inl [(deep [])]), (.inl zTag.cells)])))
             (.one ((some 33), (none, (.call f_ref21_Keep [(.tmp 24), (.tmp 32)])))
             (.one ((some 23), (none, (.steal 33)))
             (.alt (.one ((some 34), (none, (.extr 23 0)))
              (.one ((some 35), (none, (.extr 23 1)))
              (.one (none, (none, (.st 2 (.tmp 5) (.tmp 34))))
              (.one ((some 6), (none, (.mv (.tmp 35))))
              .done))))
             (.one ((some 35), (none, (.extr 23 1)))
              (.one ((some 34), (none, (.extr 23 0)))
              (.one (none, (none, (.st 2 (.tmp 5) (.tmp 34))))
              (.one ((some 6), (none, (.mv (.tmp 35))))
              .done)))))))))))
            (.one ((some 31), (none, (.call f_made_Deck_Next [(.tmp 30), (.const (.int .i64 9))])))
             (.one ((some 26), (none, (.ld false (.tmp 25))))
             (.one ((some 29), (none, (.bi .add (.tmp 26) (.tmp 28))))
             (.one ((some 32), (none, (.build [(.inr ((.tmp 29), 1)), (.inl [(.int .i64 0)]), (.inr ((.tmp 31), 1)), (.inl zTag.cells), (.inl [(deep [])]), (.inl zTag.cells)])))
             (.one ((some 33), (none, (.call f_ref21_Keep [(.tmp 24), (.tmp 32)])))
             (.one ((some 23), (none, (.steal 33)))
             (.alt (.one ((some 34), (none, (.extr 23 0)))
              (.one ((some 35), (none, (.extr 23 1)))
              (.one (none, (none, (.st 2 (.tmp 5) (.tmp 34))))
              (.one ((some 6), (none, (.mv (.tmp 35))))
              .done))))
             (.one ((some 35), (none, (.extr 23 1)))
              (.one ((some 34), (none, (.extr 23 0)))
              (.one (none, (none, (.st 2 (.tmp 5) (.tmp 34))))
              (.one ((some 6), (none, (.mv (.tmp 35))))
              .done)))))))))))))))
          (.alt (.one ((some 26), (none, (.ld false (.tmp 25))))
            (.alt (.one ((some 24), (none, (.ldA 2 (.tmp 3))))
             (.one ((some 28), (none, (.call f_made_Deck_Range [(.tmp 27), (.const (.int .i64 1)), (.const (.int .i64 8))])))
             (.one ((some 29), (none, (.bi .add (.tmp 26) (.tmp 28))))
             (.one ((some 31), (none, (.call f_made_Deck_Next [(.tmp 30), (.const (.int .i64 9))])))
             (.one ((some 32), (none, (.build [(.inr ((.tmp 29), 1)), (.inl [(.int .i64 0)]), (.inr ((.tmp 31), 1)), (.inl zTag.cells), (.inl [(deep [])]), (.inl zTag.cells)])))
             (.one ((some 33), (none, (.call f_ref21_Keep [(.tmp 24), (.tmp 32)])))
             (.one ((some 23), (none, (.steal 33)))
             (.alt (.one ((some 34), (none, (.extr 23 0)))
              (.one ((some 35), (none, (.extr 23 1)))
              (.one (none, (none, (.st 2 (.tmp 5) (.tmp 34))))
              (.one ((some 6), (none, (.mv (.tmp 35))))
              .done))))
             (.one ((some 35), (none, (.extr 23 1)))
              (.one ((some 34), (none, (.extr 23 0)))
              (.one (none, (none, (.st 2 (.tmp 5) (.tmp 34))))
              (.one ((some 6), (none, (.mv (.tmp 35))))
              .done))))))))))))
            (.one ((some 28), (none, (.call f_made_Deck_Range [(.tmp 27), (.const (.int .i64 1)), (.const (.int .i64 8))])))
             (.one ((some 29), (none, (.bi .add (.tmp 26) (.tmp 28))))
             (.alt (.one ((some 24), (none, (.ldA 2 (.tmp 3))))
              (.one ((some 31), (none, (.call f_made_Deck_Next [(.tmp 30), (.const (.int .i64 9))])))
              (.one ((some 32), (none, (.build [(.inr ((.tmp 29), 1)), (.inl [(.int .i64 0)]), (.inr ((.tmp 31), 1)), (.inl zTag.cells), (.inl [(deep [])]), (.inl zTag.cells)])))
              (.one ((some 33), (none, (.call f_ref21_Keep [(.tmp 24), (.tmp 32)])))
              (.one ((some 23), (none, (.steal 33)))
              (.alt (.one ((some 34), (none, (.extr 23 0)))
               (.one ((some 35), (none, (.extr 23 1)))
               (.one (none, (none, (.st 2 (.tmp 5) (.tmp 34))))
               (.one ((some 6), (none, (.mv (.tmp 35))))
               .done))))
              (.one ((some 35), (none, (.extr 23 1)))
               (.one ((some 34), (none, (.extr 23 0)))
               (.one (none, (none, (.st 2 (.tmp 5) (.tmp 34))))
               (.one ((some 6), (none, (.mv (.tmp 35))))
               .done))))))))))
             (.one ((some 31), (none, (.call f_made_Deck_Next [(.tmp 30), (.const (.int .i64 9))])))
              (.one ((some 24), (none, (.ldA 2 (.tmp 3))))
              (.one ((some 32), (none, (.build [(.inr ((.tmp 29), 1)), (.inl [(.int .i64 0)]), (.inr ((.tmp 31), 1)), (.inl zTag.cells), (.inl [(deep [])]), (.inl zTag.cells)])))
              (.one ((some 33), (none, (.call f_ref21_Keep [(.tmp 24), (.tmp 32)])))
              (.one ((some 23), (none, (.steal 33)))
              (.alt (.one ((some 34), (none, (.extr 23 0)))
               (.one ((some 35), (none, (.extr 23 1)))
               (.one (none, (none, (.st 2 (.tmp 5) (.tmp 34))))
               (.one ((some 6), (none, (.mv (.tmp 35))))
               .done))))
              (.one ((some 35), (none, (.extr 23 1)))
               (.one ((some 34), (none, (.extr 23 0)))
               (.one (none, (none, (.st 2 (.tmp 5) (.tmp 34))))
               (.one ((some 6), (none, (.mv (.tmp 35))))
               .done)))))))))))))))
           (.one ((some 28), (none, (.call f_made_Deck_Range [(.tmp 27), (.const (.int .i64 1)), (.const (.int .i64 8))])))
            (.alt (.one ((some 24), (none, (.ldA 2 (.tmp 3))))
             (.alt (.one ((some 26), (none, (.ld false (.tmp 25))))
              (.one ((some 29), (none, (.bi .add (.tmp 26) (.tmp 28))))
              (.one ((some 31), (none, (.call f_made_Deck_Next [(.tmp 30), (.const (.int .i64 9))])))
              (.one ((some 32), (none, (.build [(.inr ((.tmp 29), 1)), (.inl [(.int .i64 0)]), (.inr ((.tmp 31), 1)), (.inl zTag.cells), (.inl [(deep [])]), (.inl zTag.cells)])))
              (.one ((some 33), (none, (.call f_ref21_Keep [(.tmp 24), (.tmp 32)])))
              (.one ((some 23), (none, (.steal 33)))
              (.alt (.one ((some 34), (none, (.extr 23 0)))
               (.one ((some 35), (none, (.extr 23 1)))
               (.one (none, (none, (.st 2 (.tmp 5) (.tmp 34))))
               (.one ((some 6), (none, (.mv (.tmp 35))))
               .done))))
              (.one ((some 35), (none, (.extr 23 1)))
               (.one ((some 34), (none, (.extr 23 0)))
               (.one (none, (none, (.st 2 (.tmp 5) (.tmp 34))))
               (.one ((some 6), (none, (.mv (.tmp 35))))
               .done)))))))))))
             (.one ((some 31), (none, (.call f_made_Deck_Next [(.tmp 30), (.const (.int .i64 9))])))
              (.one ((some 26), (none, (.ld false (.tmp 25))))
              (.one ((some 29), (none, (.bi .add (.tmp 26) (.tmp 28))))
              (.one ((some 32), (none, (.build [(.inr ((.tmp 29), 1)), (.inl [(.int .i64 0)]), (.inr ((.tmp 31), 1)), (.inl zTag.cells), (.inl [(deep [])]), (.inl zTag.cells)])))
              (.one ((some 33), (none, (.call f_ref21_Keep [(.tmp 24), (.tmp 32)])))
              (.one ((some 23), (none, (.steal 33)))
              (.alt (.one ((some 34), (none, (.extr 23 0)))
               (.one ((some 35), (none, (.extr 23 1)))
               (.one (none, (none, (.st 2 (.tmp 5) (.tmp 34))))
               (.one ((some 6), (none, (.mv (.tmp 35))))
               .done))))
              (.one ((some 35), (none, (.extr 23 1)))
               (.one ((some 34), (none, (.extr 23 0)))
               (.one (none, (none, (.st 2 (.tmp 5) (.tmp 34))))
               (.one ((some 6), (none, (.mv (.tmp 35))))
               .done)))))))))))))
            (.alt (.one ((some 26), (none, (.ld false (.tmp 25))))
              (.one ((some 29), (none, (.bi .add (.tmp 26) (.tmp 28))))
              (.alt (.one ((some 24), (none, (.ldA 2 (.tmp 3))))
               (.one ((some 31), (none, (.call f_made_Deck_Next [(.tmp 30), (.const (.int .i64 9))])))
               (.one ((some 32), (none, (.build [(.inr ((.tmp 29), 1)), (.inl [(.int .i64 0)]), (.inr ((.tmp 31), 1)), (.inl zTag.cells), (.inl [(deep [])]), (.inl zTag.cells)])))
               (.one ((some 33), (none, (.call f_ref21_Keep [(.tmp 24), (.tmp 32)])))
               (.one ((some 23), (none, (.steal 33)))
               (.alt (.one ((some 34), (none, (.extr 23 0)))
                (.one ((some 35), (none, (.extr 23 1)))
                (.one (none, (none, (.st 2 (.tmp 5) (.tmp 34))))
                (.one ((some 6), (none, (.mv (.tmp 35))))
                .done))))
               (.one ((some 35), (none, (.extr 23 1)))
                (.one ((some 34), (none, (.extr 23 0)))
                (.one (none, (none, (.st 2 (.tmp 5) (.tmp 34))))
                (.one ((some 6), (none, (.mv (.tmp 35))))
                .done))))))))))
              (.one ((some 31), (none, (.call f_made_Deck_Next [(.tmp 30), (.const (.int .i64 9))])))
               (.one ((some 24), (none, (.ldA 2 (.tmp 3))))
               (.one ((some 32), (none, (.build [(.inr ((.tmp 29), 1)), (.inl [(.int .i64 0)]), (.inr ((.tmp 31), 1)), (.inl zTag.cells), (.inl [(deep [])]), (.inl zTag.cells)])))
               (.one ((some 33), (none, (.call f_ref21_Keep [(.tmp 24), (.tmp 32)])))
               (.one ((some 23), (none, (.steal 33)))
               (.alt (.one ((some 34), (none, (.extr 23 0)))
                (.one ((some 35), (none, (.extr 23 1)))
                (.one (none, (none, (.st 2 (.tmp 5) (.tmp 34))))
                (.one ((some 6), (none, (.mv (.tmp 35))))
                .done))))
               (.one ((some 35), (none, (.extr 23 1)))
                (.one ((some 34), (none, (.extr 23 0)))
                (.one (none, (none, (.st 2 (.tmp 5) (.tmp 34))))
                (.one ((some 6), (none, (.mv (.tmp 35))))
                .done)))))))))))))
             (.one ((some 31), (none, (.call f_made_Deck_Next [(.tmp 30), (.const (.int .i64 9))])))
              (.one ((some 24), (none, (.ldA 2 (.tmp 3))))
              (.one ((some 26), (none, (.ld false (.tmp 25))))
              (.one ((some 29), (none, (.bi .add (.tmp 26) (.tmp 28))))
              (.one ((some 32), (none, (.build [(.inr ((.tmp 29), 1)), (.inl [(.int .i64 0)]), (.inr ((.tmp 31), 1)), (.inl zTag.cells), (.inl [(deep [])]), (.inl zTag.cells)])))
              (.one ((some 33), (none, (.call f_ref21_Keep [(.tmp 24), (.tmp 32)])))
              (.one ((some 23), (none, (.steal 33)))
              (.alt (.one ((some 34), (none, (.extr 23 0)))
               (.one ((some 35), (none, (.extr 23 1)))
               (.one (none, (none, (.st 2 (.tmp 5) (.tmp 34))))
               (.one ((some 6), (none, (.mv (.tmp 35))))
               .done))))
              (.one ((some 35), (none, (.extr 23 1)))
               (.one ((some 34), (none, (.extr 23 0)))
               (.one (none, (none, (.st 2 (.tmp 5) (.tmp 34))))
               (.one ((some 6), (none, (.mv (.tmp 35))))
               .done))))))))))))))))))))))))
def law25_madeC_j1 (t_api_Item : Nat) (f_made_Deck_Next : Nat) (f_made_Deck_Range : Nat) (f_ref21_Keep : Nat) : PC :=
  (.seq (.block 1 (.seq (.ord (law25_made_t1 t_api_Item f_made_Deck_Next f_made_Deck_Range f_ref21_Keep))
  (.seq (.reg [((some 36), (none, (.mv (.tmp 6)))),
       ((some 37), (none, (.bi .eql (.tmp 36) (.const (.int .i64 0)))))])
  (.cond (.tmp 37)
       (.reg [((some 38), (none, (.ldA 2 (.tmp 5)))),
         (none, (none, (.st 2 (.tmp 3) (.tmp 38))))])
       .skip))))
  (.reg [((some 21), (none, (.mv (.tmp 4)))),
      ((some 22), (none, (.bi .sub (.tmp 21) (.const (.int .i64 1))))),
      ((some 4), (none, (.mv (.tmp 22))))]))
def law25_madeC_j2 (t_api_Item : Nat) (f_made_Deck_Next : Nat) (f_made_Deck_Range : Nat) (f_ref21_Keep : Nat) : PC :=
  (.seq (.seq (.reg [((some 17), (none, (.mv (.tmp 0)))),
    ((some 18), (none, (.call f_made_Deck_Next [(.tmp 17), (.const (.int .i64 7))]))),
    ((some 4), (none, (.mv (.tmp 18))))])
  (.block 0 (.loop (.seq (.seq (.reg [((some 19), (none, (.mv (.tmp 4)))),
      ((some 20), (none, (.bi .gtr (.tmp 19) (.const (.int .i64 0)))))])
  (.cond (.tmp 20)
      .skip
      (.exit 0)))
  (law25_madeC_j1 t_api_Item f_made_Deck_Next f_made_Deck_Range f_ref21_Keep)))))
  (.seq (.reg [((some 39), (none, (.ldA 2 (.tmp 3)))),
    (none, (none, (.st 2 (.tmp 2) (.tmp 39))))])
  .ret))
def law25_madeC (t_api_Item : Nat) (f_made_Deck_Next : Nat) (f_made_Deck_Range : Nat) (f_ref21_Keep : Nat) : PC :=
  (.seq (.reg [((some 2), (none, (.alloc [(.int .i64 0), (lin t_api_Item [])])))])
  (.seq (.reg [((some 7), (none, (.mv (.tmp 0)))),
    ((some 8), (none, (.call f_made_Deck_Next [(.tmp 7), (.const (.int .i64 5))]))),
    ((some 9), (none, (.build [(.inr ((.tmp 8), 1)), (.inl [(deep [])])]))),
    ((some 3), (none, (.alloc [(.int .i64 0), (lin t_api_Item [])]))),
    (none, (none, (.st 2 (.tmp 3) (.tmp 9))))])
  (.seq (.seq (.reg [((some 10), (none, (.mv (.tmp 0)))),
    ((some 11), (none, (.call f_made_Deck_Next [(.tmp 10), (.const (.int .i64 5))]))),
    ((some 12), (none, (.bi .eql (.tmp 11) (.const (.int .i64 0)))))])
  (.cond (.tmp 12)
    (.reg [((some 13), (none, (.mv (.tmp 0)))),
      ((some 14), (none, (.call f_made_Deck_Next [(.tmp 13), (.const (.int .i64 10))]))),
      ((some 15), (none, (.bi .sub (.const (.int .i64 4096)) (.tmp 14)))),
      ((some 16), (none, (.fa 0 (.tmp 3)))),
      (none, (none, (.st 1 (.tmp 16) (.tmp 15))))])
    .skip))
  (law25_madeC_j2 t_api_Item f_made_Deck_Next f_made_Deck_Range f_ref21_Keep))))
/-- macaroon/macaroonref21.Keep: 91 slots, results [(.cA 4 2), (.t 5)] -/
def ref21_Keep_BC_j1 (t_api_Item : Nat) : PC :=
  (.ord (.one ((some 52), (none, (.fa 1 (.tmp 6))))
       (.one ((some 54), (none, (.fa 1 (.tmp 2))))
       (.one ((some 56), (none, (.mv (.tmp 8))))
       (.alt (.one ((some 53), (none, (.ld true (.tmp 52))))
        (.one ((some 55), (none, (.ld false (.tmp 54))))
        (.one ((some 57), (none, (.ixS 68 (.tmp 55) (.tmp 56))))
        (.one ((some 58), (none, (.ldA 68 (.tmp 57))))
        (.one ((some 59), (none, (.mks t_api_Item 68 false [(.tmp 58)])))
        (.one ((some 60), (none, (.app t_api_Item 68 112 53 (.tmp 59))))
        (.one ((some 61), (none, (.fa 1 (.tmp 6))))
        (.one (none, (none, (.sts (.tmp 61) 60)))
        .done))))))))
       (.one ((some 55), (none, (.ld false (.tmp 54))))
        (.one ((some 57), (none, (.ixS 68 (.tmp 55) (.tmp 56))))
        (.alt (.one ((some 53), (none, (.ld true (.tmp 52))))
         (.one ((some 58), (none, (.ldA 68 (.tmp 57))))
         (.one ((some 59), (none, (.mks t_api_Item 68 false [(.tmp 58)])))
         (.one ((some 60), (none, (.app t_api_Item 68 112 53 (.tmp 59))))
         (.one ((some 61), (none, (.fa 1 (.tmp 6))))
         (.one (none, (none, (.sts (.tmp 61) 60)))
         .done))))))
        (.one ((some 58), (none, (.ldA 68 (.tmp 57))))
         (.one ((some 59), (none, (.mks t_api_Item 68 false [(.tmp 58)])))
         (.one ((some 53), (none, (.ld true (.tmp 52))))
         (.one ((some 60), (none, (.app t_api_Item 68 112 53 (.tmp 59))))
         (.one ((some 61), (none, (.fa 1 (.tmp 6))))
         (.one (none, (none, (.sts (.tmp 61) 60)))
         .done))))))))))))))
def ref21_Keep_BC_j2 (t_api_Item : Nat) : PC :=
  (.seq (.seq (.drw [((some 33), (none, (.mv (.tmp 7)))),
       ((some 34), (none, (.un .not (.tmp 33)))),
       ((some 35), (none, (.mv (.tmp 34)))),
       ((some 36), ((some (35, true)), (.fa 1 (.tmp 2)))),
       ((some 37), ((some (35, true)), (.ld false (.tmp 36)))),
       ((some 38), ((some (35, true)), (.mv (.tmp 8)))),
       ((some 39), ((some (35, true)), (.ixS 68 (.tmp 37) (.tmp 38)))),
       ((some 40), ((some (35, true)), (.fa 0 (.tmp 39)))),
       ((some 41), ((some (35, true)), (.ld false (.tmp 40)))),
       ((some 42), ((some (35, true)), (.fa 0 (.tmp 3)))),
       ((some 43), ((some (35, true)), (.ld false (.tmp 42)))),
       ((some 44), ((some (35, true)), (.bi .gtr (.tmp 41) (.tmp 43)))),
       ((some 45), (none, (.pick (.tmp 35) (.tmp 44) (.const (.bool false)))))])
  (.cond (.tmp 45)
       (.reg [((some 46), (none, (.fa 1 (.tmp 6)))),
         ((some 47), (none, (.ld true (.tmp 46)))),
         ((some 48), (none, (.ldA 68 (.tmp 3)))),
         ((some 49), (none, (.mks t_api_Item 68 false [(.tmp 48)]))),
         ((some 50), (none, (.app t_api_Item 68 112 47 (.tmp 49)))),
         ((some 51), (none, (.fa 1 (.tmp 6)))),
         (none, (none, (.sts (.tmp 51) 50))),
         ((some 7), (none, (.mv (.const (.bool true)))))])
       .skip))
  (ref21_Keep_BC_j1 t_api_Item))
def ref21_Keep_BC_j3 (t_api_Item : Nat) : PC :=
  (.seq (.block 1 (.seq (.seq (.drw [((some 23), (none, (.fa 1 (.tmp 2)))),
       ((some 24), (none, (.ld false (.tmp 23)))),
       ((some 25), (none, (.mv (.tmp 8)))),
       ((some 26), (none, (.ixS 68 (.tmp 24) (.tmp 25)))),
       ((some 27), (none, (.fa 0 (.tmp 26)))),
       ((some 28), (none, (.ld false (.tmp 27)))),
       ((some 29), (none, (.fa 0 (.tmp 3)))),
       ((some 30), (none, (.ld false (.tmp 29)))),
       ((some 31), (none, (.bi .eql (.tmp 28) (.tmp 30))))])
  (.cond (.tmp 31)
       (.seq (.reg [((some 32), (none, (.build [(.inl [(.int .i64 0)]), (.inl [(ns [])])]))),
         (none, (none, (.st 2 (.tmp 4) (.tmp 32)))),
         ((some 5), (none, (.mv (.const (.int .i64 10)))))])
  .ret)
       .skip))
  (ref21_Keep_BC_j2 t_api_Item)))
  (.reg [((some 21), (none, (.mv (.tmp 8)))),
      ((some 22), (none, (.bi .add (.tmp 21) (.const (.int .i64 1))))),
      ((some 8), (none, (.mv (.tmp 22))))]))
def ref21_Keep_BC_j4 (t_api_Item : Nat) : PC :=
  (.seq (.seq (.reg [((some 82), (none, (.mv (.tmp 7)))),
    ((some 83), (none, (.un .not (.tmp 82))))])
  (.cond (.tmp 83)
    (.reg [((some 84), (none, (.fa 1 (.tmp 6)))),
      ((some 85), (none, (.ld true (.tmp 84)))),
      ((some 86), (none, (.ldA 68 (.tmp 3)))),
      ((some 87), (none, (.mks t_api_Item 68 false [(.tmp 86)]))),
      ((some 88), (none, (.app t_api_Item 68 112 85 (.tmp 87)))),
      ((some 89), (none, (.fa 1 (.tmp 6)))),
      (none, (none, (.sts (.tmp 89) 88)))])
    .skip))
  (.seq (.reg [((some 90), (none, (.ldA 2 (.tmp 6)))),
    (none, (none, (.st 2 (.tmp 4) (.tmp 90)))),
    ((some 5), (none, (.mv (.const (.int .i64 0)))))])
  .ret))
def ref21_Keep_BC_j5 (t_api_Item : Nat) : PC :=
  (.seq (.block 2 (.seq (.reg [((some 63), (none, (.fa 0 (.tmp 3)))),
     ((some 64), (none, (.ld false (.tmp 63)))),
     ((some 65), (none, (.fa 0 (.tmp 2)))),
     ((some 66), (none, (.ld false (.tmp 65)))),
     ((some 67), (none, (.bi .leq (.tmp 64) (.tmp 66)))),
     ((some 62), (none, (.mv (.tmp 67))))])
  (.cond (.tmp 62)
     (.seq (.reg [((some 68), (none, (.build [(.inl [(.int .i64 0)]), (.inl [(ns [])])]))),
       (none, (none, (.st 2 (.tmp 4) (.tmp 68)))),
       ((some 5), (none, (.mv (.const (.int .i64 10)))))])
  .ret)
     (.seq (.reg [((some 70), (none, (.fa 0 (.tmp 3)))),
       ((some 71), (none, (.ld false (.tmp 70)))),
       ((some 72), (none, (.fa 0 (.tmp 2)))),
       ((some 73), (none, (.ld false (.tmp 72)))),
       ((some 74), (none, (.bi .add (.tmp 73) (.const (.int .i64 8))))),
       ((some 75), (none, (.bi .gtr (.tmp 71) (.tmp 74)))),
       ((some 69), (none, (.mv (.tmp 75))))])
  (.cond (.tmp 69)
       (.seq (.reg [((some 76), (none, (.build [(.inl [(.int .i64 0)]), (.inl [(ns [])])]))),
         (none, (none, (.st 2 (.tmp 4) (.tmp 76)))),
         ((some 5), (none, (.mv (.const (.int .i64 11)))))])
  .ret)
       (.seq (.reg [((some 78), (none, (.fa 0 (.tmp 3)))),
         ((some 79), (none, (.ld false (.tmp 78)))),
         ((some 80), (none, (.bi .gtr (.tmp 79) (.const (.int .i64 4096))))),
         ((some 77), (none, (.mv (.tmp 80))))])
  (.cond (.tmp 77)
         (.seq (.reg [((some 81), (none, (.build [(.inl [(.int .i64 0)]), (.inl [(ns [])])]))),
           (none, (none, (.st 2 (.tmp 4) (.tmp 81)))),
           ((some 5), (none, (.mv (.const (.int .i64 1)))))])
  .ret)
         .skip)))))))
  (ref21_Keep_BC_j4 t_api_Item))
def ref21_Keep_BC_j6 (t_api_Item : Nat) : PC :=
  (.seq (.reg [((some 13), (none, (.fa 0 (.tmp 2)))),
    ((some 14), (none, (.ld false (.tmp 13)))),
    ((some 15), (none, (.build [(.inr ((.tmp 14), 1)), (.inl [(ns [])])]))),
    ((some 6), (none, (.alloc [(.int .i64 0), (lin t_api_Item [])]))),
    (none, (none, (.st 2 (.tmp 6) (.tmp 15))))])
  (.seq (.reg [((some 7), (none, (.mv (.const (.bool false)))))])
  (.seq (.seq (.reg [((some 8), (none, (.mv (.const (.int .i64 0)))))])
  (.block 0 (.loop (.seq (.seq (.reg [((some 16), (none, (.mv (.tmp 8)))),
      ((some 17), (none, (.fa 1 (.tmp 2)))),
      ((some 18), (none, (.ld false (.tmp 17)))),
      ((some 19), (none, (.len (.tmp 18)))),
      ((some 20), (none, (.bi .lss (.tmp 16) (.tmp 19))))])
  (.cond (.tmp 20)
      .skip
      (.exit 0)))
  (ref21_Keep_BC_j3 t_api_Item)))))
  (ref21_Keep_BC_j5 t_api_Item))))
def ref21_Keep_BC (t_api_Item : Nat) (f_ref21_ReceiverOk : Nat) : PC :=
  (.seq (.reg [((some 2), (none, (.box 2 (.tmp 0)))),
    ((some 3), (none, (.box 68 (.tmp 1)))),
    ((some 4), (none, (.alloc [(.int .i64 0), (lin t_api_Item [])]))),
    ((some 5), (none, (.mv (.const (.int .i64 0)))))])
  (.seq (.seq (.reg [((some 9), (none, (.ldA 2 (.tmp 2)))),
    ((some 10), (none, (.callB f_ref21_ReceiverOk [(.tmp 9)]))),
    ((some 11), (none, (.un .not (.tmp 10))))])
  (.cond (.tmp 11)
    (.seq (.reg [((some 12), (none, (.build [(.inl [(.int .i64 0)]), (.inl [(ns [])])]))),
      (none, (none, (.st 2 (.tmp 4) (.tmp 12)))),
      ((some 5), (none, (.mv (.const (.int .i64 5)))))])
  .ret)
    .skip))
  (ref21_Keep_BC_j6 t_api_Item)))
/-- macaroon/macaroonref21.SameReceiver: 17 slots, results [(.t 4)] -/
def ref21_SameReceiverC (f_ref21_SameItems : Nat) : PC :=
  (.seq (.reg [((some 2), (none, (.box 2 (.tmp 0)))),
    ((some 3), (none, (.box 2 (.tmp 1)))),
    ((some 4), (none, (.mv (.const (.bool false)))))])
  (.seq (.reg [((some 5), (none, (.fa 0 (.tmp 2)))),
    ((some 6), (none, (.ld false (.tmp 5)))),
    ((some 7), (none, (.fa 0 (.tmp 3)))),
    ((some 8), (none, (.ld false (.tmp 7)))),
    ((some 9), (none, (.bi .eql (.tmp 6) (.tmp 8)))),
    ((some 10), (none, (.mv (.tmp 9)))),
    ((some 11), ((some (10, true)), (.fa 1 (.tmp 2)))),
    ((some 12), ((some (10, true)), (.ld false (.tmp 11)))),
    ((some 13), ((some (10, true)), (.fa 1 (.tmp 3)))),
    ((some 14), ((some (10, true)), (.ld false (.tmp 13)))),
    ((some 15), ((some (10, true)), (.call f_ref21_SameItems [(.tmp 12), (.tmp 14)]))),
    ((some 16), (none, (.pick (.tmp 10) (.tmp 15) (.const (.bool false))))),
    ((some 4), (none, (.mv (.tmp 16))))])
  .ret))
/-- macaroon/receiver.Ready: 31 slots, results [(.cA 2 68), (.t 3)] -/
def receiver_ReadyC_j1 (f_receiver_Copied : Nat) : PC :=
  (.seq (.reg [((some 25), (none, (.fa 1 (.tmp 1)))),
    ((some 26), (none, (.ld false (.tmp 25)))),
    ((some 27), (none, (.slS 68 (.tmp 26) none (some (.const (.int .i64 1))) none))),
    ((some 28), (none, (.call f_receiver_Copied [(.tmp 27)]))),
    ((some 29), (none, (.ixS 68 (.tmp 28) (.const (.int .i64 0))))),
    ((some 30), (none, (.ldA 68 (.tmp 29)))),
    (none, (none, (.st 68 (.tmp 2) (.tmp 30)))),
    ((some 3), (none, (.mv (.const (.bool true)))))])
  .ret)
def receiver_ReadyC (t_uint8 : Nat) (f_receiver_Valid : Nat) (f_receiver_Copied : Nat) : PC :=
  (.seq (.reg [((some 1), (none, (.box 2 (.tmp 0)))),
    ((some 2), (none, (.alloc (zItR t_uint8)))),
    ((some 3), (none, (.mv (.const (.bool false)))))])
  (.seq (.seq (.drw [((some 4), (none, (.ldA 2 (.tmp 1)))),
    ((some 5), (none, (.call f_receiver_Valid [(.tmp 4)]))),
    ((some 6), (none, (.un .not (.tmp 5)))),
    ((some 7), (none, (.mv (.tmp 6)))),
    ((some 8), ((some (7, false)), (.fa 1 (.tmp 1)))),
    ((some 9), ((some (7, false)), (.ld false (.tmp 8)))),
    ((some 10), ((some (7, false)), (.len (.tmp 9)))),
    ((some 11), ((some (7, false)), (.bi .eql (.tmp 10) (.const (.int .i64 0))))),
    ((some 12), (none, (.pick (.tmp 7) (.const (.bool true)) (.tmp 11)))),
    ((some 13), (none, (.mv (.tmp 12)))),
    ((some 14), ((some (13, false)), (.fa 1 (.tmp 1)))),
    ((some 15), ((some (13, false)), (.ld false (.tmp 14)))),
    ((some 16), ((some (13, false)), (.ixS 68 (.tmp 15) (.const (.int .i64 0))))),
    ((some 17), ((some (13, false)), (.fa 0 (.tmp 16)))),
    ((some 18), ((some (13, false)), (.ld false (.tmp 17)))),
    ((some 19), ((some (13, false)), (.fa 0 (.tmp 1)))),
    ((some 20), ((some (13, false)), (.ld false (.tmp 19)))),
    ((some 21), ((some (13, false)), (.bi .add (.tmp 20) (.const (.int .i64 1))))),
    ((some 22), ((some (13, false)), (.bi .neq (.tmp 18) (.tmp 21)))),
    ((some 23), (none, (.pick (.tmp 13) (.const (.bool true)) (.tmp 22))))])
  (.cond (.tmp 23)
    (.seq (.reg [((some 24), (none, (.build [(.inl [(.int .i64 0)]), (.inl [(.int .i64 0)]), (.inl [(.int .i64 0)]), (.inl zTag.cells), (.inl [(deep [])]), (.inl zTag.cells)]))),
      (none, (none, (.st 68 (.tmp 2) (.tmp 24)))),
      ((some 3), (none, (.mv (.const (.bool false)))))])
  .ret)
    .skip))
  (receiver_ReadyC_j1 f_receiver_Copied)))
/-- macaroon/macaroonref21.Ready: 29 slots, results [(.cA 2 68), (.t 3)] -/
def ref21_ReadyC_j1 : PC :=
  (.seq (.reg [((some 25), (none, (.fa 1 (.tmp 1)))),
    ((some 26), (none, (.ld false (.tmp 25)))),
    ((some 27), (none, (.ixS 68 (.tmp 26) (.const (.int .i64 0))))),
    ((some 28), (none, (.ldA 68 (.tmp 27)))),
    (none, (none, (.st 68 (.tmp 2) (.tmp 28)))),
    ((some 3), (none, (.mv (.const (.bool true)))))])
  .ret)
def ref21_ReadyC (t_uint8 : Nat) (f_ref21_ReceiverOk : Nat) : PC :=
  (.seq (.reg [((some 1), (none, (.box 2 (.tmp 0)))),
    ((some 2), (none, (.alloc (zItR t_uint8)))),
    ((some 3), (none, (.mv (.const (.bool false)))))])
  (.seq (.seq (.drw [((some 4), (none, (.ldA 2 (.tmp 1)))),
    ((some 5), (none, (.call f_ref21_ReceiverOk [(.tmp 4)]))),
    ((some 6), (none, (.un .not (.tmp 5)))),
    ((some 7), (none, (.mv (.tmp 6)))),
    ((some 8), ((some (7, false)), (.fa 1 (.tmp 1)))),
    ((some 9), ((some (7, false)), (.ld false (.tmp 8)))),
    ((some 10), ((some (7, false)), (.len (.tmp 9)))),
    ((some 11), ((some (7, false)), (.bi .eql (.tmp 10) (.const (.int .i64 0))))),
    ((some 12), (none, (.pick (.tmp 7) (.const (.bool true)) (.tmp 11)))),
    ((some 13), (none, (.mv (.tmp 12)))),
    ((some 14), ((some (13, false)), (.fa 1 (.tmp 1)))),
    ((some 15), ((some (13, false)), (.ld false (.tmp 14)))),
    ((some 16), ((some (13, false)), (.ixS 68 (.tmp 15) (.const (.int .i64 0))))),
    ((some 17), ((some (13, false)), (.fa 0 (.tmp 16)))),
    ((some 18), ((some (13, false)), (.ld false (.tmp 17)))),
    ((some 19), ((some (13, false)), (.fa 0 (.tmp 1)))),
    ((some 20), ((some (13, false)), (.ld false (.tmp 19)))),
    ((some 21), ((some (13, false)), (.bi .add (.tmp 20) (.const (.int .i64 1))))),
    ((some 22), ((some (13, false)), (.bi .neq (.tmp 18) (.tmp 21)))),
    ((some 23), (none, (.pick (.tmp 13) (.const (.bool true)) (.tmp 22))))])
  (.cond (.tmp 23)
    (.seq (.reg [((some 24), (none, (.build [(.inl [(.int .i64 0)]), (.inl [(.int .i64 0)]), (.inl [(.int .i64 0)]), (.inl zTag.cells), (.inl [(deep [])]), (.inl zTag.cells)]))),
      (none, (none, (.st 68 (.tmp 2) (.tmp 24)))),
      ((some 3), (none, (.mv (.const (.bool false)))))])
  .ret)
    .skip))
  ref21_ReadyC_j1))
/-- macaroon/macaroonref21.SameItems: 27 slots, results [(.t 4)] -/
def ref21_SameItemsC_j1 (f_ref18_SameItem : Nat) : PC :=
  (.seq (.block 1 (.seq (.drw [((some 17), (none, (.mv (.tmp 0)))),
       ((some 18), (none, (.mv (.tmp 5)))),
       ((some 19), (none, (.ixS 68 (.tmp 17) (.tmp 18)))),
       ((some 20), (none, (.ldA 68 (.tmp 19)))),
       ((some 21), (none, (.mv (.tmp 1)))),
       ((some 22), (none, (.mv (.tmp 5)))),
       ((some 23), (none, (.ixS 68 (.tmp 21) (.tmp 22)))),
       ((some 24), (none, (.ldA 68 (.tmp 23)))),
       ((some 25), (none, (.call f_ref18_SameItem [(.tmp 20), (.tmp 24)]))),
       ((some 26), (none, (.un .not (.tmp 25))))])
  (.cond (.tmp 26)
       (.seq (.reg [((some 4), (none, (.mv (.const (.bool false)))))])
  .ret)
       .skip)))
  (.reg [((some 15), (none, (.mv (.tmp 5)))),
      ((some 16), (none, (.bi .add (.tmp 15) (.const (.int .i64 1))))),
      ((some 5), (none, (.mv (.tmp 16))))]))
def ref21_SameItemsC_j2 (f_ref18_SameItem : Nat) : PC :=
  (.seq (.seq (.reg [((some 5), (none, (.mv (.const (.int .i64 0)))))])
  (.block 0 (.loop (.seq (.seq (.reg [((some 11), (none, (.mv (.tmp 5)))),
      ((some 12), (none, (.mv (.tmp 0)))),
      ((some 13), (none, (.len (.tmp 12)))),
      ((some 14), (none, (.bi .lss (.tmp 11) (.tmp 13))))])
  (.cond (.tmp 14)
      .skip
      (.exit 0)))
  (ref21_SameItemsC_j1 f_ref18_SameItem)))))
  (.seq (.reg [((some 4), (none, (.mv (.const (.bool true)))))])
  .ret))
def ref21_SameItemsC (f_ref18_SameItem : Nat) : PC :=
  (.seq (.reg [((some 4), (none, (.mv (.const (.bool false)))))])
  (.seq (.seq (.reg [((some 6), (none, (.mv (.tmp 0)))),
    ((some 7), (none, (.len (.tmp 6)))),
    ((some 8), (none, (.mv (.tmp 1)))),
    ((some 9), (none, (.len (.tmp 8)))),
    ((some 10), (none, (.bi .neq (.tmp 7) (.tmp 9))))])
  (.cond (.tmp 10)
    (.seq (.reg [((some 4), (none, (.mv (.const (.bool false)))))])
  .ret)
    .skip))
  (ref21_SameItemsC_j2 f_ref18_SameItem)))
/-- macaroon/receiver.Valid: 44 slots, results [(.t 2)] -/
def receiver_ValidC_j1 (t_uint8 : Nat) : PC :=
  (.seq (.block 1 (.seq (.reg [((some 27), (none, (.ixS 68 (.tmp 23) (.tmp 25)))),
       ((some 28), (none, (.ldA 68 (.tmp 27)))),
       ((some 5), (none, (.alloc (zItR t_uint8)))),
       (none, (none, (.st 68 (.tmp 5) (.tmp 28))))])
  (.seq (.seq (.reg [((some 29), (none, (.fa 0 (.tmp 5)))),
       ((some 30), (none, (.ld false (.tmp 29)))),
       ((some 31), (none, (.mv (.tmp 3)))),
       ((some 32), (none, (.bi .leq (.tmp 30) (.tmp 31)))),
       ((some 33), (none, (.mv (.tmp 32)))),
       ((some 34), ((some (33, false)), (.fa 0 (.tmp 5)))),
       ((some 35), ((some (33, false)), (.ld false (.tmp 34)))),
       ((some 36), ((some (33, false)), (.fa 0 (.tmp 1)))),
       ((some 37), ((some (33, false)), (.ld false (.tmp 36)))),
       ((some 38), ((some (33, false)), (.bi .add (.tmp 37) (.const (.int .i64 8))))),
       ((some 39), ((some (33, false)), (.bi .gtr (.tmp 35) (.tmp 38)))),
       ((some 40), (none, (.pick (.tmp 33) (.const (.bool true)) (.tmp 39))))])
  (.cond (.tmp 40)
       (.seq (.reg [((some 2), (none, (.mv (.const (.bool false)))))])
  .ret)
       .skip))
  (.reg [((some 41), (none, (.fa 0 (.tmp 5)))),
       ((some 42), (none, (.ld false (.tmp 41)))),
       ((some 3), (none, (.mv (.tmp 42))))]))))
  (.reg [((some 43), (none, (.bi .add (.tmp 25) (.const (.int .i64 1))))),
      ((some 25), (none, (.mv (.tmp 43))))]))
def receiver_ValidC_j2 (t_uint8 : Nat) : PC :=
  (.seq (.reg [((some 20), (none, (.fa 0 (.tmp 1)))),
    ((some 21), (none, (.ld false (.tmp 20)))),
    ((some 3), (none, (.mv (.tmp 21))))])
  (.seq (.seq (.reg [((some 22), (none, (.fa 1 (.tmp 1)))),
    ((some 23), (none, (.ld false (.tmp 22)))),
    ((some 24), (none, (.len (.tmp 23)))),
    ((some 25), (none, (.mv (.const (.int .i64 0)))))])
  (.block 0 (.loop (.seq (.reg [((some 26), (none, (.bi .lss (.tmp 25) (.tmp 24))))])
  (.seq (.cond (.tmp 26)
      .skip
      (.exit 0))
  (receiver_ValidC_j1 t_uint8))))))
  (.seq (.reg [((some 2), (none, (.mv (.const (.bool true)))))])
  .ret)))
def receiver_ValidC (t_uint8 : Nat) : PC :=
  (.seq (.reg [((some 1), (none, (.box 2 (.tmp 0)))),
    ((some 2), (none, (.mv (.const (.bool false)))))])
  (.seq (.seq (.reg [((some 6), (none, (.fa 0 (.tmp 1)))),
    ((some 7), (none, (.ld false (.tmp 6)))),
    ((some 8), (none, (.bi .lss (.tmp 7) (.const (.int .i64 0))))),
    ((some 9), (none, (.mv (.tmp 8)))),
    ((some 10), ((some (9, false)), (.fa 0 (.tmp 1)))),
    ((some 11), ((some (9, false)), (.ld false (.tmp 10)))),
    ((some 12), ((some (9, false)), (.bi .gtr (.tmp 11) (.const (.int .i64 4096))))),
    ((some 13), (none, (.pick (.tmp 9) (.const (.bool true)) (.tmp 12)))),
    ((some 14), (none, (.mv (.tmp 13)))),
    ((some 15), ((some (14, false)), (.fa 1 (.tmp 1)))),
    ((some 16), ((some (14, false)), (.ld false (.tmp 15)))),
    ((some 17), ((some (14, false)), (.len (.tmp 16)))),
    ((some 18), ((some (14, false)), (.bi .gtr (.tmp 17) (.const (.int .i64 8))))),
    ((some 19), (none, (.pick (.tmp 14) (.const (.bool true)) (.tmp 18))))])
  (.cond (.tmp 19)
    (.seq (.reg [((some 2), (none, (.mv (.const (.bool false)))))])
  .ret)
    .skip))
  (receiver_ValidC_j2 t_uint8)))
/-- macaroon/macaroonref21.ReceiverOk: 54 slots, results [(.t 2)] -/
def ref21_ReceiverOkC_j1 : PC :=
  (.reg [((some 48), (none, (.fa 1 (.tmp 1)))),
       ((some 49), (none, (.ld false (.tmp 48)))),
       ((some 50), (none, (.mv (.tmp 4)))),
       ((some 51), (none, (.ixS 68 (.tmp 49) (.tmp 50)))),
       ((some 52), (none, (.fa 0 (.tmp 51)))),
       ((some 53), (none, (.ld false (.tmp 52)))),
       ((some 3), (none, (.mv (.tmp 53))))])
def ref21_ReceiverOkC_j2 : PC :=
  (.seq (.block 1 (.seq (.seq (.drw [((some 28), (none, (.fa 1 (.tmp 1)))),
       ((some 29), (none, (.ld false (.tmp 28)))),
       ((some 30), (none, (.mv (.tmp 4)))),
       ((some 31), (none, (.ixS 68 (.tmp 29) (.tmp 30)))),
       ((some 32), (none, (.fa 0 (.tmp 31)))),
       ((some 33), (none, (.ld false (.tmp 32)))),
       ((some 34), (none, (.mv (.tmp 3)))),
       ((some 35), (none, (.bi .leq (.tmp 33) (.tmp 34)))),
       ((some 36), (none, (.mv (.tmp 35)))),
       ((some 37), ((some (36, false)), (.fa 1 (.tmp 1)))),
       ((some 38), ((some (36, false)), (.ld false (.tmp 37)))),
       ((some 39), ((some (36, false)), (.mv (.tmp 4)))),
       ((some 40), ((some (36, false)), (.ixS 68 (.tmp 38) (.tmp 39)))),
       ((some 41), ((some (36, false)), (.fa 0 (.tmp 40)))),
       ((some 42), ((some (36, false)), (.ld false (.tmp 41)))),
       ((some 43), ((some (36, false)), (.fa 0 (.tmp 1)))),
       ((some 44), ((some (36, false)), (.ld false (.tmp 43)))),
       ((some 45), ((some (36, false)), (.bi .add (.tmp 44) (.const (.int .i64 8))))),
       ((some 46), ((some (36, false)), (.bi .gtr (.tmp 42) (.tmp 45)))),
       ((some 47), (none, (.pick (.tmp 36) (.const (.bool true)) (.tmp 46))))])
  (.cond (.tmp 47)
       (.seq (.reg [((some 2), (none, (.mv (.const (.bool false)))))])
  .ret)
       .skip))
  ref21_ReceiverOkC_j1))
  (.reg [((some 26), (none, (.mv (.tmp 4)))),
      ((some 27), (none, (.bi .add (.tmp 26) (.const (.int .i64 1))))),
      ((some 4), (none, (.mv (.tmp 27))))]))
def ref21_ReceiverOkC_j3 : PC :=
  (.seq (.reg [((some 19), (none, (.fa 0 (.tmp 1)))),
    ((some 20), (none, (.ld false (.tmp 19)))),
    ((some 3), (none, (.mv (.tmp 20))))])
  (.seq (.seq (.reg [((some 4), (none, (.mv (.const (.int .i64 0)))))])
  (.block 0 (.loop (.seq (.seq (.reg [((some 21), (none, (.mv (.tmp 4)))),
      ((some 22), (none, (.fa 1 (.tmp 1)))),
      ((some 23), (none, (.ld false (.tmp 22)))),
      ((some 24), (none, (.len (.tmp 23)))),
      ((some 25), (none, (.bi .lss (.tmp 21) (.tmp 24))))])
  (.cond (.tmp 25)
      .skip
      (.exit 0)))
  ref21_ReceiverOkC_j2))))
  (.seq (.reg [((some 2), (none, (.mv (.const (.bool true)))))])
  .ret)))
def ref21_ReceiverOkC : PC :=
  (.seq (.reg [((some 1), (none, (.box 2 (.tmp 0)))),
    ((some 2), (none, (.mv (.const (.bool false)))))])
  (.seq (.seq (.reg [((some 5), (none, (.fa 0 (.tmp 1)))),
    ((some 6), (none, (.ld false (.tmp 5)))),
    ((some 7), (none, (.bi .lss (.tmp 6) (.const (.int .i64 0))))),
    ((some 8), (none, (.mv (.tmp 7)))),
    ((some 9), ((some (8, false)), (.fa 0 (.tmp 1)))),
    ((some 10), ((some (8, false)), (.ld false (.tmp 9)))),
    ((some 11), ((some (8, false)), (.bi .gtr (.tmp 10) (.const (.int .i64 4096))))),
    ((some 12), (none, (.pick (.tmp 8) (.const (.bool true)) (.tmp 11)))),
    ((some 13), (none, (.mv (.tmp 12)))),
    ((some 14), ((some (13, false)), (.fa 1 (.tmp 1)))),
    ((some 15), ((some (13, false)), (.ld false (.tmp 14)))),
    ((some 16), ((some (13, false)), (.len (.tmp 15)))),
    ((some 17), ((some (13, false)), (.bi .gtr (.tmp 16) (.const (.int .i64 8))))),
    ((some 18), (none, (.pick (.tmp 13) (.const (.bool true)) (.tmp 17))))])
  (.cond (.tmp 18)
    (.seq (.reg [((some 2), (none, (.mv (.const (.bool false)))))])
  .ret)
    .skip))
  ref21_ReceiverOkC_j3))
/-- macaroon/receiver.Applied: 27 slots, results [(.cA 2 2)] -/
def receiver_AppliedC_j1 (f_receiver_Ready : Nat) (t_uint8 : Nat) : PC :=
  (.seq (.seq (.reg [((some 13), (none, (.ldA 2 (.tmp 1)))),
    ((some 14), (none, (.call f_receiver_Ready [(.tmp 13)]))),
    ((some 12), (none, (.steal 14))),
    ((some 15), (none, (.extr 12 0))),
    ((some 16), (none, (.extr 12 1))),
    ((some 4), (none, (.alloc (zItR t_uint8)))),
    (none, (none, (.st 68 (.tmp 4) (.tmp 15)))),
    ((some 5), (none, (.mv (.tmp 16))))])
  (.seq (.reg [((some 17), (none, (.mv (.tmp 5))))])
  (.cond (.tmp 17)
    (.ord (.one ((some 18), (none, (.fa 0 (.tmp 3))))
      (.one ((some 19), (none, (.ld false (.tmp 18))))
      (.one ((some 20), (none, (.bi .add (.tmp 19) (.const (.int .i64 1)))))
      (.one ((some 21), (none, (.fa 1 (.tmp 3))))
      (.one ((some 22), (none, (.ld false (.tmp 21))))
      (.one ((some 23), (none, (.slS 68 (.tmp 22) (some (.const (.int .i64 1))) none none)))
      (.one ((some 24), (none, (.fa 0 (.tmp 3))))
      (.one (none, (none, (.st 1 (.tmp 24) (.tmp 20))))
      (.one ((some 25), (none, (.fa 1 (.tmp 3))))
      (.one (none, (none, (.sts (.tmp 25) 23)))
      .done)))))))))))
    .skip)))
  (.seq (.reg [((some 26), (none, (.ldA 2 (.tmp 3)))),
    (none, (none, (.st 2 (.tmp 2) (.tmp 26))))])
  .ret))
def receiver_AppliedC (t_api_Item : Nat) (f_receiver_Copied : Nat) (f_receiver_Ready : Nat) (t_uint8 : Nat) : PC :=
  (.seq (.reg [((some 1), (none, (.box 2 (.tmp 0)))),
    ((some 2), (none, (.alloc [(.int .i64 0), (lin t_api_Item [])])))])
  (.seq (.ord (.one ((some 6), (none, (.fa 0 (.tmp 1))))
    (.one ((some 8), (none, (.fa 1 (.tmp 1))))
    (.alt (.one ((some 7), (none, (.ld false (.tmp 6))))
     (.alt (.one ((some 9), (none, (.ld false (.tmp 8))))
      (.alt (.one ((some 10), (none, (.call f_receiver_Copied [(.tmp 9)])))
       (.one ((some 11), (none, (.build [(.inr ((.tmp 7), 1)), (.inr ((.tmp 10), 1))])))
       (.one ((some 3), (none, (.alloc [(.int .i64 0), (lin t_api_Item [])])))
       (.one (none, (none, (.st 2 (.tmp 3) (.tmp 11))))
       .done))))
      (.one ((some 3), (none, (.alloc [(.int .i64 0), (lin t_api_Item [])])))
       (.one ((some 10), (none, (.call f_receiver_Copied [(.tmp 9)])))
       (.one ((some 11), (none, (.build [(.inr ((.tmp 7), 1)), (.inr ((.tmp 10), 1))])))
       (.one (none, (none, (.st 2 (.tmp 3) (.tmp 11))))
       .done))))))
     (.one ((some 3), (none, (.alloc [(.int .i64 0), (lin t_api_Item [])])))
      (.one ((some 9), (none, (.ld false (.tmp 8))))
      (.one ((some 10), (none, (.call f_receiver_Copied [(.tmp 9)])))
      (.one ((some 11), (none, (.build [(.inr ((.tmp 7), 1)), (.inr ((.tmp 10), 1))])))
      (.one (none, (none, (.st 2 (.tmp 3) (.tmp 11))))
      .done)))))))
    (.alt (.one ((some 9), (none, (.ld false (.tmp 8))))
      (.alt (.one ((some 7), (none, (.ld false (.tmp 6))))
       (.alt (.one ((some 10), (none, (.call f_receiver_Copied [(.tmp 9)])))
        (.one ((some 11), (none, (.build [(.inr ((.tmp 7), 1)), (.inr ((.tmp 10), 1))])))
        (.one ((some 3), (none, (.alloc [(.int .i64 0), (lin t_api_Item [])])))
        (.one (none, (none, (.st 2 (.tmp 3) (.tmp 11))))
        .done))))
       (.one ((some 3), (none, (.alloc [(.int .i64 0), (lin t_api_Item [])])))
        (.one ((some 10), (none, (.call f_receiver_Copied [(.tmp 9)])))
        (.one ((some 11), (none, (.build [(.inr ((.tmp 7), 1)), (.inr ((.tmp 10), 1))])))
        (.one (none, (none, (.st 2 (.tmp 3) (.tmp 11))))
        .done))))))
      (.alt (.one ((some 10), (none, (.call f_receiver_Copied [(.tmp 9)])))
        (.alt (.one ((some 7), (none, (.ld false (.tmp 6))))
         (.one ((some 11), (none, (.build [(.inr ((.tmp 7), 1)), (.inr ((.tmp 10), 1))])))
         (.one ((some 3), (none, (.alloc [(.int .i64 0), (lin t_api_Item [])])))
         (.one (none, (none, (.st 2 (.tmp 3) (.tmp 11))))
         .done))))
        (.one ((some 3), (none, (.alloc [(.int .i64 0), (lin t_api_Item [])])))
         (.one ((some 7), (none, (.ld false (.tmp 6))))
         (.one ((some 11), (none, (.build [(.inr ((.tmp 7), 1)), (.inr ((.tmp 10), 1))])))
         (.one (none, (none, (.st 2 (.tmp 3) (.tmp 11))))
         .done))))))
       (.one ((some 3), (none, (.alloc [(.int .i64 0), (lin t_api_Item [])])))
        (.alt (.one ((some 7), (none, (.ld false (.tmp 6))))
         (.one ((some 10), (none, (.call f_receiver_Copied [(.tmp 9)])))
         (.one ((some 11), (none, (.build [(.inr ((.tmp 7), 1)), (.inr ((.tmp 10), 1))])))
         (.one (none, (none, (.st 2 (.tmp 3) (.tmp 11))))
         .done))))
        (.one ((some 10), (none, (.call f_receiver_Copied [(.tmp 9)])))
         (.one ((some 7), (none, (.ld false (.tmp 6))))
         (.one ((some 11), (none, (.build [(.inr ((.tmp 7), 1)), (.inr ((.tmp 10), 1))])))
         (.one (none, (none, (.st 2 (.tmp 3) (.tmp 11))))
         .done)))))))))
     (.one ((some 3), (none, (.alloc [(.int .i64 0), (lin t_api_Item [])])))
      (.one ((some 9), (none, (.ld false (.tmp 8))))
      (.alt (.one ((some 7), (none, (.ld false (.tmp 6))))
       (.one ((some 10), (none, (.call f_receiver_Copied [(.tmp 9)])))
       (.one ((some 11), (none, (.build [(.inr ((.tmp 7), 1)), (.inr ((.tmp 10), 1))])))
       (.one (none, (none, (.st 2 (.tmp 3) (.tmp 11))))
       .done))))
      (.one ((some 10), (none, (.call f_receiver_Copied [(.tmp 9)])))
       (.one ((some 7), (none, (.ld false (.tmp 6))))
       (.one ((some 11), (none, (.build [(.inr ((.tmp 7), 1)), (.inr ((.tmp 10), 1))])))
       (.one (none, (none, (.st 2 (.tmp 3) (.tmp 11))))
       .done))))))))))))
  (receiver_AppliedC_j1 f_receiver_Ready t_uint8)))
/-- macaroon/macaroonref21.Applied: 22 slots, results [(.cA 2 2)] -/
def ref21_AppliedC_j1 (t_api_Item : Nat) : PC :=
  (.seq (.ord (.one ((some 13), (none, (.fa 0 (.tmp 1))))
    (.one ((some 14), (none, (.ld false (.tmp 13))))
    (.one ((some 15), (none, (.bi .add (.tmp 14) (.const (.int .i64 1)))))
    (.one ((some 16), (none, (.mks t_api_Item 68 true [])))
    (.one ((some 17), (none, (.fa 1 (.tmp 1))))
    (.one ((some 18), (none, (.ld false (.tmp 17))))
    (.one ((some 19), (none, (.slS 68 (.tmp 18) (some (.const (.int .i64 1))) none none)))
    (.one ((some 20), (none, (.app t_api_Item 68 112 16 (.tmp 19))))
    (.one ((some 21), (none, (.build [(.inr ((.tmp 15), 1)), (.inr ((.tmp 20), 1))])))
    (.one (none, (none, (.st 2 (.tmp 2) (.tmp 21))))
    .done)))))))))))
  .ret)
def ref21_AppliedC (t_api_Item : Nat) (f_ref21_Ready : Nat) (t_uint8 : Nat) : PC :=
  (.seq (.reg [((some 1), (none, (.box 2 (.tmp 0)))),
    ((some 2), (none, (.alloc [(.int .i64 0), (lin t_api_Item [])])))])
  (.seq (.seq (.reg [((some 6), (none, (.ldA 2 (.tmp 1)))),
    ((some 7), (none, (.call f_ref21_Ready [(.tmp 6)]))),
    ((some 5), (none, (.steal 7))),
    ((some 8), (none, (.extr 5 0))),
    ((some 9), (none, (.extr 5 1))),
    ((some 3), (none, (.alloc (zItR t_uint8)))),
    (none, (none, (.st 68 (.tmp 3) (.tmp 8)))),
    ((some 4), (none, (.mv (.tmp 9))))])
  (.seq (.reg [((some 10), (none, (.mv (.tmp 4)))),
    ((some 11), (none, (.un .not (.tmp 10))))])
  (.cond (.tmp 11)
    (.seq (.reg [((some 12), (none, (.ldA 2 (.tmp 1)))),
      (none, (none, (.st 2 (.tmp 2) (.tmp 12))))])
  .ret)
    .skip)))
  (ref21_AppliedC_j1 t_api_Item)))
/-- slices.BinarySearchFunc[[]macaroon/api.Item,macaroon/api.Item,int]: 49 slots, results [(.t 6), (.t 7)] -/
def slices_BinarySearchFunc_api_Item_api_Item_intC_j1 : PC :=
  (.block 1 (.seq (.reg [((some 18), (none, (.mv (.tmp 9)))),
       ((some 19), (none, (.mv (.tmp 10)))),
       ((some 20), (none, (.bi .add (.tmp 18) (.tmp 19)))),
       ((some 21), (none, (.cv .u64 (.tmp 20)))),
       ((some 22), (none, (.bi .shr (.tmp 21) (.const (.int .u64 1))))),
       ((some 23), (none, (.cv .i64 (.tmp 22)))),
       ((some 11), (none, (.mv (.tmp 23))))])
  (.seq (.reg [((some 24), (none, (.mv (.tmp 2)))),
       ((some 25), (none, (.mv (.tmp 0)))),
       ((some 26), (none, (.mv (.tmp 11)))),
       ((some 27), (none, (.ixS 68 (.tmp 25) (.tmp 26)))),
       ((some 28), (none, (.ldA 68 (.tmp 27)))),
       ((some 29), (none, (.mv (.tmp 1)))),
       ((some 30), (none, (.callv (.tmp 24) [(.tmp 28), (.tmp 29)]))),
       ((some 31), (none, (.bi .lss (.tmp 30) (.const (.int .i64 0)))))])
  (.cond (.tmp 31)
       (.reg [((some 32), (none, (.mv (.tmp 11)))),
         ((some 33), (none, (.bi .add (.tmp 32) (.const (.int .i64 1))))),
         ((some 9), (none, (.mv (.tmp 33))))])
       (.reg [((some 34), (none, (.mv (.tmp 11)))),
         ((some 10), (none, (.mv (.tmp 34))))])))))
def slices_BinarySearchFunc_api_Item_api_Item_intC_j2 : PC :=
  (.seq (.reg [((some 35), (none, (.mv (.tmp 9)))),
    ((some 36), (none, (.mv (.tmp 9)))),
    ((some 37), (none, (.mv (.tmp 8)))),
    ((some 38), (none, (.bi .lss (.tmp 36) (.tmp 37)))),
    ((some 39), (none, (.mv (.tmp 38)))),
    ((some 40), ((some (39, true)), (.mv (.tmp 2)))),
    ((some 41), ((some (39, true)), (.mv (.tmp 0)))),
    ((some 42), ((some (39, true)), (.mv (.tmp 9)))),
    ((some 43), ((some (39, true)), (.ixS 68 (.tmp 41) (.tmp 42)))),
    ((some 44), ((some (39, true)), (.ldA 68 (.tmp 43)))),
    ((some 45), ((some (39, true)), (.mv (.tmp 1)))),
    ((some 46), ((some (39, true)), (.callv (.tmp 40) [(.tmp 44), (.tmp 45)]))),
    ((some 47), ((some (39, true)), (.bi .eql (.tmp 46) (.const (.int .i64 0))))),
    ((some 48), (none, (.pick (.tmp 39) (.tmp 47) (.const (.bool false))))),
    ((some 6), (none, (.mv (.tmp 35)))),
    ((some 7), (none, (.mv (.tmp 48))))])
  .ret)
def slices_BinarySearchFunc_api_Item_api_Item_intC : PC :=
  (.seq (.reg [((some 6), (none, (.mv (.const (.int .i64 0))))),
    ((some 7), (none, (.mv (.const (.bool false)))))])
  (.seq (.reg [((some 12), (none, (.mv (.tmp 0)))),
    ((some 13), (none, (.len (.tmp 12)))),
    ((some 8), (none, (.mv (.tmp 13))))])
  (.seq (.reg [((some 14), (none, (.mv (.tmp 8)))),
    ((some 9), (none, (.mv (.const (.int .i64 0))))),
    ((some 10), (none, (.mv (.tmp 14))))])
  (.seq (.block 0 (.loop (.seq (.seq (.reg [((some 15), (none, (.mv (.tmp 9)))),
      ((some 16), (none, (.mv (.tmp 10)))),
      ((some 17), (none, (.bi .lss (.tmp 15) (.tmp 16))))])
  (.cond (.tmp 17)
      .skip
      (.exit 0)))
  slices_BinarySearchFunc_api_Item_api_Item_intC_j1)))
  slices_BinarySearchFunc_api_Item_api_Item_intC_j2))))
/-- macaroon/receiver.Keep$1: 9 slots, results [(.t 4)] -/
def receiver_Keep_1C : PC :=
  (.seq (.reg [((some 2), (none, (.box 68 (.tmp 0)))),
    ((some 4), (none, (.mv (.const (.int .i64 0)))))])
  (.seq (.reg [((some 5), (none, (.fa 0 (.tmp 2)))),
    ((some 6), (none, (.ld false (.tmp 5)))),
    ((some 7), (none, (.mv (.tmp 1)))),
    ((some 8), (none, (.bi .sub (.tmp 6) (.tmp 7)))),
    ((some 4), (none, (.mv (.tmp 8))))])
  .ret))
/-- macaroon/macaroonref18.SameItem: 45 slots, results [(.t 4)] -/
def ref18_SameItemC (f_ref01_Same : Nat) : PC :=
  (.seq (.reg [((some 2), (none, (.box 68 (.tmp 0)))),
    ((some 3), (none, (.box 68 (.tmp 1)))),
    ((some 4), (none, (.mv (.const (.bool false)))))])
  (.seq (.reg [((some 5), (none, (.fa 0 (.tmp 2)))),
    ((some 6), (none, (.ld false (.tmp 5)))),
    ((some 7), (none, (.fa 0 (.tmp 3)))),
    ((some 8), (none, (.ld false (.tmp 7)))),
    ((some 9), (none, (.bi .eql (.tmp 6) (.tmp 8)))),
    ((some 10), (none, (.mv (.tmp 9)))),
    ((some 11), ((some (10, true)), (.fa 1 (.tmp 2)))),
    ((some 12), ((some (10, true)), (.ld false (.tmp 11)))),
    ((some 13), ((some (10, true)), (.fa 1 (.tmp 3)))),
    ((some 14), ((some (10, true)), (.ld false (.tmp 13)))),
    ((some 15), ((some (10, true)), (.bi .eql (.tmp 12) (.tmp 14)))),
    ((some 16), (none, (.pick (.tmp 10) (.tmp 15) (.const (.bool false))))),
    ((some 17), (none, (.mv (.tmp 16)))),
    ((some 18), ((some (17, true)), (.fa 2 (.tmp 2)))),
    ((some 19), ((some (17, true)), (.ld false (.tmp 18)))),
    ((some 20), ((some (17, true)), (.fa 2 (.tmp 3)))),
    ((some 21), ((some (17, true)), (.ld false (.tmp 20)))),
    ((some 22), ((some (17, true)), (.bi .eql (.tmp 19) (.tmp 21)))),
    ((some 23), (none, (.pick (.tmp 17) (.tmp 22) (.const (.bool false))))),
    ((some 24), (none, (.mv (.tmp 23)))),
    ((some 25), ((some (24, true)), (.fa 3 (.tmp 2)))),
    ((some 26), ((some (24, true)), (.ldA 32 (.tmp 25)))),
    ((some 27), ((some (24, true)), (.fa 3 (.tmp 3)))),
    ((some 28), ((some (24, true)), (.ldA 32 (.tmp 27)))),
    ((some 29), ((some (24, true)), (.eqA false (List.replicate 32 (.int .u8)) (.tmp 26) (.tmp 28)))),
    ((some 30), (none, (.pick (.tmp 24) (.tmp 29) (.const (.bool false))))),
    ((some 31), (none, (.mv (.tmp 30)))),
    ((some 32), ((some (31, true)), (.fa 36 (.tmp 2)))),
    ((some 33), ((some (31, true)), (.ldA 32 (.tmp 32)))),
    ((some 34), ((some (31, true)), (.fa 36 (.tmp 3)))),
    ((some 35), ((some (31, true)), (.ldA 32 (.tmp 34)))),
    ((some 36), ((some (31, true)), (.eqA false (List.replicate 32 (.int .u8)) (.tmp 33) (.tmp 35)))),
    ((some 37), (none, (.pick (.tmp 31) (.tmp 36) (.const (.bool false))))),
    ((some 38), (none, (.mv (.tmp 37)))),
    ((some 39), ((some (38, true)), (.fa 35 (.tmp 2)))),
    ((some 40), ((some (38, true)), (.ld false (.tmp 39)))),
    ((some 41), ((some (38, true)), (.fa 35 (.tmp 3)))),
    ((some 42), ((some (38, true)), (.ld false (.tmp 41)))),
    ((some 43), ((some (38, true)), (.call f_ref01_Same [(.tmp 40), (.tmp 42)]))),
    ((some 44), (none, (.pick (.tmp 38) (.tmp 43) (.const (.bool false))))),
    ((some 4), (none, (.mv (.tmp 44))))])
  .ret))
/-- macaroon/receiver.Keep: 65 slots, results [(.cA 4 2), (.t 5)] -/
def receiver_Keep_BC_j1 (t_api_Item : Nat) (f_slices_Insert_api_Item_api_Item : Nat) (f_receiver_Copied : Nat) : PC :=
  (.seq (.reg [((some 46), (none, (.mkB 68 112 zItD (.const (.int .i64 9)) (.const (.int .i64 9))))),
    ((some 8), (none, (.steal 46)))])
  (.seq (.reg [((some 47), (none, (.mv (.tmp 8)))),
    ((some 48), (none, (.fa 1 (.tmp 2)))),
    ((some 49), (none, (.ld false (.tmp 48)))),
    ((some 50), (none, (.cpy 68 (.tmp 47) (.tmp 49)))),
    ((some 9), (none, (.mv (.tmp 50))))])
  (.seq (.ord (.one ((some 51), (none, (.mv (.tmp 8))))
    (.one ((some 52), (none, (.mv (.tmp 9))))
    (.one ((some 53), (none, (.mv (.tmp 8))))
    (.one ((some 54), (none, (.lenB (.tmp 53))))
    (.one ((some 55), (none, (.slB 68 (.tmp 51) (some (.const (.int .i64 0))) (some (.tmp 52)) (some (.tmp 54)))))
    (.one ((some 56), (none, (.mv (.tmp 6))))
    (.one ((some 57), (none, (.ldA 68 (.tmp 3))))
    (.one ((some 58), (none, (.mks t_api_Item 68 false [(.tmp 57)])))
    (.one ((some 59), (none, (.callB f_slices_Insert_api_Item_api_Item [(.tmp 55), (.tmp 56), (.tmp 58)])))
    (.one ((some 10), (none, (.steal 59)))
    .done)))))))))))
  (.seq (.ord (.one ((some 60), (none, (.fa 0 (.tmp 2))))
    (.one ((some 62), (none, (.mv (.tmp 10))))
    (.alt (.one ((some 61), (none, (.ld false (.tmp 60))))
     (.one ((some 63), (none, (.callB f_receiver_Copied [(.tmp 62)])))
     (.one ((some 64), (none, (.build [(.inr ((.tmp 61), 1)), (.inr ((.tmp 63), 1))])))
     (.one (none, (none, (.st 2 (.tmp 4) (.tmp 64))))
     (.one ((some 5), (none, (.mv (.const (.int .i64 0)))))
     .done)))))
    (.one ((some 63), (none, (.callB f_receiver_Copied [(.tmp 62)])))
     (.one ((some 61), (none, (.ld false (.tmp 60))))
     (.one ((some 64), (none, (.build [(.inr ((.tmp 61), 1)), (.inr ((.tmp 63), 1))])))
     (.one (none, (none, (.st 2 (.tmp 4) (.tmp 64))))
     (.one ((some 5), (none, (.mv (.const (.int .i64 0)))))
     .done)))))))))
  .ret))))
def receiver_Keep_BC_j2 (f_slices_BinarySearchFunc_api_Item_api_Item_int : Nat) (f_receiver_Keep_1 : Nat) (t_api_Item : Nat) (f_slices_Insert_api_Item_api_Item : Nat) (f_receiver_Copied : Nat) : PC :=
  (.seq (.reg [((some 16), (none, (.fa 1 (.tmp 2)))),
    ((some 17), (none, (.ld false (.tmp 16)))),
    ((some 18), (none, (.fa 0 (.tmp 3)))),
    ((some 19), (none, (.ld false (.tmp 18)))),
    ((some 20), (none, (.callB f_slices_BinarySearchFunc_api_Item_api_Item_int [(.tmp 17), (.tmp 19), (.func f_receiver_Keep_1)]))),
    ((some 15), (none, (.steal 20))),
    ((some 21), (none, (.extr 15 0))),
    ((some 22), (none, (.extr 15 1))),
    ((some 6), (none, (.mv (.tmp 21)))),
    ((some 7), (none, (.mv (.tmp 22))))])
  (.seq (.block 0 (.seq (.reg [((some 24), (none, (.fa 0 (.tmp 3)))),
     ((some 25), (none, (.ld false (.tmp 24)))),
     ((some 26), (none, (.fa 0 (.tmp 2)))),
     ((some 27), (none, (.ld false (.tmp 26)))),
     ((some 28), (none, (.bi .leq (.tmp 25) (.tmp 27)))),
     ((some 29), (none, (.mv (.tmp 28)))),
     ((some 30), ((some (29, false)), (.mv (.tmp 7)))),
     ((some 31), (none, (.pick (.tmp 29) (.const (.bool true)) (.tmp 30)))),
     ((some 23), (none, (.mv (.tmp 31))))])
  (.cond (.tmp 23)
     (.seq (.reg [((some 32), (none, (.build [(.inl [(.int .i64 0)]), (.inl [(deep [])])]))),
       (none, (none, (.st 2 (.tmp 4) (.tmp 32)))),
       ((some 5), (none, (.mv (.const (.int .i64 10)))))])
  .ret)
     (.seq (.reg [((some 34), (none, (.fa 0 (.tmp 3)))),
       ((some 35), (none, (.ld false (.tmp 34)))),
       ((some 36), (none, (.fa 0 (.tmp 2)))),
       ((some 37), (none, (.ld false (.tmp 36)))),
       ((some 38), (none, (.bi .add (.tmp 37) (.const (.int .i64 8))))),
       ((some 39), (none, (.bi .gtr (.tmp 35) (.tmp 38)))),
       ((some 33), (none, (.mv (.tmp 39))))])
  (.cond (.tmp 33)
       (.seq (.reg [((some 40), (none, (.build [(.inl [(.int .i64 0)]), (.inl [(deep [])])]))),
         (none, (none, (.st 2 (.tmp 4) (.tmp 40)))),
         ((some 5), (none, (.mv (.const (.int .i64 11)))))])
  .ret)
       (.seq (.reg [((some 42), (none, (.fa 0 (.tmp 3)))),
         ((some 43), (none, (.ld false (.tmp 42)))),
         ((some 44), (none, (.bi .gtr (.tmp 43) (.const (.int .i64 4096))))),
         ((some 41), (none, (.mv (.tmp 44))))])
  (.cond (.tmp 41)
         (.seq (.reg [((some 45), (none, (.build [(.inl [(.int .i64 0)]), (.inl [(deep [])])]))),
           (none, (none, (.st 2 (.tmp 4) (.tmp 45)))),
           ((some 5), (none, (.mv (.const (.int .i64 1)))))])
  .ret)
         .skip)))))))
  (receiver_Keep_BC_j1 t_api_Item f_slices_Insert_api_Item_api_Item f_receiver_Copied)))
def receiver_Keep_BC (f_receiver_Valid : Nat) (f_slices_BinarySearchFunc_api_Item_api_Item_int : Nat) (f_receiver_Keep_1 : Nat) (t_api_Item : Nat) (f_slices_Insert_api_Item_api_Item : Nat) (f_receiver_Copied : Nat) : PC :=
  (.seq (.reg [((some 2), (none, (.box 2 (.tmp 0)))),
    ((some 3), (none, (.box 68 (.tmp 1)))),
    ((some 4), (none, (.alloc [(.int .i64 0), (ns [])]))),
    ((some 5), (none, (.mv (.const (.int .i64 0)))))])
  (.seq (.seq (.reg [((some 11), (none, (.ldA 2 (.tmp 2)))),
    ((some 12), (none, (.callB f_receiver_Valid [(.tmp 11)]))),
    ((some 13), (none, (.un .not (.tmp 12))))])
  (.cond (.tmp 13)
    (.seq (.reg [((some 14), (none, (.build [(.inl [(.int .i64 0)]), (.inl [(deep [])])]))),
      (none, (none, (.st 2 (.tmp 4) (.tmp 14)))),
      ((some 5), (none, (.mv (.const (.int .i64 5)))))])
  .ret)
    .skip))
  (receiver_Keep_BC_j2 f_slices_BinarySearchFunc_api_Item_api_Item_int f_receiver_Keep_1 t_api_Item f_slices_Insert_api_Item_api_Item f_receiver_Copied)))
/-- slices.Insert[[]macaroon/api.Item,macaroon/api.Item]: 95 slots, results [(.t 6)] -/
def slices_Insert_api_Item_api_Item_BC_j1 (f_slices_rotateRight_api_Item : Nat) : PC :=
  (.seq (.reg [((some 84), (none, (.mv (.tmp 0)))),
    ((some 85), (none, (.mv (.tmp 8)))),
    ((some 86), (none, (.slB 68 (.tmp 84) (some (.tmp 85)) none none))),
    ((some 87), (none, (.mv (.tmp 2)))),
    ((some 88), (none, (.cpy 68 (.tmp 86) (.tmp 87))))])
  (.seq (.reg [((some 89), (none, (.mv (.tmp 0)))),
    ((some 90), (none, (.mv (.tmp 1)))),
    ((some 91), (none, (.slB 68 (.tmp 89) (some (.tmp 90)) none none))),
    ((some 92), (none, (.mv (.tmp 7)))),
    ((some 93), (none, (.callB f_slices_rotateRight_api_Item [(.tmp 91), (.tmp 92)])))])
  (.seq (.reg [((some 94), (none, (.steal 0))),
    ((some 6), (none, (.steal 94)))])
  .ret)))
def slices_Insert_api_Item_api_Item_BC_j2 (f_slices_overlaps_api_Item : Nat) (f_slices_rotateRight_api_Item : Nat) : PC :=
  (.seq (.reg [((some 56), (none, (.mv (.tmp 0)))),
    ((some 57), (none, (.mv (.tmp 8)))),
    ((some 58), (none, (.mv (.tmp 7)))),
    ((some 59), (none, (.bi .add (.tmp 57) (.tmp 58)))),
    ((some 60), (none, (.slB 68 (.tmp 56) none (some (.tmp 59)) none))),
    ((some 0), (none, (.steal 60)))])
  (.seq (.seq (.reg [((some 61), (none, (.mv (.tmp 2)))),
    ((some 62), (none, (.mv (.tmp 0)))),
    ((some 63), (none, (.mv (.tmp 1)))),
    ((some 64), (none, (.mv (.tmp 7)))),
    ((some 65), (none, (.bi .add (.tmp 63) (.tmp 64)))),
    ((some 66), (none, (.slB 68 (.tmp 62) (some (.tmp 65)) none none))),
    ((some 67), (none, (.xcall f_slices_overlaps_api_Item [(.tmp 61), (.tmp 66)]))),
    ((some 68), (none, (.un .not (.tmp 67))))])
  (.cond (.tmp 68)
    (.seq (.ord (.one ((some 69), (none, (.mv (.tmp 0))))
      (.one ((some 70), (none, (.mv (.tmp 1))))
      (.one ((some 71), (none, (.mv (.tmp 7))))
      (.one ((some 72), (none, (.bi .add (.tmp 70) (.tmp 71))))
      (.one ((some 73), (none, (.slB 68 (.tmp 69) (some (.tmp 72)) none none)))
      (.one ((some 74), (none, (.mv (.tmp 0))))
      (.one ((some 75), (none, (.mv (.tmp 1))))
      (.one ((some 76), (none, (.slB 68 (.tmp 74) (some (.tmp 75)) none none)))
      (.one ((some 77), (none, (.cpy 68 (.tmp 73) (.tmp 76))))
      .done))))))))))
  (.seq (.reg [((some 78), (none, (.mv (.tmp 0)))),
      ((some 79), (none, (.mv (.tmp 1)))),
      ((some 80), (none, (.slB 68 (.tmp 78) (some (.tmp 79)) none none))),
      ((some 81), (none, (.mv (.tmp 2)))),
      ((some 82), (none, (.cpy 68 (.tmp 80) (.tmp 81))))])
  (.seq (.reg [((some 83), (none, (.steal 0))),
      ((some 6), (none, (.steal 83)))])
  .ret)))
    .skip))
  (slices_Insert_api_Item_api_Item_BC_j1 f_slices_rotateRight_api_Item)))
def slices_Insert_api_Item_api_Item_BC_j3 (f_slices_overlaps_api_Item : Nat) (f_slices_rotateRight_api_Item : Nat) : PC :=
  (.seq (.seq (.reg [((some 26), (none, (.mv (.tmp 8)))),
    ((some 27), (none, (.mv (.tmp 7)))),
    ((some 28), (none, (.bi .add (.tmp 26) (.tmp 27)))),
    ((some 29), (none, (.mv (.tmp 0)))),
    ((some 30), (none, (.capB (.tmp 29)))),
    ((some 31), (none, (.bi .gtr (.tmp 28) (.tmp 30))))])
  (.cond (.tmp 31)
    (.seq (.reg [((some 32), (none, (.mv (.tmp 0)))),
      ((some 33), (none, (.mv (.tmp 1)))),
      ((some 34), (none, (.slB 68 (.tmp 32) none (some (.tmp 33)) none))),
      ((some 35), (none, (.mv (.tmp 8)))),
      ((some 36), (none, (.mv (.tmp 7)))),
      ((some 37), (none, (.bi .add (.tmp 35) (.tmp 36)))),
      ((some 38), (none, (.mv (.tmp 1)))),
      ((some 39), (none, (.bi .sub (.tmp 37) (.tmp 38)))),
      ((some 40), (none, (.len (.const (.bool true))))),
      ((some 9), (none, (.steal 40)))])
  (.seq (.reg [((some 41), (none, (.mv (.tmp 9)))),
      ((some 42), (none, (.mv (.tmp 1)))),
      ((some 43), (none, (.slB 68 (.tmp 41) (some (.tmp 42)) none none))),
      ((some 44), (none, (.mv (.tmp 2)))),
      ((some 45), (none, (.cpy 68 (.tmp 43) (.tmp 44))))])
  (.seq (.ord (.one ((some 46), (none, (.mv (.tmp 9))))
      (.one ((some 47), (none, (.mv (.tmp 1))))
      (.one ((some 48), (none, (.mv (.tmp 7))))
      (.one ((some 49), (none, (.bi .add (.tmp 47) (.tmp 48))))
      (.one ((some 50), (none, (.slB 68 (.tmp 46) (some (.tmp 49)) none none)))
      (.one ((some 51), (none, (.mv (.tmp 0))))
      (.one ((some 52), (none, (.mv (.tmp 1))))
      (.one ((some 53), (none, (.slB 68 (.tmp 51) (some (.tmp 52)) none none)))
      (.one ((some 54), (none, (.cpy 68 (.tmp 50) (.tmp 53))))
      .done))))))))))
  (.seq (.reg [((some 55), (none, (.steal 9))),
      ((some 6), (none, (.steal 55)))])
  .ret))))
    .skip))
  (slices_Insert_api_Item_api_Item_BC_j2 f_slices_overlaps_api_Item f_slices_rotateRight_api_Item))
def slices_Insert_api_Item_api_Item_BC_j4 (f_slices_overlaps_api_Item : Nat) (f_slices_rotateRight_api_Item : Nat) : PC :=
  (.seq (.reg [((some 18), (none, (.mv (.tmp 0)))),
    ((some 19), (none, (.lenB (.tmp 18)))),
    ((some 8), (none, (.mv (.tmp 19))))])
  (.seq (.seq (.reg [((some 20), (none, (.mv (.tmp 1)))),
    ((some 21), (none, (.mv (.tmp 8)))),
    ((some 22), (none, (.bi .eql (.tmp 20) (.tmp 21))))])
  (.cond (.tmp 22)
    (.seq (.reg [((some 23), (none, (.steal 0))),
      ((some 24), (none, (.mv (.tmp 2)))),
      ((some 25), (none, (.appB 68 112 zItD 23 (.tmp 24)))),
      ((some 6), (none, (.steal 25)))])
  .ret)
    .skip))
  (slices_Insert_api_Item_api_Item_BC_j3 f_slices_overlaps_api_Item f_slices_rotateRight_api_Item)))
def slices_Insert_api_Item_api_Item_BC (f_slices_overlaps_api_Item : Nat) (f_slices_rotateRight_api_Item : Nat) : PC :=
  (.seq (.reg [((some 6), (none, .cns))])
  (.seq (.reg [((some 10), (none, (.mv (.tmp 0)))),
    ((some 11), (none, (.mv (.tmp 1)))),
    ((some 12), (none, (.slB 68 (.tmp 10) (some (.tmp 11)) none none)))])
  (.seq (.reg [((some 13), (none, (.mv (.tmp 2)))),
    ((some 14), (none, (.lenB (.tmp 13)))),
    ((some 7), (none, (.mv (.tmp 14))))])
  (.seq (.seq (.reg [((some 15), (none, (.mv (.tmp 7)))),
    ((some 16), (none, (.bi .eql (.tmp 15) (.const (.int .i64 0)))))])
  (.cond (.tmp 16)
    (.seq (.reg [((some 17), (none, (.steal 0))),
      ((some 6), (none, (.steal 17)))])
  .ret)
    .skip))
  (slices_Insert_api_Item_api_Item_BC_j4 f_slices_overlaps_api_Item f_slices_rotateRight_api_Item)))))
/-- macaroon/receiver.Copied: 24 slots, results [(.t 2)] -/
def receiver_Copied_BC_j1 (f_bytes_Clone : Nat) : PC :=
  (.seq (.block 1 (.seq (.reg [((some 11), (none, (.mv (.tmp 9)))),
       ((some 4), (none, (.mv (.tmp 11))))])
  (.reg [((some 12), (none, (.mv (.tmp 3)))),
       ((some 13), (none, (.mv (.tmp 4)))),
       ((some 14), (none, (.mv (.tmp 3)))),
       ((some 15), (none, (.mv (.tmp 4)))),
       ((some 16), (none, (.ixB 68 (.tmp 14) (.tmp 15)))),
       ((some 17), (none, (.fa 35 (.tmp 16)))),
       ((some 18), (none, (.ld false (.tmp 17)))),
       ((some 19), (none, (.callB f_bytes_Clone [(.tmp 18)]))),
       ((some 20), (none, (.ixB 68 (.tmp 12) (.tmp 13)))),
       ((some 21), (none, (.fa 35 (.tmp 20)))),
       (none, (none, (.st 1 (.tmp 21) (.tmp 19))))])))
  (.reg [((some 22), (none, (.bi .add (.tmp 9) (.const (.int .i64 1))))),
      ((some 9), (none, (.mv (.tmp 22))))]))
def receiver_Copied_BC (f_slices_Clone_api_Item_api_Item : Nat) (f_bytes_Clone : Nat) : PC :=
  (.seq (.reg [((some 2), (none, .cns))])
  (.seq (.reg [((some 5), (none, (.mv (.tmp 0)))),
    ((some 6), (none, (.callB f_slices_Clone_api_Item_api_Item [(.tmp 5)]))),
    ((some 3), (none, (.steal 6)))])
  (.seq (.seq (.reg [((some 7), (none, (.mv (.tmp 3)))),
    ((some 8), (none, (.lenB (.tmp 7)))),
    ((some 9), (none, (.mv (.const (.int .i64 0)))))])
  (.block 0 (.loop (.seq (.reg [((some 10), (none, (.bi .lss (.tmp 9) (.tmp 8))))])
  (.seq (.cond (.tmp 10)
      .skip
      (.exit 0))
  (receiver_Copied_BC_j1 f_bytes_Clone))))))
  (.seq (.reg [((some 23), (none, (.steal 3))),
    ((some 2), (none, (.steal 23)))])
  .ret))))
/-- slices.Clone[[]macaroon/api.Item,macaroon/api.Item]: 8 slots, results [(.t 2)] -/
def slices_Clone_api_Item_api_Item_BC_j1 : PC :=
  (.seq (.reg [((some 5), (none, .mks0)),
    ((some 6), (none, (.mv (.tmp 0)))),
    ((some 7), (none, (.appB 68 112 zItD 5 (.tmp 6)))),
    ((some 2), (none, (.steal 7)))])
  .ret)
def slices_Clone_api_Item_api_Item_BC : PC :=
  (.seq (.reg [((some 2), (none, .cns))])
  (.seq (.seq (.reg [((some 3), (none, (.mv (.tmp 0)))),
    ((some 4), (none, (.nilS false (.tmp 3))))])
  (.cond (.tmp 4)
    (.seq (.reg [((some 2), (none, .cns))])
  .ret)
    .skip))
  slices_Clone_api_Item_api_Item_BC_j1))
end Go.PE
namespace Go.PE
open Go
/-- macaroon/macaroonlaw25.ReceiverSteps: 126 slots, results [(.t 8)] -/
def law25_ReceiverStepsC_j1 (t_api_Item : Nat) (t_uint8 : Nat) (f_receiver_Keep : Nat) (f_ref21_Keep : Nat) (f_ref21_SameReceiver : Nat) : PC :=
  (.seq (.block 3 (.seq (.reg [((some 64), (none, (.ixS 68 (.tmp 60) (.tmp 62)))),
          ((some 65), (none, (.ldA 68 (.tmp 64)))),
          ((some 16), (none, (.alloc (zItR t_uint8)))),
          (none, (none, (.st 68 (.tmp 16) (.tmp 65))))])
  (.seq (.reg [((some 67), (none, (.ldA 2 (.tmp 14)))),
          ((some 68), (none, (.ldA 68 (.tmp 16)))),
          ((some 69), (none, (.call f_receiver_Keep [(.tmp 67), (.tmp 68)]))),
          ((some 66), (none, (.steal 69))),
          ((some 70), (none, (.extr 66 0))),
          ((some 71), (none, (.extr 66 1))),
          ((some 17), (none, (.alloc [(.int .i64 0), (lin t_api_Item [])]))),
          (none, (none, (.st 2 (.tmp 17) (.tmp 70)))),
          ((some 18), (none, (.mv (.tmp 71))))])
  (.seq (.reg [((some 73), (none, (.ldA 2 (.tmp 14)))),
          ((some 74), (none, (.ldA 68 (.tmp 16)))),
          ((some 75), (none, (.call f_ref21_Keep [(.tmp 73), (.tmp 74)]))),
          ((some 72), (none, (.steal 75))),
          ((some 76), (none, (.extr 72 0))),
          ((some 77), (none, (.extr 72 1))),
          ((some 19), (none, (.alloc [(.int .i64 0), (lin t_api_Item [])]))),
          (none, (none, (.st 2 (.tmp 19) (.tmp 76)))),
          ((some 20), (none, (.mv (.tmp 77))))])
  (.seq (.reg [((some 78), (none, (.ldA 2 (.tmp 17)))),
          ((some 79), (none, (.ldA 2 (.tmp 19)))),
          ((some 80), (none, (.call f_ref21_SameReceiver [(.tmp 78), (.tmp 79)]))),
          ((some 81), (none, (.un .not (.tmp 80)))),
          ((some 82), (none, (.mv (.tmp 81)))),
          ((some 83), ((some (82, false)), (.mv (.tmp 18)))),
          ((some 84), ((some (82, false)), (.mv (.tmp 20)))),
          ((some 85), ((some (82, false)), (.bi .neq (.tmp 83) (.tmp 84)))),
          ((some 86), (none, (.pick (.tmp 82) (.const (.bool true)) (.tmp 85))))])
  (.cond (.tmp 86)
          (.seq (.reg [((some 8), (none, (.mv (.const (.bool false)))))])
  .ret)
          .skip))))))
  (.reg [((some 87), (none, (.bi .add (.tmp 62) (.const (.int .i64 1))))),
         ((some 62), (none, (.mv (.tmp 87))))]))
def law25_ReceiverStepsC_j2 (t_api_Item : Nat) (t_uint8 : Nat) (f_ref21_SameReceiver : Nat) (f_receiver_Ready : Nat) (f_ref21_Ready : Nat) (f_ref21_SameItems : Nat) (f_receiver_Valid : Nat) (f_ref21_ReceiverOk : Nat) (f_receiver_Applied : Nat) (f_ref21_Applied : Nat) : PC :=
  (.seq (.reg [((some 89), (none, (.ldA 2 (.tmp 14)))),
       ((some 90), (none, (.call f_receiver_Ready [(.tmp 89)]))),
       ((some 88), (none, (.steal 90))),
       ((some 91), (none, (.extr 88 0))),
       ((some 92), (none, (.extr 88 1))),
       ((some 21), (none, (.alloc (zItR t_uint8)))),
       (none, (none, (.st 68 (.tmp 21) (.tmp 91)))),
       ((some 22), (none, (.mv (.tmp 92))))])
  (.seq (.reg [((some 94), (none, (.ldA 2 (.tmp 14)))),
       ((some 95), (none, (.call f_ref21_Ready [(.tmp 94)]))),
       ((some 93), (none, (.steal 95))),
       ((some 96), (none, (.extr 93 0))),
       ((some 97), (none, (.extr 93 1))),
       ((some 23), (none, (.alloc (zItR t_uint8)))),
       (none, (none, (.st 68 (.tmp 23) (.tmp 96)))),
       ((some 24), (none, (.mv (.tmp 97))))])
  (.seq (.ord (.alt (.one ((some 98), (none, (.ldA 68 (.tmp 21))))
        (.one ((some 99), (none, (.mks t_api_Item 68 false [(.tmp 98)])))
        (.one ((some 100), (none, (.ldA 68 (.tmp 23))))
        (.one ((some 101), (none, (.mks t_api_Item 68 false [(.tmp 100)])))
        (.one ((some 102), (none, (.call f_ref21_SameItems [(.tmp 99), (.tmp 101)])))
        (.one ((some 103), (none, (.un .not (.tmp 102))))
        (.one ((some 104), (none, (.mv (.tmp 103))))
        (.one ((some 105), ((some (104, false)), (.mv (.tmp 22))))
        (.one ((some 106), ((some (104, false)), (.mv (.tmp 24))))
        (.one ((some 107), ((some (104, false)), (.bb true (.tmp 105) (.tmp 106))))
        (.one ((some 108), (none, (.pick (.tmp 104) (.const (.bool true)) (.tmp 107))))
        (.one ((some 109), (none, (.mv (.tmp 108))))
        (.alt (.one ((some 110), ((some (109, false)), (.ldA 2 (.tmp 14))))
         (.alt (.one ((some 111), ((some (109, false)), (.call f_receiver_Valid [(.tmp 110)])))
          (.one ((some 112), ((some (109, false)), (.ldA 2 (.tmp 14))))
          (.one ((some 113), ((some (109, false)), (.call f_ref21_ReceiverOk [(.tmp 112)])))
          (.one ((some 114), ((some (109, false)), (.bb true (.tmp 111) (.tmp 113))))
          (.one ((some 115), (none, (.pick (.tmp 109) (.const (.bool true)) (.tmp 114))))
          (.one ((some 116), (none, (.mv (.tmp 115))))
          (.alt (.one ((some 117), ((some (116, false)), (.ldA 2 (.tmp 14))))
           (.alt (.one ((some 118), ((some (116, false)), (.call f_receiver_Applied [(.tmp 117)])))
            (.one ((some 119), ((some (116, false)), (.ldA 2 (.tmp 14))))
            (.one ((some 120), ((some (116, false)), (.call f_ref21_Applied [(.tmp 119)])))
            (.one ((some 121), ((some (116, false)), (.call f_ref21_SameReceiver [(.tmp 118), (.tmp 120)])))
            (.one ((some 122), ((some (116, false)), (.un .not (.tmp 121))))
            (.one ((some 123), (none, (.pick (.tmp 116) (.const (.bool true)) (.tmp 122))))
            .done))))))
           (.one ((some 119), ((some (116, false)), (.ldA 2 (.tmp 14))))
            (.one ((some 118), ((some (116, false)), (.call f_receiver_Applied [(.tmp 117)])))
            (.one ((some 120), ((some (116, false)), (.call f_ref21_Applied [(.tmp 119)])))
            (.one ((some 121), ((some (116, false)), (.call f_ref21_SameReceiver [(.tmp 118), (.tmp 120)])))
            (.one ((some 122), ((some (116, false)), (.un .not (.tmp 121))))
            (.one ((some 123), (none, (.pick (.tmp 116) (.const (.bool true)) (.tmp 122))))
            .done))))))))
          (.one ((some 119), ((some (116, false)), (.ldA 2 (.tmp 14))))
           (.one ((some 117), ((some (116, false)), (.ldA 2 (.tmp 14))))
           (.one ((some 118), ((some (116, false)), (.call f_receiver_Applied [(.tmp 117)])))
           (.one ((some 120), ((some (116, false)), (.call f_ref21_Applied [(.tmp 119)])))
           (.one ((some 121), ((some (116, false)), (.call f_ref21_SameReceiver [(.tmp 118), (.tmp 120)])))
           (.one ((some 122), ((some (116, false)), (.un .not (.tmp 121))))
           (.one ((some 123), (none, (.pick (.tmp 116) (.const (.bool true)) (.tmp 122))))
           .done))))))))))))))
         (.one ((some 112), ((some (109, false)), (.ldA 2 (.tmp 14))))
          (.one ((some 111), ((some (109, false)), (.call f_receiver_Valid [(.tmp 110)])))
          (.one ((some 113), ((some (109, false)), (.call f_ref21_ReceiverOk [(.tmp 112)])))
          (.one ((some 114), ((some (109, false)), (.bb true (.tmp 111) (.tmp 113))))
          (.one ((some 115), (none, (.pick (.tmp 109) (.const (.bool true)) (.tmp 114))))
          (.one ((some 116), (none, (.mv (.tmp 115))))
          (.alt (.one ((some 117), ((some (116, false)), (.ldA 2 (.tmp 14))))
           (.alt (.one ((some 118), ((some (116, false)), (.call f_receiver_Applied [(.tmp 117)])))
            (.one ((some 119), ((some (116, false)), (.ldA 2 (.tmp 14))))
            (.one ((some 120), ((some (116, false)), (.call f_ref21_Applied [(.tmp 119)])))
            (.one ((some 121), ((some (116, false)), (.call f_ref21_SameReceiver [(.tmp 118), (.tmp 120)])))
            (.one ((some 122), ((some (116, false)), (.un .not (.tmp 121))))
            (.one ((some 123), (none, (.pick (.tmp 116) (.const (.bool true)) (.tmp 122))))
            .done))))))
           (.one ((some 119), ((some (116, false)), (.ldA 2 (.tmp 14))))
            (.one ((some 118), ((some (116, false)), (.call f_receiver_Applied [(.tmp 117)])))
            (.one ((some 120), ((some (116, false)), (.call f_ref21_Applied [(.tmp 119)])))
            (.one ((some 121), ((some (116, false)), (.call f_ref21_SameReceiver [(.tmp 118), (.tmp 120)])))
            (.one ((some 122), ((some (116, false)), (.un .not (.tmp 121))))
            (.one ((some 123), (none, (.pick (.tmp 116) (.const (.bool true)) (.tmp 122))))
            .done))))))))
          (.one ((some 119), ((some (116, false)), (.ldA 2 (.tmp 14))))
           (.one ((some 117), ((some (116, false)), (.ldA 2 (.tmp 14))))
           (.one ((some 118), ((some (116, false)), (.call f_receiver_Applied [(.tmp 117)])))
           (.one ((some 120), ((some (116, false)), (.call f_ref21_Applied [(.tmp 119)])))
           (.one ((some 121), ((some (116, false)), (.call f_ref21_SameReceiver [(.tmp 118), (.tmp 120)])))
           (.one ((some 122), ((some (116, false)), (.un .not (.tmp 121))))
           (.one ((some 123), (none, (.pick (.tmp 116) (.const (.bool true)) (.tmp 122))))
           .done))))))))))))))))
        (.one ((some 112), ((some (109, false)), (.ldA 2 (.tmp 14))))
         (.one ((some 110), ((some (109, false)), (.ldA 2 (.tmp 14))))
         (.one ((some 111), ((some (109, false)), (.call f_receiver_Valid [(.tmp 110)])))
         (.one ((some 113), ((some (109, false)), (.call f_ref21_ReceiverOk [(.tmp 112)])))
         (.one ((some 114), ((some (109, false)), (.bb true (.tmp 111) (.tmp 113))))
         (.one ((some 115), (none, (.pick (.tmp 109) (.const (.bool true)) (.tmp 114))))
         (.one ((some 116), (none, (.mv (.tmp 115))))
         (.alt (.one ((some 117), ((some (116, false)), (.ldA 2 (.tmp 14))))
          (.alt (.one ((some 118), ((some (116, false)), (.call f_receiver_Applied [(.tmp 117)])))
           (.one ((some 119), ((some (116, false)), (.ldA 2 (.tmp 14))))
           (.one ((some 120), ((some (116, false)), (.call f_ref21_Applied [(.tmp 119)])))
           (.one ((some 121), ((some (116, false)), (.call f_ref21_SameReceiver [(.tmp 118), (.tmp 120)])))
           (.one ((some 122), ((some (116, false)), (.un .not (.tmp 121))))
           (.one ((some 123), (none, (.pick (.tmp 116) (.const (.bool true)) (.tmp 122))))
           .done))))))
          (.one ((some 119), ((some (116, false)), (.ldA 2 (.tmp 14))))
           (.one ((some 118), ((some (116, false)), (.call f_receiver_Applied [(.tmp 117)])))
           (.one ((some 120), ((some (116, false)), (.call f_ref21_Applied [(.tmp 119)])))
           (.one ((some 121), ((some (116, false)), (.call f_ref21_SameReceiver [(.tmp 118), (.tmp 120)])))
           (.one ((some 122), ((some (116, false)), (.un .not (.tmp 121))))
           (.one ((some 123), (none, (.pick (.tmp 116) (.const (.bool true)) (.tmp 122))))
           .done))))))))
         (.one ((some 119), ((some (116, false)), (.ldA 2 (.tmp 14))))
          (.one ((some 117), ((some (116, false)), (.ldA 2 (.tmp 14))))
          (.one ((some 118), ((some (116, false)), (.call f_receiver_Applied [(.tmp 117)])))
          (.one ((some 120), ((some (116, false)), (.call f_ref21_Applied [(.tmp 119)])))
          (.one ((some 121), ((some (116, false)), (.call f_ref21_SameReceiver [(.tmp 118), (.tmp 120)])))
          (.one ((some 122), ((some (116, false)), (.un .not (.tmp 121))))
          (.one ((some 123), (none, (.pick (.tmp 116) (.const (.bool true)) (.tmp 122))))
          .done))))))))))))))))))))))))))))
       (.one ((some 100), (none, (.ldA 68 (.tmp 23))))
        (.one ((some 101), (none, (.mks t_api_Item 68 false [(.tmp 100)])))
        (.one ((some 98), (none, (.ldA 68 (.tmp 21))))
        (.one ((some 99), (none, (.mks t_api_Item 68 false [(.tmp 98)])))
        (.one ((some 102), (none, (.call f_ref21_SameItems [(.tmp 99), (.tmp 101)])))
        (.one ((some 103), (none, (.un .not (.tmp 102))))
        (.one ((some 104), (none, (.mv (.tmp 103))))
        (.one ((some 105), ((some (104, false)), (.mv (.tmp 22))))
        (.one ((some 106), ((some (104, false)), (.mv (.tmp 24))))
        (.one ((some 107), ((some (104, false)), (.bb true (.tmp 105) (.tmp 106))))
        (.one ((some 108), (none, (.pick (.tmp 104) (.const (.bool true)) (.tmp 107))))
        (.one ((some 109), (none, (.mv (.tmp 108))))
        (.alt (.one ((some 110), ((some (109, false)), (.ldA 2 (.tmp 14))))
         (.alt (.one ((some 111), ((some (109, false)), (.call f_receiver_Valid [(.tmp 110)])))
          (.one ((some 112), ((some (109, false)), (.ldA 2 (.tmp 14))))
          (.one ((some 113), ((some (109, false)), (.call f_ref21_ReceiverOk [(.tmp 112)])))
          (.one ((some 114), ((some (109, false)), (.bb true (.tmp 111) (.tmp 113))))
          (.one ((some 115), (none, (.pick (.tmp 109) (.const (.bool true)) (.tmp 114))))
          (.one ((some 116), (none, (.mv (.tmp 115))))
          (.alt (.one ((some 117), ((some (116, false)), (.ldA 2 (.tmp 14))))
           (.alt (.one ((some 118), ((some (116, false)), (.call f_receiver_Applied [(.tmp 117)])))
            (.one ((some 119), ((some (116, false)), (.ldA 2 (.tmp 14))))
            (.one ((some 120), ((some (116, false)), (.call f_ref21_Applied [(.tmp 119)])))
            (.one ((some 121), ((some (116, false)), (.call f_ref21_SameReceiver [(.tmp 118), (.tmp 120)])))
            (.one ((some 122), ((some (116, false)), (.un .not (.tmp 121))))
            (.one ((some 123), (none, (.pick (.tmp 116) (.const (.bool true)) (.tmp 122))))
            .done))))))
           (.one ((some 119), ((some (116, false)), (.ldA 2 (.tmp 14))))
            (.one ((some 118), ((some (116, false)), (.call f_receiver_Applied [(.tmp 117)])))
            (.one ((some 120), ((some (116, false)), (.call f_ref21_Applied [(.tmp 119)])))
            (.one ((some 121), ((some (116, false)), (.call f_ref21_SameReceiver [(.tmp 118), (.tmp 120)])))
            (.one ((some 122), ((some (116, false)), (.un .not (.tmp 121))))
            (.one ((some 123), (none, (.pick (.tmp 116) (.const (.bool true)) (.tmp 122))))
            .done))))))))
          (.one ((some 119), ((some (116, false)), (.ldA 2 (.tmp 14))))
           (.one ((some 117), ((some (116, false)), (.ldA 2 (.tmp 14))))
           (.one ((some 118), ((some (116, false)), (.call f_receiver_Applied [(.tmp 117)])))
           (.one ((some 120), ((some (116, false)), (.call f_ref21_Applied [(.tmp 119)])))
           (.one ((some 121), ((some (116, false)), (.call f_ref21_SameReceiver [(.tmp 118), (.tmp 120)])))
           (.one ((some 122), ((some (116, false)), (.un .not (.tmp 121))))
           (.one ((some 123), (none, (.pick (.tmp 116) (.const (.bool true)) (.tmp 122))))
           .done))))))))))))))
         (.one ((some 112), ((some (109, false)), (.ldA 2 (.tmp 14))))
          (.one ((some 111), ((some (109, false)), (.call f_receiver_Valid [(.tmp 110)])))
          (.one ((some 113), ((some (109, false)), (.call f_ref21_ReceiverOk [(.tmp 112)])))
          (.one ((some 114), ((some (109, false)), (.bb true (.tmp 111) (.tmp 113))))
          (.one ((some 115), (none, (.pick (.tmp 109) (.const (.bool true)) (.tmp 114))))
          (.one ((some 116), (none, (.mv (.tmp 115))))
          (.alt (.one ((some 117), ((some (116, false)), (.ldA 2 (.tmp 14))))
           (.alt (.one ((some 118), ((some (116, false)), (.call f_receiver_Applied [(.tmp 117)])))
            (.one ((some 119), ((some (116, false)), (.ldA 2 (.tmp 14))))
            (.one ((some 120), ((some (116, false)), (.call f_ref21_Applied [(.tmp 119)])))
            (.one ((some 121), ((some (116, false)), (.call f_ref21_SameReceiver [(.tmp 118), (.tmp 120)])))
            (.one ((some 122), ((some (116, false)), (.un .not (.tmp 121))))
            (.one ((some 123), (none, (.pick (.tmp 116) (.const (.bool true)) (.tmp 122))))
            .done))))))
           (.one ((some 119), ((some (116, false)), (.ldA 2 (.tmp 14))))
            (.one ((some 118), ((some (116, false)), (.call f_receiver_Applied [(.tmp 117)])))
            (.one ((some 120), ((some (116, false)), (.call f_ref21_Applied [(.tmp 119)])))
            (.one ((some 121), ((some (116, false)), (.call f_ref21_SameReceiver [(.tmp 118), (.tmp 120)])))
            (.one ((some 122), ((some (116, false)), (.un .not (.tmp 121))))
            (.one ((some 123), (none, (.pick (.tmp 116) (.const (.bool true)) (.tmp 122))))
            .done))))))))
          (.one ((some 119), ((some (116, false)), (.ldA 2 (.tmp 14))))
           (.one ((some 117), ((some (116, false)), (.ldA 2 (.tmp 14))))
           (.one ((some 118), ((some (116, false)), (.call f_receiver_Applied [(.tmp 117)])))
           (.one ((some 120), ((some (116, false)), (.call f_ref21_Applied [(.tmp 119)])))
           (.one ((some 121), ((some (116, false)), (.call f_ref21_SameReceiver [(.tmp 118), (.tmp 120)])))
           (.one ((some 122), ((some (116, false)), (.un .not (.tmp 121))))
           (.one ((some 123), (none, (.pick (.tmp 116) (.const (.bool true)) (.tmp 122))))
           .done))))))))))))))))
        (.one ((some 112), ((some (109, false)), (.ldA 2 (.tmp 14))))
         (.one ((some 110), ((some (109, false)), (.ldA 2 (.tmp 14))))
         (.one ((some 111), ((some (109, false)), (.call f_receiver_Valid [(.tmp 110)])))
         (.one ((some 113), ((some (109, false)), (.call f_ref21_ReceiverOk [(.tmp 112)])))
         (.one ((some 114), ((some (109, false)), (.bb true (.tmp 111) (.tmp 113))))
         (.one ((some 115), (none, (.pick (.tmp 109) (.const (.bool true)) (.tmp 114))))
         (.one ((some 116), (none, (.mv (.tmp 115))))
         (.alt (.one ((some 117), ((some (116, false)), (.ldA 2 (.tmp 14))))
          (.alt (.one ((some 118), ((some (116, false)), (.call f_receiver_Applied [(.tmp 117)])))
           (.one ((some 119), ((some (116, false)), (.ldA 2 (.tmp 14))))
           (.one ((some 120), ((some (116, false)), (.call f_ref21_Applied [(.tmp 119)])))
           (.one ((some 121), ((some (116, false)), (.call f_ref21_SameReceiver [(.tmp 118), (.tmp 120)])))
           (.one ((some 122), ((some (116, false)), (.un .not (.tmp 121))))
           (.one ((some 123), (none, (.pick (.tmp 116) (.const (.bool true)) (.tmp 122))))
           .done))))))
          (.one ((some 119), ((some (116, false)), (.ldA 2 (.tmp 14))))
           (.one ((some 118), ((some (116, false)), (.call f_receiver_Applied [(.tmp 117)])))
           (.one ((some 120), ((some (116, false)), (.call f_ref21_Applied [(.tmp 119)])))
           (.one ((some 121), ((some (116, false)), (.call f_ref21_SameReceiver [(.tmp 118), (.tmp 120)])))
           (.one ((some 122), ((some (116, false)), (.un .not (.tmp 121))))
           (.one ((some 123), (none, (.pick (.tmp 116) (.const (.bool true)) (.tmp 122))))
           .done))))))))
         (.one ((some 119), ((some (116, false)), (.ldA 2 (.tmp 14))))
          (.one ((some 117), ((some (116, false)), (.ldA 2 (.tmp 14))))
          (.one ((some 118), ((some (116, false)), (.call f_receiver_Applied [(.tmp 117)])))
          (.one ((some 120), ((some (116, false)), (.call f_ref21_Applied [(.tmp 119)])))
          (.one ((some 121), ((some (116, false)), (.call f_ref21_SameReceiver [(.tmp 118), (.tmp 120)])))
          (.one ((some 122), ((some (116, false)), (.un .not (.tmp 121))))
          (.one ((some 123), (none, (.pick (.tmp 116) (.const (.bool true)) (.tmp 122))))
          .done))))))))))))))))))))))))))))))
  (.cond (.tmp 123)
       (.seq (.reg [((some 8), (none, (.mv (.const (.bool false)))))])
  .ret)
       .skip))))
def law25_ReceiverStepsC_j3 (t_api_Item : Nat) (t_uint8 : Nat) (f_receiver_Keep : Nat) (f_ref21_Keep : Nat) (f_ref21_SameReceiver : Nat) (f_receiver_Ready : Nat) (f_ref21_Ready : Nat) (f_ref21_SameItems : Nat) (f_receiver_Valid : Nat) (f_ref21_ReceiverOk : Nat) (f_receiver_Applied : Nat) (f_ref21_Applied : Nat) : PC :=
  (.seq (.block 1 (.seq (.reg [((some 55), (none, (.ixS 2 (.tmp 51) (.tmp 53)))),
       ((some 56), (none, (.ldA 2 (.tmp 55)))),
       ((some 14), (none, (.alloc [(.int .i64 0), (lin t_api_Item [])]))),
       (none, (none, (.st 2 (.tmp 14) (.tmp 56))))])
  (.seq (.seq (.reg [((some 57), (none, (.ldA 68 (.tmp 5)))),
       ((some 58), (none, (.ldA 68 (.tmp 11)))),
       ((some 59), (none, (.ldA 68 (.tmp 12)))),
       ((some 60), (none, (.mks t_api_Item 68 false [(.tmp 57), (.tmp 58), (.tmp 59)]))),
       ((some 61), (none, (.len (.tmp 60)))),
       ((some 62), (none, (.mv (.const (.int .i64 0)))))])
  (.block 2 (.loop (.seq (.reg [((some 63), (none, (.bi .lss (.tmp 62) (.tmp 61))))])
  (.seq (.cond (.tmp 63)
         .skip
         (.exit 2))
  (law25_ReceiverStepsC_j1 t_api_Item t_uint8 f_receiver_Keep f_ref21_Keep f_ref21_SameReceiver))))))
  (law25_ReceiverStepsC_j2 t_api_Item t_uint8 f_ref21_SameReceiver f_receiver_Ready f_ref21_Ready f_ref21_SameItems f_receiver_Valid f_ref21_ReceiverOk f_receiver_Applied f_ref21_Applied))))
  (.reg [((some 124), (none, (.bi .add (.tmp 53) (.const (.int .i64 1))))),
      ((some 53), (none, (.mv (.tmp 124))))]))
def law25_ReceiverStepsC_j4 (t_api_Item : Nat) (t_uint8 : Nat) (f_receiver_Keep : Nat) (f_ref21_Keep : Nat) (f_ref21_SameReceiver : Nat) (f_receiver_Ready : Nat) (f_ref21_Ready : Nat) (f_ref21_SameItems : Nat) (f_receiver_Valid : Nat) (f_ref21_ReceiverOk : Nat) (f_receiver_Applied : Nat) (f_ref21_Applied : Nat) : PC :=
  (.block 0 (.loop (.seq (.reg [((some 54), (none, (.bi .lss (.tmp 53) (.tmp 52))))])
  (.seq (.cond (.tmp 54)
      .skip
      (.exit 0))
  (law25_ReceiverStepsC_j3 t_api_Item t_uint8 f_receiver_Keep f_ref21_Keep f_ref21_SameReceiver f_receiver_Ready f_ref21_Ready f_ref21_SameItems f_receiver_Valid f_ref21_ReceiverOk f_receiver_Applied f_ref21_Applied)))))
def law25_ReceiverStepsC_j5 (f_law25_awake : Nat) (t_api_Item : Nat) (t_uint8 : Nat) (f_made_Deck_Next : Nat) (t_api_Receiver : Nat) (f_receiver_Keep : Nat) (f_ref21_Keep : Nat) (f_ref21_SameReceiver : Nat) (f_receiver_Ready : Nat) (f_ref21_Ready : Nat) (f_ref21_SameItems : Nat) (f_receiver_Valid : Nat) (f_ref21_ReceiverOk : Nat) (f_receiver_Applied : Nat) (f_ref21_Applied : Nat) : PC :=
  (.seq (.reg [((some 41), (none, (.ldA 68 (.tmp 5)))),
    ((some 12), (none, (.alloc (zItR t_uint8)))),
    (none, (none, (.st 68 (.tmp 12) (.tmp 41))))])
  (.seq (.reg [((some 42), (none, (.mv (.tmp 3)))),
    ((some 43), (none, (.fa 0 (.tmp 12)))),
    (none, (none, (.st 1 (.tmp 43) (.tmp 42))))])
  (.seq (.seq (.ord (.one ((some 46), (none, (.mv (.tmp 9))))
    (.one ((some 48), (none, (.fa 1 (.tmp 10))))
    (.one ((some 53), (none, (.mv (.const (.int .i64 0)))))
    (.alt (.one ((some 44), (none, (.ldA 2 (.tmp 10))))
     (.alt (.one ((some 45), (none, (.ldA 2 (.tmp 4))))
      (.alt (.one ((some 47), (none, (.call f_made_Deck_Next [(.tmp 46), (.const (.int .i64 3))])))
       (.one ((some 49), (none, (.ld false (.tmp 48))))
       (.one ((some 50), (none, (.build [(.inr ((.tmp 47), 1)), (.inr ((.tmp 49), 1))])))
       (.one ((some 51), (none, (.mks t_api_Receiver 2 false [(.tmp 44), (.tmp 45), (.tmp 50)])))
       (.one ((some 52), (none, (.len (.tmp 51))))
       .done)))))
      (.one ((some 49), (none, (.ld false (.tmp 48))))
       (.one ((some 47), (none, (.call f_made_Deck_Next [(.tmp 46), (.const (.int .i64 3))])))
       (.one ((some 50), (none, (.build [(.inr ((.tmp 47), 1)), (.inr ((.tmp 49), 1))])))
       (.one ((some 51), (none, (.mks t_api_Receiver 2 false [(.tmp 44), (.tmp 45), (.tmp 50)])))
       (.one ((some 52), (none, (.len (.tmp 51))))
       .done)))))))
     (.alt (.one ((some 47), (none, (.call f_made_Deck_Next [(.tmp 46), (.const (.int .i64 3))])))
       (.one ((some 45), (none, (.ldA 2 (.tmp 4))))
       (.one ((some 49), (none, (.ld false (.tmp 48))))
       (.one ((some 50), (none, (.build [(.inr ((.tmp 47), 1)), (.inr ((.tmp 49), 1))])))
       (.one ((some 51), (none, (.mks t_api_Receiver 2 false [(.tmp 44), (.tmp 45), (.tmp 50)])))
       (.one ((some 52), (none, (.len (.tmp 51))))
       .done))))))
      (.one ((some 49), (none, (.ld false (.tmp 48))))
       (.alt (.one ((some 45), (none, (.ldA 2 (.tmp 4))))
        (.one ((some 47), (none, (.call f_made_Deck_Next [(.tmp 46), (.const (.int .i64 3))])))
        (.one ((some 50), (none, (.build [(.inr ((.tmp 47), 1)), (.inr ((.tmp 49), 1))])))
        (.one ((some 51), (none, (.mks t_api_Receiver 2 false [(.tmp 44), (.tmp 45), (.tmp 50)])))
        (.one ((some 52), (none, (.len (.tmp 51))))
        .done)))))
       (.one ((some 47), (none, (.call f_made_Deck_Next [(.tmp 46), (.const (.int .i64 3))])))
        (.one ((some 45), (none, (.ldA 2 (.tmp 4))))
        (.one ((some 50), (none, (.build [(.inr ((.tmp 47), 1)), (.inr ((.tmp 49), 1))])))
        (.one ((some 51), (none, (.mks t_api_Receiver 2 false [(.tmp 44), (.tmp 45), (.tmp 50)])))
        (.one ((some 52), (none, (.len (.tmp 51))))
        .done))))))))))
    (.alt (.one ((some 45), (none, (.ldA 2 (.tmp 4))))
      (.alt (.one ((some 44), (none, (.ldA 2 (.tmp 10))))
       (.alt (.one ((some 47), (none, (.call f_made_Deck_Next [(.tmp 46), (.const (.int .i64 3))])))
        (.one ((some 49), (none, (.ld false (.tmp 48))))
        (.one ((some 50), (none, (.build [(.inr ((.tmp 47), 1)), (.inr ((.tmp 49), 1))])))
        (.one ((some 51), (none, (.mks t_api_Receiver 2 false [(.tmp 44), (.tmp 45), (.tmp 50)])))
        (.one ((some 52), (none, (.len (.tmp 51))))
        .done)))))
       (.one ((some 49), (none, (.ld false (.tmp 48))))
        (.one ((some 47), (none, (.call f_made_Deck_Next [(.tmp 46), (.const (.int .i64 3))])))
        (.one ((some 50), (none, (.build [(.inr ((.tmp 47), 1)), (.inr ((.tmp 49), 1))])))
        (.one ((some 51), (none, (.mks t_api_Receiver 2 false [(.tmp 44), (.tmp 45), (.tmp 50)])))
        (.one ((some 52), (none, (.len (.tmp 51))))
        .done)))))))
      (.alt (.one ((some 47), (none, (.call f_made_Deck_Next [(.tmp 46), (.const (.int .i64 3))])))
        (.one ((some 44), (none, (.ldA 2 (.tmp 10))))
        (.one ((some 49), (none, (.ld false (.tmp 48))))
        (.one ((some 50), (none, (.build [(.inr ((.tmp 47), 1)), (.inr ((.tmp 49), 1))])))
        (.one ((some 51), (none, (.mks t_api_Receiver 2 false [(.tmp 44), (.tmp 45), (.tmp 50)])))
        (.one ((some 52), (none, (.len (.tmp 51))))
        .done))))))
       (.one ((some 49), (none, (.ld false (.tmp 48))))
        (.alt (.one ((some 44), (none, (.ldA 2 (.tmp 10))))
         (.one ((some 47), (none, (.call f_made_Deck_Next [(.tmp 46), (.const (.int .i64 3))])))
         (.one ((some 50), (none, (.build [(.inr ((.tmp 47), 1)), (.inr ((.tmp 49), 1))])))
         (.one ((some 51), (none, (.mks t_api_Receiver 2 false [(.tmp 44), (.tmp 45), (.tmp 50)])))
         (.one ((some 52), (none, (.len (.tmp 51))))
         .done)))))
        (.one ((some 47), (none, (.call f_made_Deck_Next [(.tmp 46), (.const (.int .i64 3))])))
         (.one ((some 44), (none, (.ldA 2 (.tmp 10))))
         (.one ((some 50), (none, (.build [(.inr ((.tmp 47), 1)), (.inr ((.tmp 49), 1))])))
         (.one ((some 51), (none, (.mks t_api_Receiver 2 false [(.tmp 44), (.tmp 45), (.tmp 50)])))
         (.one ((some 52), (none, (.len (.tmp 51))))
         .done))))))))))
     (.alt (.one ((some 47), (none, (.call f_made_Deck_Next [(.tmp 46), (.const (.int .i64 3))])))
       (.one ((some 44), (none, (.ldA 2 (.tmp 10))))
       (.one ((some 45), (none, (.ldA 2 (.tmp 4))))
       (.one ((some 49), (none, (.ld false (.tmp 48))))
       (.one ((some 50), (none, (.build [(.inr ((.tmp 47), 1)), (.inr ((.tmp 49), 1))])))
       (.one ((some 51), (none, (.mks t_api_Receiver 2 false [(.tmp 44), (.tmp 45), (.tmp 50)])))
       (.one ((some 52), (none, (.len (.tmp 51))))
       .done)))))))
      (.one ((some 49), (none, (.ld false (.tmp 48))))
       (.alt (.one ((some 44), (none, (.ldA 2 (.tmp 10))))
        (.alt (.one ((some 45), (none, (.ldA 2 (.tmp 4))))
         (.one ((some 47), (none, (.call f_made_Deck_Next [(.tmp 46), (.const (.int .i64 3))])))
         (.one ((some 50), (none, (.build [(.inr ((.tmp 47), 1)), (.inr ((.tmp 49), 1))])))
         (.one ((some 51), (none, (.mks t_api_Receiver 2 false [(.tmp 44), (.tmp 45), (.tmp 50)])))
         (.one ((some 52), (none, (.len (.tmp 51))))
         .done)))))
        (.one ((some 47), (none, (.call f_made_Deck_Next [(.tmp 46), (.const (.int .i64 3))])))
         (.one ((some 45), (none, (.ldA 2 (.tmp 4))))
         (.one ((some 50), (none, (.build [(.inr ((.tmp 47), 1)), (.inr ((.tmp 49), 1))])))
         (.one ((some 51), (none, (.mks t_api_Receiver 2 false [(.tmp 44), (.tmp 45), (.tmp 50)])))
         (.one ((some 52), (none, (.len (.tmp 51))))
         .done)))))))
       (.alt (.one ((some 45), (none, (.ldA 2 (.tmp 4))))
         (.alt (.one ((some 44), (none, (.ldA 2 (.tmp 10))))
          (.one ((some 47), (none, (.call f_made_Deck_Next [(.tmp 46), (.const (.int .i64 3))])))
          (.one ((some 50), (none, (.build [(.inr ((.tmp 47), 1)), (.inr ((.tmp 49), 1))])))
          (.one ((some 51), (none, (.mks t_api_Receiver 2 false [(.tmp 44), (.tmp 45), (.tmp 50)])))
          (.one ((some 52), (none, (.len (.tmp 51))))
          .done)))))
         (.one ((some 47), (none, (.call f_made_Deck_Next [(.tmp 46), (.const (.int .i64 3))])))
          (.one ((some 44), (none, (.ldA 2 (.tmp 10))))
          (.one ((some 50), (none, (.build [(.inr ((.tmp 47), 1)), (.inr ((.tmp 49), 1))])))
          (.one ((some 51), (none, (.mks t_api_Receiver 2 false [(.tmp 44), (.tmp 45), (.tmp 50)])))
          (.one ((some 52), (none, (.len (.tmp 51))))
          .done)))))))
        (.one ((some 47), (none, (.call f_made_Deck_Next [(.tmp 46), (.const (.int .i64 3))])))
         (.one ((some 44), (none, (.ldA 2 (.tmp 10))))
         (.one ((some 45), (none, (.ldA 2 (.tmp 4))))
         (.one ((some 50), (none, (.build [(.inr ((.tmp 47), 1)), (.inr ((.tmp 49), 1))])))
         (.one ((some 51), (none, (.mks t_api_Receiver 2 false [(.tmp 44), (.tmp 45), (.tmp 50)])))
         (.one ((some 52), (none, (.len (.tmp 51))))
         .done))))))))))))))))
  (law25_ReceiverStepsC_j4 t_api_Item t_uint8 f_receiver_Keep f_ref21_Keep f_ref21_SameReceiver f_receiver_Ready f_ref21_Ready f_ref21_SameItems f_receiver_Valid f_ref21_ReceiverOk f_receiver_Applied f_ref21_Applied))
  (.seq (.reg [((some 125), (none, (.call f_law25_awake []))),
    ((some 8), (none, (.mv (.tmp 125))))])
  .ret))))
def law25_ReceiverStepsC_j6 (f_law25_awake : Nat) (f_made_New : Nat) (f_law25_made : Nat) (t_api_Item : Nat) (t_uint8 : Nat) (f_made_Deck_Next : Nat) (t_api_Receiver : Nat) (f_receiver_Keep : Nat) (f_ref21_Keep : Nat) (f_ref21_SameReceiver : Nat) (f_receiver_Ready : Nat) (f_ref21_Ready : Nat) (f_ref21_SameItems : Nat) (f_receiver_Valid : Nat) (f_ref21_ReceiverOk : Nat) (f_receiver_Applied : Nat) (f_ref21_Applied : Nat) : PC :=
  (.seq (.reg [((some 29), (none, (.mv (.tmp 2)))),
    ((some 30), (none, (.call f_made_New [(.tmp 29)]))),
    ((some 9), (none, (.mv (.tmp 30))))])
  (.seq (.reg [((some 31), (none, (.mv (.tmp 9)))),
    ((some 32), (none, (.call f_law25_made [(.tmp 31)]))),
    ((some 10), (none, (.alloc [(.int .i64 0), (lin t_api_Item [])]))),
    (none, (none, (.st 2 (.tmp 10) (.tmp 32))))])
  (.seq (.reg [((some 33), (none, (.ldA 68 (.tmp 5)))),
    ((some 11), (none, (.alloc (zItR t_uint8)))),
    (none, (none, (.st 68 (.tmp 11) (.tmp 33))))])
  (.seq (.ord (.one ((some 34), (none, (.fa 0 (.tmp 10))))
    (.one ((some 36), (none, (.mv (.tmp 9))))
    (.alt (.one ((some 35), (none, (.ld false (.tmp 34))))
     (.one ((some 37), (none, (.call f_made_Deck_Next [(.tmp 36), (.const (.int .i64 12))])))
     (.one ((some 38), (none, (.bi .add (.tmp 35) (.tmp 37))))
     (.one ((some 39), (none, (.bi .sub (.tmp 38) (.const (.int .i64 1)))))
     (.one ((some 40), (none, (.fa 0 (.tmp 11))))
     (.one (none, (none, (.st 1 (.tmp 40) (.tmp 39))))
     .done))))))
    (.one ((some 37), (none, (.call f_made_Deck_Next [(.tmp 36), (.const (.int .i64 12))])))
     (.one ((some 35), (none, (.ld false (.tmp 34))))
     (.one ((some 38), (none, (.bi .add (.tmp 35) (.tmp 37))))
     (.one ((some 39), (none, (.bi .sub (.tmp 38) (.const (.int .i64 1)))))
     (.one ((some 40), (none, (.fa 0 (.tmp 11))))
     (.one (none, (none, (.st 1 (.tmp 40) (.tmp 39))))
     .done))))))))))
  (law25_ReceiverStepsC_j5 f_law25_awake t_api_Item t_uint8 f_made_Deck_Next t_api_Receiver f_receiver_Keep f_ref21_Keep f_ref21_SameReceiver f_receiver_Ready f_ref21_Ready f_ref21_SameItems f_receiver_Valid f_ref21_ReceiverOk f_receiver_Applied f_ref21_Applied)))))
def law25_ReceiverStepsC (f_law25_few : Nat) (f_law25_awake : Nat) (f_made_New : Nat) (f_law25_made : Nat) (t_api_Item : Nat) (t_uint8 : Nat) (f_made_Deck_Next : Nat) (t_api_Receiver : Nat) (f_receiver_Keep : Nat) (f_ref21_Keep : Nat) (f_ref21_SameReceiver : Nat) (f_receiver_Ready : Nat) (f_ref21_Ready : Nat) (f_ref21_SameItems : Nat) (f_receiver_Valid : Nat) (f_ref21_ReceiverOk : Nat) (f_receiver_Applied : Nat) (f_ref21_Applied : Nat) : PC :=
  (.seq (.reg [((some 4), (none, (.box 2 (.tmp 0)))),
    ((some 5), (none, (.box 68 (.tmp 1)))),
    ((some 8), (none, (.mv (.const (.bool false)))))])
  (.seq (.seq (.reg [((some 25), (none, (.ldA 2 (.tmp 4)))),
    ((some 26), (none, (.call f_law25_few [(.tmp 25)]))),
    ((some 27), (none, (.un .not (.tmp 26))))])
  (.cond (.tmp 27)
    (.seq (.reg [((some 28), (none, (.call f_law25_awake []))),
      ((some 8), (none, (.mv (.tmp 28))))])
  .ret)
    .skip))
  (law25_ReceiverStepsC_j6 f_law25_awake f_made_New f_law25_made t_api_Item t_uint8 f_made_Deck_Next t_api_Receiver f_receiver_Keep f_ref21_Keep f_ref21_SameReceiver f_receiver_Ready f_ref21_Ready f_ref21_SameItems f_receiver_Valid f_ref21_ReceiverOk f_receiver_Applied f_ref21_Applied)))
/-- macaroon/macaroonlaw25.ReceiverOrder: 109 slots, results [(.t 4)] -/
def law25_ReceiverOrderC_j1 (f_receiver_Applied : Nat) : PC :=
  (.seq (.reg [((some 88), (none, (.ldA 2 (.tmp 5)))),
          ((some 89), (none, (.call f_receiver_Applied [(.tmp 88)]))),
          ((some 90), (none, (.mv (.tmp 7)))),
          ((some 91), (none, (.bi .add (.tmp 90) (.const (.int .i64 1))))),
          (none, (none, (.st 2 (.tmp 5) (.tmp 89)))),
          ((some 7), (none, (.mv (.tmp 91))))])
  (.seq (.reg [((some 92), (none, (.fa 0 (.tmp 5)))),
          ((some 93), (none, (.ld false (.tmp 92)))),
          ((some 94), (none, (.mv (.tmp 7)))),
          ((some 95), (none, (.bi .sub (.tmp 94) (.const (.int .i64 1))))),
          ((some 96), (none, (.bi .neq (.tmp 93) (.tmp 95))))])
  (.cond (.tmp 96)
          (.seq (.reg [((some 4), (none, (.mv (.const (.bool false)))))])
  .ret)
          .skip)))
def law25_ReceiverOrderC_j2 (f_receiver_Applied : Nat) : PC :=
  (.seq (.seq (.reg [((some 72), (none, (.fa 0 (.tmp 12)))),
          ((some 73), (none, (.ld false (.tmp 72)))),
          ((some 74), (none, (.mv (.tmp 7)))),
          ((some 75), (none, (.bi .neq (.tmp 73) (.tmp 74)))),
          ((some 76), (none, (.mv (.tmp 75)))),
          ((some 77), ((some (76, false)), (.fa 2 (.tmp 12)))),
          ((some 78), ((some (76, false)), (.ld false (.tmp 77)))),
          ((some 79), ((some (76, false)), (.mv (.tmp 7)))),
          ((some 80), ((some (76, false)), (.bi .mul (.const (.int .i64 7)) (.tmp 79)))),
          ((some 81), ((some (76, false)), (.bi .neq (.tmp 78) (.tmp 80)))),
          ((some 82), (none, (.pick (.tmp 76) (.const (.bool true)) (.tmp 81)))),
          ((some 83), (none, (.mv (.tmp 82)))),
          ((some 84), ((some (83, false)), (.mv (.tmp 7)))),
          ((some 85), ((some (83, false)), (.mv (.tmp 6)))),
          ((some 86), ((some (83, false)), (.bi .gtr (.tmp 84) (.tmp 85)))),
          ((some 87), (none, (.pick (.tmp 83) (.const (.bool true)) (.tmp 86))))])
  (.cond (.tmp 87)
          (.seq (.reg [((some 4), (none, (.mv (.const (.bool false)))))])
  .ret)
          .skip))
  (law25_ReceiverOrderC_j1 f_receiver_Applied))
def law25_ReceiverOrderC_j3 (f_receiver_Ready : Nat) (t_uint8 : Nat) (f_receiver_Applied : Nat) : PC :=
  (.block 2 (.loop (.block 3 (.seq (.reg [((some 66), (none, (.ldA 2 (.tmp 5)))),
          ((some 67), (none, (.call f_receiver_Ready [(.tmp 66)]))),
          ((some 65), (none, (.steal 67))),
          ((some 68), (none, (.extr 65 0))),
          ((some 69), (none, (.extr 65 1))),
          ((some 12), (none, (.alloc (zItR t_uint8)))),
          (none, (none, (.st 68 (.tmp 12) (.tmp 68)))),
          ((some 13), (none, (.mv (.tmp 69))))])
  (.seq (.seq (.reg [((some 70), (none, (.mv (.tmp 13)))),
          ((some 71), (none, (.un .not (.tmp 70))))])
  (.cond (.tmp 71)
          (.exit 2)
          .skip))
  (law25_ReceiverOrderC_j2 f_receiver_Applied))))))
def law25_ReceiverOrderC_j4 (t_api_Item : Nat) (f_receiver_Keep : Nat) (f_receiver_Ready : Nat) (t_uint8 : Nat) (f_receiver_Applied : Nat) : PC :=
  (.seq (.reg [((some 48), (none, (.ldA 2 (.tmp 5)))),
       ((some 49), (none, (.mv (.tmp 9)))),
       ((some 50), (none, (.mv (.tmp 9)))),
       ((some 51), (none, (.bi .mul (.tmp 50) (.const (.int .i64 7))))),
       ((some 52), (none, (.build [(.inr ((.tmp 49), 1)), (.inl [(.int .i64 0)]), (.inr ((.tmp 51), 1)), (.inl zTag.cells), (.inl [(deep [])]), (.inl zTag.cells)]))),
       ((some 53), (none, (.call f_receiver_Keep [(.tmp 48), (.tmp 52)]))),
       ((some 47), (none, (.steal 53))),
       ((some 54), (none, (.extr 47 0))),
       ((some 55), (none, (.extr 47 1))),
       ((some 10), (none, (.alloc [(.int .i64 0), (lin t_api_Item [])]))),
       (none, (none, (.st 2 (.tmp 10) (.tmp 54)))),
       ((some 11), (none, (.mv (.tmp 55))))])
  (.seq (.seq (.reg [((some 56), (none, (.mv (.tmp 11)))),
       ((some 57), (none, (.bi .eql (.tmp 56) (.const (.int .i64 0)))))])
  (.cond (.tmp 57)
       (.reg [((some 58), (none, (.ldA 2 (.tmp 10)))),
         (none, (none, (.st 2 (.tmp 5) (.tmp 58))))])
       (.seq (.reg [((some 59), (none, (.mv (.tmp 11)))),
         ((some 60), (none, (.bi .neq (.tmp 59) (.const (.int .i64 10))))),
         ((some 61), (none, (.mv (.tmp 60)))),
         ((some 62), ((some (61, true)), (.mv (.tmp 11)))),
         ((some 63), ((some (61, true)), (.bi .neq (.tmp 62) (.const (.int .i64 11))))),
         ((some 64), (none, (.pick (.tmp 61) (.tmp 63) (.const (.bool false)))))])
  (.cond (.tmp 64)
         (.seq (.reg [((some 4), (none, (.mv (.const (.bool false)))))])
  .ret)
         .skip))))
  (law25_ReceiverOrderC_j3 f_receiver_Ready t_uint8 f_receiver_Applied)))
def law25_ReceiverOrderC_j5 (t_api_Item : Nat) (f_receiver_Keep : Nat) (f_receiver_Ready : Nat) (t_uint8 : Nat) (f_receiver_Applied : Nat) : PC :=
  (.seq (.block 1 (.seq (.reg [((some 30), (none, (.mv (.tmp 8)))),
       ((some 31), (none, (.mv (.tmp 0)))),
       ((some 32), (none, (.len (.tmp 31)))),
       ((some 33), (none, (.bi .sub (.tmp 30) (.tmp 32)))),
       ((some 34), (none, (.bi .add (.tmp 33) (.const (.int .i64 1))))),
       ((some 9), (none, (.mv (.tmp 34))))])
  (.seq (.seq (.reg [((some 35), (none, (.mv (.tmp 8)))),
       ((some 36), (none, (.mv (.tmp 0)))),
       ((some 37), (none, (.len (.tmp 36)))),
       ((some 38), (none, (.bi .lss (.tmp 35) (.tmp 37))))])
  (.cond (.tmp 38)
       (.reg [((some 39), (none, (.mv (.tmp 0)))),
         ((some 40), (none, (.mv (.tmp 8)))),
         ((some 41), (none, (.ixS 1 (.tmp 39) (.tmp 40)))),
         ((some 42), (none, (.ld false (.tmp 41)))),
         ((some 43), (none, (.cv .i64 (.tmp 42)))),
         ((some 44), (none, (.mv (.tmp 6)))),
         ((some 45), (none, (.bi .rem (.tmp 43) (.tmp 44)))),
         ((some 46), (none, (.bi .add (.const (.int .i64 1)) (.tmp 45)))),
         ((some 9), (none, (.mv (.tmp 46))))])
       .skip))
  (law25_ReceiverOrderC_j4 t_api_Item f_receiver_Keep f_receiver_Ready t_uint8 f_receiver_Applied))))
  (.reg [((some 28), (none, (.mv (.tmp 8)))),
      ((some 29), (none, (.bi .add (.tmp 28) (.const (.int .i64 1))))),
      ((some 8), (none, (.mv (.tmp 29))))]))
def law25_ReceiverOrderC_j6 (f_law25_awake : Nat) : PC :=
  (.seq (.reg [((some 97), (none, (.mv (.tmp 0)))),
    ((some 98), (none, (.len (.tmp 97)))),
    ((some 99), (none, (.bi .gtr (.tmp 98) (.const (.int .i64 150))))),
    ((some 100), (none, (.mv (.tmp 99)))),
    ((some 101), ((some (100, false)), (.mv (.tmp 7)))),
    ((some 102), ((some (100, false)), (.mv (.tmp 6)))),
    ((some 103), ((some (100, false)), (.bi .add (.tmp 102) (.const (.int .i64 1))))),
    ((some 104), ((some (100, false)), (.bi .eql (.tmp 101) (.tmp 103)))),
    ((some 105), (none, (.pick (.tmp 100) (.const (.bool true)) (.tmp 104)))),
    ((some 106), (none, (.mv (.tmp 105)))),
    ((some 107), ((some (106, true)), (.call f_law25_awake []))),
    ((some 108), (none, (.pick (.tmp 106) (.tmp 107) (.const (.bool false))))),
    ((some 4), (none, (.mv (.tmp 108))))])
  .ret)
def law25_ReceiverOrderC (t_api_Item : Nat) (f_receiver_Keep : Nat) (f_receiver_Ready : Nat) (t_uint8 : Nat) (f_receiver_Applied : Nat) (f_law25_awake : Nat) : PC :=
  (.seq (.reg [((some 4), (none, (.mv (.const (.bool false)))))])
  (.seq (.reg [((some 5), (none, (.alloc [(.int .i64 0), (lin t_api_Item [])])))])
  (.seq (.reg [((some 14), (none, (.mv (.tmp 1)))),
    ((some 15), (none, (.cv .i64 (.tmp 14)))),
    ((some 16), (none, (.bi .rem (.tmp 15) (.const (.int .i64 20))))),
    ((some 17), (none, (.bi .add (.const (.int .i64 1)) (.tmp 16)))),
    ((some 6), (none, (.mv (.tmp 17))))])
  (.seq (.reg [((some 7), (none, (.mv (.const (.int .i64 1)))))])
  (.seq (.seq (.reg [((some 8), (none, (.mv (.const (.int .i64 0)))))])
  (.block 0 (.loop (.seq (.seq (.reg [((some 18), (none, (.mv (.tmp 8)))),
      ((some 19), (none, (.mv (.tmp 0)))),
      ((some 20), (none, (.len (.tmp 19)))),
      ((some 21), (none, (.mv (.tmp 6)))),
      ((some 22), (none, (.bi .add (.tmp 20) (.tmp 21)))),
      ((some 23), (none, (.bi .lss (.tmp 18) (.tmp 22)))),
      ((some 24), (none, (.mv (.tmp 23)))),
      ((some 25), ((some (24, true)), (.mv (.tmp 8)))),
      ((some 26), ((some (24, true)), (.bi .lss (.tmp 25) (.const (.int .i64 200))))),
      ((some 27), (none, (.pick (.tmp 24) (.tmp 26) (.const (.bool false)))))])
  (.cond (.tmp 27)
      .skip
      (.exit 0)))
  (law25_ReceiverOrderC_j5 t_api_Item f_receiver_Keep f_receiver_Ready t_uint8 f_receiver_Applied)))))
  (law25_ReceiverOrderC_j6 f_law25_awake))))))
end Go.PE
namespace Go.PE
open Go
structure Itm where
  place : Int
  kind : Int
  num : Int
  node : Tag
  bx : List Int
  tag : Tag
def Itm.cells (x : Itm) : List Value := .int .i64 x.place :: .int .i64 x.kind :: .int .i64 x.num :: (x.node.cells ++ bytesV x.bx :: x.tag.cells)
def Itm.v (x : Itm) : Value := PE.ag x.cells
@[simp] theorem Itm.len (x : Itm) : x.cells.length = 68 := by simp [Itm.cells]
@[simp] theorem Itm.dg1s (x : Itm) : x.cells.map dg1 = x.cells := by simp [Itm.cells]
@[simp] theorem Itm.dgv (x : Itm) : dg x.v = x.v := _root_.id rfl
@[simp] theorem Itm.dg1v (x : Itm) : dg1 x.v = x.v := _root_.id rfl
@[simp] theorem Itm.dgTv (x : Itm) : dgT x.v = x.v := _root_.id rfl
@[simp] theorem Itm.cellsOf (x : Itm) : PE.cellsOf x.v = some x.cells := _root_.id rfl
@[simp] theorem Itm.lcv (x : Itm) : lc x.v = x.cells := _root_.id rfl
@[simp] theorem Itm.asAgv (x : Itm) : asAg x.v = some x.cells := _root_.id rfl
@[simp] theorem Itm.take68 (x : Itm) : x.cells.take 68 = x.cells := List.take_of_length_le (by simp)
@[simp] theorem Itm.drop68 (x : Itm) : x.cells.drop 68 = [] := List.drop_of_length_le (by simp)
@[simp] theorem Itm.get0 (x : Itm) : x.cells[0]? = some (.int .i64 x.place) := _root_.id rfl
@[simp] theorem Itm.get1 (x : Itm) : x.cells[1]? = some (.int .i64 x.kind) := _root_.id rfl
@[simp] theorem Itm.get2 (x : Itm) : x.cells[2]? = some (.int .i64 x.num) := _root_.id rfl
theorem it_35 (a b c d : Value) (n g : List Value) (hn : n.length = 32) : (a :: b :: c :: (n ++ d :: g))[35]? = some d := by
  simp only [List.getElem?_cons_succ]
  rw [List.getElem?_append_right (by omega)]
  simp [hn]
@[simp] theorem Itm.get35 (x : Itm) : x.cells[35]? = some (bytesV x.bx) := it_35 _ _ _ _ _ _ (by simp)
@[simp] theorem Itm.getE0 (x : Itm) (h : 0 < x.cells.length) : x.cells[0] = .int .i64 x.place := _root_.id rfl
@[simp] theorem Itm.getE1 (x : Itm) (h : 1 < x.cells.length) : x.cells[1] = .int .i64 x.kind := _root_.id rfl
@[simp] theorem Itm.getE2 (x : Itm) (h : 2 < x.cells.length) : x.cells[2] = .int .i64 x.num := _root_.id rfl
@[simp] theorem Itm.getE35 (x : Itm) (h : 35 < x.cells.length) : x.cells[35] = bytesV x.bx := getE_of x.get35 h
@[simp] theorem Itm.cut3 (x : Itm) : (x.cells.drop 3).take 32 = x.node.cells := by
  simp only [Itm.cells, List.drop_succ_cons, List.drop_zero]
  rw [List.take_append_of_le_length (by simp)]; simp
@[simp] theorem Itm.cut36 (x : Itm) : (x.cells.drop 36).take 32 = x.tag.cells := by
  simp only [Itm.cells, List.drop_succ_cons, List.drop_zero]
  rw [List.drop_append, List.drop_of_length_le (by simp)]
  simp
theorem Itm.ag (x : Itm) : PE.ag x.cells = x.v := rfl
/-- it is put together -/
theorem Itm.fold (p k n : Int) (s t : Tag) (b : List Int) : (.int .i64 p :: .int .i64 k :: .int .i64 n :: (s.cells ++ deep (b.map (.int .u8)) :: t.cells) : List Value) = (Itm.mk p k n s b t).cells := rfl
theorem Itm.fold0 (p k n : Int) (s t : Tag) : (.int .i64 p :: .int .i64 k :: .int .i64 n :: (s.cells ++ deep [] :: t.cells) : List Value) = (Itm.mk p k n s [] t).cells := rfl
def zItm : Itm := ⟨0, 0, 0, zTag, [], zTag⟩
@[simp] theorem zItR_len (t : Nat) : (zItR t).length = 68 := by simp [zItR]
@[simp] theorem zItN_len : zItN.length = 68 := by simp [zItN]
@[simp] theorem zItD_len : zItD.length = 68 := by simp [zItD]
@[simp] theorem zItR_drop (t : Nat) : (zItR t).drop 68 = [] := List.drop_of_length_le (by simp)
@[simp] theorem zItN_drop : zItN.drop 68 = [] := List.drop_of_length_le (by simp)
def itEl : El Itm := ⟨Itm.cells, Itm.v, 68, fun _ => rfl, Itm.len, Itm.dg1s⟩
theorem elem_itm {l : List Itm} {n : Int} (h0 : 0 ≤ n) (hn : n.toNat < l.length) : elemAt (l.map Itm.v) n 68 = some (dptr 0 l[n.toNat].cells) := elemAt_map h0 hn rfl (by simp)
def Itm.wf (x : Itm) : Prop := inBytes x.bx
/-- a receiver -/
structure Rcv where
  ap : Int
  l : List Itm
def Rcv.cells (r : Rcv) : List Value := [.int .i64 r.ap, deep (r.l.map Itm.v)]
def Rcv.v (r : Rcv) : Value := PE.ag r.cells
@[simp] theorem Rcv.len (x : Rcv) : x.cells.length = 2 := _root_.id rfl
@[simp] theorem Rcv.dg1s (x : Rcv) : x.cells.map dg1 = x.cells := _root_.id rfl
@[simp] theorem Rcv.dgv (x : Rcv) : dg x.v = x.v := _root_.id rfl
@[simp] theorem Rcv.dg1v (x : Rcv) : dg1 x.v = x.v := _root_.id rfl
@[simp] theorem Rcv.dgTv (x : Rcv) : dgT x.v = x.v := _root_.id rfl
@[simp] theorem Rcv.cellsOf (x : Rcv) : PE.cellsOf x.v = some x.cells := _root_.id rfl
@[simp] theorem Rcv.lcv (x : Rcv) : lc x.v = x.cells := _root_.id rfl
@[simp] theorem Rcv.asAgv (x : Rcv) : asAg x.v = some x.cells := _root_.id rfl
@[simp] theorem Rcv.take2 (x : Rcv) : x.cells.take 2 = x.cells := _root_.id rfl
@[simp] theorem Rcv.drop2 (x : Rcv) : x.cells.drop 2 = [] := _root_.id rfl
@[simp] theorem Rcv.get0 (x : Rcv) : x.cells[0]? = some (.int .i64 x.ap) := _root_.id rfl
@[simp] theorem Rcv.get1 (x : Rcv) : x.cells[1]? = some (deep (x.l.map Itm.v)) := _root_.id rfl
@[simp] theorem Rcv.getE0 (x : Rcv) (h : 0 < x.cells.length) : x.cells[0] = .int .i64 x.ap := _root_.id rfl
@[simp] theorem Rcv.getE1 (x : Rcv) (h : 1 < x.cells.length) : x.cells[1] = deep (x.l.map Itm.v) := _root_.id rfl
theorem Rcv.ag (x : Rcv) : PE.ag x.cells = x.v := rfl
def Rcv.wf (r : Rcv) : Prop := ∀ x ∈ r.l, x.wf
/-- the places ascend, within the window -/
def asc (ap : Int) : Int → List Itm → Bool
  | _, [] => true
  | b, x :: r => decide (b < x.place) && decide (x.place ≤ ap + 8) && asc ap x.place r
def Rcv.val (r : Rcv) : Bool := decide (0 ≤ r.ap) && decide (r.ap ≤ 4096) && decide (r.l.length ≤ 8) && asc r.ap r.ap r.l
def FewROK (P : Program) (f : Nat) : Prop := ∀ (r : Rcv) (H : Nat → Option (List Value)) (nx : Nat), PCalls P f [r.v] H nx (fun _ => False) (fun v H' _ => v = .bool (decide (r.l.length ≤ 40)) ∧ H' = H)
theorem fewR_ok {P : Program} {f : Nat} (hc : compFn P f = some (7, law25_fewC, [.t 2])) : FewROK P f := by
  intro r H nx
  refine PCalls_of hc (by simp) fun hw => ?_
  simp [law25_fewC]
  exact wF_own hw (by simp) ⟨by simp; omega, rfl⟩
def RValOK (P : Program) (f : Nat) : Prop := ∀ (r : Rcv), r.l.length ≤ maxLen → ∀ (H : Nat → Option (List Value)) (nx : Nat), PCalls P f [r.v] H nx (fun _ => False) (fun v H' _ => v = .bool r.val ∧ H' = H)
theorem rval_ok {P : Program} {f t : Nat} (hc : compFn P f = some (44, receiver_ValidC t, [.t 2])) : RValOK P f := by
  intro r hlen H nx
  refine PCalls_of hc (by simp) fun hw => ?_
  have hmx : (maxLen : Int) = 9223372036854775807 := rfl
  by_cases h1 : 0 ≤ r.ap
  case neg =>
    simp [receiver_ValidC, show r.ap < 0 by omega]
    exact wF_own hw (by simp) ⟨by simp [Rcv.val, h1], rfl⟩
  by_cases h2 : r.ap ≤ 4096
  case neg =>
    simp [receiver_ValidC, show ¬ r.ap < 0 by omega, show 4096 < r.ap by omega]
    exact wF_own hw (by simp) ⟨by simp [Rcv.val, h2], rfl⟩
  by_cases h3 : r.l.length ≤ 8
  case neg =>
    simp [receiver_ValidC, show ¬ r.ap < 0 by omega, show ¬ 4096 < r.ap by omega, show (8 : Int) < r.l.length by omega]
    exact wF_own hw (by simp) ⟨by simp [Rcv.val, h3], rfl⟩
  have hw8 := w64 (x := r.ap + 8) (by omega) (by omega)
  have hv : r.val = asc r.ap r.ap r.l := by simp [Rcv.val, h1, h2, h3]
  simp [receiver_ValidC, receiver_ValidC_j2, show ¬ r.ap < 0 by omega, show ¬ 4096 < r.ap by omega, show ¬ (8 : Int) < r.l.length by omega]
  obtain ⟨I, hI⟩ : ∃ I : PS → Prop, ∀ s, I s ↔ (∃ (i : Nat) (b : Int), i ≤ r.l.length ∧ s.t 1 = ptr nx 0 ∧ s.t 3 = .int .i64 b ∧ s.t 23 = deep (r.l.map Itm.v) ∧ s.t 24 = .int .i64 r.l.length ∧ s.t 25 = .int .i64 i ∧ nx < s.nx ∧ s.H nx = some r.cells ∧ Own nx H s.H ∧ r.val = asc r.ap b (r.l.drop i)) := ⟨_, fun _ => Iff.rfl⟩
  refine wpc_loop _ _ _ _ _ _ I (fun s => match s.t 25 with | .int _ i => (r.l.length - i).toNat | _ => 0) _ ((hI _).2 ⟨0, r.ap, by omega, by simp, by simp, by simp, by simp, by simp, by simp, by simp, by simp, by simp [hv]⟩) ?_
  rintro ⟨T, H', nx'⟩ hs
  obtain ⟨i, b, hi, e1, e3, e23, e24, e25, hnx, hHn, hown, hall⟩ := (hI _).1 hs
  simp only at e1 e3 e23 e24 e25 hnx hHn hown
  simp [e24, e25]
  refine wB_of (fun hlt => ?_) (fun hlt => ?_)
  · simp at hlt
    have he := elem_itm (l := r.l) (n := (i : Int)) (by omega) (by simpa using hlt)
    simp at he
    have hw1 := w64 (x := (i : Int) + 1) (by omega) (by omega)
    have k1 : ¬ nx = nx' := by omega
    have hst : asc r.ap b (r.l.drop i) = (decide (b < r.l[i].place) && decide (r.l[i].place ≤ r.ap + 8) && asc r.ap r.l[i].place (r.l.drop (i + 1))) := by
      rw [List.drop_eq_getElem_cons hlt]; rfl
    rw [hst] at hall
    by_cases g1 : r.l[i].place ≤ b
    · simp [receiver_ValidC_j1, e1, e3, e23, e25, he, g1, Itm.ag, show nx ≤ nx' by omega]
      exact wF_own hw (by simp [hown, show nx ≤ nx' by omega]) ⟨by rw [hall]; simp; omega, rfl⟩
    by_cases g2 : r.ap + 8 < r.l[i].place
    · simp [receiver_ValidC_j1, e1, e3, e23, e25, he, g1, g2, Itm.ag, show nx ≤ nx' by omega, k1, hHn, hw8]
      exact wF_own hw (by simp [hown, show nx ≤ nx' by omega]) ⟨by rw [hall]; simp; omega, rfl⟩
    simp [receiver_ValidC_j1, e1, e3, e23, e25, he, g1, g2, Itm.ag, show nx ≤ nx' by omega, k1, hHn, hw8, hw1]
    refine kLoop_nrm _ _ _ _ (Sub_refl _ _) ((hI _).2 ⟨i + 1, r.l[i].place, by omega, by simp [e1], by simp, by simp [e23], by simp [e24], by simp, by simp; omega, by simp [k1, hHn], by simp [hown, show nx ≤ nx' by omega], ?_⟩) (by simp; omega)
    rw [hall]; simp [show b < r.l[i].place by omega, show r.l[i].place ≤ r.ap + 8 by omega]
  · simp at hlt
    rw [drop_all hlt] at hall
    exact wF_own hw (by simpa using hown) ⟨by rw [hall]; rfl, rfl⟩
theorem rokay_ok {P : Program} {f : Nat} (hc : compFn P f = some (54, ref21_ReceiverOkC, [.t 2])) : RValOK P f := by
  intro r hlen H nx
  refine PCalls_of hc (by simp) fun hw => ?_
  have hmx : (maxLen : Int) = 9223372036854775807 := rfl
  by_cases h1 : 0 ≤ r.ap
  case neg =>
    simp [ref21_ReceiverOkC, show r.ap < 0 by omega]
    exact wF_own hw (by simp) ⟨by simp [Rcv.val, h1], rfl⟩
  by_cases h2 : r.ap ≤ 4096
  case neg =>
    simp [ref21_ReceiverOkC, show ¬ r.ap < 0 by omega, show 4096 < r.ap by omega]
    exact wF_own hw (by simp) ⟨by simp [Rcv.val, h2], rfl⟩
  by_cases h3 : r.l.length ≤ 8
  case neg =>
    simp [ref21_ReceiverOkC, show ¬ r.ap < 0 by omega, show ¬ 4096 < r.ap by omega, show (8 : Int) < r.l.length by omega]
    exact wF_own hw (by simp) ⟨by simp [Rcv.val, h3], rfl⟩
  have hw8 := w64 (x := r.ap + 8) (by omega) (by omega)
  have hv : r.val = asc r.ap r.ap r.l := by simp [Rcv.val, h1, h2, h3]
  simp [ref21_ReceiverOkC, ref21_ReceiverOkC_j3, show ¬ r.ap < 0 by omega, show ¬ 4096 < r.ap by omega, show ¬ (8 : Int) < r.l.length by omega]
  obtain ⟨I, hI⟩ : ∃ I : PS → Prop, ∀ s, I s ↔ (∃ (i : Nat) (b : Int), i ≤ r.l.length ∧ s.t 1 = ptr nx 0 ∧ s.t 3 = .int .i64 b ∧ s.t 4 = .int .i64 i ∧ s.H = upd H nx (some r.cells) ∧ r.val = asc r.ap b (r.l.drop i)) := ⟨_, fun _ => Iff.rfl⟩
  refine wpc_loop _ _ _ _ _ _ I (fun s => match s.t 4 with | .int _ i => (r.l.length - i).toNat | _ => 0) _ ((hI _).2 ⟨0, r.ap, by omega, by simp, by simp, by simp, rfl, by simp [hv]⟩) ?_
  rintro ⟨T, H', nx'⟩ hs
  obtain ⟨i, b, hi, e1, e3, e4, hH', hall⟩ := (hI _).1 hs
  simp only at e1 e3 e4 hH'
  subst hH'
  simp [e1, e4]
  refine wB_of (fun hlt => ?_) (fun hlt => ?_)
  · simp at hlt
    have he := elem_itm (l := r.l) (n := (i : Int)) (by omega) (by simpa using hlt)
    simp at he
    have hw1 := w64 (x := (i : Int) + 1) (by omega) (by omega)
    have hst : asc r.ap b (r.l.drop i) = (decide (b < r.l[i].place) && decide (r.l[i].place ≤ r.ap + 8) && asc r.ap r.l[i].place (r.l.drop (i + 1))) := by
      rw [List.drop_eq_getElem_cons hlt]; rfl
    rw [hst] at hall
    by_cases g1 : r.l[i].place ≤ b
    · simp [ref21_ReceiverOkC_j2, e1, e3, e4, he, g1]
      exact wF_own hw (by simp) ⟨by rw [hall]; simp; omega, rfl⟩
    by_cases g2 : r.ap + 8 < r.l[i].place
    · simp [ref21_ReceiverOkC_j2, e1, e3, e4, he, g1, g2, hw8]
      exact wF_own hw (by simp) ⟨by rw [hall]; simp; omega, rfl⟩
    simp [ref21_ReceiverOkC_j2, ref21_ReceiverOkC_j1, e1, e3, e4, he, g1, g2, hw8, hw1]
    refine kLoop_nrm _ _ _ _ (Sub_refl _ _) ((hI _).2 ⟨i + 1, r.l[i].place, by omega, by simp [e1], by simp, by simp, rfl, ?_⟩) (by simp; omega)
    rw [hall]; simp [show b < r.l[i].place by omega, show r.l[i].place ≤ r.ap + 8 by omega]
  · simp at hlt
    rw [drop_all hlt] at hall
    exact wF_own hw (by simp) ⟨by rw [hall]; rfl, rfl⟩
end Go.PE
