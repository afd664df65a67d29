/- Layer 28 in this seat: the pure code of its functions, and what they compute. Layer 28: each law's contract for whatever arguments its row speaks of. LedgerNever of this seat: the law's walk. -/
import Derived.Test.YtabichlcgiafcaaLedg
import Derived.Test.YtabichlcgiafcaaEngC
import Derived.Test.YtabichlcgiafcaaChecked
import Derived.KernelRfl
import Derived.Test.YtabichlcgiafcaaRows
set_option linter.all false
namespace Go.Proofs.Ytabichlcgiafcaa
open Go Go.PE
theorem law28_LedgerSteps_fn : compFn Try.prog 3 = some (106, (law28_LedgerStepsC 7 8 9 10 34 11 22 26 23 12 13 14 15 16 17 18), [(.t 8)]) := by kernel_rfl
theorem law28_LedgerAdds_fn : compFn Try.prog 4 = some (70, (law28_LedgerAddsC 8 9 10 12 7 17 15), [(.t 4)]) := by kernel_rfl
theorem law28_LedgerRoom_fn : compFn Try.prog 5 = some (124, (law28_LedgerRoomC 7 8 9 56 91 26 11 19 5 50 23 21 22 20 23 24), [(.t 8)]) := by kernel_rfl
theorem law28_LedgerNever_fn : compFn Try.prog 6 = some (108, (law28_LedgerNeverC 8 56 91 26 11 34 23 21 12 17 7), [(.t 2)]) := by kernel_rfl
theorem law28_awake_fn : compFn Try.prog 7 = some (42, (law28_awakeC 56 91 26 21 12 17), [(.t 0)]) := by kernel_rfl
theorem made_New_fn : compFn Try.prog 8 = some (6, made_NewC, [(.t 2)]) := by kernel_rfl
theorem law28_counts_B_fn : compFnX Try.prog [34] 9 = some (30, (law28_counts_BC 10 13 11), [(.t 2)]) := by kernel_rfl
theorem law28_tags_fn : compFn Try.prog 10 = some (23, (law28_tagsC 26 11), [(.t 4)]) := by kernel_rfl
theorem made_Deck_Next_fn : compFn Try.prog 11 = some (35, (made_Deck_NextC 25), [(.t 4)]) := by kernel_rfl
theorem ledger_Add_B_fn : compFnX Try.prog [34] 12 = some (60, (ledger_Add_BC 15 26 34), [(.t 4), (.t 5)]) := by kernel_rfl
theorem ref26_AddRides_B_fn : compFnX Try.prog [34] 13 = some (74, (ref26_AddRides_BC 16 34), [(.t 4), (.t 5)]) := by kernel_rfl
theorem ref26_SameCounts_fn : compFn Try.prog 14 = some (26, ref26_SameCountsC, [(.t 4)]) := by kernel_rfl
theorem ledger_Valid_fn : compFn Try.prog 15 = some (35, (ledger_ValidC 26), [(.t 2)]) := by kernel_rfl
theorem ref26_CountsOk_fn : compFn Try.prog 16 = some (41, ref26_CountsOkC, [(.t 2)]) := by kernel_rfl
theorem ledger_Number_fn : compFn Try.prog 17 = some (16, (ledger_NumberC 26), [(.t 4)]) := by kernel_rfl
theorem ref26_Number_fn : compFn Try.prog 18 = some (24, ref26_NumberC, [(.t 4)]) := by kernel_rfl
theorem made_Deck_Caveat_fn : compFn Try.prog 19 = some (20, (made_Deck_CaveatC 5 11 27 28), [(.cA 2 10)]) := by kernel_rfl
theorem ref01_SameTags_fn : compFn Try.prog 20 = some (26, ref01_SameTagsC, [(.t 4)]) := by kernel_rfl
theorem ledger_Limited_fn : compFn Try.prog 21 = some (28, (ledger_LimitedC 26 29), [(.t 4)]) := by kernel_rfl
theorem ref26_Limited_fn : compFn Try.prog 22 = some (34, (ref26_LimitedC 26 30), [(.t 4)]) := by kernel_rfl
theorem ledger_Room_fn : compFn Try.prog 23 = some (38, (ledger_RoomC 29 17), [(.t 6)]) := by kernel_rfl
theorem ref26_Room_fn : compFn Try.prog 24 = some (47, (ref26_RoomC 30 18), [(.t 6)]) := by kernel_rfl
theorem made_Within_fn : compFn Try.prog 25 = some (12, made_WithinC, [(.t 4)]) := by kernel_rfl
theorem ledger_index_fn : compFn Try.prog 26 = some (20, ledger_indexC, [(.t 4)]) := by kernel_rfl
theorem made_Deck_Predicate_fn : compFn Try.prog 27 = some (81, (made_Deck_PredicateC 31 32 33 11 34 35), [(.cA 4 6)]) := by kernel_rfl
theorem made_Deck_Bytes_fn : compFn Try.prog 28 = some (22, (made_Deck_BytesC 5 11), [(.t 4)]) := by kernel_rfl
theorem verify_Limits_fn : compFn Try.prog 29 = some (30, (verify_LimitsC 3 5), [(.t 2)]) := by kernel_rfl
theorem ref16_Limits_fn : compFn Try.prog 30 = some (35, (ref16_LimitsC 3), [(.t 2)]) := by kernel_rfl
theorem made_Deck_Range_fn : compFn Try.prog 31 = some (15, (made_Deck_RangeC 11), [(.t 6)]) := by kernel_rfl
theorem made_Deck_mask_fn : compFn Try.prog 32 = some (45, (made_Deck_maskC 11), [(.t 4)]) := by kernel_rfl
theorem made_Deck_Minute_fn : compFn Try.prog 33 = some (25, (made_Deck_MinuteC 11), [(.t 2)]) := by kernel_rfl
theorem made_Deck_Name_fn : compFn Try.prog 34 = some (8, (made_Deck_NameC 9 11), [(.t 2)]) := by kernel_rfl
theorem made_Deck_Upto_fn : compFn Try.prog 35 = some (32, (made_Deck_UptoC 11), [(.t 4)]) := by kernel_rfl
theorem within : WithinOK Try.prog 25 := within_ok made_Within_fn
theorem next : NextW Try.prog 11 := next_w (next_ok made_Deck_Next_fn within)
theorem range : ∀ lo hi : Int, 0 ≤ lo → lo ≤ hi → hi < 4611686018427387904 → Draws Try.prog 31 [.int .i64 lo, .int .i64 hi] (isI lo hi) := range_w made_Deck_Range_fn next
theorem minute : Draws Try.prog 33 [] (isI 0 67108864) := minute_w made_Deck_Minute_fn next
theorem dname : Draws Try.prog 34 [] isN := name_w made_Deck_Name_fn next
theorem upto : ∀ n : Int, 2 ≤ n → n < 4611686018427387903 → Draws Try.prog 35 [.int .i64 n] (isI 0 n) := upto_w made_Deck_Upto_fn next
theorem dmask : ∀ n : Int, 1 ≤ n → n ≤ 64 → Draws Try.prog 32 [.int .i64 n] (isMask n) := mask_w made_Deck_mask_fn next
theorem dpred (b : Bool) : Draws Try.prog 27 [.bool b] (isPred b) := predicate_w made_Deck_Predicate_fn next range dmask minute dname upto b
theorem dbytes (n : Int) (h0 : 0 ≤ n) (h1 : n ≤ 1000000) : Draws Try.prog 28 [.int .i64 n] (isBytes 5 n) := bytes_w made_Deck_Bytes_fn next n h0 h1
theorem dcav : Draws Try.prog 19 [] isCav := caveat_w made_Deck_Caveat_fn next dpred dbytes
theorem dtags (n : Int) (h0 : 0 ≤ n) (h1 : n ≤ 1000000) : Draws Try.prog 10 [.int .i64 n] (isTags 26 n) := tags_w law28_tags_fn next n h0 h1
theorem new : NewOK Try.prog 8 := fun l H nx => new_ok made_New_fn l H nx
theorem index : IndexOK Try.prog 26 := index_ok ledger_index_fn
theorem number : NumOK Try.prog 17 := number_ok ledger_Number_fn index
theorem rnumber : NumOK Try.prog 18 := rnumber_ok ref26_Number_fn
theorem lvalid : CValOK Try.prog 15 := lvalid_ok ledger_Valid_fn index
theorem rvalid : CValOK Try.prog 16 := rvalidC_ok ref26_CountsOk_fn
theorem add : AddOK Try.prog 12 := add_ok ledger_Add_B_fn lvalid index
theorem radd : AddOK Try.prog 13 := radd_ok ref26_AddRides_B_fn rvalid
theorem dcounts : Draws Try.prog 9 [] isCounts := counts_w law28_counts_B_fn next dtags ref26_AddRides_B_fn rvalid
theorem sameC : SameCOK Try.prog 14 := sameC_ok ref26_SameCounts_fn
theorem sameT : SameTOK Try.prog 20 := sameT_ok ref01_SameTags_fn
theorem lim : LimOK Try.prog 29 3 := lim_ok verify_Limits_fn
theorem rlim : LimOK Try.prog 30 3 := rlim_ok ref16_Limits_fn
theorem limd : LimdOK Try.prog 21 26 := limd_ok ledger_Limited_fn lim
theorem rlimd : LimdOK Try.prog 22 26 := rlimd_ok ref26_Limited_fn rlim
theorem room : RoomOK Try.prog 23 := room_ok ledger_Room_fn lim number
theorem rroom : RoomOK Try.prog 24 := rroom_ok ref26_Room_fn rlim rnumber
theorem awake : AwOK Try.prog 7 := awake28_ok law28_awake_fn limd add number
end Go.Proofs.Ytabichlcgiafcaa
namespace Go.Proofs.Ytabichlcgiafcaa
open Go Go.PE
theorem kCnt : flat Try.prog 4 34 = some (List.replicate 32 (.int .u8) ++ [.int .i64]) := by kernel_rfl
theorem kTag : flat Try.prog 3 26 = some (List.replicate 32 (.int .u8)) := by kernel_rfl
theorem kCav : flat Try.prog 4 56 = some [.bool, .int .i64, .int .u64, .int .i64, .int .i64, .str, .int .i64, .int .i64, .sl 5, .sl 5] := by kernel_rfl
theorem kBun : flat Try.prog 4 50 = some ([.int .i64, .int .i64, .int .i64, .int .i64, .sl 56] ++ (List.replicate 32 (.int .u8) ++ [.sl 91])) := by kernel_rfl
theorem counts_of {cs : List Value} (h : PTy Try.prog 22 cs) : ∃ l : List Cnt, toV Try.prog 22 cs = deep (l.map Cnt.v) ∧ l.length ≤ maxLen := by
  obtain ⟨l, h1, h2, _⟩ := slice_of Try.underlying22 Cnt.v (fun _ => True) (fun x hx => by
    obtain ⟨q, hq⟩ := cnt_of ⟨_, Try.underlying34⟩ kCnt hx
    exact ⟨q, hq, trivial⟩) h
  exact ⟨l, h1, h2⟩
theorem tags_of {cs : List Value} (h : PTy Try.prog 23 cs) : ∃ l : List Tag, toV Try.prog 23 cs = deep (l.map Tag.v) ∧ l.length ≤ maxLen := by
  obtain ⟨l, h1, h2, _⟩ := slice_of Try.underlying23 Tag.v (fun _ => True) (fun x hx => by
    obtain ⟨q, hq⟩ := tag_of Try.underlying26 kTag hx
    exact ⟨q, hq, trivial⟩) h
  exact ⟨l, h1, h2⟩
def H0 : Nat → Option (List Value) := fun _ => none
theorem law3 (ps : List Value) (h : Pargs Try.prog Try.f3.params.toList ps) : PCalls Try.prog 3 ps (fun _ => none) Try.prog.globals.size (fun _ => False) (fun p _ _ => p = .bool true) := by
  rw [Try.params3] at h
  obtain ⟨_, q1, rfl, h1, h⟩ := pargs_cons h
  obtain ⟨_, q2, rfl, h2, h⟩ := pargs_cons h
  obtain ⟨_, q3, rfl, h3, h⟩ := pargs_cons h
  obtain ⟨_, q4, rfl, h4, h⟩ := pargs_cons h
  obtain rfl := pargs_nil h
  obtain ⟨raw, e1, hr⟩ := counts_of h1
  obtain ⟨nodes, e2, hn⟩ := tags_of h2
  obtain ⟨l, e3, hl, _⟩ := ints_of Try.underlying24 Try.underlying3 h3
  obtain ⟨t, e4⟩ := tag_of Try.underlying26 kTag h4
  rw [e1, e2, e3, e4]
  exact steps_ok law28_LedgerSteps_fn new next dcounts dtags add radd sameC awake number rnumber lvalid rvalid raw nodes l t hl hr hn _ _
theorem law4 (ps : List Value) (h : Pargs Try.prog Try.f4.params.toList ps) : PCalls Try.prog 4 ps (fun _ => none) Try.prog.globals.size (fun _ => False) (fun p _ _ => p = .bool true) := by
  rw [Try.params4] at h
  obtain ⟨_, q1, rfl, h1, h⟩ := pargs_cons h
  obtain ⟨_, q2, rfl, h2, h⟩ := pargs_cons h
  obtain rfl := pargs_nil h
  obtain ⟨l, e1, hl, _⟩ := ints_of Try.underlying24 Try.underlying3 h1
  obtain ⟨x, e2, hx0, hx1⟩ := int_of Try.underlying5 h2
  rw [e1, e2]
  exact adds_ok law28_LedgerAdds_fn new dcounts dtags add awake number lvalid l x hl ⟨hx0, by have : IntKind.u8.max = 255 := rfl; omega⟩ _ _
theorem law5 (ps : List Value) (h : Pargs Try.prog Try.f5.params.toList ps) : PCalls Try.prog 5 ps (fun _ => none) Try.prog.globals.size (fun _ => False) (fun p _ _ => p = .bool true) := by
  rw [Try.params5] at h
  obtain ⟨_, q1, rfl, h1, h⟩ := pargs_cons h
  obtain ⟨_, q2, rfl, h2, h⟩ := pargs_cons h
  obtain ⟨_, q3, rfl, h3, h⟩ := pargs_cons h
  obtain ⟨_, q4, rfl, h4, h⟩ := pargs_cons h
  obtain rfl := pargs_nil h
  obtain ⟨b, e1, _, _⟩ := bun_of Try.underlying5 ⟨_, Try.underlying56⟩ kCav ⟨_, Try.underlying50⟩ kBun h1
  obtain ⟨nodes, e2, hn⟩ := tags_of h2
  obtain ⟨l, e3, hl, _⟩ := ints_of Try.underlying24 Try.underlying3 h3
  obtain ⟨raw, e4, hr⟩ := counts_of h4
  rw [e1, e2, e3, e4]
  exact room28_ok law28_LedgerRoom_fn new next dcounts dcav limd rlimd sameT room rroom awake b nodes l raw hl hr hn _ _
end Go.Proofs.Ytabichlcgiafcaa
namespace Go.Proofs.Ytabichlcgiafcaa
open Go Go.PE
theorem law6 (ps : List Value) (h : Pargs Try.prog Try.f6.params.toList ps) : PCalls Try.prog 6 ps (fun _ => none) Try.prog.globals.size (fun _ => False) (fun p _ _ => p = .bool true) := by
  rw [Try.params6] at h
  obtain ⟨_, q1, rfl, h1, h⟩ := pargs_cons h
  obtain rfl := pargs_nil h
  obtain ⟨l, e1, hl, _⟩ := ints_of Try.underlying24 Try.underlying3 h1
  rw [e1]
  exact never28_ok law28_LedgerNever_fn new next limd room add number awake l hl _ _
end Go.Proofs.Ytabichlcgiafcaa
