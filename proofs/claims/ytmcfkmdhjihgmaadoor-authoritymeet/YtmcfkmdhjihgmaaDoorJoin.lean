/- Layers 8 and 9 in this seat: what slices.SortFunc at spans does (the kit's contract, for this seat's numbers). Layer 8 in this seat: the pure code of its functions, and what they compute. Layers 8 and 9: each law's contract for whatever arguments its row speaks of: what a row says of its arguments. Layers 8 and 9 in this seat: valid authorities, contexts, Meet. The law AuthorityMeet for whatever arguments its row speaks of. -/
import Derived.Test.YtmcfkmdhjihgmaaDoorPartE
import Derived.Test.YtmcfkmdhjihgmaaDoorChecked
import Derived.KernelRfl
import Derived.WalkKit
import Derived.IntWalk
import Derived.Test.YtmcfkmdhjihgmaaDoorPartF
import Derived.Test.YtmcfkmdhjihgmaaDoorPartC
import Derived.Test.YtmcfkmdhjihgmaaDoorPartD
import Derived.Test.YtmcfkmdhjihgmaaDoorRows
import Derived.Lib.LaidTab
import Derived.Test.YtmcfkmdhjihgmaaDoorPartG
set_option linter.all false
namespace Go.Proofs.YtmcfkmdhjihgmaaDoor
open Go Go.PE
open Go.Sort (grow grow_grow alloc_eq_grow)
def sortSpn_ren : Go.Shelf.Ren := ⟨fun | 6 => 93 | 15 => 98 | 14 => 97 | 28 => 108 | 29 => 109 | 20 => 100 | 21 => 101 | 22 => 102 | 23 => 103 | 24 => 104 | 25 => 105 | 26 => 106 | 27 => 107 | 46 => 119 | 47 => 120 | 48 => 121 | 49 => 122 | 50 => 123 | 57 => 128 | n => n, fun | 22 => 28 | 24 => 73 | 25 => 105 | 3 => 3 | 39 => 75 | 0 => 0 | 53 => 120 | 55 => 27 | 4 => 4 | 46 => 114 | 45 => 113 | 50 => 52 | 5 => 5 | 9 => 9 | 66 => 127 | 70 => 131 | 76 => 135 | 77 => 136 | n => n, fun | n => n⟩
theorem sortSpn : Go.Proofs.SlLaysF0.n6 Tryd.prog sortSpn_ren where
  mixed := by kernel_rfl
  f6 := ⟨ "slices.SortFunc[[]macaroon/api.Span,macaroon/api.Span]", by decide, Tryd.func93.trans (congrArg some (by kernel_rfl))⟩
  f14 := ⟨ "slices.pdqsortCmpFunc[macaroon/api.Span]", by decide, Tryd.func97.trans (congrArg some (by kernel_rfl))⟩
  f15 := Tryd.func98.trans (congrArg some (by kernel_rfl))
  f20 := ⟨ "slices.insertionSortCmpFunc[macaroon/api.Span]", by decide, Tryd.func100.trans (congrArg some (by kernel_rfl))⟩
  f21 := ⟨ "slices.heapSortCmpFunc[macaroon/api.Span]", by decide, Tryd.func101.trans (congrArg some (by kernel_rfl))⟩
  f22 := ⟨ "slices.breakPatternsCmpFunc[macaroon/api.Span]", by decide, Tryd.func102.trans (congrArg some (by kernel_rfl))⟩
  f23 := ⟨ "slices.choosePivotCmpFunc[macaroon/api.Span]", by decide, Tryd.func103.trans (congrArg some (by kernel_rfl))⟩
  f24 := ⟨ "slices.reverseRangeCmpFunc[macaroon/api.Span]", by decide, Tryd.func104.trans (congrArg some (by kernel_rfl))⟩
  f25 := ⟨ "slices.partialInsertionSortCmpFunc[macaroon/api.Span]", by decide, Tryd.func105.trans (congrArg some (by kernel_rfl))⟩
  f26 := ⟨ "slices.partitionEqualCmpFunc[macaroon/api.Span]", by decide, Tryd.func106.trans (congrArg some (by kernel_rfl))⟩
  f27 := ⟨ "slices.partitionCmpFunc[macaroon/api.Span]", by decide, Tryd.func107.trans (congrArg some (by kernel_rfl))⟩
  f28 := Tryd.func108.trans (congrArg some (by kernel_rfl))
  f29 := Tryd.func109.trans (congrArg some (by kernel_rfl))
  f46 := ⟨ "slices.siftDownCmpFunc[macaroon/api.Span]", by decide, Tryd.func119.trans (congrArg some (by kernel_rfl))⟩
  f47 := Tryd.func120.trans (congrArg some (by kernel_rfl))
  f48 := Tryd.func121.trans (congrArg some (by kernel_rfl))
  f49 := ⟨ "slices.medianAdjacentCmpFunc[macaroon/api.Span]", by decide, Tryd.func122.trans (congrArg some (by kernel_rfl))⟩
  f50 := ⟨ "slices.medianCmpFunc[macaroon/api.Span]", by decide, Tryd.func123.trans (congrArg some (by kernel_rfl))⟩
  f57 := ⟨ "slices.order2CmpFunc[macaroon/api.Span]", by decide, Tryd.func128.trans (congrArg some (by kernel_rfl))⟩
  t0 := Tryd.underlying0
  a0 := Tryd.isAgg0
  z0 := Tryd.sizeOf0
  v0 := Tryd.zeroValue0
  t3 := Tryd.underlying3
  a3 := Tryd.isAgg3
  z3 := Tryd.sizeOf3
  v3 := Tryd.zeroValue3
  t4 := Tryd.underlying4
  a4 := Tryd.isAgg4
  z4 := Tryd.sizeOf4
  v4 := Tryd.zeroValue4
  t5 := Tryd.underlying5
  a5 := Tryd.isAgg5
  z5 := Tryd.sizeOf5
  v5 := Tryd.zeroValue5
  t9 := Tryd.underlying9
  a9 := Tryd.isAgg9
  z9 := Tryd.sizeOf9
  v9 := Tryd.zeroValue9
  t22 := Tryd.underlying28
  a22 := Tryd.isAgg28
  z22 := Tryd.sizeOf28
  v22 := Tryd.zeroValue28
  t25 := Tryd.underlying105
  a25 := Tryd.isAgg105
  z25 := Tryd.sizeOf105
  v25 := Tryd.zeroValue105
  t39 := Tryd.underlying75
  a39 := Tryd.isAgg75
  z39 := Tryd.sizeOf75
  v39 := Tryd.zeroValue75
  t45 := Tryd.underlying113
  a45 := Tryd.isAgg113
  z45 := Tryd.sizeOf113
  v45 := Tryd.zeroValue113
  t46 := Tryd.underlying114
  a46 := Tryd.isAgg114
  z46 := Tryd.sizeOf114
  v46 := Tryd.zeroValue114
  t50 := Tryd.underlying52
  a50 := Tryd.isAgg52
  z50 := Tryd.sizeOf52
  v50 := Tryd.zeroValue52
  t53 := Tryd.underlying120
  a53 := Tryd.isAgg120
  z53 := Tryd.sizeOf120
  v53 := Tryd.zeroValue120
  t55 := Tryd.underlying27
  a55 := Tryd.isAgg27
  z55 := Tryd.sizeOf27
  v55 := Tryd.zeroValue27
  t66 := Tryd.underlying127
  a66 := Tryd.isAgg127
  z66 := Tryd.sizeOf127
  v66 := Tryd.zeroValue127
  t70 := Tryd.underlying131
  a70 := Tryd.isAgg131
  z70 := Tryd.sizeOf131
  v70 := Tryd.zeroValue131
  t76 := Tryd.underlying135
  a76 := Tryd.isAgg135
  z76 := Tryd.sizeOf135
  v76 := Tryd.zeroValue135
  t77 := Tryd.underlying136
  a77 := Tryd.isAgg136
  z77 := Tryd.sizeOf136
  v77 := Tryd.zeroValue136
theorem closure94 (x y : Spn) (W : World) : Calls Tryd.prog 94 #[.agg x.cells.toArray, .agg y.cells.toArray] W fun e w' => e = .returned (.int .i64 (IntKind.i64.wrap (x.f - y.f))) ∧ ∃ q os', w' = grow (W.drewN q) os' := by
  obtain ⟨x1, x2⟩ := x
  obtain ⟨y1, y2⟩ := y
  change Calls Tryd.prog 94 #[.agg #[.int .i64 x1, .int .i64 x2], .agg #[.int .i64 y1, .int .i64 y2]] W fun e w' => e = .returned (.int .i64 (IntKind.i64.wrap (x1 - y1))) ∧ ∃ q os', w' = grow (W.drewN q) os'
  go_enter Tryd.func94, Tryd.ntmps94
  go_wp2
  go_ret
  exact ⟨by rw [Go.IntWalk.i64_left]; rfl, 0, _, by rw [alloc_eq_grow, alloc_eq_grow, grow_grow]; rfl⟩
theorem sort : SortOK Tryd.prog 93 94 :=
  sort_pc sortSpn Tryd.isAgg73 Tryd.sizeOf73 (enters_of Tryd.func94 (by kernel_rfl) rfl) closure94
end Go.Proofs.YtmcfkmdhjihgmaaDoor
namespace Go.Proofs.YtmcfkmdhjihgmaaDoor
open Go Go.PE
theorem law08_AuthorityOf_fn : compFn Tryd.prog 3 = some (103, (law08_AuthorityOfC 16 17 18 73 19 35 20 21), [(.t 6)]) := by kernel_rfl
theorem made_New_fn : compFn Tryd.prog 16 = some (6, made_NewC, [(.t 2)]) := by kernel_rfl
theorem made_Deck_Predicates_fn : compFn Tryd.prog 17 = some (24, (made_Deck_PredicatesC 35 43 44), [(.t 6)]) := by kernel_rfl
theorem authority_Of_fn : compFn Tryd.prog 18 = some (28, (authority_OfC 73 25 45 46 47), [(.cA 2 8), (.t 3)]) := by kernel_rfl
theorem ref06_Of_fn : compFn Tryd.prog 19 = some (182, (ref06_OfC 73 27 48 49 50), [(.cA 2 8), (.t 3)]) := by kernel_rfl
theorem ref06_SameAuthority_fn : compFn Tryd.prog 20 = some (80, ref06_SameAuthorityC, [(.t 4)]) := by kernel_rfl
theorem law08_awake_fn : compFn Tryd.prog 21 = some (58, (law08_awakeC 35 18 73), [(.t 0)]) := by kernel_rfl
theorem authority_Full_fn : compFn Tryd.prog 25 = some (4, (authority_FullC 73), [(.cA 0 8)]) := by kernel_rfl
theorem ref06_Full_fn : compFn Tryd.prog 27 = some (4, (ref06_FullC 73), [(.cA 0 8)]) := by kernel_rfl
theorem made_Deck_Next_fn : compFn Tryd.prog 43 = some (35, (made_Deck_NextC 73), [(.t 4)]) := by kernel_rfl
theorem made_Deck_Predicate_fn : compFn Tryd.prog 44 = some (81, (made_Deck_PredicateC 51 74 57 43 58 75), [(.cA 4 6)]) := by kernel_rfl
theorem predicate_Valid_fn : compFn Tryd.prog 45 = some (118, (predicate_ValidC 0 76 77), [(.t 2)]) := by kernel_rfl
theorem authority_restrict_fn : compFn Tryd.prog 46 = some (73, (authority_restrictC 73 78 56), [(.cA 4 8)]) := by kernel_rfl
theorem ref06_times_fn : compFn Tryd.prog 48 = some (43, ref06_timesC, [(.t 2)]) := by kernel_rfl
theorem ref06_Valid_fn : compFn Tryd.prog 49 = some (120, (ref06_ValidC 80), [(.t 2)]) := by kernel_rfl
theorem made_Deck_Range_fn : compFn Tryd.prog 51 = some (15, (made_Deck_RangeC 43), [(.t 6)]) := by kernel_rfl
theorem authority_none_fn : compFn Tryd.prog 53 = some (2, (authority_noneC 73), [(.cA 0 8)]) := by kernel_rfl
theorem authority_common_fn : compFn Tryd.prog 56 = some (46, (authority_commonC 73), [(.t 4)]) := by kernel_rfl
theorem made_Deck_Minute_fn : compFn Tryd.prog 57 = some (25, (made_Deck_MinuteC 43), [(.t 2)]) := by kernel_rfl
theorem made_Deck_Name_fn : compFn Tryd.prog 58 = some (8, (made_Deck_NameC 9 43), [(.t 2)]) := by kernel_rfl
theorem authority_Day_fn : compFn Tryd.prog 61 = some (43, (authority_DayC 73 56), [(.t 4)]) := by kernel_rfl
theorem ref06_Times_has_fn : compFn Tryd.prog 68 = some (41, ref06_Times_hasC, [(.t 4)]) := by kernel_rfl
theorem made_Within_fn : compFn Tryd.prog 73 = some (12, made_WithinC, [(.t 4)]) := by kernel_rfl
theorem made_Deck_mask_fn : compFn Tryd.prog 74 = some (45, (made_Deck_maskC 43), [(.t 4)]) := by kernel_rfl
theorem made_Deck_Upto_fn : compFn Tryd.prog 75 = some (32, (made_Deck_UptoC 43), [(.t 4)]) := by kernel_rfl
theorem predicate_mask_fn : compFn Tryd.prog 76 = some (17, predicate_maskC, [(.t 4)]) := by kernel_rfl
theorem predicate_name_fn : compFn Tryd.prog 77 = some (28, predicate_nameC, [(.t 2)]) := by kernel_rfl
theorem authority_daily_fn : compFn Tryd.prog 78 = some (18, (authority_dailyC 73 79), [(.t 4)]) := by kernel_rfl
theorem ref01_Name_fn : compFn Tryd.prog 80 = some (28, ref01_NameC, [(.t 2)]) := by kernel_rfl
theorem authority_closed_B_fn : compFnX Tryd.prog [73,1000000] 47 = some (98, (authority_closed_BC 61 79 53), [(.cA 2 8)]) := by kernel_rfl
theorem authority_merged_B_fn : compFnX Tryd.prog [73] 79 = some (58, (authority_merged_BC 93 94 73), [(.t 2)]) := by kernel_rfl
theorem ref06_closed_B_fn : compFnX Tryd.prog [73] 50 = some (142, (ref06_closed_BC 68 73), [(.cA 4 8)]) := by kernel_rfl
theorem within : WithinOK Tryd.prog 73 := within_ok made_Within_fn
theorem next : NextW Tryd.prog 43 := next_w (next_ok made_Deck_Next_fn within)
theorem range : ∀ lo hi : Int, 0 ≤ lo → lo ≤ hi → hi < 4611686018427387904 → Draws Tryd.prog 51 [.int .i64 lo, .int .i64 hi] (isI lo hi) := range_w made_Deck_Range_fn next
theorem minute : Draws Tryd.prog 57 [] (isI 0 67108864) := minute_w made_Deck_Minute_fn next
theorem dname : Draws Tryd.prog 58 [] isN := name_w made_Deck_Name_fn next
theorem upto : ∀ n : Int, 2 ≤ n → n < 4611686018427387903 → Draws Tryd.prog 75 [.int .i64 n] (isI 0 n) := upto_w made_Deck_Upto_fn next
theorem dmask : ∀ n : Int, 1 ≤ n → n ≤ 64 → Draws Tryd.prog 74 [.int .i64 n] (isMask n) := mask_w made_Deck_mask_fn next
theorem dpred (b : Bool) : Draws Tryd.prog 44 [.bool b] (isPred b) := predicate_w made_Deck_Predicate_fn next range dmask minute dname upto b
theorem dpreds (n : Int) (b : Bool) (h0 : 0 ≤ n) (h1 : n ≤ 1000000) : Draws Tryd.prog 17 [.int .i64 n, .bool b] (isPreds 35 n b) := predicates_w made_Deck_Predicates_fn next dpred n b h0 h1
theorem new : NewOK Tryd.prog 16 := fun l H nx => new_ok made_New_fn l H nx
theorem name : NameOK Tryd.prog 77 := name_ok predicate_name_fn
theorem rname : NameOK Tryd.prog 80 := rname_ok ref01_Name_fn
theorem mask : MaskOK Tryd.prog 76 := mask_ok predicate_mask_fn
theorem pvalid : PValidOK Tryd.prog 45 0 := pvalid_ok predicate_Valid_fn mask name
theorem rvalid : RValidOK Tryd.prog 49 := rvalid_ok ref06_Valid_fn rname
theorem common : CommonOK Tryd.prog 56 73 := common_ok authority_common_fn
theorem day : DayOK Tryd.prog 61 73 := day_ok authority_Day_fn common
theorem merged : MergedOK Tryd.prog 79 := merged_ok authority_merged_B_fn sort
theorem nonea : NoneOK Tryd.prog 53 := none_ok authority_none_fn
theorem fulla : FullOK Tryd.prog 25 := full_ok authority_Full_fn
theorem rfulla : FullOK Tryd.prog 27 := rfull_ok ref06_Full_fn
theorem closed : ClosedOK Tryd.prog 47 := closed_ok authority_closed_B_fn day merged nonea
theorem daily : DailyOK Tryd.prog 78 := adaily_ok authority_daily_fn merged
theorem restr : RestrOK Tryd.prog 46 := restr_ok authority_restrict_fn daily common
theorem aof : AOfOK Tryd.prog 18 0 := aof_ok authority_Of_fn fulla pvalid restr closed
theorem times : TimesOK Tryd.prog 48 := times_ok ref06_times_fn
theorem has : HasOK Tryd.prog 68 := has_ok ref06_Times_has_fn
theorem rclosed : RClosedOK Tryd.prog 50 := rclosed_ok ref06_closed_B_fn has
theorem rof : ROfOK Tryd.prog 19 := rof_ok ref06_Of_fn rfulla times rvalid rclosed
theorem same : SameAOK Tryd.prog 20 := same_ok ref06_SameAuthority_fn
theorem awake : Aw08OK Tryd.prog 21 0 := awake08_ok aof law08_awake_fn
end Go.Proofs.YtmcfkmdhjihgmaaDoor
namespace Go.Proofs.YtmcfkmdhjihgmaaDoor
open Go Go.PE
theorem kPred : flat Tryd.prog 3 35 = some [.int .i64, .int .u64, .int .i64, .int .i64, .str, .int .i64] := by kernel_rfl
def Hg : Nat → Option (List Value) := fun k => if k = 0 then some bitsRow else none
theorem gBits : Tryd.prog.globalNamed "macaroon/predicate.bits" = some 0 := by kernel_rfl
theorem gBitsType : (Tryd.prog.globals[0]?).map (·.type) = some 98 := by kernel_rfl
theorem cells98 : Tryd.prog.cellsOf 98 = 8 := by kernel_rfl
theorem cells3 : Tryd.prog.cellsOf 3 = 1 := by kernel_rfl
theorem gsize : 0 < Tryd.prog.globals.size := of_decide_eq_true (by kernel_rfl)
theorem laidHolds {W : World} (h : laidMetH Tryd.prog [("macaroon/predicate.bits", Rows.laid_macaroon_predicate_bits)] W) : Holds Tryd.prog W Hg := by
  have ht : Lib.TabIs Tryd.prog W "macaroon/predicate.bits" .i64 [0, 64, 32, 7, 0, 0, 0, 0] :=
    Lib.tabIs_of_head (rest := []) gBits gBitsType Tryd.underlying98 Tryd.underlying3 cells3 cells98 h
  intro g row hg
  unfold Hg at hg
  split at hg
  · rename_i e
    subst e
    obtain rfl := Option.some.inj hg
    refine ⟨gsize, ?_, ?_⟩
    · unfold Lib.TabIs World.var? at ht
      rw [gBits] at ht
      simp only [Option.bind_some] at ht
      split at ht
      · rename_i cs e fz hh
        refine ⟨e, fz, ?_⟩
        rw [hh, Option.some.inj ht]
        rfl
      · cases ht
    · intro v hv
      simp only [bitsRow, List.mem_cons, List.not_mem_nil, or_false] at hv
      rcases hv with rfl | rfl | rfl | rfl | rfl | rfl | rfl | rfl <;> rfl
  · cases hg
theorem hg0 : Hg 0 = some bitsRow := rfl
theorem law3 (ps : List Value) (h : Pargs Tryd.prog Tryd.f3.params.toList ps) : PCalls Tryd.prog 3 ps Hg Tryd.prog.globals.size (fun _ => False) (fun p _ _ => p = .bool true) := by
  rw [Tryd.params3] at h
  obtain ⟨_, q1, rfl, h1, h⟩ := pargs_cons h
  obtain ⟨_, q2, rfl, h2, h⟩ := pargs_cons h
  obtain ⟨_, q3, rfl, h3, h⟩ := pargs_cons h
  obtain rfl := pargs_nil h
  obtain ⟨ls, e1, hls, hp⟩ := slice_of Tryd.underlying22 Pred.v Pred.wf (fun x hx => pred_of ⟨_, Tryd.underlying35⟩ kPred hx) h1
  obtain ⟨l, e2, hl, _⟩ := ints_of Tryd.underlying23 Tryd.underlying3 h2
  obtain ⟨n, e3, h30, h31⟩ := int_of Tryd.underlying5 h3
  rw [e1, e2, e3]
  have hmx : IntKind.u8.max = 255 := rfl
  have hmn : IntKind.u8.min = 0 := rfl
  exact authorityOf_ok law08_AuthorityOf_fn new dpreds aof rof same awake ls l n hp hls hl ⟨by omega, by omega⟩ Hg _ hg0 gsize
end Go.Proofs.YtmcfkmdhjihgmaaDoor
namespace Go.Proofs.YtmcfkmdhjihgmaaDoor
open Go Go.PE
theorem law08_made_fn : compFn Tryd.prog 22 = some (27, (law08_madeC 73 16 17 19), [(.cA 2 8), (.cA 3 8), (.t 4)]) := by kernel_rfl
theorem law08_spoilt_fn : compFn Tryd.prog 23 = some (83, (law08_spoiltC 73 43 51 9), [(.cA 4 8)]) := by kernel_rfl
theorem authority_Valid_fn : compFn Tryd.prog 24 = some (91, (authority_ValidC 53 52 54 47), [(.t 2)]) := by kernel_rfl
theorem ref06_AuthorityOk_fn : compFn Tryd.prog 26 = some (18, (ref06_AuthorityOkC 20 55 48 50), [(.t 2)]) := by kernel_rfl
theorem authority_equal_fn : compFn Tryd.prog 52 = some (59, (authority_equalC 72), [(.t 4)]) := by kernel_rfl
theorem authority_name_fn : compFn Tryd.prog 54 = some (6, (authority_nameC 45), [(.t 2)]) := by kernel_rfl
theorem ref06_ranges_fn : compFn Tryd.prog 55 = some (106, (ref06_rangesC 80), [(.t 2)]) := by kernel_rfl
theorem slices_Equal_api_Span_api_Span_fn : compFn Tryd.prog 72 = some (26, slices_Equal_api_Span_api_SpanC, [(.t 4)]) := by kernel_rfl
theorem kSpn : flat Tryd.prog 3 73 = some [.int .i64, .int .i64] := by kernel_rfl
theorem kAut : flat Tryd.prog 4 30 = some [.bool, .int .u64, .int .u64, .int .u64, .int .i64, .int .i64, .sl 73, .str] := by kernel_rfl
theorem equal : SameAOK Tryd.prog 52 := aequal_ok authority_equal_fn (spnEq_ok slices_Equal_api_Span_api_Span_fn)
theorem aname : ANameOK Tryd.prog 54 0 := aname_ok authority_name_fn pvalid
theorem avalid : AValOK Tryd.prog 24 0 := avalid_ok authority_Valid_fn nonea equal aname closed
theorem ranges : RangesOK Tryd.prog 55 := ranges_ok ref06_ranges_fn rname
theorem aok : AOkOK Tryd.prog 26 := aok_ok ref06_AuthorityOk_fn same ranges times rclosed
theorem made : MadeOK Tryd.prog 22 := made08_ok law08_made_fn new dpreds rof
theorem spoilt : SpoiltOK Tryd.prog 23 := spoilt_ok law08_spoilt_fn next (range_m made_Deck_Range_fn next)
theorem made_Deck_Context_fn : compFn Tryd.prog 29 = some (15, (made_Deck_ContextC 43 51 57 58), [(.cA 2 4)]) := by kernel_rfl
theorem authority_Contains_fn : compFn Tryd.prog 30 = some (66, (authority_ContainsC 24 59 61 62 60), [(.t 4)]) := by kernel_rfl
theorem holds_Valid_fn : compFn Tryd.prog 59 = some (37, (holds_ValidC 45), [(.t 2)]) := by kernel_rfl
theorem slices_ContainsFunc_api_Span_api_Span_fn : compFn Tryd.prog 60 = some (9, (slices_ContainsFunc_api_Span_api_SpanC 81), [(.t 4)]) := by kernel_rfl
theorem authority_Contains_1_fn : compFn Tryd.prog 62 = some (18, authority_Contains_1C, [(.t 3)]) := by kernel_rfl
theorem slices_IndexFunc_api_Span_api_Span_fn : compFn Tryd.prog 81 = some (19, slices_IndexFunc_api_Span_api_SpanC, [(.t 4)]) := by kernel_rfl
theorem kCtx : flat Tryd.prog 3 48 = some [.int .i64, .int .i64, .int .i64, .str] := by kernel_rfl
theorem dcontext : Draws Tryd.prog 29 [] isCtx := context_w made_Deck_Context_fn next range minute dname
theorem cvalid : CValidOK Tryd.prog 59 0 := cvalid_ok holds_Valid_fn pvalid
theorem cfSpn : CfSpnOK Tryd.prog 60 := cfSpn_ok slices_ContainsFunc_api_Span_api_Span_fn (ixSpn_ok slices_IndexFunc_api_Span_api_Span_fn)
theorem acon : AConOK Tryd.prog 30 0 := acon_ok authority_Contains_fn avalid cvalid day authority_Contains_1_fn (by kernel_rfl) cfSpn
theorem authority_Meet_fn : compFn Tryd.prog 28 = some (68, (authority_MeetC 73 24 53 56 46 47), [(.cA 4 8)]) := by kernel_rfl
theorem restrH : RestrHOK Tryd.prog 46 := restrH_ok authority_restrict_fn
theorem ameet : AMeetOK Tryd.prog 28 0 := ameet_ok authority_Meet_fn avalid nonea common restrH closed
end Go.Proofs.YtmcfkmdhjihgmaaDoor
namespace Go.Proofs.YtmcfkmdhjihgmaaDoor
open Go Go.PE
theorem ref06_Meet_fn : compFn Tryd.prog 32 = some (153, (ref06_MeetC 73 26 48 50), [(.cA 4 8)]) := by kernel_rfl
theorem law08_AuthorityMeet_B_fn : compFnX Tryd.prog [3000000] 8 = some (73, (law08_AuthorityMeet_BC 21 22 73 29 16 23 28 32 20 30), [(.t 6)]) := by kernel_rfl
theorem rmeet : RMeetOK Tryd.prog 32 := rmeet_ok ref06_Meet_fn aok times rclosed
theorem law8 (ps : List Value) (h : Pargs Tryd.prog Tryd.f8.params.toList ps) : PCalls Tryd.prog 8 ps Hg Tryd.prog.globals.size (fun _ => False) (fun p _ _ => p = .bool true) := by
  rw [Tryd.params8] at h
  obtain ⟨_, q1, rfl, h1, h⟩ := pargs_cons h
  obtain ⟨_, q2, rfl, h2, h⟩ := pargs_cons h
  obtain ⟨_, q3, rfl, h3, h⟩ := pargs_cons h
  obtain rfl := pargs_nil h
  obtain ⟨a, e1, ha, _⟩ := aut_of ⟨_, Tryd.underlying73⟩ kSpn ⟨_, Tryd.underlying30⟩ kAut h1
  obtain ⟨l, e2, hl, _⟩ := ints_of Tryd.underlying23 Tryd.underlying3 h2
  obtain ⟨how, e3, hh, _⟩ := ints_of Tryd.underlying23 Tryd.underlying3 h3
  rw [e1, e2, e3]
  exact authorityMeet_ok law08_AuthorityMeet_B_fn awake ameet rmeet same acon made dcontext new spoilt a l how (fun h => ha (by omega)) hl hh Hg _ hg0 gsize
end Go.Proofs.YtmcfkmdhjihgmaaDoor
