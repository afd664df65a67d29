/- Layer 7: each law's contract for whatever arguments its row speaks of. -/
import Derived.Test.YtaiakomijoppdaaDoorLaws
import Derived.Test.YtaiakomijoppdaaDoorEngC
import Derived.Test.YtaiakomijoppdaaDoorChecked
import Derived.KernelRfl
import Derived.Test.YtaiakomijoppdaaDoorRows
import Derived.Lib.LaidTab
set_option linter.all false
namespace Go.Proofs.YtaiakomijoppdaaDoor
open Go Go.PE
theorem law07_HoldsValid_fn : compFn Tryd.prog 3 = some (56, (law07_HoldsValidC 8 9 9 10 11 12 13), [(.t 8)]) := by kernel_rfl
theorem law07_HoldsOne_fn : compFn Tryd.prog 4 = some (53, (law07_HoldsOneC 8 14 9 15 16 13), [(.t 6)]) := by kernel_rfl
theorem law07_HoldsDaily_fn : compFn Tryd.prog 5 = some (54, (law07_HoldsDailyC 8 9 13 15), [(.t 6)]) := by kernel_rfl
theorem law07_HoldsAll_fn : compFn Tryd.prog 6 = some (100, (law07_HoldsAllC 8 9 17 18 19 13), [(.t 6)]) := by kernel_rfl
theorem law07_HoldsMore_fn : compFn Tryd.prog 7 = some (63, (law07_HoldsMoreC 8 9 14 17 10 35 18 15 13), [(.t 4)]) := by kernel_rfl
theorem made_New_fn : compFn Tryd.prog 8 = some (6, made_NewC, [(.t 2)]) := by kernel_rfl
theorem made_Deck_Context_fn : compFn Tryd.prog 9 = some (15, (made_Deck_ContextC 20 21 22 23), [(.cA 2 4)]) := by kernel_rfl
theorem made_Within_fn : compFn Tryd.prog 10 = some (12, made_WithinC, [(.t 4)]) := by kernel_rfl
theorem holds_Valid_fn : compFn Tryd.prog 11 = some (37, (holds_ValidC 24), [(.t 2)]) := by kernel_rfl
theorem ref06_ContextOk_fn : compFn Tryd.prog 12 = some (36, (ref06_ContextOkC 25), [(.t 2)]) := by kernel_rfl
theorem law07_awake_fn : compFn Tryd.prog 13 = some (12, (law07_awakeC 15), [(.t 0)]) := by kernel_rfl
theorem made_Deck_Predicate_fn : compFn Tryd.prog 14 = some (81, (made_Deck_PredicateC 21 26 22 20 23 27), [(.cA 4 6)]) := by kernel_rfl
theorem holds_Holds_fn : compFn Tryd.prog 15 = some (37, (holds_HoldsC 24 11 28 29 30 31 32 33 34), [(.t 4)]) := by kernel_rfl
theorem ref06_Holds_fn : compFn Tryd.prog 16 = some (99, (ref06_HoldsC 35 12), [(.t 4)]) := by kernel_rfl
theorem made_Deck_Predicates_fn : compFn Tryd.prog 17 = some (24, (made_Deck_PredicatesC 35 20 14), [(.t 6)]) := by kernel_rfl
theorem holds_All_fn : compFn Tryd.prog 18 = some (21, (holds_AllC 15), [(.t 4), (.t 5)]) := by kernel_rfl
theorem ref06_All_fn : compFn Tryd.prog 19 = some (21, (ref06_AllC 16), [(.t 4), (.t 5)]) := by kernel_rfl
theorem made_Deck_Next_fn : compFn Tryd.prog 20 = some (35, (made_Deck_NextC 10), [(.t 4)]) := by kernel_rfl
theorem made_Deck_Range_fn : compFn Tryd.prog 21 = some (15, (made_Deck_RangeC 20), [(.t 6)]) := by kernel_rfl
theorem made_Deck_Minute_fn : compFn Tryd.prog 22 = some (25, (made_Deck_MinuteC 20), [(.t 2)]) := by kernel_rfl
theorem made_Deck_Name_fn : compFn Tryd.prog 23 = some (8, (made_Deck_NameC 9 20), [(.t 2)]) := by kernel_rfl
theorem predicate_Valid_fn : compFn Tryd.prog 24 = some (118, (predicate_ValidC 0 36 37), [(.t 2)]) := by kernel_rfl
theorem ref01_Name_fn : compFn Tryd.prog 25 = some (28, ref01_NameC, [(.t 2)]) := by kernel_rfl
theorem made_Deck_mask_fn : compFn Tryd.prog 26 = some (45, (made_Deck_maskC 20), [(.t 4)]) := by kernel_rfl
theorem made_Deck_Upto_fn : compFn Tryd.prog 27 = some (32, (made_Deck_UptoC 20), [(.t 4)]) := by kernel_rfl
theorem holds_ride_zone_fn : compFn Tryd.prog 28 = some (12, holds_ride_zoneC, [(.t 4)]) := by kernel_rfl
theorem holds_ride_line_fn : compFn Tryd.prog 29 = some (12, holds_ride_lineC, [(.t 4)]) := by kernel_rfl
theorem holds_ride_days_fn : compFn Tryd.prog 30 = some (14, holds_ride_daysC, [(.t 4)]) := by kernel_rfl
theorem holds_ride_time_fn : compFn Tryd.prog 31 = some (17, holds_ride_timeC, [(.t 4)]) := by kernel_rfl
theorem holds_ride_daily_fn : compFn Tryd.prog 32 = some (34, holds_ride_dailyC, [(.t 4)]) := by kernel_rfl
theorem holds_ride_holder_fn : compFn Tryd.prog 33 = some (10, holds_ride_holderC, [(.t 4)]) := by kernel_rfl
theorem holds_ride_rides_fn : compFn Tryd.prog 34 = some (5, holds_ride_ridesC, [(.t 4)]) := by kernel_rfl
theorem ref06_Valid_fn : compFn Tryd.prog 35 = some (120, (ref06_ValidC 25), [(.t 2)]) := by kernel_rfl
theorem predicate_mask_fn : compFn Tryd.prog 36 = some (17, predicate_maskC, [(.t 4)]) := by kernel_rfl
theorem predicate_name_fn : compFn Tryd.prog 37 = some (28, predicate_nameC, [(.t 2)]) := by kernel_rfl
theorem within : WithinOK Tryd.prog 10 := within_ok made_Within_fn
theorem next : NextW Tryd.prog 20 := next_w (next_ok made_Deck_Next_fn within)
theorem range : ∀ lo hi : Int, 0 ≤ lo → lo ≤ hi → hi < 4611686018427387904 → Draws Tryd.prog 21 [.int .i64 lo, .int .i64 hi] (isI lo hi) := range_w made_Deck_Range_fn next
theorem minute : Draws Tryd.prog 22 [] (isI 0 67108864) := minute_w made_Deck_Minute_fn next
theorem dname : Draws Tryd.prog 23 [] isN := name_w made_Deck_Name_fn next
theorem dcontext : Draws Tryd.prog 9 [] isCtx := context_w made_Deck_Context_fn next range minute dname
theorem upto : ∀ n : Int, 2 ≤ n → n < 4611686018427387903 → Draws Tryd.prog 27 [.int .i64 n] (isI 0 n) := upto_w made_Deck_Upto_fn next
theorem dmask : ∀ n : Int, 1 ≤ n → n ≤ 64 → Draws Tryd.prog 26 [.int .i64 n] (isMask n) := mask_w made_Deck_mask_fn next
theorem dpred (b : Bool) : Draws Tryd.prog 14 [.bool b] (isPred b) := predicate_w made_Deck_Predicate_fn next range dmask minute dname upto b
theorem dpreds (n : Int) (b : Bool) (h0 : 0 ≤ n) (h1 : n ≤ 1000000) : Draws Tryd.prog 17 [.int .i64 n, .bool b] (isPreds 35 n b) := predicates_w made_Deck_Predicates_fn next dpred n b h0 h1
theorem new : NewOK Tryd.prog 8 := fun l H nx => new_ok made_New_fn l H nx
theorem name : NameOK Tryd.prog 37 := name_ok predicate_name_fn
theorem rname : NameOK Tryd.prog 25 := rname_ok ref01_Name_fn
theorem mask : MaskOK Tryd.prog 36 := mask_ok predicate_mask_fn
theorem pvalid : PValidOK Tryd.prog 24 0 := pvalid_ok predicate_Valid_fn mask name
theorem rvalid : RValidOK Tryd.prog 35 := rvalid_ok ref06_Valid_fn rname
theorem cvalid : CValidOK Tryd.prog 11 0 := cvalid_ok holds_Valid_fn pvalid
theorem rcvalid : RCValidOK Tryd.prog 12 := rcvalid_ok ref06_ContextOk_fn rname
theorem holds : HoldsOK Tryd.prog 15 0 := holds_ok holds_Holds_fn pvalid cvalid (zone_ok holds_ride_zone_fn) (line_ok holds_ride_line_fn) (days_ok holds_ride_days_fn) (time_ok holds_ride_time_fn) (daily_ok holds_ride_daily_fn) (holder_ok holds_ride_holder_fn) (rides_ok holds_ride_rides_fn)
  (by kernel_rfl) (by kernel_rfl) (by kernel_rfl) (by kernel_rfl) (by kernel_rfl) (by kernel_rfl) (by kernel_rfl)
theorem rholds : RHoldsOK Tryd.prog 16 := rholds_ok ref06_Holds_fn rvalid rcvalid
theorem all : AllOK Tryd.prog 18 0 := all_ok holds_All_fn holds
theorem rall : RAllOK Tryd.prog 19 := rall_ok ref06_All_fn rholds
theorem awake : LawOK Tryd.prog 13 0 := awake7_ok law07_awake_fn holds
end Go.Proofs.YtaiakomijoppdaaDoor
namespace Go.Proofs.YtaiakomijoppdaaDoor
open Go Go.PE
theorem kPred : flat Tryd.prog 3 35 = some [.int .i64, .int .u64, .int .i64, .int .i64, .str, .int .i64] := by kernel_rfl
theorem kCtx : flat Tryd.prog 3 23 = some [.int .i64, .int .i64, .int .i64, .str] := by kernel_rfl
theorem isStr : ∀ t ∈ [23, 35], ∃ fs, Tryd.prog.underlying t = some (.struct fs) := by
  intro t ht
  simp only [List.mem_cons, List.not_mem_nil, or_false] at ht
  rcases ht with rfl | rfl
  · exact ⟨_, Tryd.underlying23⟩
  · exact ⟨_, Tryd.underlying35⟩
def Hg : Nat → Option (List Value) := fun k => if k = 0 then some bitsRow else none
theorem gBits : Tryd.prog.globalNamed "macaroon/predicate.bits" = some 0 := by kernel_rfl
theorem gBitsType : (Tryd.prog.globals[0]?).map (·.type) = some 59 := by kernel_rfl
theorem cells59 : Tryd.prog.cellsOf 59 = 8 := by kernel_rfl
theorem cells3 : Tryd.prog.cellsOf 3 = 1 := by kernel_rfl
theorem gsize : 0 < Tryd.prog.globals.size := of_decide_eq_true (by kernel_rfl)
theorem laidHolds {W : World} (h : laidMetH Tryd.prog [("macaroon/predicate.bits", Rows.laid_macaroon_predicate_bits)] W) : Holds Tryd.prog W Hg := by
  have ht : Lib.TabIs Tryd.prog W "macaroon/predicate.bits" .i64 [0, 64, 32, 7, 0, 0, 0, 0] :=
    Lib.tabIs_of_head (rest := []) gBits gBitsType Tryd.underlying59 Tryd.underlying3 cells3 cells59 h
  intro g row hg
  unfold Hg at hg
  split at hg
  · rename_i e
    subst e
    obtain rfl := Option.some.inj hg
    refine ⟨gsize, ?_, ?_⟩
    · unfold Lib.TabIs World.var? at ht
      rw [gBits] at ht
      simp only [Option.bind_some] at ht
      split at ht
      · rename_i cs e fz hh
        refine ⟨e, fz, ?_⟩
        rw [hh, Option.some.inj ht]
        rfl
      · cases ht
    · intro v hv
      simp only [bitsRow, List.mem_cons, List.not_mem_nil, or_false] at hv
      rcases hv with rfl | rfl | rfl | rfl | rfl | rfl | rfl | rfl <;> rfl
  · cases hg
theorem hg0 : Hg 0 = some bitsRow := rfl
theorem law3 (ps : List Value) (h : Pargs Tryd.prog Tryd.f3.params.toList ps) : PCalls Tryd.prog 3 ps Hg Tryd.prog.globals.size (fun _ => False) (fun p _ _ => p = .bool true) := by
  rw [Tryd.params3] at h
  obtain ⟨_, q1, rfl, h1, h⟩ := pargs_cons h
  obtain ⟨_, q2, rfl, h2, h⟩ := pargs_cons h
  obtain ⟨_, q3, rfl, h3, h⟩ := pargs_cons h
  obtain ⟨_, q4, rfl, h4, h⟩ := pargs_cons h
  obtain rfl := pargs_nil h
  obtain ⟨c, e1, hc⟩ := ctx_of (isStr _ (by simp)) kCtx h1
  obtain ⟨l, e2, hl, _⟩ := ints_of Tryd.underlying24 Tryd.underlying3 h2
  obtain ⟨how, e3, h30, h31⟩ := int_of Tryd.underlying5 h3
  obtain ⟨n, e4, h40, h41⟩ := int_of Tryd.underlying3 h4
  rw [e1, e2, e3, e4]
  exact holdsValid_ok law07_HoldsValid_fn new dcontext within cvalid rcvalid awake c l how n hc hl h30 (by have : IntKind.u8.max = 255 := rfl; omega) Hg _ hg0 gsize
theorem law4 (ps : List Value) (h : Pargs Tryd.prog Tryd.f4.params.toList ps) : PCalls Tryd.prog 4 ps Hg Tryd.prog.globals.size (fun _ => False) (fun p _ _ => p = .bool true) := by
  rw [Tryd.params4] at h
  obtain ⟨_, q1, rfl, h1, h⟩ := pargs_cons h
  obtain ⟨_, q2, rfl, h2, h⟩ := pargs_cons h
  obtain ⟨_, q3, rfl, h3, h⟩ := pargs_cons h
  obtain rfl := pargs_nil h
  obtain ⟨p, e1, hp⟩ := pred_of (isStr _ (by simp)) kPred h1
  obtain ⟨c, e2, hc⟩ := ctx_of (isStr _ (by simp)) kCtx h2
  obtain ⟨l, e3, hl, _⟩ := ints_of Tryd.underlying24 Tryd.underlying3 h3
  rw [e1, e2, e3]
  exact holdsOne_ok law07_HoldsOne_fn new dpred dcontext holds rholds awake p c l hp hc hl Hg _ hg0 gsize
theorem law5 (ps : List Value) (h : Pargs Tryd.prog Tryd.f5.params.toList ps) : PCalls Tryd.prog 5 ps Hg Tryd.prog.globals.size (fun _ => False) (fun p _ _ => p = .bool true) := by
  rw [Tryd.params5] at h
  obtain ⟨_, q1, rfl, h1, h⟩ := pargs_cons h
  obtain ⟨_, q2, rfl, h2, h⟩ := pargs_cons h
  obtain ⟨_, q3, rfl, h3, h⟩ := pargs_cons h
  obtain rfl := pargs_nil h
  obtain ⟨x, e1, h10, h11⟩ := int_of Tryd.underlying39 h1
  obtain ⟨y, e2, h20, h21⟩ := int_of Tryd.underlying39 h2
  obtain ⟨l, e3, hl, _⟩ := ints_of Tryd.underlying24 Tryd.underlying3 h3
  rw [e1, e2, e3]
  have hx : IntKind.u16.max = 65535 := rfl
  exact holdsDaily_ok law07_HoldsDaily_fn new dcontext holds awake x y l h10 (by omega) h20 (by omega) hl Hg _ hg0 gsize
theorem law6 (ps : List Value) (h : Pargs Tryd.prog Tryd.f6.params.toList ps) : PCalls Tryd.prog 6 ps Hg Tryd.prog.globals.size (fun _ => False) (fun p _ _ => p = .bool true) := by
  rw [Tryd.params6] at h
  obtain ⟨_, q1, rfl, h1, h⟩ := pargs_cons h
  obtain ⟨_, q2, rfl, h2, h⟩ := pargs_cons h
  obtain ⟨_, q3, rfl, h3, h⟩ := pargs_cons h
  obtain rfl := pargs_nil h
  obtain ⟨ls, e1, hls, hp⟩ := slice_of Tryd.underlying41 Pred.v Pred.wf (fun x hx => pred_of (isStr _ (by simp)) kPred hx) h1
  obtain ⟨c, e2, hc⟩ := ctx_of (isStr _ (by simp)) kCtx h2
  obtain ⟨l, e3, hl, _⟩ := ints_of Tryd.underlying24 Tryd.underlying3 h3
  rw [e1, e2, e3]
  exact holdsAll_ok law07_HoldsAll_fn new dcontext dpreds all rall awake ls c l hp hls hc hl Hg _ hg0 gsize
theorem law7 (ps : List Value) (h : Pargs Tryd.prog Tryd.f7.params.toList ps) : PCalls Tryd.prog 7 ps Hg Tryd.prog.globals.size (fun _ => False) (fun p _ _ => p = .bool true) := by
  rw [Tryd.params7] at h
  obtain ⟨_, q1, rfl, h1, h⟩ := pargs_cons h
  obtain ⟨_, q2, rfl, h2, h⟩ := pargs_cons h
  obtain rfl := pargs_nil h
  obtain ⟨l, e1, hl, _⟩ := ints_of Tryd.underlying24 Tryd.underlying3 h1
  obtain ⟨n, e2, _, _⟩ := int_of Tryd.underlying3 h2
  rw [e1, e2]
  exact holdsMore_ok law07_HoldsMore_fn new dcontext dpred dpreds within all holds awake l n hl Hg _ hg0 gsize
end Go.Proofs.YtaiakomijoppdaaDoor
