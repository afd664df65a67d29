/- Layer 22 in this seat: the pure code of its functions, and what they compute. Layer 22: each law's contract for whatever arguments its row speaks of. -/
import Derived.Test.YtjekgnmiimhomaaDoorPartG
import Derived.Test.YtjekgnmiimhomaaDoorPartD
import Derived.Test.YtjekgnmiimhomaaDoorChecked
import Derived.KernelRfl
import Derived.Test.YtjekgnmiimhomaaDoorRows
import Derived.Lib.LaidTab
set_option linter.all false
namespace Go.Proofs.YtjekgnmiimhomaaDoor
open Go Go.PE
theorem law22_few_fn : compFn Tryd.prog 5 = some (20, law22_fewC, [(.t 2)]) := by kernel_rfl
theorem law22_awake_fn : compFn Tryd.prog 6 = some (28, (law22_awakeC 10 38 12 19), [(.t 0)]) := by kernel_rfl
theorem made_New_fn : compFn Tryd.prog 7 = some (6, made_NewC, [(.t 2)]) := by kernel_rfl
theorem made_Deck_Next_fn : compFn Tryd.prog 9 = some (35, (made_Deck_NextC 22), [(.t 4)]) := by kernel_rfl
theorem law22_rides_fn : compFn Tryd.prog 10 = some (6, (law22_ridesC 5), [(.cA 2 10)]) := by kernel_rfl
theorem made_Deck_Caveat_fn : compFn Tryd.prog 11 = some (20, (made_Deck_CaveatC 5 9 23 24), [(.cA 2 10)]) := by kernel_rfl
theorem ref21_AddMint_fn : compFn Tryd.prog 13 = some (42, (ref21_AddMintC 25 18 29), [(.t 4), (.t 5)]) := by kernel_rfl
theorem ref21_SameMints_fn : compFn Tryd.prog 14 = some (27, (ref21_SameMintsC 30), [(.t 4)]) := by kernel_rfl
theorem registry_Find_fn : compFn Tryd.prog 15 = some (23, (registry_FindC 38 32 31 33), [(.cA 4 3), (.t 5)]) := by kernel_rfl
theorem ref21_FindMint_fn : compFn Tryd.prog 16 = some (25, (ref21_FindMintC 38), [(.cA 4 3), (.t 5)]) := by kernel_rfl
theorem registry_Valid_fn : compFn Tryd.prog 17 = some (35, (registry_ValidC 38 25 26), [(.t 2)]) := by kernel_rfl
theorem ref21_MintsOk_fn : compFn Tryd.prog 18 = some (52, (ref21_MintsOkC 29), [(.t 2)]) := by kernel_rfl
theorem registry_Extends_fn : compFn Tryd.prog 19 = some (31, (registry_ExtendsC 15 38 34 35), [(.t 8)]) := by kernel_rfl
theorem ref21_Extends_fn : compFn Tryd.prog 20 = some (42, (ref21_ExtendsC 16 38 36), [(.t 8)]) := by kernel_rfl
theorem made_Deck_Range_fn : compFn Tryd.prog 21 = some (15, (made_Deck_RangeC 9), [(.t 6)]) := by kernel_rfl
theorem made_Within_fn : compFn Tryd.prog 22 = some (12, made_WithinC, [(.t 4)]) := by kernel_rfl
theorem made_Deck_Predicate_fn : compFn Tryd.prog 23 = some (81, (made_Deck_PredicateC 21 37 38 9 39 40), [(.cA 4 6)]) := by kernel_rfl
theorem made_Deck_Bytes_fn : compFn Tryd.prog 24 = some (22, (made_Deck_BytesC 5 9), [(.t 4)]) := by kernel_rfl
theorem registry_epochs_fn : compFn Tryd.prog 25 = some (9, registry_epochsC, [(.t 2)]) := by kernel_rfl
theorem registry_bad_fn : compFn Tryd.prog 26 = some (5, (registry_badC 41 42), [(.t 2)]) := by kernel_rfl
theorem ref10_AllValid_fn : compFn Tryd.prog 29 = some (16, (ref10_AllValidC 45), [(.t 2)]) := by kernel_rfl
theorem ref18_SameMint_fn : compFn Tryd.prog 30 = some (24, (ref18_SameMintC 36), [(.t 4)]) := by kernel_rfl
theorem slices_IndexFunc_api_Mint_api_Mint_fn : compFn Tryd.prog 31 = some (19, slices_IndexFunc_api_Mint_api_MintC, [(.t 4)]) := by kernel_rfl
theorem registry_Find_1_fn : compFn Tryd.prog 32 = some (8, registry_Find_1C, [(.t 3)]) := by kernel_rfl
theorem caveat_Same_fn : compFn Tryd.prog 34 = some (8, (caveat_SameC 48 49), [(.t 4)]) := by kernel_rfl
theorem registry_order_begins_fn : compFn Tryd.prog 35 = some (22, registry_order_beginsC, [(.t 6)]) := by kernel_rfl
theorem ref10_Same_fn : compFn Tryd.prog 36 = some (62, (ref10_SameC 5 51), [(.t 4)]) := by kernel_rfl
theorem made_Deck_mask_fn : compFn Tryd.prog 37 = some (45, (made_Deck_maskC 9), [(.t 4)]) := by kernel_rfl
theorem made_Deck_Minute_fn : compFn Tryd.prog 38 = some (25, (made_Deck_MinuteC 9), [(.t 2)]) := by kernel_rfl
theorem made_Deck_Name_fn : compFn Tryd.prog 39 = some (8, (made_Deck_NameC 9 9), [(.t 2)]) := by kernel_rfl
theorem made_Deck_Upto_fn : compFn Tryd.prog 40 = some (32, (made_Deck_UptoC 9), [(.t 4)]) := by kernel_rfl
theorem slices_ContainsFunc_api_Caveat_api_Caveat_fn : compFn Tryd.prog 41 = some (9, (slices_ContainsFunc_api_Caveat_api_CaveatC 52), [(.t 4)]) := by kernel_rfl
theorem registry_bad_1_fn : compFn Tryd.prog 42 = some (6, (registry_bad_1C 43), [(.t 2)]) := by kernel_rfl
theorem caveat_Valid_fn : compFn Tryd.prog 43 = some (50, (caveat_ValidC 53 54), [(.t 2)]) := by kernel_rfl
theorem ref10_Valid_fn : compFn Tryd.prog 45 = some (64, (ref10_ValidC 55), [(.t 2)]) := by kernel_rfl
theorem bytes_Clone_fn : compFn Tryd.prog 47 = some (8, (bytes_CloneC 5), [(.t 2)]) := by kernel_rfl
theorem slices_EqualFunc_api_Caveat_api_Caveat_api_Caveat_api_Caveat_fn : compFn Tryd.prog 48 = some (32, (slices_EqualFunc_api_Caveat_api_Caveat_api_Caveat_api_CaveatC 5), [(.t 6)]) := by kernel_rfl
theorem caveat_Same_1_fn : compFn Tryd.prog 49 = some (38, (caveat_Same_1C 50), [(.t 4)]) := by kernel_rfl
theorem bytes_Equal_fn : compFn Tryd.prog 50 = some (10, bytes_EqualC, [(.t 4)]) := by kernel_rfl
theorem ref01_Same_fn : compFn Tryd.prog 51 = some (26, ref01_SameC, [(.t 4)]) := by kernel_rfl
theorem slices_IndexFunc_api_Caveat_api_Caveat_fn : compFn Tryd.prog 52 = some (19, slices_IndexFunc_api_Caveat_api_CaveatC, [(.t 4)]) := by kernel_rfl
theorem predicate_Valid_fn : compFn Tryd.prog 53 = some (118, (predicate_ValidC 0 56 57), [(.t 2)]) := by kernel_rfl
theorem caveat_sized_fn : compFn Tryd.prog 54 = some (11, caveat_sizedC, [(.t 2)]) := by kernel_rfl
theorem ref06_Valid_fn : compFn Tryd.prog 55 = some (120, (ref06_ValidC 58), [(.t 2)]) := by kernel_rfl
theorem predicate_mask_fn : compFn Tryd.prog 56 = some (17, predicate_maskC, [(.t 4)]) := by kernel_rfl
theorem predicate_name_fn : compFn Tryd.prog 57 = some (28, predicate_nameC, [(.t 2)]) := by kernel_rfl
theorem ref01_Name_fn : compFn Tryd.prog 58 = some (28, ref01_NameC, [(.t 2)]) := by kernel_rfl
theorem slices_Clone_api_Mint_api_Mint_B_fn : compFnX Tryd.prog [25] 44 = some (8, slices_Clone_api_Mint_api_Mint_BC, [(.t 2)]) := by kernel_rfl
theorem slices_Clone_api_Caveat_api_Caveat_B_fn : compFnX Tryd.prog [38] 46 = some (8, slices_Clone_api_Caveat_api_Caveat_BC, [(.t 2)]) := by kernel_rfl
theorem chain_Copied_B_fn : compFnX Tryd.prog [38] 33 = some (34, (chain_Copied_BC 46 47), [(.t 2)]) := by kernel_rfl
theorem registry_Copied_B_fn : compFnX Tryd.prog [25] 27 = some (24, (registry_Copied_BC 44 33), [(.t 2)]) := by kernel_rfl
theorem slices_Clip_api_Mint_api_Mint_B_fn : compFnX Tryd.prog [25] 28 = some (9, slices_Clip_api_Mint_api_Mint_BC, [(.t 2)]) := by kernel_rfl
theorem registry_Add_B_fn : compFnX Tryd.prog [25] 12 = some (37, (registry_Add_BC 17 25 26 28 25 27), [(.t 4), (.t 5)]) := by kernel_rfl
theorem law22_made_B_fn : compFnX Tryd.prog [1000000] 8 = some (38, (law22_made_BC 25 9 21 38 10), [(.t 2)]) := by kernel_rfl
theorem law22_RegistrySteps_B_fn : compFnX Tryd.prog [1000000] 3 = some (158, (law22_RegistrySteps_BC 5 25 6 7 8 9 38 10 22 11 12 13 14 3 15 16 17 18), [(.t 10)]) := by kernel_rfl
theorem law22_RegistryExtends_B_fn : compFnX Tryd.prog [1000000] 4 = some (173, (law22_RegistryExtends_BC 5 6 7 8 38 9 10 19 20), [(.t 12)]) := by kernel_rfl
theorem within : WithinOK Tryd.prog 22 := within_ok made_Within_fn
theorem next : NextW Tryd.prog 9 := next_w (next_ok made_Deck_Next_fn within)
theorem range : ∀ lo hi : Int, 0 ≤ lo → lo ≤ hi → hi < 4611686018427387904 → Draws Tryd.prog 21 [.int .i64 lo, .int .i64 hi] (isI lo hi) := range_w made_Deck_Range_fn next
theorem minute : Draws Tryd.prog 38 [] (isI 0 67108864) := minute_w made_Deck_Minute_fn next
theorem dname : Draws Tryd.prog 39 [] isN := name_w made_Deck_Name_fn next
theorem upto : ∀ n : Int, 2 ≤ n → n < 4611686018427387903 → Draws Tryd.prog 40 [.int .i64 n] (isI 0 n) := upto_w made_Deck_Upto_fn next
theorem dmask : ∀ n : Int, 1 ≤ n → n ≤ 64 → Draws Tryd.prog 37 [.int .i64 n] (isMask n) := mask_w made_Deck_mask_fn next
theorem dpred (b : Bool) : Draws Tryd.prog 23 [.bool b] (isPred b) := predicate_w made_Deck_Predicate_fn next range dmask minute dname upto b
theorem dbytes (n : Int) (h0 : 0 ≤ n) (h1 : n ≤ 1000000) : Draws Tryd.prog 24 [.int .i64 n] (isBytesR 5 n) := bytesR_w made_Deck_Bytes_fn next n h0 h1
theorem dcav : Draws Tryd.prog 11 [] isCavR := caveatR_w made_Deck_Caveat_fn next dpred dbytes
theorem new : NewOK Tryd.prog 7 := fun l H nx => new_ok made_New_fn l H nx
theorem name : NameOK Tryd.prog 57 := name_ok predicate_name_fn
theorem rname : NameOK Tryd.prog 58 := rname_ok ref01_Name_fn
theorem mask : MaskOK Tryd.prog 56 := mask_ok predicate_mask_fn
theorem pvalid : PValidOK Tryd.prog 53 0 := pvalid_ok predicate_Valid_fn mask name
theorem rvalid : RValidOK Tryd.prog 55 := rvalid_ok ref06_Valid_fn rname
theorem sized : SizedOK Tryd.prog 54 := sized_ok caveat_sized_fn
theorem cavv : CavOK Tryd.prog 43 0 := cavv_ok caveat_Valid_fn pvalid sized
theorem rcavv : RCavOK Tryd.prog 45 := rcavv_ok ref10_Valid_fn rvalid
theorem bad : BadOK Tryd.prog 26 0 := bad_ok registry_bad_fn slices_ContainsFunc_api_Caveat_api_Caveat_fn (ixCav_ok slices_IndexFunc_api_Caveat_api_Caveat_fn) registry_bad_1_fn (by kernel_rfl) cavv
theorem allC : AllCOK Tryd.prog 29 := allC_ok ref10_AllValid_fn rcavv
theorem ep : EpOK Tryd.prog 25 := ep_ok registry_epochs_fn
theorem mv : MVOK Tryd.prog 17 0 := mv_ok registry_Valid_fn ep bad
theorem rmv : RMVOK Tryd.prog 18 := rmv_ok ref21_MintsOk_fn allC
theorem copyC : CopyCavOK Tryd.prog 33 := copyCav_ok chain_Copied_B_fn (cloneCav_ok slices_Clone_api_Caveat_api_Caveat_B_fn) (bclone_ok bytes_Clone_fn)
theorem copyM : CopyMntOK Tryd.prog 27 := copyMnt_ok registry_Copied_B_fn (cloneMnt_ok slices_Clone_api_Mint_api_Mint_B_fn) copyC
theorem clip : ClipOK Tryd.prog 28 := clip_ok slices_Clip_api_Mint_api_Mint_B_fn
theorem add : AddMOK Tryd.prog 12 0 := addM_ok registry_Add_B_fn mv ep bad clip copyM
theorem radd : RAddMOK Tryd.prog 13 := raddM_ok ref21_AddMint_fn rmv allC
theorem find : FindROK Tryd.prog 15 := find_ok registry_Find_fn registry_Find_1_fn (by kernel_rfl) (ixMnt_ok slices_IndexFunc_api_Mint_api_Mint_fn) copyC
theorem rfind : RFindOK Tryd.prog 16 := rfind_ok ref21_FindMint_fn
theorem beq : BEqOK Tryd.prog 50 := beq_ok bytes_Equal_fn
theorem same01 : BEqOK Tryd.prog 51 := same01_ok ref01_Same_fn
theorem same10 : CsSameOK Tryd.prog 36 := rcs_ok ref10_Same_fn same01
theorem csame : CsSameOK Tryd.prog 34 := csame_ok caveat_Same_fn (eqf_ok slices_EqualFunc_api_Caveat_api_Caveat_api_Caveat_api_Caveat_fn) caveat_Same_1_fn beq (by kernel_rfl)
theorem beg : BegOK Tryd.prog 35 34 := beg_ok registry_order_begins_fn (by kernel_rfl) csame
theorem ext : ExtOK Tryd.prog 19 id := ext_ok registry_Extends_fn find beg (by kernel_rfl)
theorem rext : ExtOK Tryd.prog 20 (fun _ => True) := rext_ok ref21_Extends_fn rfind same10
theorem sameM : SmOK Tryd.prog 30 := sm_ok ref18_SameMint_fn same10
theorem sameMs : SmsOK Tryd.prog 14 := sms_ok ref21_SameMints_fn sameM
theorem rides : Rd22OK Tryd.prog 10 := rd22_ok law22_rides_fn
theorem few : FewOK Tryd.prog 5 := few_ok law22_few_fn
theorem made : Draws Tryd.prog 8 [] (isMade 25) := made_w law22_made_B_fn next range rides
theorem awake : Aw22OK Tryd.prog 6 0 := aw22_ok law22_awake_fn rides add ext
end Go.Proofs.YtjekgnmiimhomaaDoor
namespace Go.Proofs.YtjekgnmiimhomaaDoor
open Go Go.PE
theorem kCav : flat Tryd.prog 4 38 = some [.bool, .int .i64, .int .u64, .int .i64, .int .i64, .str, .int .i64, .int .i64, .sl 5, .sl 5] := by kernel_rfl
theorem kMnt : flat Tryd.prog 4 25 = some [.int .i64, .int .i64, .sl 38] := by kernel_rfl
def Hg : Nat → Option (List Value) := fun k => if k = 0 then some bitsRow else none
theorem gBits : Tryd.prog.globalNamed "macaroon/predicate.bits" = some 0 := by kernel_rfl
theorem gBitsType : (Tryd.prog.globals[0]?).map (·.type) = some 81 := by kernel_rfl
theorem cells81 : Tryd.prog.cellsOf 81 = 8 := by kernel_rfl
theorem cells3 : Tryd.prog.cellsOf 3 = 1 := by kernel_rfl
theorem gsize : 0 < Tryd.prog.globals.size := of_decide_eq_true (by kernel_rfl)
theorem laidHolds {W : World} (h : laidMetH Tryd.prog [("macaroon/predicate.bits", Rows.laid_macaroon_predicate_bits)] W) : Holds Tryd.prog W Hg := by
  have ht : Lib.TabIs Tryd.prog W "macaroon/predicate.bits" .i64 [0, 64, 32, 7, 0, 0, 0, 0] :=
    Lib.tabIs_of_head (rest := []) gBits gBitsType Tryd.underlying81 Tryd.underlying3 cells3 cells81 h
  intro g row hg
  unfold Hg at hg
  split at hg
  · rename_i e
    subst e
    obtain rfl := Option.some.inj hg
    refine ⟨gsize, ?_, ?_⟩
    · unfold Lib.TabIs World.var? at ht
      rw [gBits] at ht
      simp only [Option.bind_some] at ht
      split at ht
      · rename_i cs e fz hh
        refine ⟨e, fz, ?_⟩
        rw [hh, Option.some.inj ht]
        rfl
      · cases ht
    · intro v hv
      simp only [bitsRow, List.mem_cons, List.not_mem_nil, or_false] at hv
      rcases hv with rfl | rfl | rfl | rfl | rfl | rfl | rfl | rfl <;> rfl
  · cases hg
theorem hg0 : Hg 0 = some bitsRow := rfl
theorem law3 (ps : List Value) (h : Pargs Tryd.prog Tryd.f3.params.toList ps) (hbd : ∀ p ∈ ps, Bd reachBytes p) : PCalls Tryd.prog 3 ps Hg Tryd.prog.globals.size (fun _ => False) (fun p _ _ => p = .bool true) := by
  rw [Tryd.params3] at h
  obtain ⟨_, q1, rfl, h1, h⟩ := pargs_cons h
  obtain ⟨_, q2, rfl, h2, h⟩ := pargs_cons h
  obtain ⟨_, q3, rfl, h3, h⟩ := pargs_cons h
  obtain ⟨_, q4, rfl, h4, h⟩ := pargs_cons h
  obtain ⟨_, q5, rfl, h5, h⟩ := pargs_cons h
  obtain rfl := pargs_nil h
  obtain ⟨raw, e1, hraw, hrl⟩ := mnts_of Tryd.underlying22 Tryd.underlying5 ⟨_, Tryd.underlying38⟩ kCav ⟨_, Tryd.underlying25⟩ kMnt h1
  obtain ⟨x, e2, hx⟩ := mnt_of Tryd.underlying5 ⟨_, Tryd.underlying38⟩ kCav ⟨_, Tryd.underlying25⟩ kMnt h2
  obtain ⟨l, e3, hl, _⟩ := ints_of Tryd.underlying26 Tryd.underlying3 h3
  obtain ⟨s, e4, _, _⟩ := int_of Tryd.underlying3 h4
  obtain ⟨u, e5, hu0, hu1⟩ := int_of Tryd.underlying5 h5
  have hb := hbd _ (List.mem_cons_self ..)
  rw [e1] at hb
  rw [e1, e2, e3, e4, e5]
  have hmx : IntKind.u8.max = 255 := rfl
  have hmn : IntKind.u8.min = 0 := rfl
  exact steps22_ok law22_RegistrySteps_B_fn few awake new made next rides dcav add radd sameMs find rfind mv rmv raw x l s u (fun m hm => ⟨hraw m hm, fun c hc => mnts_bd hb m hm c hc⟩) hrl hx hl (by omega) (by omega) Hg _ hg0 gsize
theorem law4 (ps : List Value) (h : Pargs Tryd.prog Tryd.f4.params.toList ps) (hbd : ∀ p ∈ ps, Bd reachBytes p) : PCalls Tryd.prog 4 ps Hg Tryd.prog.globals.size (fun _ => False) (fun p _ _ => p = .bool true) := by
  rw [Tryd.params4] at h
  obtain ⟨_, q1, rfl, h1, h⟩ := pargs_cons h
  obtain ⟨_, q2, rfl, h2, h⟩ := pargs_cons h
  obtain ⟨_, q3, rfl, h3, h⟩ := pargs_cons h
  obtain ⟨_, q4, rfl, h4, h⟩ := pargs_cons h
  obtain ⟨_, q5, rfl, h5, h⟩ := pargs_cons h
  obtain ⟨_, q6, rfl, h6, h⟩ := pargs_cons h
  obtain rfl := pargs_nil h
  obtain ⟨raw, e1, hraw, hrl⟩ := mnts_of Tryd.underlying22 Tryd.underlying5 ⟨_, Tryd.underlying38⟩ kCav ⟨_, Tryd.underlying25⟩ kMnt h1
  obtain ⟨c, e2, hc, hcl⟩ := cavs_of Tryd.underlying23 Tryd.underlying5 ⟨_, Tryd.underlying38⟩ kCav h2
  obtain ⟨l, e3, hl, _⟩ := ints_of Tryd.underlying26 Tryd.underlying3 h3
  obtain ⟨o, e4, ho, _⟩ := ints_of Tryd.underlying26 Tryd.underlying3 h4
  obtain ⟨ep, e5, _, _⟩ := int_of Tryd.underlying3 h5
  obtain ⟨se, e6, _, _⟩ := int_of Tryd.underlying3 h6
  have hb := hbd _ (List.mem_cons_self ..)
  rw [e1] at hb
  rw [e1, e2, e3, e4, e5, e6]
  exact extends22_ok law22_RegistryExtends_B_fn few awake new made next rides ext rext raw c l o ep se (fun m hm => ⟨hraw m hm, fun c hc => mnts_bd hb m hm c hc⟩) hrl hc hcl hl ho Hg _ hg0 gsize
end Go.Proofs.YtjekgnmiimhomaaDoor
