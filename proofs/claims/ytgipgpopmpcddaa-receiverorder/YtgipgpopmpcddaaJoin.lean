/- Layer 25 in this seat: the pure code of its functions, and what they compute. Layer 25: each law's contract for whatever arguments its row speaks of. -/
import Derived.Test.YtgipgpopmpcddaaPartH
import Derived.Test.YtgipgpopmpcddaaPartD
import Derived.Test.YtgipgpopmpcddaaChecked
import Derived.KernelRfl
import Derived.Test.YtgipgpopmpcddaaRows
set_option linter.all false
namespace Go.Proofs.Ytgipgpopmpcddaa
open Go Go.PE
theorem law25_ReceiverSteps_fn : compFn Try.prog 3 = some (126, (law25_ReceiverStepsC 5 6 7 8 29 5 9 24 10 11 12 13 14 15 16 17 18 19), [(.t 8)]) := by kernel_rfl
theorem law25_ReceiverOrder_fn : compFn Try.prog 4 = some (109, (law25_ReceiverOrderC 29 10 13 5 18 6), [(.t 4)]) := by kernel_rfl
theorem law25_few_fn : compFn Try.prog 5 = some (7, law25_fewC, [(.t 2)]) := by kernel_rfl
theorem law25_awake_fn : compFn Try.prog 6 = some (53, (law25_awakeC 10 29 13 5 18), [(.t 0)]) := by kernel_rfl
theorem made_New_fn : compFn Try.prog 7 = some (6, made_NewC, [(.t 2)]) := by kernel_rfl
theorem law25_made_fn : compFn Try.prog 8 = some (40, (law25_madeC 29 9 20 11), [(.cA 2 2)]) := by kernel_rfl
theorem made_Deck_Next_fn : compFn Try.prog 9 = some (35, (made_Deck_NextC 21), [(.t 4)]) := by kernel_rfl
theorem ref21_SameReceiver_fn : compFn Try.prog 12 = some (17, (ref21_SameReceiverC 15), [(.t 4)]) := by kernel_rfl
theorem receiver_Ready_fn : compFn Try.prog 13 = some (31, (receiver_ReadyC 5 16 25), [(.cA 2 68), (.t 3)]) := by kernel_rfl
theorem ref21_Ready_fn : compFn Try.prog 14 = some (29, (ref21_ReadyC 5 17), [(.cA 2 68), (.t 3)]) := by kernel_rfl
theorem ref21_SameItems_fn : compFn Try.prog 15 = some (27, (ref21_SameItemsC 26), [(.t 4)]) := by kernel_rfl
theorem receiver_Valid_fn : compFn Try.prog 16 = some (44, (receiver_ValidC 5), [(.t 2)]) := by kernel_rfl
theorem ref21_ReceiverOk_fn : compFn Try.prog 17 = some (54, ref21_ReceiverOkC, [(.t 2)]) := by kernel_rfl
theorem receiver_Applied_fn : compFn Try.prog 18 = some (27, (receiver_AppliedC 29 25 13 5), [(.cA 2 2)]) := by kernel_rfl
theorem ref21_Applied_fn : compFn Try.prog 19 = some (22, (ref21_AppliedC 29 14 5), [(.cA 2 2)]) := by kernel_rfl
theorem made_Deck_Range_fn : compFn Try.prog 20 = some (15, (made_Deck_RangeC 9), [(.t 6)]) := by kernel_rfl
theorem made_Within_fn : compFn Try.prog 21 = some (12, made_WithinC, [(.t 4)]) := by kernel_rfl
theorem slices_BinarySearchFunc_api_Item_api_Item_int_fn : compFn Try.prog 22 = some (49, slices_BinarySearchFunc_api_Item_api_Item_intC, [(.t 6), (.t 7)]) := by kernel_rfl
theorem receiver_Keep_1_fn : compFn Try.prog 23 = some (9, receiver_Keep_1C, [(.t 4)]) := by kernel_rfl
theorem ref18_SameItem_fn : compFn Try.prog 26 = some (45, (ref18_SameItemC 31), [(.t 4)]) := by kernel_rfl
theorem bytes_Clone_fn : compFn Try.prog 30 = some (8, (bytes_CloneC 5), [(.t 2)]) := by kernel_rfl
theorem ref01_Same_fn : compFn Try.prog 31 = some (26, ref01_SameC, [(.t 4)]) := by kernel_rfl
theorem receiver_Keep_B_fn : compFnX Try.prog [29,2000000] 10 = some (65, (receiver_Keep_BC 16 22 23 29 24 25), [(.cA 4 2), (.t 5)]) := by kernel_rfl
theorem ref21_Keep_B_fn : compFnX Try.prog [1000000] 11 = some (91, (ref21_Keep_BC 29 17), [(.cA 4 2), (.t 5)]) := by kernel_rfl
theorem slices_Insert_api_Item_api_Item_B_fn : compFnX Try.prog [29,2000000] 24 = some (95, (slices_Insert_api_Item_api_Item_BC 27 28), [(.t 6)]) := by kernel_rfl
theorem receiver_Copied_B_fn : compFnX Try.prog [29] 25 = some (24, (receiver_Copied_BC 29 30), [(.t 2)]) := by kernel_rfl
theorem slices_Clone_api_Item_api_Item_B_fn : compFnX Try.prog [29] 29 = some (8, slices_Clone_api_Item_api_Item_BC, [(.t 2)]) := by kernel_rfl
theorem within : WithinOK Try.prog 21 := within_ok made_Within_fn
theorem next : NextW Try.prog 9 := next_w (next_ok made_Deck_Next_fn within)
theorem range : ∀ lo hi : Int, 0 ≤ lo → lo ≤ hi → hi < 4611686018427387904 → Draws Try.prog 20 [.int .i64 lo, .int .i64 hi] (isI lo hi) := range_w made_Deck_Range_fn next
theorem new : NewOK Try.prog 7 := fun l H nx => new_ok made_New_fn l H nx
theorem same01 : BEqOK Try.prog 31 := same01_ok ref01_Same_fn
theorem smIt : SmItOK Try.prog 26 := smIt_ok ref18_SameItem_fn same01
theorem smIts : SmItsOK Try.prog 15 := smIts_ok ref21_SameItems_fn smIt
theorem smRc : SmRcOK Try.prog 12 := smRc_ok ref21_SameReceiver_fn smIts
theorem rval : RValOK Try.prog 16 := rval_ok receiver_Valid_fn
theorem rokay : RValOK Try.prog 17 := rokay_ok ref21_ReceiverOk_fn
theorem copyI : CopyItOK Try.prog 25 := copyIt_ok receiver_Copied_B_fn (cloneIt_ok slices_Clone_api_Item_api_Item_B_fn) (bclone_ok bytes_Clone_fn)
theorem bs : BsOK Try.prog 22 23 := bs_ok slices_BinarySearchFunc_api_Item_api_Item_int_fn receiver_Keep_1_fn (by kernel_rfl)
theorem sizeK (w : World) : (Go.sizeOf 29).run Try.prog w = .ok 68 w := run_sizeOf' (by kernel_rfl)
theorem ovl : OvlF Try.prog 27 68 := ⟨by decide, 22, 4, 29, Try.underlying22, sizeK, fun args w => run_callFunc_extern Try.func27 (by kernel_rfl) (by kernel_rfl) (by kernel_rfl) (by kernel_rfl) args w⟩
theorem ins : InsOK Try.prog 24 := ins_ok slices_Insert_api_Item_api_Item_B_fn ovl
theorem keep : KeepOK Try.prog 10 := keep_ok receiver_Keep_B_fn rval bs ins copyI
theorem rkeep : KeepOK Try.prog 11 := rkeep_ok ref21_Keep_B_fn rokay
theorem ready : ReadyOK Try.prog 13 := ready_ok receiver_Ready_fn rval copyI
theorem rready : ReadyOK Try.prog 14 := rready_ok ref21_Ready_fn rokay
theorem applied : AppliedOK Try.prog 18 := applied_ok receiver_Applied_fn ready copyI
theorem rapplied : AppliedOK Try.prog 19 := rapplied_ok ref21_Applied_fn rready
theorem few : FewROK Try.prog 5 := fewR_ok law25_few_fn
theorem awake : Aw25OK Try.prog 6 := aw25_ok law25_awake_fn keep ready applied
theorem made : Draws Try.prog 8 [] isMadeR := made25_w law25_made_fn next range rkeep
end Go.Proofs.Ytgipgpopmpcddaa
namespace Go.Proofs.Ytgipgpopmpcddaa
open Go Go.PE
theorem kItm : flat Try.prog 4 29 = some ([.int .i64, .int .i64, .int .i64] ++ (List.replicate 32 (.int .u8) ++ ([.sl 5] ++ List.replicate 32 (.int .u8)))) := by kernel_rfl
theorem kRcv : flat Try.prog 4 24 = some [.int .i64, .sl 29] := by kernel_rfl
theorem law3 (ps : List Value) (h : Pargs Try.prog Try.f3.params.toList ps) (hbd : ∀ p ∈ ps, Bd reachBytes p) : PCalls Try.prog 3 ps (fun _ => none) Try.prog.globals.size (fun _ => False) (fun p _ _ => p = .bool true) := by
  rw [Try.params3] at h
  obtain ⟨_, q1, rfl, h1, h⟩ := pargs_cons h
  obtain ⟨_, q2, rfl, h2, h⟩ := pargs_cons h
  obtain ⟨_, q3, rfl, h3, h⟩ := pargs_cons h
  obtain ⟨_, q4, rfl, h4, h⟩ := pargs_cons h
  obtain rfl := pargs_nil h
  obtain ⟨raw, e1, r1, r2, r3⟩ := rcv_of Try.underlying5 ⟨_, Try.underlying29⟩ kItm ⟨_, Try.underlying24⟩ kRcv h1
  obtain ⟨i, e2, i1, i2⟩ := itm_of Try.underlying5 ⟨_, Try.underlying29⟩ kItm h2
  obtain ⟨l, e3, hl, _⟩ := ints_of Try.underlying30 Try.underlying3 h3
  obtain ⟨p, e4, p0, p1⟩ := int_of Try.underlying3 h4
  have b1 := hbd _ (List.mem_cons_self ..)
  have b2 := hbd _ (List.mem_cons_of_mem _ (List.mem_cons_self ..))
  rw [e1] at b1
  rw [e2] at b2
  rw [e1, e2, e3, e4]
  exact rsteps_ok awake next keep rkeep smRc ready rready smIts rval rokay applied rapplied law25_ReceiverSteps_fn few new made raw i l p ⟨r1, fun x hx => ⟨(r2 x hx).1, (r2 x hx).2, reach_fin (rcv_bd b1 x hx)⟩⟩ ⟨i1, i2, reach_fin (itm_bd b2)⟩ (i64_rng p0 p1) hl r3 _ _
theorem law4 (ps : List Value) (h : Pargs Try.prog Try.f4.params.toList ps) (hbd : ∀ p ∈ ps, Bd reachBytes p) : PCalls Try.prog 4 ps (fun _ => none) Try.prog.globals.size (fun _ => False) (fun p _ _ => p = .bool true) := by
  rw [Try.params4] at h
  obtain ⟨_, q1, rfl, h1, h⟩ := pargs_cons h
  obtain ⟨_, q2, rfl, h2, h⟩ := pargs_cons h
  obtain rfl := pargs_nil h
  obtain ⟨l, e1, hl, hx⟩ := ints_of Try.underlying27 Try.underlying5 h1
  obtain ⟨n, e2, n0, n1⟩ := int_of Try.underlying5 h2
  have hmx : IntKind.u8.max = 255 := rfl
  have hmn : IntKind.u8.min = 0 := rfl
  have b1 := hbd _ (List.mem_cons_self ..)
  rw [e1] at b1
  have b2 := b1.of_deep.1
  rw [List.length_map] at b2
  rw [e1, e2]
  exact order_ok law25_ReceiverOrder_fn keep ready applied awake l n ⟨hl, fun x h => ⟨by have := (hx x h).1; omega, by have := (hx x h).2; omega⟩⟩ (reach_fin b2) (by omega) (by omega) _ _
end Go.Proofs.Ytgipgpopmpcddaa
