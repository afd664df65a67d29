/- Layer 27 in this seat: the pure code of its functions, and what they compute. Layer 27: each law's contract for whatever arguments its row speaks of. -/
import Derived.Test.YtnighgphfomlkaaDoorStep
import Derived.Test.YtnighgphfomlkaaDoorEngC
import Derived.Test.YtnighgphfomlkaaDoorChecked
import Derived.KernelRfl
import Derived.Test.YtnighgphfomlkaaDoorRows
import Derived.Lib.LaidTab
set_option linter.all false
namespace Go.Proofs.YtnighgphfomlkaaDoor
open Go Go.PE
theorem law27_ConcessionSteps_fn : compFn Tryd.prog 3 = some (180, (law27_ConcessionStepsC 5 6 7 28 8 9 10 5 26 11 12 13 14 15 16), [(.t 12)]) := by kernel_rfl
theorem law27_ConcessionKnown_fn : compFn Tryd.prog 4 = some (114, (law27_ConcessionKnownC 6 7 28 11 12 13 17 15 5), [(.t 2)]) := by kernel_rfl
theorem law27_awake_fn : compFn Tryd.prog 5 = some (45, (law27_awakeC 7 28 13), [(.t 0)]) := by kernel_rfl
theorem made_New_fn : compFn Tryd.prog 6 = some (6, made_NewC, [(.t 2)]) := by kernel_rfl
theorem concession_New_fn : compFn Tryd.prog 7 = some (16, (concession_NewC 28), [(.cA 4 34), (.t 5)]) := by kernel_rfl
theorem made_Within_fn : compFn Tryd.prog 8 = some (12, made_WithinC, [(.t 4)]) := by kernel_rfl
theorem ref26_SameConcession_fn : compFn Tryd.prog 9 = some (45, ref26_SameConcessionC, [(.t 4)]) := by kernel_rfl
theorem made_Deck_Concession_fn : compFn Tryd.prog 10 = some (11, (made_Deck_ConcessionC 28 12 18), [(.cA 4 34)]) := by kernel_rfl
theorem made_Deck_Name_fn : compFn Tryd.prog 11 = some (8, (made_Deck_NameC 9 12), [(.t 2)]) := by kernel_rfl
theorem made_Deck_Next_fn : compFn Tryd.prog 12 = some (35, (made_Deck_NextC 8), [(.t 4)]) := by kernel_rfl
theorem concession_Register_fn : compFn Tryd.prog 13 = some (43, (concession_RegisterC 28 15 19 20 22 21 23), [(.cA 4 34), (.t 5)]) := by kernel_rfl
theorem ref26_Register_fn : compFn Tryd.prog 14 = some (54, (ref26_RegisterC 28 24 16 25), [(.cA 4 34), (.t 5)]) := by kernel_rfl
theorem concession_Valid_fn : compFn Tryd.prog 15 = some (62, (concession_ValidC 19 20), [(.t 2)]) := by kernel_rfl
theorem ref26_ConcessionOk_fn : compFn Tryd.prog 16 = some (60, (ref26_ConcessionOkC 25), [(.t 2)]) := by kernel_rfl
theorem discharge_Find_fn : compFn Tryd.prog 17 = some (24, discharge_FindC, [(.cA 4 2), (.t 5)]) := by kernel_rfl
theorem made_Deck_Persons_fn : compFn Tryd.prog 18 = some (34, (made_Deck_PersonsC 28 9 12), [(.t 2)]) := by kernel_rfl
theorem concession_name_fn : compFn Tryd.prog 19 = some (6, (concession_nameC 26), [(.t 2)]) := by kernel_rfl
theorem concession_born_fn : compFn Tryd.prog 20 = some (9, concession_bornC, [(.t 2)]) := by kernel_rfl
theorem slices_ContainsFunc_api_Person_api_Person_fn : compFn Tryd.prog 21 = some (9, (slices_ContainsFunc_api_Person_api_PersonC 27), [(.t 4)]) := by kernel_rfl
theorem concession_Register_1_fn : compFn Tryd.prog 22 = some (9, concession_Register_1C, [(.t 3)]) := by kernel_rfl
theorem slices_Clone_api_Person_api_Person_fn : compFn Tryd.prog 23 = some (8, (slices_Clone_api_Person_api_PersonC 28), [(.t 2)]) := by kernel_rfl
theorem ref10_Find_fn : compFn Tryd.prog 24 = some (28, ref10_FindC, [(.cA 4 2), (.t 5)]) := by kernel_rfl
theorem ref01_Name_fn : compFn Tryd.prog 25 = some (28, ref01_NameC, [(.t 2)]) := by kernel_rfl
theorem predicate_Valid_fn : compFn Tryd.prog 26 = some (118, (predicate_ValidC 0 28 29), [(.t 2)]) := by kernel_rfl
theorem slices_IndexFunc_api_Person_api_Person_fn : compFn Tryd.prog 27 = some (19, slices_IndexFunc_api_Person_api_PersonC, [(.t 4)]) := by kernel_rfl
theorem predicate_mask_fn : compFn Tryd.prog 28 = some (17, predicate_maskC, [(.t 4)]) := by kernel_rfl
theorem predicate_name_fn : compFn Tryd.prog 29 = some (28, predicate_nameC, [(.t 2)]) := by kernel_rfl
theorem within : WithinOK Tryd.prog 8 := within_ok made_Within_fn
theorem next : NextW Tryd.prog 12 := next_w (next_ok made_Deck_Next_fn within)
theorem dname : Draws Tryd.prog 11 [] isN := name_w made_Deck_Name_fn next
theorem dpers : Draws Tryd.prog 18 [] (isPers 28) := pers_w made_Deck_Persons_fn next
theorem dcon (key : Tag) : Draws Tryd.prog 10 [key.v] (isCon key) := con_w made_Deck_Concession_fn next dpers key
theorem new : NewOK Tryd.prog 6 := fun l H nx => new_ok made_New_fn l H nx
theorem name : NameOK Tryd.prog 29 := name_ok predicate_name_fn
theorem rname : NameOK Tryd.prog 25 := rname_ok ref01_Name_fn
theorem mask : MaskOK Tryd.prog 28 := mask_ok predicate_mask_fn
theorem pvalid : PValidOK Tryd.prog 26 0 := pvalid_ok predicate_Valid_fn mask name
theorem cname : CNameOK Tryd.prog 19 0 := cname_ok concession_name_fn pvalid
theorem born : BornOK Tryd.prog 20 := born_ok concession_born_fn
theorem cnvalid : CnOK Tryd.prog 15 0 := cnvalid_ok concession_Valid_fn cname born
theorem rcnvalid : RCnOK Tryd.prog 16 := rcnvalid_ok ref26_ConcessionOk_fn rname
theorem dfind : FindCOK Tryd.prog 17 := dfind_ok discharge_Find_fn
theorem rfind : FindCOK Tryd.prog 24 := rfind_ok ref10_Find_fn
theorem newc : NewCOK Tryd.prog 7 := newc_ok concession_New_fn
theorem same : SameCnOK Tryd.prog 9 := sameCn_ok ref26_SameConcession_fn
theorem reg : RegOK Tryd.prog 13 0 := reg_ok concession_Register_fn cnvalid cname born concession_Register_1_fn (by kernel_rfl) (cfPer_ok slices_ContainsFunc_api_Person_api_Person_fn (ixPer_ok slices_IndexFunc_api_Person_api_Person_fn)) (clonePer_ok slices_Clone_api_Person_api_Person_fn)
theorem rreg : RRegOK Tryd.prog 14 := rreg_ok ref26_Register_fn rfind rcnvalid rname
theorem awake : Aw27OK Tryd.prog 5 0 := awake27_ok law27_awake_fn newc reg
end Go.Proofs.YtnighgphfomlkaaDoor
namespace Go.Proofs.YtnighgphfomlkaaDoor
open Go Go.PE
theorem kPer : flat Tryd.prog 4 28 = some [.str, .int .i64] := by kernel_rfl
theorem kTag : flat Tryd.prog 3 23 = some (List.replicate 32 (.int .u8)) := by kernel_rfl
theorem kCon : flat Tryd.prog 4 26 = some ([.int .i64] ++ (List.replicate 32 (.int .u8) ++ [.sl 28])) := by kernel_rfl
def Hg : Nat → Option (List Value) := fun k => if k = 0 then some bitsRow else none
theorem gBits : Tryd.prog.globalNamed "macaroon/predicate.bits" = some 0 := by kernel_rfl
theorem gBitsType : (Tryd.prog.globals[0]?).map (·.type) = some 65 := by kernel_rfl
theorem cells65 : Tryd.prog.cellsOf 65 = 8 := by kernel_rfl
theorem cells3 : Tryd.prog.cellsOf 3 = 1 := by kernel_rfl
theorem gsize : 0 < Tryd.prog.globals.size := of_decide_eq_true (by kernel_rfl)
theorem laidHolds {W : World} (h : laidMetH Tryd.prog [("macaroon/predicate.bits", Rows.laid_macaroon_predicate_bits)] W) : Holds Tryd.prog W Hg := by
  have ht : Lib.TabIs Tryd.prog W "macaroon/predicate.bits" .i64 [0, 64, 32, 7, 0, 0, 0, 0] :=
    Lib.tabIs_of_head (rest := []) gBits gBitsType Tryd.underlying65 Tryd.underlying3 cells3 cells65 h
  intro g row hg
  unfold Hg at hg
  split at hg
  · rename_i e
    subst e
    obtain rfl := Option.some.inj hg
    refine ⟨gsize, ?_, ?_⟩
    · unfold Lib.TabIs World.var? at ht
      rw [gBits] at ht
      simp only [Option.bind_some] at ht
      split at ht
      · rename_i cs e fz hh
        refine ⟨e, fz, ?_⟩
        rw [hh, Option.some.inj ht]
        rfl
      · cases ht
    · intro v hv
      simp only [bitsRow, List.mem_cons, List.not_mem_nil, or_false] at hv
      rcases hv with rfl | rfl | rfl | rfl | rfl | rfl | rfl | rfl <;> rfl
  · cases hg
theorem hg0 : Hg 0 = some bitsRow := rfl
theorem law3 (ps : List Value) (h : Pargs Tryd.prog Tryd.f3.params.toList ps) : PCalls Tryd.prog 3 ps Hg Tryd.prog.globals.size (fun _ => False) (fun p _ _ => p = .bool true) := by
  rw [Tryd.params3] at h
  obtain ⟨_, q1, rfl, h1, h⟩ := pargs_cons h
  obtain ⟨_, q2, rfl, h2, h⟩ := pargs_cons h
  obtain ⟨_, q3, rfl, h3, h⟩ := pargs_cons h
  obtain ⟨_, q4, rfl, h4, h⟩ := pargs_cons h
  obtain ⟨_, q5, rfl, h5, h⟩ := pargs_cons h
  obtain ⟨_, q6, rfl, h6, h⟩ := pargs_cons h
  obtain rfl := pargs_nil h
  obtain ⟨raw, e1, hraw⟩ := con_of ⟨_, Tryd.underlying28⟩ kPer ⟨_, Tryd.underlying26⟩ kCon h1
  obtain ⟨p, e2, hp⟩ := per_of ⟨_, Tryd.underlying28⟩ kPer h2
  obtain ⟨party, e3, _, _⟩ := int_of Tryd.underlying3 h3
  obtain ⟨key, e4⟩ := tag_of Tryd.underlying23 kTag h4
  obtain ⟨l, e5, hl, _⟩ := ints_of Tryd.underlying29 Tryd.underlying3 h5
  obtain ⟨u, e6, hu0, hu1⟩ := int_of Tryd.underlying5 h6
  rw [e1, e2, e3, e4, e5, e6]
  have hx : IntKind.u8.max = 255 := rfl
  exact csteps_ok law27_ConcessionSteps_fn awake new newc within same dcon dname next reg rreg cnvalid rcnvalid raw p party key l u ⟨hu0, by omega⟩ hp hl hraw Hg _ hg0 gsize
theorem law4 (ps : List Value) (h : Pargs Tryd.prog Tryd.f4.params.toList ps) : PCalls Tryd.prog 4 ps Hg Tryd.prog.globals.size (fun _ => False) (fun p _ _ => p = .bool true) := by
  rw [Tryd.params4] at h
  obtain ⟨_, q1, rfl, h1, h⟩ := pargs_cons h
  obtain rfl := pargs_nil h
  obtain ⟨l, e1, hl, _⟩ := ints_of Tryd.underlying29 Tryd.underlying3 h1
  rw [e1]
  exact known_ok law27_ConcessionKnown_fn new newc dname next reg dfind cnvalid awake l hl Hg _ hg0 gsize
end Go.Proofs.YtnighgphfomlkaaDoor
