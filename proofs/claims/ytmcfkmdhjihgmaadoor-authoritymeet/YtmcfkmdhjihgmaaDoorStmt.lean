/- The statements about layers 8 and 9: for every input each law returns true, and its arguments read as they did. The variable macaroon/predicate.bits starts as the program's text lays it (tied by the card). -/
import Derived.Test.YtmcfkmdhjihgmaaDoorJoin
import Derived.Test.YtmcfkmdhjihgmaaDoorCards
import Derived.Test.YtmcfkmdhjihgmaaDoorTie
import Derived.WalkKit
import Derived.ProofKit
import Derived.OpenShut
import Derived.Deep.DeepHandedRow
import Derived.Lib.LaidTab
set_option linter.all false
namespace Go.Proofs.YtmcfkmdhjihgmaaDoor
open Go Go.PE
open Go.ChangeShapes
open Go.WideShapes
open Go.RowKit
theorem laidOutK : laidOutB Tryd.prog = true := by kernel_rfl
theorem ownK : ownKnob Tryd.prog.godebug = none := by kernel_rfl
/-- a world for the witness -/
noncomputable def laidWorld (os : Os) : World :=
  { World.holding Tryd.prog os ⟨#[], #[], []⟩ with heap := (World.holding Tryd.prog os ⟨#[], #[], []⟩).heap.modify 0 fun
      | .cells _ t frozen => .cells #[.int .i64 0, .int .i64 64, .int .i64 32, .int .i64 7, .int .i64 0, .int .i64 0, .int .i64 0, .int .i64 0] t frozen
      | o => o }
set_option maxRecDepth 20000 in
theorem authorityMeet_contract (H : Type) (enc : TypeId × Value → H) (W : World) (base : Nat) (args : Array Value) (ds gs : List (DataW H)) (before : List MemPlace)
    (hval : ∀ (j : Nat) t v, Tryd.f8.params[j]? = some t → args[j]? = some v → Value.okWide Tryd.prog W .any base t v)
    (hW : DataW.Whole enc Tryd.prog Tryd.f8.params.toList Rows.authorityMeetSpec.vars false W args.toList ds gs before) (hL : laidMetH Tryd.prog Rows.authorityMeetRow.laid W) :
    Calls Tryd.prog 8 args W fun e W' => ∃ v, e = .returned v ∧ Rows.authorityMeetSpec.post enc Tryd.prog Tryd.f8 false true false false W args v W' := by
  refine row_ofG (d := 8) (tb := 4) Hg laidOutK ?_ ?_ rfl (by kernel_rfl) Tryd.underlying4 ?_ law8 W (laidHolds hL) base args ds gs before hval hW
  · intro t ht
    have h : (Tryd.f8.params.toList.all fun t => Tryd.prog.readableRec t && decide (t < Tryd.prog.types.size)) = true := by kernel_rfl
    have := List.all_eq_true.1 h t ht
    simpa using this
  · intro t ht
    have h : (Tryd.f8.params.toList.all fun t => plainTy Tryd.prog 8 t) = true := by kernel_rfl
    exact List.all_eq_true.1 h t ht
  · intro ds hd
    rw [Tryd.params8] at hd
    match ds, hd with
    | [_, _, _], _ => exact ⟨rfl, rfl, rfl⟩
theorem authorityMeet_laid (os : Os) : laidMet Tryd.prog Rows.authorityMeetRow.laid ((laidWorld os).forCall (fun _ _ => 0) ⟨#[], #[ag [.bool false, .int .u64 0, .int .u64 0, .int .u64 0, .int .i64 0, .int .i64 0, .slice none 0 0, .string ⟨#[]⟩], .slice none 0 0, .slice none 0 0], []⟩).memory :=
  laidMet_of_run' 8 (by kernel_rfl) (by kernel_rfl)
theorem authorityMeet_reads (os : Os) {H : Type} (enc : TypeId × Value → H) : ∃ places, DataW.whole enc Tryd.prog ((laidWorld os).forCall (fun _ _ => 0) ⟨#[], #[ag [.bool false, .int .u64 0, .int .u64 0, .int .u64 0, .int .i64 0, .int .i64 0, .slice none 0 0, .string ⟨#[]⟩], .slice none 0 0, .slice none 0 0], []⟩).memory Tryd.f8.params.toList Rows.authorityMeetSpec.vars false #[ag [.bool false, .int .u64 0, .int .u64 0, .int .u64 0, .int .i64 0, .int .i64 0, .slice none 0 0, .string ⟨#[]⟩], .slice none 0 0, .slice none 0 0].toList 8 = some ([.agg [.lit (.bool false), .lit (.int .u64 0), .lit (.int .u64 0), .lit (.int .u64 0), .lit (.int .i64 0), .lit (.int .i64 0), .nil, .lit (.string [])], .nil, .nil], [], places) :=
  ⟨[], by kernel_rfl⟩
set_option maxRecDepth 100000 in
theorem authorityMeet_lifted (os : Os) (started : os.Started) (H : Type) (enc : TypeId × Value → H) (F : Stop.Interp) :
    ReturnsInHanded {} Tryd.checked os 8 .any ((OpenSpec.ofChange Rows.authorityMeetSpec).preRow enc Tryd.prog Tryd.f8 Rows.authorityMeetRow.domain false Rows.authorityMeetRow.laid) (((OpenSpec.ofChange Rows.authorityMeetSpec).at F).post enc Tryd.prog Tryd.f8 false true false false) := by
  obtain ⟨places, hx⟩ := authorityMeet_reads os enc
  refine returnsInHanded_of_row (C := Tryd.checked) (s := OpenSpec.ofChange Rows.authorityMeetSpec) ownK started (by kernel_rfl) Tryd.func8
    (witness_row_at (enc := enc) (C := Tryd.checked) false (laidWorld os) #[ag [.bool false, .int .u64 0, .int .u64 0, .int .u64 0, .int .i64 0, .int .i64 0, .slice none 0 0, .string ⟨#[]⟩], .slice none 0 0, .slice none 0 0] rfl (by kernel_rfl) (by kernel_rfl) (by kernel_rfl)
      (OpenSpec.preRow_of_cond 8 hx (by kernel_rfl) (fun k hk => by cases hk) (by kernel_rfl) (authorityMeet_laid os))) ?_
  intro W base args ds gs before hval hW _ _ _ hL _ _
  exact authorityMeet_contract H enc W base args ds gs before hval hW hL
theorem authorityMeet_said : Rows.AuthorityMeetSaid :=
  OpenClaim.holds_of_cond 8 Tryd.f8 rfl rfl rfl rfl rfl rfl rfl ⟨rfl, rfl, rfl, rfl, rfl⟩ rfl rfl rfl rfl rfl (by kernel_rfl) Tryd.func8 (by kernel_rfl)
    (of_decide_eq_true (by kernel_rfl)) (by unfold Func.isWrapper; first | (rw [if_pos (by decide +kernel)]; kernel_rfl) | (rw [if_neg (by decide +kernel)]; exact ⟨rfl, rfl⟩))
    (fun os started H enc _ F => by rw [OpenClaim.pre_eq_preRow]; exact authorityMeet_lifted os started H enc F)
theorem authorityMeet_plain (f : FuncId) (fn : Func) (hf : Tryd.pinned.checked.prog.funcNamed Rows.authorityMeetRow.func = some f) (hfn : Tryd.pinned.checked.prog.funcs[f]? = some fn) :
    false = Tryd.pinned.checked.prog.looks [] ∧ ∀ (j : Nat) t, fn.params[j]? = some t → Tryd.pinned.checked.prog.wantsStandIn t = false := by
  obtain rfl : f = 8 := Option.some.inj ((show Tryd.prog.funcNamed Rows.authorityMeetRow.func = some 8 by kernel_rfl).symm.trans hf) |>.symm
  obtain rfl : fn = Tryd.f8 := (Option.some.inj (Tryd.func8.symm.trans hfn)).symm
  refine ⟨by kernel_rfl, fun j t ht => ?_⟩
  have h : (Tryd.f8.params.toList.all fun t => !Tryd.prog.wantsStandIn t) = true := by kernel_rfl
  have := List.all_eq_true.1 h t (by simpa using Array.mem_of_getElem? ht)
  exact (show Tryd.prog.wantsStandIn t = false by simpa using this)
/-- THE CARD: for every input the law returns true, and its arguments read as they did -/
theorem authorityMeet_card : Rows.AuthorityMeetCardSaid :=
  Claim7.holds_tied_plain_at .later [] _ _ _ _ authorityMeet_said (fun _ h => by cases h) (by kernel_rfl) (fun _ h => by cases h) authorityMeet_row_tie rfl ⟨rfl, rfl⟩ (by kernel_rfl) rfl authorityMeet_plain (by kernel_rfl)
end Go.Proofs.YtmcfkmdhjihgmaaDoor
