/- The statements about layers 8 and 9: for every input each law returns true, and its arguments read as they did. The variable macaroon/predicate.bits starts as the program's text lays it (tied by the card). -/
import Derived.Test.YtmcfkmdhjihgmaaDoorJoin
import Derived.Test.YtmcfkmdhjihgmaaDoorCards
import Derived.Test.YtmcfkmdhjihgmaaDoorTie
import Derived.WalkKit
import Derived.ProofKit
import Derived.OpenShut
import Derived.Deep.DeepHandedRow
import Derived.Lib.LaidTab
set_option linter.all false
namespace Go.Proofs.YtmcfkmdhjihgmaaDoor
open Go Go.PE
open Go.ChangeShapes
open Go.WideShapes
open Go.RowKit
theorem laidOutK : laidOutB Tryd.prog = true := by kernel_rfl
theorem ownK : ownKnob Tryd.prog.godebug = none := by kernel_rfl
/-- a world for the witness -/
noncomputable def laidWorld (os : Os) : World :=
  { World.holding Tryd.prog os ⟨#[], #[], []⟩ with heap := (World.holding Tryd.prog os ⟨#[], #[], []⟩).heap.modify 0 fun
      | .cells _ t frozen => .cells #[.int .i64 0, .int .i64 64, .int .i64 32, .int .i64 7, .int .i64 0, .int .i64 0, .int .i64 0, .int .i64 0] t frozen
      | o => o }
set_option maxRecDepth 20000 in
theorem authorityContains_contract (H : Type) (enc : TypeId × Value → H) (W : World) (base : Nat) (args : Array Value) (ds gs : List (DataW H)) (before : List MemPlace)
    (hval : ∀ (j : Nat) t v, Tryd.f7.params[j]? = some t → args[j]? = some v → Value.okWide Tryd.prog W .any base t v)
    (hW : DataW.Whole enc Tryd.prog Tryd.f7.params.toList Rows.authorityContainsSpec.vars false W args.toList ds gs before) (hL : laidMetH Tryd.prog Rows.authorityContainsRow.laid W) :
    Calls Tryd.prog 7 args W fun e W' => ∃ v, e = .returned v ∧ Rows.authorityContainsSpec.post enc Tryd.prog Tryd.f7 false true false false W args v W' := by
  refine row_ofG (d := 8) (tb := 4) Hg laidOutK ?_ ?_ rfl (by kernel_rfl) Tryd.underlying4 ?_ law7 W (laidHolds hL) base args ds gs before hval hW
  · intro t ht
    have h : (Tryd.f7.params.toList.all fun t => Tryd.prog.readableRec t && decide (t < Tryd.prog.types.size)) = true := by kernel_rfl
    have := List.all_eq_true.1 h t ht
    simpa using this
  · intro t ht
    have h : (Tryd.f7.params.toList.all fun t => plainTy Tryd.prog 8 t) = true := by kernel_rfl
    exact List.all_eq_true.1 h t ht
  · intro ds hd
    rw [Tryd.params7] at hd
    match ds, hd with
    | [_, _, _, _], _ => exact ⟨rfl, rfl, rfl⟩
theorem authorityContains_laid (os : Os) : laidMet Tryd.prog Rows.authorityContainsRow.laid ((laidWorld os).forCall (fun _ _ => 0) ⟨#[], #[ag [.bool false, .int .u64 0, .int .u64 0, .int .u64 0, .int .i64 0, .int .i64 0, .slice none 0 0, .string ⟨#[]⟩], ag [.int .i64 0, .int .i64 0, .int .i64 0, .string ⟨#[]⟩], .slice none 0 0, .slice none 0 0], []⟩).memory :=
  laidMet_of_run' 8 (by kernel_rfl) (by kernel_rfl)
theorem authorityContains_reads (os : Os) {H : Type} (enc : TypeId × Value → H) : ∃ places, DataW.whole enc Tryd.prog ((laidWorld os).forCall (fun _ _ => 0) ⟨#[], #[ag [.bool false, .int .u64 0, .int .u64 0, .int .u64 0, .int .i64 0, .int .i64 0, .slice none 0 0, .string ⟨#[]⟩], ag [.int .i64 0, .int .i64 0, .int .i64 0, .string ⟨#[]⟩], .slice none 0 0, .slice none 0 0], []⟩).memory Tryd.f7.params.toList Rows.authorityContainsSpec.vars false #[ag [.bool false, .int .u64 0, .int .u64 0, .int .u64 0, .int .i64 0, .int .i64 0, .slice none 0 0, .string ⟨#[]⟩], ag [.int .i64 0, .int .i64 0, .int .i64 0, .string ⟨#[]⟩], .slice none 0 0, .slice none 0 0].toList 8 = some ([.agg [.lit (.bool false), .lit (.int .u64 0), .lit (.int .u64 0), .lit (.int .u64 0), .lit (.int .i64 0), .lit (.int .i64 0), .nil, .lit (.string [])], .agg [.lit (.int .i64 0), .lit (.int .i64 0), .lit (.int .i64 0), .lit (.string [])], .nil, .nil], [], places) :=
  ⟨[], by kernel_rfl⟩
set_option maxRecDepth 100000 in
theorem authorityContains_lifted (os : Os) (started : os.Started) (H : Type) (enc : TypeId × Value → H) (F : Stop.Interp) :
    ReturnsInHanded {} Tryd.checked os 7 .any ((OpenSpec.ofChange Rows.authorityContainsSpec).preRow enc Tryd.prog Tryd.f7 Rows.authorityContainsRow.domain false Rows.authorityContainsRow.laid) (((OpenSpec.ofChange Rows.authorityContainsSpec).at F).post enc Tryd.prog Tryd.f7 false true false false) := by
  obtain ⟨places, hx⟩ := authorityContains_reads os enc
  refine returnsInHanded_of_row (C := Tryd.checked) (s := OpenSpec.ofChange Rows.authorityContainsSpec) ownK started (by kernel_rfl) Tryd.func7
    (witness_row_at (enc := enc) (C := Tryd.checked) false (laidWorld os) #[ag [.bool false, .int .u64 0, .int .u64 0, .int .u64 0, .int .i64 0, .int .i64 0, .slice none 0 0, .string ⟨#[]⟩], ag [.int .i64 0, .int .i64 0, .int .i64 0, .string ⟨#[]⟩], .slice none 0 0, .slice none 0 0] rfl (by kernel_rfl) (by kernel_rfl) (by kernel_rfl)
      (OpenSpec.preRow_of_cond 8 hx (by kernel_rfl) (fun k hk => by cases hk) (by kernel_rfl) (authorityContains_laid os))) ?_
  intro W base args ds gs before hval hW _ _ _ hL _ _
  exact authorityContains_contract H enc W base args ds gs before hval hW hL
theorem authorityContains_said : Rows.AuthorityContainsSaid :=
  OpenClaim.holds_of_cond 7 Tryd.f7 rfl rfl rfl rfl rfl rfl rfl ⟨rfl, rfl, rfl, rfl, rfl⟩ rfl rfl rfl rfl rfl (by kernel_rfl) Tryd.func7 (by kernel_rfl)
    (of_decide_eq_true (by kernel_rfl)) (by unfold Func.isWrapper; first | (rw [if_pos (by decide +kernel)]; kernel_rfl) | (rw [if_neg (by decide +kernel)]; exact ⟨rfl, rfl⟩))
    (fun os started H enc _ F => by rw [OpenClaim.pre_eq_preRow]; exact authorityContains_lifted os started H enc F)
theorem authorityContains_plain (f : FuncId) (fn : Func) (hf : Tryd.pinned.checked.prog.funcNamed Rows.authorityContainsRow.func = some f) (hfn : Tryd.pinned.checked.prog.funcs[f]? = some fn) :
    false = Tryd.pinned.checked.prog.looks [] ∧ ∀ (j : Nat) t, fn.params[j]? = some t → Tryd.pinned.checked.prog.wantsStandIn t = false := by
  obtain rfl : f = 7 := Option.some.inj ((show Tryd.prog.funcNamed Rows.authorityContainsRow.func = some 7 by kernel_rfl).symm.trans hf) |>.symm
  obtain rfl : fn = Tryd.f7 := (Option.some.inj (Tryd.func7.symm.trans hfn)).symm
  refine ⟨by kernel_rfl, fun j t ht => ?_⟩
  have h : (Tryd.f7.params.toList.all fun t => !Tryd.prog.wantsStandIn t) = true := by kernel_rfl
  have := List.all_eq_true.1 h t (by simpa using Array.mem_of_getElem? ht)
  exact (show Tryd.prog.wantsStandIn t = false by simpa using this)
/-- THE CARD: for every input the law returns true, and its arguments read as they did -/
theorem authorityContains_card : Rows.AuthorityContainsCardSaid :=
  Claim7.holds_tied_plain_at .later [] _ _ _ _ authorityContains_said (fun _ h => by cases h) (by kernel_rfl) (fun _ h => by cases h) authorityContains_row_tie rfl ⟨rfl, rfl⟩ (by kernel_rfl) rfl authorityContains_plain (by kernel_rfl)
end Go.Proofs.YtmcfkmdhjihgmaaDoor
