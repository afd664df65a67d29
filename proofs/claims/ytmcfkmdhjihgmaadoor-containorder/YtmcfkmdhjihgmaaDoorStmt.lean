/- The statements about layers 8 and 9: for every input each law returns true, and its arguments read as they did. The variables macaroon/predicate.bits and math/bits.deBruijn64tab start as the program's text lays them (tied by the card). -/
import Derived.Test.YtmcfkmdhjihgmaaDoorJoin
import Derived.Test.YtmcfkmdhjihgmaaDoorCards
import Derived.Test.YtmcfkmdhjihgmaaDoorTie
import Derived.WalkKit
import Derived.ProofKit
import Derived.OpenShut
import Derived.Deep.DeepHandedRow
import Derived.Lib.LaidTab
set_option linter.all false
namespace Go.Proofs.YtmcfkmdhjihgmaaDoor
open Go Go.PE
open Go.ChangeShapes
open Go.WideShapes
open Go.RowKit
theorem laidOutK : laidOutB Tryd.prog = true := by kernel_rfl
theorem ownK : ownKnob Tryd.prog.godebug = none := by kernel_rfl
/-- a world for the witness -/
noncomputable def laidWorld (os : Os) : World :=
  { World.holding Tryd.prog os ⟨#[], #[], []⟩ with heap := (((World.holding Tryd.prog os ⟨#[], #[], []⟩).heap.modify 0 fun
      | .cells _ t frozen => .cells #[.int .i64 0, .int .i64 64, .int .i64 32, .int .i64 7, .int .i64 0, .int .i64 0, .int .i64 0, .int .i64 0] t frozen
      | o => o).modify 1 fun
      | .cells _ t frozen => .cells #[.int .u8 0, .int .u8 1, .int .u8 56, .int .u8 2, .int .u8 57, .int .u8 49, .int .u8 28, .int .u8 3, .int .u8 61, .int .u8 58, .int .u8 42, .int .u8 50, .int .u8 38, .int .u8 29, .int .u8 17, .int .u8 4, .int .u8 62, .int .u8 47, .int .u8 59, .int .u8 36, .int .u8 45, .int .u8 43, .int .u8 51, .int .u8 22, .int .u8 53, .int .u8 39, .int .u8 33, .int .u8 30, .int .u8 24, .int .u8 18, .int .u8 12, .int .u8 5, .int .u8 63, .int .u8 55, .int .u8 48, .int .u8 27, .int .u8 60, .int .u8 41, .int .u8 37, .int .u8 16, .int .u8 46, .int .u8 35, .int .u8 44, .int .u8 21, .int .u8 52, .int .u8 32, .int .u8 23, .int .u8 11, .int .u8 54, .int .u8 26, .int .u8 40, .int .u8 15, .int .u8 34, .int .u8 20, .int .u8 31, .int .u8 10, .int .u8 25, .int .u8 14, .int .u8 19, .int .u8 9, .int .u8 13, .int .u8 8, .int .u8 7, .int .u8 6] t frozen
      | o => o) }
set_option maxRecDepth 20000 in
theorem containOrder_contract (H : Type) (enc : TypeId × Value → H) (W : World) (base : Nat) (args : Array Value) (ds gs : List (DataW H)) (before : List MemPlace)
    (hval : ∀ (j : Nat) t v, Tryd.f12.params[j]? = some t → args[j]? = some v → Value.okWide Tryd.prog W .any base t v)
    (hW : DataW.Whole enc Tryd.prog Tryd.f12.params.toList Rows.containOrderSpec.vars false W args.toList ds gs before) (hL : laidMetH Tryd.prog Rows.containOrderRow.laid W) :
    Calls Tryd.prog 12 args W fun e W' => ∃ v, e = .returned v ∧ Rows.containOrderSpec.post enc Tryd.prog Tryd.f12 false true false false W args v W' := by
  refine row_ofG (d := 8) (tb := 4) Hg9 laidOutK ?_ ?_ rfl (by kernel_rfl) Tryd.underlying4 ?_ law12 W (laidHolds9 hL) base args ds gs before hval hW
  · intro t ht
    have h : (Tryd.f12.params.toList.all fun t => Tryd.prog.readableRec t && decide (t < Tryd.prog.types.size)) = true := by kernel_rfl
    have := List.all_eq_true.1 h t ht
    simpa using this
  · intro t ht
    have h : (Tryd.f12.params.toList.all fun t => plainTy Tryd.prog 8 t) = true := by kernel_rfl
    exact List.all_eq_true.1 h t ht
  · intro ds hd
    rw [Tryd.params12] at hd
    match ds, hd with
    | [_, _], _ => exact ⟨rfl, rfl, rfl⟩
theorem containOrder_laid (os : Os) : laidMet Tryd.prog Rows.containOrderRow.laid ((laidWorld os).forCall (fun _ _ => 0) ⟨#[], #[.slice none 0 0, .slice none 0 0], []⟩).memory :=
  laidMet_of_run' 8 (by kernel_rfl) (by kernel_rfl)
theorem containOrder_reads (os : Os) {H : Type} (enc : TypeId × Value → H) : ∃ places, DataW.whole enc Tryd.prog ((laidWorld os).forCall (fun _ _ => 0) ⟨#[], #[.slice none 0 0, .slice none 0 0], []⟩).memory Tryd.f12.params.toList Rows.containOrderSpec.vars false #[.slice none 0 0, .slice none 0 0].toList 8 = some ([.nil, .nil], [], places) :=
  ⟨[], by kernel_rfl⟩
set_option maxRecDepth 100000 in
theorem containOrder_lifted (os : Os) (started : os.Started) (H : Type) (enc : TypeId × Value → H) (F : Stop.Interp) :
    ReturnsInHanded {} Tryd.checked os 12 .any ((OpenSpec.ofChange Rows.containOrderSpec).preRow enc Tryd.prog Tryd.f12 Rows.containOrderRow.domain false Rows.containOrderRow.laid) (((OpenSpec.ofChange Rows.containOrderSpec).at F).post enc Tryd.prog Tryd.f12 false true false false) := by
  obtain ⟨places, hx⟩ := containOrder_reads os enc
  refine returnsInHanded_of_row (C := Tryd.checked) (s := OpenSpec.ofChange Rows.containOrderSpec) ownK started (by kernel_rfl) Tryd.func12
    (witness_row_at (enc := enc) (C := Tryd.checked) false (laidWorld os) #[.slice none 0 0, .slice none 0 0] rfl (by kernel_rfl) (by kernel_rfl) (by kernel_rfl)
      (OpenSpec.preRow_of_cond 8 hx (by kernel_rfl) (fun k hk => by cases hk) (by kernel_rfl) (containOrder_laid os))) ?_
  intro W base args ds gs before hval hW _ _ _ hL _ _
  exact containOrder_contract H enc W base args ds gs before hval hW hL
theorem containOrder_said : Rows.ContainOrderSaid :=
  OpenClaim.holds_of_cond 12 Tryd.f12 rfl rfl rfl rfl rfl rfl rfl ⟨rfl, rfl, rfl, rfl, rfl⟩ rfl rfl rfl rfl rfl (by kernel_rfl) Tryd.func12 (by kernel_rfl)
    (of_decide_eq_true (by kernel_rfl)) (by unfold Func.isWrapper; first | (rw [if_pos (by decide +kernel)]; kernel_rfl) | (rw [if_neg (by decide +kernel)]; exact ⟨rfl, rfl⟩))
    (fun os started H enc _ F => by rw [OpenClaim.pre_eq_preRow]; exact containOrder_lifted os started H enc F)
theorem containOrder_plain (f : FuncId) (fn : Func) (hf : Tryd.pinned.checked.prog.funcNamed Rows.containOrderRow.func = some f) (hfn : Tryd.pinned.checked.prog.funcs[f]? = some fn) :
    false = Tryd.pinned.checked.prog.looks [] ∧ ∀ (j : Nat) t, fn.params[j]? = some t → Tryd.pinned.checked.prog.wantsStandIn t = false := by
  obtain rfl : f = 12 := Option.some.inj ((show Tryd.prog.funcNamed Rows.containOrderRow.func = some 12 by kernel_rfl).symm.trans hf) |>.symm
  obtain rfl : fn = Tryd.f12 := (Option.some.inj (Tryd.func12.symm.trans hfn)).symm
  refine ⟨by kernel_rfl, fun j t ht => ?_⟩
  have h : (Tryd.f12.params.toList.all fun t => !Tryd.prog.wantsStandIn t) = true := by kernel_rfl
  have := List.all_eq_true.1 h t (by simpa using Array.mem_of_getElem? ht)
  exact (show Tryd.prog.wantsStandIn t = false by simpa using this)
/-- THE CARD: for every input the law returns true, and its arguments read as they did -/
theorem containOrder_card : Rows.ContainOrderCardSaid :=
  Claim7.holds_tied_plain_at .later [] _ _ _ _ containOrder_said (fun _ h => by cases h) (by kernel_rfl) (fun _ h => by cases h) containOrder_row_tie rfl ⟨rfl, rfl⟩ (by kernel_rfl) rfl containOrder_plain (by kernel_rfl)
end Go.Proofs.YtmcfkmdhjihgmaaDoor
