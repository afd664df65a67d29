/- The statements about layer 25: for every input each law returns true, and its arguments read as they did. -/
import Derived.Test.YtgipgpopmpcddaaJoin
import Derived.WalkKit
import Derived.ProofKit
import Derived.SizedLaws
set_option linter.all false
namespace Go.Proofs.Ytgipgpopmpcddaa
open Go Go.PE
open Go.ChangeShapes
open Go.WideShapes
open Go.ChangeAt
open Go.RowKit
theorem laidOutK : laidOutB Try.prog = true := by kernel_rfl
theorem ownK : ownKnob Try.prog.godebug = none := by kernel_rfl
theorem receiverSteps_contract (H : Type) (enc : TypeId × Value → H) (W : World) (base : Nat) (args : Array Value) (ds gs : List (DataW H)) (before : List MemPlace)
    (hval : ∀ (j : Nat) t v, Try.f3.params[j]? = some t → args[j]? = some v → Value.okWide Try.prog W .any base t v)
    (hW : DataW.Whole enc Try.prog Try.f3.params.toList Rows.receiverStepsSpec.vars false W args.toList ds gs before) {ts' : List TypeId} (hwt : (DataW.weightsEach Try.prog (Try.f3.params.toList ++ ts') (ds ++ gs)).all (· ≤ reachBytes) = true) :
    Calls Try.prog 3 args W fun e W' => ∃ v, e = .returned v ∧ Rows.receiverStepsSpec.post enc Try.prog Try.f3 false true false false W args v W' := by
  refine row_ofGN (Wt Try.prog) reachBytes wt_ok (d := 8) (tb := 4) (fun _ => none) laidOutK ?_ ?_ rfl (by kernel_rfl) Try.underlying4 ?_ law3 W (fun _ _ h => by cases h) base args ds gs before hval hW (fun i t x h1 h2 => wt_of hwt i t x h1 h2)
  · intro t ht
    have h : (Try.f3.params.toList.all fun t => Try.prog.readableRec t && decide (t < Try.prog.types.size)) = true := by kernel_rfl
    have := List.all_eq_true.1 h t ht
    simpa using this
  · intro t ht
    have h : (Try.f3.params.toList.all fun t => plainTy Try.prog 8 t) = true := by kernel_rfl
    exact List.all_eq_true.1 h t ht
  · intro ds hd
    rw [Try.params3] at hd
    match ds, hd with
    | [_, _, _, _], _ => exact ⟨rfl, rfl, rfl⟩
set_option maxRecDepth 100000 in
theorem receiverSteps_lifted (os : Os) (started : os.Started) (H : Type) (enc : TypeId × Value → H) :
    ReturnsInHanded {} Try.checked os 3 .any (Rows.receiverStepsSpec.pre6 enc Try.prog Try.f3 Rows.receiverStepsRow.domain false) (Rows.receiverStepsSpec.post enc Try.prog Try.f3 false true false false) := by
  refine returnsInHanded_of_change_sized (C := Try.checked) ownK started (by kernel_rfl) Try.func3
    (ChangeSpec.witness6 (enc := enc) (C := Try.checked) false ⟨#[], #[ag [.int .i64 0, .slice none 0 0], ag [.int .i64 0, .int .i64 0, .int .i64 0, .int .u8 0, .int .u8 0, .int .u8 0, .int .u8 0, .int .u8 0, .int .u8 0, .int .u8 0, .int .u8 0, .int .u8 0, .int .u8 0, .int .u8 0, .int .u8 0, .int .u8 0, .int .u8 0, .int .u8 0, .int .u8 0, .int .u8 0, .int .u8 0, .int .u8 0, .int .u8 0, .int .u8 0, .int .u8 0, .int .u8 0, .int .u8 0, .int .u8 0, .int .u8 0, .int .u8 0, .int .u8 0, .int .u8 0, .int .u8 0, .int .u8 0, .int .u8 0, .slice none 0 0, .int .u8 0, .int .u8 0, .int .u8 0, .int .u8 0, .int .u8 0, .int .u8 0, .int .u8 0, .int .u8 0, .int .u8 0, .int .u8 0, .int .u8 0, .int .u8 0, .int .u8 0, .int .u8 0, .int .u8 0, .int .u8 0, .int .u8 0, .int .u8 0, .int .u8 0, .int .u8 0, .int .u8 0, .int .u8 0, .int .u8 0, .int .u8 0, .int .u8 0, .int .u8 0, .int .u8 0, .int .u8 0, .int .u8 0, .int .u8 0, .int .u8 0, .int .u8 0], .slice none 0 0, .int .i64 0], []⟩ 8 (by kernel_rfl) (by kernel_rfl) (by kernel_rfl) (by kernel_rfl)) ?_
  intro W base args ds gs before hval hW _ hwt _
  exact receiverSteps_contract H enc W base args ds gs before hval hW hwt
theorem receiverSteps_holds : Rows.ReceiverStepsSaid :=
  OpenClaim.holds_of_wide 3 Try.f3 rfl rfl rfl rfl rfl rfl rfl ⟨rfl, rfl, rfl, rfl, rfl⟩ rfl rfl rfl rfl rfl (by kernel_rfl) Try.func3 (by kernel_rfl)
    (of_decide_eq_true (by kernel_rfl)) (by unfold Func.isWrapper; first | (rw [if_pos (by decide +kernel)]; kernel_rfl) | (rw [if_neg (by decide +kernel)]; exact ⟨rfl, rfl⟩))
    (fun os started H enc _ => receiverSteps_lifted os started H enc)
theorem receiverOrder_contract (H : Type) (enc : TypeId × Value → H) (W : World) (base : Nat) (args : Array Value) (ds gs : List (DataW H)) (before : List MemPlace)
    (hval : ∀ (j : Nat) t v, Try.f4.params[j]? = some t → args[j]? = some v → Value.okWide Try.prog W .any base t v)
    (hW : DataW.Whole enc Try.prog Try.f4.params.toList Rows.receiverOrderSpec.vars false W args.toList ds gs before) {ts' : List TypeId} (hwt : (DataW.weightsEach Try.prog (Try.f4.params.toList ++ ts') (ds ++ gs)).all (· ≤ reachBytes) = true) :
    Calls Try.prog 4 args W fun e W' => ∃ v, e = .returned v ∧ Rows.receiverOrderSpec.post enc Try.prog Try.f4 false true false false W args v W' := by
  refine row_ofGN (Wt Try.prog) reachBytes wt_ok (d := 8) (tb := 4) (fun _ => none) laidOutK ?_ ?_ rfl (by kernel_rfl) Try.underlying4 ?_ law4 W (fun _ _ h => by cases h) base args ds gs before hval hW (fun i t x h1 h2 => wt_of hwt i t x h1 h2)
  · intro t ht
    have h : (Try.f4.params.toList.all fun t => Try.prog.readableRec t && decide (t < Try.prog.types.size)) = true := by kernel_rfl
    have := List.all_eq_true.1 h t ht
    simpa using this
  · intro t ht
    have h : (Try.f4.params.toList.all fun t => plainTy Try.prog 8 t) = true := by kernel_rfl
    exact List.all_eq_true.1 h t ht
  · intro ds hd
    rw [Try.params4] at hd
    match ds, hd with
    | [_, _], _ => exact ⟨rfl, rfl, rfl⟩
set_option maxRecDepth 100000 in
theorem receiverOrder_lifted (os : Os) (started : os.Started) (H : Type) (enc : TypeId × Value → H) :
    ReturnsInHanded {} Try.checked os 4 .any (Rows.receiverOrderSpec.pre6 enc Try.prog Try.f4 Rows.receiverOrderRow.domain false) (Rows.receiverOrderSpec.post enc Try.prog Try.f4 false true false false) := by
  refine returnsInHanded_of_change_sized (C := Try.checked) ownK started (by kernel_rfl) Try.func4
    (ChangeSpec.witness6 (enc := enc) (C := Try.checked) false ⟨#[], #[.slice none 0 0, .int .u8 0], []⟩ 8 (by kernel_rfl) (by kernel_rfl) (by kernel_rfl) (by kernel_rfl)) ?_
  intro W base args ds gs before hval hW _ hwt _
  exact receiverOrder_contract H enc W base args ds gs before hval hW hwt
theorem receiverOrder_holds : Rows.ReceiverOrderSaid :=
  OpenClaim.holds_of_wide 4 Try.f4 rfl rfl rfl rfl rfl rfl rfl ⟨rfl, rfl, rfl, rfl, rfl⟩ rfl rfl rfl rfl rfl (by kernel_rfl) Try.func4 (by kernel_rfl)
    (of_decide_eq_true (by kernel_rfl)) (by unfold Func.isWrapper; first | (rw [if_pos (by decide +kernel)]; kernel_rfl) | (rw [if_neg (by decide +kernel)]; exact ⟨rfl, rfl⟩))
    (fun os started H enc _ => receiverOrder_lifted os started H enc)
end Go.Proofs.Ytgipgpopmpcddaa
