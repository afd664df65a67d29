/- The statements about layer 28: for every input each law returns true, and its arguments read as they did. -/
import Derived.Test.YtabichlcgiafcaaJoin
import Derived.WalkKit
import Derived.ProofKit
set_option linter.all false
namespace Go.Proofs.Ytabichlcgiafcaa
open Go Go.PE
open Go.ChangeShapes
open Go.WideShapes
open Go.ChangeAt
open Go.RowKit
theorem laidOutK : laidOutB Try.prog = true := by kernel_rfl
theorem ownK : ownKnob Try.prog.godebug = none := by kernel_rfl
theorem ledgerSteps_contract (H : Type) (enc : TypeId × Value → H) (W : World) (base : Nat) (args : Array Value) (ds gs : List (DataW H)) (before : List MemPlace)
    (hval : ∀ (j : Nat) t v, Try.f3.params[j]? = some t → args[j]? = some v → Value.okWide Try.prog W .any base t v)
    (hW : DataW.Whole enc Try.prog Try.f3.params.toList Rows.ledgerStepsSpec.vars false W args.toList ds gs before) :
    Calls Try.prog 3 args W fun e W' => ∃ v, e = .returned v ∧ Rows.ledgerStepsSpec.post enc Try.prog Try.f3 false true false false W args v W' := by
  refine row_of (d := 6) (tb := 4) laidOutK ?_ ?_ rfl (by kernel_rfl) Try.underlying4 ?_ law3 W base args ds gs before hval hW
  · intro t ht
    have h : (Try.f3.params.toList.all fun t => Try.prog.readableRec t && decide (t < Try.prog.types.size)) = true := by kernel_rfl
    have := List.all_eq_true.1 h t ht
    simpa using this
  · intro t ht
    have h : (Try.f3.params.toList.all fun t => plainTy Try.prog 6 t) = true := by kernel_rfl
    exact List.all_eq_true.1 h t ht
  · intro ds hd
    rw [Try.params3] at hd
    match ds, hd with
    | [_, _, _, _], _ => exact ⟨rfl, rfl, rfl⟩
set_option maxRecDepth 100000 in
theorem ledgerSteps_lifted (os : Os) (started : os.Started) (H : Type) (enc : TypeId × Value → H) :
    ReturnsInHanded {} Try.checked os 3 .any (Rows.ledgerStepsSpec.pre6 enc Try.prog Try.f3 Rows.ledgerStepsRow.domain false) (Rows.ledgerStepsSpec.post enc Try.prog Try.f3 false true false false) := by
  refine returnsInHanded_of_change (C := Try.checked) ownK started (by kernel_rfl) Try.func3
    (ChangeSpec.witness6 (enc := enc) (C := Try.checked) false ⟨#[], #[.slice none 0 0, .slice none 0 0, .slice none 0 0, ag [.int .u8 0, .int .u8 0, .int .u8 0, .int .u8 0, .int .u8 0, .int .u8 0, .int .u8 0, .int .u8 0, .int .u8 0, .int .u8 0, .int .u8 0, .int .u8 0, .int .u8 0, .int .u8 0, .int .u8 0, .int .u8 0, .int .u8 0, .int .u8 0, .int .u8 0, .int .u8 0, .int .u8 0, .int .u8 0, .int .u8 0, .int .u8 0, .int .u8 0, .int .u8 0, .int .u8 0, .int .u8 0, .int .u8 0, .int .u8 0, .int .u8 0, .int .u8 0]], []⟩ 8 (by kernel_rfl) (by kernel_rfl) (by kernel_rfl) (by kernel_rfl)) ?_
  intro W base args ds gs before hval hW _ _
  exact ledgerSteps_contract H enc W base args ds gs before hval hW
theorem ledgerSteps_holds : Rows.LedgerStepsSaid :=
  OpenClaim.holds_of_wide 3 Try.f3 rfl rfl rfl rfl rfl rfl rfl ⟨rfl, rfl, rfl, rfl, rfl⟩ rfl rfl rfl rfl rfl (by kernel_rfl) Try.func3 (by kernel_rfl)
    (of_decide_eq_true (by kernel_rfl)) (by unfold Func.isWrapper; first | (rw [if_pos (by decide +kernel)]; kernel_rfl) | (rw [if_neg (by decide +kernel)]; exact ⟨rfl, rfl⟩))
    (fun os started H enc _ => ledgerSteps_lifted os started H enc)
theorem ledgerAdds_contract (H : Type) (enc : TypeId × Value → H) (W : World) (base : Nat) (args : Array Value) (ds gs : List (DataW H)) (before : List MemPlace)
    (hval : ∀ (j : Nat) t v, Try.f4.params[j]? = some t → args[j]? = some v → Value.okWide Try.prog W .any base t v)
    (hW : DataW.Whole enc Try.prog Try.f4.params.toList Rows.ledgerAddsSpec.vars false W args.toList ds gs before) :
    Calls Try.prog 4 args W fun e W' => ∃ v, e = .returned v ∧ Rows.ledgerAddsSpec.post enc Try.prog Try.f4 false true false false W args v W' := by
  refine row_of (d := 6) (tb := 4) laidOutK ?_ ?_ rfl (by kernel_rfl) Try.underlying4 ?_ law4 W base args ds gs before hval hW
  · intro t ht
    have h : (Try.f4.params.toList.all fun t => Try.prog.readableRec t && decide (t < Try.prog.types.size)) = true := by kernel_rfl
    have := List.all_eq_true.1 h t ht
    simpa using this
  · intro t ht
    have h : (Try.f4.params.toList.all fun t => plainTy Try.prog 6 t) = true := by kernel_rfl
    exact List.all_eq_true.1 h t ht
  · intro ds hd
    rw [Try.params4] at hd
    match ds, hd with
    | [_, _], _ => exact ⟨rfl, rfl, rfl⟩
set_option maxRecDepth 100000 in
theorem ledgerAdds_lifted (os : Os) (started : os.Started) (H : Type) (enc : TypeId × Value → H) :
    ReturnsInHanded {} Try.checked os 4 .any (Rows.ledgerAddsSpec.pre6 enc Try.prog Try.f4 Rows.ledgerAddsRow.domain false) (Rows.ledgerAddsSpec.post enc Try.prog Try.f4 false true false false) := by
  refine returnsInHanded_of_change (C := Try.checked) ownK started (by kernel_rfl) Try.func4
    (ChangeSpec.witness6 (enc := enc) (C := Try.checked) false ⟨#[], #[.slice none 0 0, .int .u8 0], []⟩ 8 (by kernel_rfl) (by kernel_rfl) (by kernel_rfl) (by kernel_rfl)) ?_
  intro W base args ds gs before hval hW _ _
  exact ledgerAdds_contract H enc W base args ds gs before hval hW
theorem ledgerAdds_holds : Rows.LedgerAddsSaid :=
  OpenClaim.holds_of_wide 4 Try.f4 rfl rfl rfl rfl rfl rfl rfl ⟨rfl, rfl, rfl, rfl, rfl⟩ rfl rfl rfl rfl rfl (by kernel_rfl) Try.func4 (by kernel_rfl)
    (of_decide_eq_true (by kernel_rfl)) (by unfold Func.isWrapper; first | (rw [if_pos (by decide +kernel)]; kernel_rfl) | (rw [if_neg (by decide +kernel)]; exact ⟨rfl, rfl⟩))
    (fun os started H enc _ => ledgerAdds_lifted os started H enc)
theorem ledgerRoom_contract (H : Type) (enc : TypeId × Value → H) (W : World) (base : Nat) (args : Array Value) (ds gs : List (DataW H)) (before : List MemPlace)
    (hval : ∀ (j : Nat) t v, Try.f5.params[j]? = some t → args[j]? = some v → Value.okWide Try.prog W .any base t v)
    (hW : DataW.Whole enc Try.prog Try.f5.params.toList Rows.ledgerRoomSpec.vars false W args.toList ds gs before) :
    Calls Try.prog 5 args W fun e W' => ∃ v, e = .returned v ∧ Rows.ledgerRoomSpec.post enc Try.prog Try.f5 false true false false W args v W' := by
  refine row_of (d := 6) (tb := 4) laidOutK ?_ ?_ rfl (by kernel_rfl) Try.underlying4 ?_ law5 W base args ds gs before hval hW
  · intro t ht
    have h : (Try.f5.params.toList.all fun t => Try.prog.readableRec t && decide (t < Try.prog.types.size)) = true := by kernel_rfl
    have := List.all_eq_true.1 h t ht
    simpa using this
  · intro t ht
    have h : (Try.f5.params.toList.all fun t => plainTy Try.prog 6 t) = true := by kernel_rfl
    exact List.all_eq_true.1 h t ht
  · intro ds hd
    rw [Try.params5] at hd
    match ds, hd with
    | [_, _, _, _], _ => exact ⟨rfl, rfl, rfl⟩
set_option maxRecDepth 100000 in
theorem ledgerRoom_lifted (os : Os) (started : os.Started) (H : Type) (enc : TypeId × Value → H) :
    ReturnsInHanded {} Try.checked os 5 .any (Rows.ledgerRoomSpec.pre6 enc Try.prog Try.f5 Rows.ledgerRoomRow.domain false) (Rows.ledgerRoomSpec.post enc Try.prog Try.f5 false true false false) := by
  refine returnsInHanded_of_change (C := Try.checked) ownK started (by kernel_rfl) Try.func5
    (ChangeSpec.witness6 (enc := enc) (C := Try.checked) false ⟨#[], #[ag [.int .i64 0, .int .i64 0, .int .i64 0, .int .i64 0, .slice none 0 0, .int .u8 0, .int .u8 0, .int .u8 0, .int .u8 0, .int .u8 0, .int .u8 0, .int .u8 0, .int .u8 0, .int .u8 0, .int .u8 0, .int .u8 0, .int .u8 0, .int .u8 0, .int .u8 0, .int .u8 0, .int .u8 0, .int .u8 0, .int .u8 0, .int .u8 0, .int .u8 0, .int .u8 0, .int .u8 0, .int .u8 0, .int .u8 0, .int .u8 0, .int .u8 0, .int .u8 0, .int .u8 0, .int .u8 0, .int .u8 0, .int .u8 0, .int .u8 0, .slice none 0 0], .slice none 0 0, .slice none 0 0, .slice none 0 0], []⟩ 8 (by kernel_rfl) (by kernel_rfl) (by kernel_rfl) (by kernel_rfl)) ?_
  intro W base args ds gs before hval hW _ _
  exact ledgerRoom_contract H enc W base args ds gs before hval hW
theorem ledgerRoom_holds : Rows.LedgerRoomSaid :=
  OpenClaim.holds_of_wide 5 Try.f5 rfl rfl rfl rfl rfl rfl rfl ⟨rfl, rfl, rfl, rfl, rfl⟩ rfl rfl rfl rfl rfl (by kernel_rfl) Try.func5 (by kernel_rfl)
    (of_decide_eq_true (by kernel_rfl)) (by unfold Func.isWrapper; first | (rw [if_pos (by decide +kernel)]; kernel_rfl) | (rw [if_neg (by decide +kernel)]; exact ⟨rfl, rfl⟩))
    (fun os started H enc _ => ledgerRoom_lifted os started H enc)
end Go.Proofs.Ytabichlcgiafcaa
