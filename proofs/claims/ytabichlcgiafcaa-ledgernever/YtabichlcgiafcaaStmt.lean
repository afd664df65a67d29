/- LedgerNever: for every input the law returns true, and its argument reads as it did. -/
import Derived.Test.YtabichlcgiafcaaJoin
import Derived.WalkKit
import Derived.ProofKit
set_option linter.all false
namespace Go.Proofs.Ytabichlcgiafcaa
open Go Go.PE
open Go.ChangeShapes
open Go.WideShapes
open Go.ChangeAt
open Go.RowKit
theorem laidOutK : laidOutB Try.prog = true := by kernel_rfl
theorem ownK : ownKnob Try.prog.godebug = none := by kernel_rfl
theorem ledgerNever_contract (H : Type) (enc : TypeId × Value → H) (W : World) (base : Nat) (args : Array Value) (ds gs : List (DataW H)) (before : List MemPlace)
    (hval : ∀ (j : Nat) t v, Try.f6.params[j]? = some t → args[j]? = some v → Value.okWide Try.prog W .any base t v)
    (hW : DataW.Whole enc Try.prog Try.f6.params.toList Rows.ledgerNeverSpec.vars false W args.toList ds gs before) :
    Calls Try.prog 6 args W fun e W' => ∃ v, e = .returned v ∧ Rows.ledgerNeverSpec.post enc Try.prog Try.f6 false true false false W args v W' := by
  refine row_of (d := 6) (tb := 4) laidOutK ?_ ?_ rfl (by kernel_rfl) Try.underlying4 ?_ law6 W base args ds gs before hval hW
  · intro t ht
    have h : (Try.f6.params.toList.all fun t => Try.prog.readableRec t && decide (t < Try.prog.types.size)) = true := by kernel_rfl
    have := List.all_eq_true.1 h t ht
    simpa using this
  · intro t ht
    have h : (Try.f6.params.toList.all fun t => plainTy Try.prog 6 t) = true := by kernel_rfl
    exact List.all_eq_true.1 h t ht
  · intro ds hd
    rw [Try.params6] at hd
    match ds, hd with
    | [_], _ => exact ⟨rfl, rfl, rfl⟩
set_option maxRecDepth 100000 in
theorem ledgerNever_lifted (os : Os) (started : os.Started) (H : Type) (enc : TypeId × Value → H) :
    ReturnsInHanded {} Try.checked os 6 .any (Rows.ledgerNeverSpec.pre6 enc Try.prog Try.f6 Rows.ledgerNeverRow.domain false) (Rows.ledgerNeverSpec.post enc Try.prog Try.f6 false true false false) := by
  refine returnsInHanded_of_change (C := Try.checked) ownK started (by kernel_rfl) Try.func6
    (ChangeSpec.witness6 (enc := enc) (C := Try.checked) false ⟨#[], #[.slice none 0 0], []⟩ 8 (by kernel_rfl) (by kernel_rfl) (by kernel_rfl) (by kernel_rfl)) ?_
  intro W base args ds gs before hval hW _ _
  exact ledgerNever_contract H enc W base args ds gs before hval hW
theorem ledgerNever_holds : Rows.LedgerNeverSaid :=
  OpenClaim.holds_of_wide 6 Try.f6 rfl rfl rfl rfl rfl rfl rfl ⟨rfl, rfl, rfl, rfl, rfl⟩ rfl rfl rfl rfl rfl (by kernel_rfl) Try.func6 (by kernel_rfl)
    (of_decide_eq_true (by kernel_rfl)) (by unfold Func.isWrapper; first | (rw [if_pos (by decide +kernel)]; kernel_rfl) | (rw [if_neg (by decide +kernel)]; exact ⟨rfl, rfl⟩))
    (fun os started H enc _ => ledgerNever_lifted os started H enc)
end Go.Proofs.Ytabichlcgiafcaa
