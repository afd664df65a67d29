/- The statements about layer 22: for every input each law returns true, and its arguments read as they did. The variable macaroon/predicate.bits starts as the program's text lays it (tied by the card). -/
import Derived.Test.YtjekgnmiimhomaaDoorJoin
import Derived.Test.YtjekgnmiimhomaaDoorCards
import Derived.Test.YtjekgnmiimhomaaDoorTie
import Derived.WalkKit
import Derived.ProofKit
import Derived.OpenShut
import Derived.Deep.DeepHandedRow
import Derived.Lib.LaidTab
set_option linter.all false
namespace Go.Proofs.YtjekgnmiimhomaaDoor
open Go Go.PE
open Go.ChangeShapes
open Go.WideShapes
open Go.RowKit
theorem laidOutK : laidOutB Tryd.prog = true := by kernel_rfl
theorem ownK : ownKnob Tryd.prog.godebug = none := by kernel_rfl
/-- a world for the witness -/
noncomputable def laidWorld (os : Os) : World :=
  { World.holding Tryd.prog os ⟨#[], #[], []⟩ with heap := (World.holding Tryd.prog os ⟨#[], #[], []⟩).heap.modify 0 fun
      | .cells _ t frozen => .cells #[.int .i64 0, .int .i64 64, .int .i64 32, .int .i64 7, .int .i64 0, .int .i64 0, .int .i64 0, .int .i64 0] t frozen
      | o => o }
theorem registrySteps_contract (H : Type) (enc : TypeId × Value → H) (W : World) (base : Nat) (args : Array Value) (ds gs : List (DataW H)) (before : List MemPlace)
    (hval : ∀ (j : Nat) t v, Tryd.f3.params[j]? = some t → args[j]? = some v → Value.okWide Tryd.prog W .any base t v)
    (hW : DataW.Whole enc Tryd.prog Tryd.f3.params.toList Rows.registryStepsSpec.vars false W args.toList ds gs before) (hL : laidMetH Tryd.prog Rows.registryStepsRow.laid W) {ts' : List TypeId} (hwt : (DataW.weightsEach Tryd.prog (Tryd.f3.params.toList ++ ts') (ds ++ gs)).all (· ≤ reachBytes) = true) :
    Calls Tryd.prog 3 args W fun e W' => ∃ v, e = .returned v ∧ Rows.registryStepsSpec.post enc Tryd.prog Tryd.f3 false true false false W args v W' := by
  refine row_ofGN (Wt Tryd.prog) reachBytes wt_ok (d := 8) (tb := 4) Hg laidOutK ?_ ?_ rfl (by kernel_rfl) Tryd.underlying4 ?_ law3 W (laidHolds hL) base args ds gs before hval hW (fun i t x h1 h2 => wt_of hwt i t x h1 h2)
  · intro t ht
    have h : (Tryd.f3.params.toList.all fun t => Tryd.prog.readableRec t && decide (t < Tryd.prog.types.size)) = true := by kernel_rfl
    have := List.all_eq_true.1 h t ht
    simpa using this
  · intro t ht
    have h : (Tryd.f3.params.toList.all fun t => plainTy Tryd.prog 8 t) = true := by kernel_rfl
    exact List.all_eq_true.1 h t ht
  · intro ds hd
    rw [Tryd.params3] at hd
    match ds, hd with
    | [_, _, _, _, _], _ => exact ⟨rfl, rfl, rfl⟩
theorem registrySteps_laid (os : Os) : laidMet Tryd.prog Rows.registryStepsRow.laid ((laidWorld os).forCall (fun _ _ => 0) ⟨#[], #[.slice none 0 0, ag [.int .i64 0, .int .i64 0, .slice none 0 0], .slice none 0 0, .int .i64 0, .int .u8 0], []⟩).memory :=
  laidMet_of_run' 8 (by kernel_rfl) (by kernel_rfl)
theorem registrySteps_reads (os : Os) {H : Type} (enc : TypeId × Value → H) : ∃ places, DataW.whole enc Tryd.prog ((laidWorld os).forCall (fun _ _ => 0) ⟨#[], #[.slice none 0 0, ag [.int .i64 0, .int .i64 0, .slice none 0 0], .slice none 0 0, .int .i64 0, .int .u8 0], []⟩).memory Tryd.f3.params.toList Rows.registryStepsSpec.vars false #[.slice none 0 0, ag [.int .i64 0, .int .i64 0, .slice none 0 0], .slice none 0 0, .int .i64 0, .int .u8 0].toList 8 = some ([.nil, .agg [.lit (.int .i64 0), .lit (.int .i64 0), .nil], .nil, .lit (.int .i64 0), .lit (.int .u8 0)], [], places) :=
  ⟨[], by kernel_rfl⟩
set_option maxRecDepth 100000 in
theorem registrySteps_lifted (os : Os) (started : os.Started) (H : Type) (enc : TypeId × Value → H) (F : Stop.Interp) :
    ReturnsInHanded {} Tryd.checked os 3 .any ((OpenSpec.ofChange Rows.registryStepsSpec).preRow enc Tryd.prog Tryd.f3 Rows.registryStepsRow.domain false Rows.registryStepsRow.laid) (((OpenSpec.ofChange Rows.registryStepsSpec).at F).post enc Tryd.prog Tryd.f3 false true false false) := by
  obtain ⟨places, hx⟩ := registrySteps_reads os enc
  refine returnsInHanded_of_row (C := Tryd.checked) (s := OpenSpec.ofChange Rows.registryStepsSpec) ownK started (by kernel_rfl) Tryd.func3
    (witness_row_at (enc := enc) (C := Tryd.checked) false (laidWorld os) #[.slice none 0 0, ag [.int .i64 0, .int .i64 0, .slice none 0 0], .slice none 0 0, .int .i64 0, .int .u8 0] rfl (by kernel_rfl) (by kernel_rfl) (by kernel_rfl)
      (OpenSpec.preRow_of_cond 8 hx (by kernel_rfl) (fun k hk => by cases hk) (by kernel_rfl) (registrySteps_laid os))) ?_
  intro W base args ds gs before hval hW _ _ hwt hL _ _
  exact registrySteps_contract H enc W base args ds gs before hval hW hL hwt
theorem registrySteps_said : Rows.RegistryStepsSaid :=
  OpenClaim.holds_of_cond 3 Tryd.f3 rfl rfl rfl rfl rfl rfl rfl ⟨rfl, rfl, rfl, rfl, rfl⟩ rfl rfl rfl rfl rfl (by kernel_rfl) Tryd.func3 (by kernel_rfl)
    (of_decide_eq_true (by kernel_rfl)) (by unfold Func.isWrapper; first | (rw [if_pos (by decide +kernel)]; kernel_rfl) | (rw [if_neg (by decide +kernel)]; exact ⟨rfl, rfl⟩))
    (fun os started H enc _ F => by rw [OpenClaim.pre_eq_preRow]; exact registrySteps_lifted os started H enc F)
theorem registrySteps_plain (f : FuncId) (fn : Func) (hf : Tryd.pinned.checked.prog.funcNamed Rows.registryStepsRow.func = some f) (hfn : Tryd.pinned.checked.prog.funcs[f]? = some fn) :
    false = Tryd.pinned.checked.prog.looks [] ∧ ∀ (j : Nat) t, fn.params[j]? = some t → Tryd.pinned.checked.prog.wantsStandIn t = false := by
  obtain rfl : f = 3 := Option.some.inj ((show Tryd.prog.funcNamed Rows.registryStepsRow.func = some 3 by kernel_rfl).symm.trans hf) |>.symm
  obtain rfl : fn = Tryd.f3 := (Option.some.inj (Tryd.func3.symm.trans hfn)).symm
  refine ⟨by kernel_rfl, fun j t ht => ?_⟩
  have h : (Tryd.f3.params.toList.all fun t => !Tryd.prog.wantsStandIn t) = true := by kernel_rfl
  have := List.all_eq_true.1 h t (by simpa using Array.mem_of_getElem? ht)
  exact (show Tryd.prog.wantsStandIn t = false by simpa using this)
/-- THE CARD: for every input the law returns true, and its arguments read as they did -/
theorem registrySteps_card : Rows.RegistryStepsCardSaid :=
  Claim7.holds_tied_plain_at .later [] _ _ _ _ registrySteps_said (fun _ h => by cases h) (by kernel_rfl) (fun _ h => by cases h) registrySteps_row_tie rfl ⟨rfl, rfl⟩ (by kernel_rfl) rfl registrySteps_plain (by kernel_rfl)
theorem registryExtends_contract (H : Type) (enc : TypeId × Value → H) (W : World) (base : Nat) (args : Array Value) (ds gs : List (DataW H)) (before : List MemPlace)
    (hval : ∀ (j : Nat) t v, Tryd.f4.params[j]? = some t → args[j]? = some v → Value.okWide Tryd.prog W .any base t v)
    (hW : DataW.Whole enc Tryd.prog Tryd.f4.params.toList Rows.registryExtendsSpec.vars false W args.toList ds gs before) (hL : laidMetH Tryd.prog Rows.registryExtendsRow.laid W) {ts' : List TypeId} (hwt : (DataW.weightsEach Tryd.prog (Tryd.f4.params.toList ++ ts') (ds ++ gs)).all (· ≤ reachBytes) = true) :
    Calls Tryd.prog 4 args W fun e W' => ∃ v, e = .returned v ∧ Rows.registryExtendsSpec.post enc Tryd.prog Tryd.f4 false true false false W args v W' := by
  refine row_ofGN (Wt Tryd.prog) reachBytes wt_ok (d := 8) (tb := 4) Hg laidOutK ?_ ?_ rfl (by kernel_rfl) Tryd.underlying4 ?_ law4 W (laidHolds hL) base args ds gs before hval hW (fun i t x h1 h2 => wt_of hwt i t x h1 h2)
  · intro t ht
    have h : (Tryd.f4.params.toList.all fun t => Tryd.prog.readableRec t && decide (t < Tryd.prog.types.size)) = true := by kernel_rfl
    have := List.all_eq_true.1 h t ht
    simpa using this
  · intro t ht
    have h : (Tryd.f4.params.toList.all fun t => plainTy Tryd.prog 8 t) = true := by kernel_rfl
    exact List.all_eq_true.1 h t ht
  · intro ds hd
    rw [Tryd.params4] at hd
    match ds, hd with
    | [_, _, _, _, _, _], _ => exact ⟨rfl, rfl, rfl⟩
theorem registryExtends_laid (os : Os) : laidMet Tryd.prog Rows.registryExtendsRow.laid ((laidWorld os).forCall (fun _ _ => 0) ⟨#[], #[.slice none 0 0, .slice none 0 0, .slice none 0 0, .slice none 0 0, .int .i64 0, .int .i64 0], []⟩).memory :=
  laidMet_of_run' 8 (by kernel_rfl) (by kernel_rfl)
theorem registryExtends_reads (os : Os) {H : Type} (enc : TypeId × Value → H) : ∃ places, DataW.whole enc Tryd.prog ((laidWorld os).forCall (fun _ _ => 0) ⟨#[], #[.slice none 0 0, .slice none 0 0, .slice none 0 0, .slice none 0 0, .int .i64 0, .int .i64 0], []⟩).memory Tryd.f4.params.toList Rows.registryExtendsSpec.vars false #[.slice none 0 0, .slice none 0 0, .slice none 0 0, .slice none 0 0, .int .i64 0, .int .i64 0].toList 8 = some ([.nil, .nil, .nil, .nil, .lit (.int .i64 0), .lit (.int .i64 0)], [], places) :=
  ⟨[], by kernel_rfl⟩
set_option maxRecDepth 100000 in
theorem registryExtends_lifted (os : Os) (started : os.Started) (H : Type) (enc : TypeId × Value → H) (F : Stop.Interp) :
    ReturnsInHanded {} Tryd.checked os 4 .any ((OpenSpec.ofChange Rows.registryExtendsSpec).preRow enc Tryd.prog Tryd.f4 Rows.registryExtendsRow.domain false Rows.registryExtendsRow.laid) (((OpenSpec.ofChange Rows.registryExtendsSpec).at F).post enc Tryd.prog Tryd.f4 false true false false) := by
  obtain ⟨places, hx⟩ := registryExtends_reads os enc
  refine returnsInHanded_of_row (C := Tryd.checked) (s := OpenSpec.ofChange Rows.registryExtendsSpec) ownK started (by kernel_rfl) Tryd.func4
    (witness_row_at (enc := enc) (C := Tryd.checked) false (laidWorld os) #[.slice none 0 0, .slice none 0 0, .slice none 0 0, .slice none 0 0, .int .i64 0, .int .i64 0] rfl (by kernel_rfl) (by kernel_rfl) (by kernel_rfl)
      (OpenSpec.preRow_of_cond 8 hx (by kernel_rfl) (fun k hk => by cases hk) (by kernel_rfl) (registryExtends_laid os))) ?_
  intro W base args ds gs before hval hW _ _ hwt hL _ _
  exact registryExtends_contract H enc W base args ds gs before hval hW hL hwt
theorem registryExtends_said : Rows.RegistryExtendsSaid :=
  OpenClaim.holds_of_cond 4 Tryd.f4 rfl rfl rfl rfl rfl rfl rfl ⟨rfl, rfl, rfl, rfl, rfl⟩ rfl rfl rfl rfl rfl (by kernel_rfl) Tryd.func4 (by kernel_rfl)
    (of_decide_eq_true (by kernel_rfl)) (by unfold Func.isWrapper; first | (rw [if_pos (by decide +kernel)]; kernel_rfl) | (rw [if_neg (by decide +kernel)]; exact ⟨rfl, rfl⟩))
    (fun os started H enc _ F => by rw [OpenClaim.pre_eq_preRow]; exact registryExtends_lifted os started H enc F)
theorem registryExtends_plain (f : FuncId) (fn : Func) (hf : Tryd.pinned.checked.prog.funcNamed Rows.registryExtendsRow.func = some f) (hfn : Tryd.pinned.checked.prog.funcs[f]? = some fn) :
    false = Tryd.pinned.checked.prog.looks [] ∧ ∀ (j : Nat) t, fn.params[j]? = some t → Tryd.pinned.checked.prog.wantsStandIn t = false := by
  obtain rfl : f = 4 := Option.some.inj ((show Tryd.prog.funcNamed Rows.registryExtendsRow.func = some 4 by kernel_rfl).symm.trans hf) |>.symm
  obtain rfl : fn = Tryd.f4 := (Option.some.inj (Tryd.func4.symm.trans hfn)).symm
  refine ⟨by kernel_rfl, fun j t ht => ?_⟩
  have h : (Tryd.f4.params.toList.all fun t => !Tryd.prog.wantsStandIn t) = true := by kernel_rfl
  have := List.all_eq_true.1 h t (by simpa using Array.mem_of_getElem? ht)
  exact (show Tryd.prog.wantsStandIn t = false by simpa using this)
/-- THE CARD: for every input the law returns true, and its arguments read as they did -/
theorem registryExtends_card : Rows.RegistryExtendsCardSaid :=
  Claim7.holds_tied_plain_at .later [] _ _ _ _ registryExtends_said (fun _ h => by cases h) (by kernel_rfl) (fun _ h => by cases h) registryExtends_row_tie rfl ⟨rfl, rfl⟩ (by kernel_rfl) rfl registryExtends_plain (by kernel_rfl)
end Go.Proofs.YtjekgnmiimhomaaDoor
