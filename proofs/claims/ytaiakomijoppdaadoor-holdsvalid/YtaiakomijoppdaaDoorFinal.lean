/- The statements about layer 7: for every input each law returns true, and its arguments read as they did. The variable macaroon/predicate.bits starts as the program's text lays it (tied by the card). -/
import Derived.Test.YtaiakomijoppdaaDoorFacts
import Derived.Test.YtaiakomijoppdaaDoorCards
import Derived.Test.YtaiakomijoppdaaDoorTie
import Derived.WalkKit
import Derived.ProofKit
import Derived.OpenShut
import Derived.Deep.DeepHandedRow
import Derived.Lib.LaidTab
set_option linter.all false
namespace Go.Proofs.YtaiakomijoppdaaDoor
open Go Go.PE
open Go.ChangeShapes
open Go.WideShapes
open Go.RowKit
theorem laidOutK : laidOutB Tryd.prog = true := by kernel_rfl
theorem ownK : ownKnob Tryd.prog.godebug = none := by kernel_rfl
/-- a world for the witness -/
noncomputable def laidWorld (os : Os) : World :=
  { World.holding Tryd.prog os ⟨#[], #[], []⟩ with heap := (World.holding Tryd.prog os ⟨#[], #[], []⟩).heap.modify 0 fun
      | .cells _ t frozen => .cells #[.int .i64 0, .int .i64 64, .int .i64 32, .int .i64 7, .int .i64 0, .int .i64 0, .int .i64 0, .int .i64 0] t frozen
      | o => o }
theorem holdsValid_contract (H : Type) (enc : TypeId × Value → H) (W : World) (base : Nat) (args : Array Value) (ds gs : List (DataW H)) (before : List MemPlace)
    (hval : ∀ (j : Nat) t v, Tryd.f3.params[j]? = some t → args[j]? = some v → Value.okWide Tryd.prog W .any base t v)
    (hW : DataW.Whole enc Tryd.prog Tryd.f3.params.toList Rows.holdsValidSpec.vars false W args.toList ds gs before) (hL : laidMetH Tryd.prog Rows.holdsValidRow.laid W) :
    Calls Tryd.prog 3 args W fun e W' => ∃ v, e = .returned v ∧ Rows.holdsValidSpec.post enc Tryd.prog Tryd.f3 false true false false W args v W' := by
  refine row_ofG (d := 6) (tb := 4) Hg laidOutK ?_ ?_ rfl (by kernel_rfl) Tryd.underlying4 ?_ law3 W (laidHolds hL) base args ds gs before hval hW
  · intro t ht
    have h : (Tryd.f3.params.toList.all fun t => Tryd.prog.readableRec t && decide (t < Tryd.prog.types.size)) = true := by kernel_rfl
    have := List.all_eq_true.1 h t ht
    simpa using this
  · intro t ht
    have h : (Tryd.f3.params.toList.all fun t => plainTy Tryd.prog 6 t) = true := by kernel_rfl
    exact List.all_eq_true.1 h t ht
  · intro ds hd
    rw [Tryd.params3] at hd
    match ds, hd with
    | [_, _, _, _], _ => exact ⟨rfl, rfl, rfl⟩
theorem holdsValid_laid (os : Os) : laidMet Tryd.prog Rows.holdsValidRow.laid ((laidWorld os).forCall (fun _ _ => 0) ⟨#[], #[ag [.int .i64 0, .int .i64 0, .int .i64 0, .string ⟨#[]⟩], .slice none 0 0, .int .u8 0, .int .i64 0], []⟩).memory :=
  laidMet_of_run' 8 (by kernel_rfl) (by kernel_rfl)
theorem holdsValid_reads (os : Os) {H : Type} (enc : TypeId × Value → H) : ∃ places, DataW.whole enc Tryd.prog ((laidWorld os).forCall (fun _ _ => 0) ⟨#[], #[ag [.int .i64 0, .int .i64 0, .int .i64 0, .string ⟨#[]⟩], .slice none 0 0, .int .u8 0, .int .i64 0], []⟩).memory Tryd.f3.params.toList Rows.holdsValidSpec.vars false #[ag [.int .i64 0, .int .i64 0, .int .i64 0, .string ⟨#[]⟩], .slice none 0 0, .int .u8 0, .int .i64 0].toList 8 = some ([.agg [.lit (.int .i64 0), .lit (.int .i64 0), .lit (.int .i64 0), .lit (.string [])], .nil, .lit (.int .u8 0), .lit (.int .i64 0)], [], places) :=
  ⟨[], by kernel_rfl⟩
set_option maxRecDepth 100000 in
theorem holdsValid_lifted (os : Os) (started : os.Started) (H : Type) (enc : TypeId × Value → H) (F : Stop.Interp) :
    ReturnsInHanded {} Tryd.checked os 3 .any ((OpenSpec.ofChange Rows.holdsValidSpec).preRow enc Tryd.prog Tryd.f3 Rows.holdsValidRow.domain false Rows.holdsValidRow.laid) (((OpenSpec.ofChange Rows.holdsValidSpec).at F).post enc Tryd.prog Tryd.f3 false true false false) := by
  obtain ⟨places, hx⟩ := holdsValid_reads os enc
  refine returnsInHanded_of_row (C := Tryd.checked) (s := OpenSpec.ofChange Rows.holdsValidSpec) ownK started (by kernel_rfl) Tryd.func3
    (witness_row_at (enc := enc) (C := Tryd.checked) false (laidWorld os) #[ag [.int .i64 0, .int .i64 0, .int .i64 0, .string ⟨#[]⟩], .slice none 0 0, .int .u8 0, .int .i64 0] rfl (by kernel_rfl) (by kernel_rfl) (by kernel_rfl)
      (OpenSpec.preRow_of_cond 8 hx (by kernel_rfl) (fun k hk => by cases hk) (by kernel_rfl) (holdsValid_laid os))) ?_
  intro W base args ds gs before hval hW _ _ _ hL _ _
  exact holdsValid_contract H enc W base args ds gs before hval hW hL
theorem holdsValid_said : Rows.HoldsValidSaid :=
  OpenClaim.holds_of_cond 3 Tryd.f3 rfl rfl rfl rfl rfl rfl rfl ⟨rfl, rfl, rfl, rfl, rfl⟩ rfl rfl rfl rfl rfl (by kernel_rfl) Tryd.func3 (by kernel_rfl)
    (of_decide_eq_true (by kernel_rfl)) (by unfold Func.isWrapper; first | (rw [if_pos (by decide +kernel)]; kernel_rfl) | (rw [if_neg (by decide +kernel)]; exact ⟨rfl, rfl⟩))
    (fun os started H enc _ F => by rw [OpenClaim.pre_eq_preRow]; exact holdsValid_lifted os started H enc F)
theorem holdsValid_plain (f : FuncId) (fn : Func) (hf : Tryd.pinned.checked.prog.funcNamed Rows.holdsValidRow.func = some f) (hfn : Tryd.pinned.checked.prog.funcs[f]? = some fn) :
    false = Tryd.pinned.checked.prog.looks [] ∧ ∀ (j : Nat) t, fn.params[j]? = some t → Tryd.pinned.checked.prog.wantsStandIn t = false := by
  obtain rfl : f = 3 := Option.some.inj ((show Tryd.prog.funcNamed Rows.holdsValidRow.func = some 3 by kernel_rfl).symm.trans hf) |>.symm
  obtain rfl : fn = Tryd.f3 := (Option.some.inj (Tryd.func3.symm.trans hfn)).symm
  refine ⟨by kernel_rfl, fun j t ht => ?_⟩
  have h : (Tryd.f3.params.toList.all fun t => !Tryd.prog.wantsStandIn t) = true := by kernel_rfl
  have := List.all_eq_true.1 h t (by simpa using Array.mem_of_getElem? ht)
  exact (show Tryd.prog.wantsStandIn t = false by simpa using this)
/-- THE CARD: for every input the law returns true, and its arguments read as they did -/
theorem holdsValid_card : Rows.HoldsValidCardSaid :=
  Claim7.holds_tied_plain_at .later [] _ _ _ _ holdsValid_said (fun _ h => by cases h) (by kernel_rfl) (fun _ h => by cases h) holdsValid_row_tie rfl ⟨rfl, rfl⟩ (by kernel_rfl) rfl holdsValid_plain (by kernel_rfl)
theorem holdsOne_contract (H : Type) (enc : TypeId × Value → H) (W : World) (base : Nat) (args : Array Value) (ds gs : List (DataW H)) (before : List MemPlace)
    (hval : ∀ (j : Nat) t v, Tryd.f4.params[j]? = some t → args[j]? = some v → Value.okWide Tryd.prog W .any base t v)
    (hW : DataW.Whole enc Tryd.prog Tryd.f4.params.toList Rows.holdsOneSpec.vars false W args.toList ds gs before) (hL : laidMetH Tryd.prog Rows.holdsOneRow.laid W) :
    Calls Tryd.prog 4 args W fun e W' => ∃ v, e = .returned v ∧ Rows.holdsOneSpec.post enc Tryd.prog Tryd.f4 false true false false W args v W' := by
  refine row_ofG (d := 6) (tb := 4) Hg laidOutK ?_ ?_ rfl (by kernel_rfl) Tryd.underlying4 ?_ law4 W (laidHolds hL) base args ds gs before hval hW
  · intro t ht
    have h : (Tryd.f4.params.toList.all fun t => Tryd.prog.readableRec t && decide (t < Tryd.prog.types.size)) = true := by kernel_rfl
    have := List.all_eq_true.1 h t ht
    simpa using this
  · intro t ht
    have h : (Tryd.f4.params.toList.all fun t => plainTy Tryd.prog 6 t) = true := by kernel_rfl
    exact List.all_eq_true.1 h t ht
  · intro ds hd
    rw [Tryd.params4] at hd
    match ds, hd with
    | [_, _, _], _ => exact ⟨rfl, rfl, rfl⟩
theorem holdsOne_laid (os : Os) : laidMet Tryd.prog Rows.holdsOneRow.laid ((laidWorld os).forCall (fun _ _ => 0) ⟨#[], #[ag [.int .i64 0, .int .u64 0, .int .i64 0, .int .i64 0, .string ⟨#[]⟩, .int .i64 0], ag [.int .i64 0, .int .i64 0, .int .i64 0, .string ⟨#[]⟩], .slice none 0 0], []⟩).memory :=
  laidMet_of_run' 8 (by kernel_rfl) (by kernel_rfl)
theorem holdsOne_reads (os : Os) {H : Type} (enc : TypeId × Value → H) : ∃ places, DataW.whole enc Tryd.prog ((laidWorld os).forCall (fun _ _ => 0) ⟨#[], #[ag [.int .i64 0, .int .u64 0, .int .i64 0, .int .i64 0, .string ⟨#[]⟩, .int .i64 0], ag [.int .i64 0, .int .i64 0, .int .i64 0, .string ⟨#[]⟩], .slice none 0 0], []⟩).memory Tryd.f4.params.toList Rows.holdsOneSpec.vars false #[ag [.int .i64 0, .int .u64 0, .int .i64 0, .int .i64 0, .string ⟨#[]⟩, .int .i64 0], ag [.int .i64 0, .int .i64 0, .int .i64 0, .string ⟨#[]⟩], .slice none 0 0].toList 8 = some ([.agg [.lit (.int .i64 0), .lit (.int .u64 0), .lit (.int .i64 0), .lit (.int .i64 0), .lit (.string []), .lit (.int .i64 0)], .agg [.lit (.int .i64 0), .lit (.int .i64 0), .lit (.int .i64 0), .lit (.string [])], .nil], [], places) :=
  ⟨[], by kernel_rfl⟩
set_option maxRecDepth 100000 in
theorem holdsOne_lifted (os : Os) (started : os.Started) (H : Type) (enc : TypeId × Value → H) (F : Stop.Interp) :
    ReturnsInHanded {} Tryd.checked os 4 .any ((OpenSpec.ofChange Rows.holdsOneSpec).preRow enc Tryd.prog Tryd.f4 Rows.holdsOneRow.domain false Rows.holdsOneRow.laid) (((OpenSpec.ofChange Rows.holdsOneSpec).at F).post enc Tryd.prog Tryd.f4 false true false false) := by
  obtain ⟨places, hx⟩ := holdsOne_reads os enc
  refine returnsInHanded_of_row (C := Tryd.checked) (s := OpenSpec.ofChange Rows.holdsOneSpec) ownK started (by kernel_rfl) Tryd.func4
    (witness_row_at (enc := enc) (C := Tryd.checked) false (laidWorld os) #[ag [.int .i64 0, .int .u64 0, .int .i64 0, .int .i64 0, .string ⟨#[]⟩, .int .i64 0], ag [.int .i64 0, .int .i64 0, .int .i64 0, .string ⟨#[]⟩], .slice none 0 0] rfl (by kernel_rfl) (by kernel_rfl) (by kernel_rfl)
      (OpenSpec.preRow_of_cond 8 hx (by kernel_rfl) (fun k hk => by cases hk) (by kernel_rfl) (holdsOne_laid os))) ?_
  intro W base args ds gs before hval hW _ _ _ hL _ _
  exact holdsOne_contract H enc W base args ds gs before hval hW hL
theorem holdsOne_said : Rows.HoldsOneSaid :=
  OpenClaim.holds_of_cond 4 Tryd.f4 rfl rfl rfl rfl rfl rfl rfl ⟨rfl, rfl, rfl, rfl, rfl⟩ rfl rfl rfl rfl rfl (by kernel_rfl) Tryd.func4 (by kernel_rfl)
    (of_decide_eq_true (by kernel_rfl)) (by unfold Func.isWrapper; first | (rw [if_pos (by decide +kernel)]; kernel_rfl) | (rw [if_neg (by decide +kernel)]; exact ⟨rfl, rfl⟩))
    (fun os started H enc _ F => by rw [OpenClaim.pre_eq_preRow]; exact holdsOne_lifted os started H enc F)
theorem holdsOne_plain (f : FuncId) (fn : Func) (hf : Tryd.pinned.checked.prog.funcNamed Rows.holdsOneRow.func = some f) (hfn : Tryd.pinned.checked.prog.funcs[f]? = some fn) :
    false = Tryd.pinned.checked.prog.looks [] ∧ ∀ (j : Nat) t, fn.params[j]? = some t → Tryd.pinned.checked.prog.wantsStandIn t = false := by
  obtain rfl : f = 4 := Option.some.inj ((show Tryd.prog.funcNamed Rows.holdsOneRow.func = some 4 by kernel_rfl).symm.trans hf) |>.symm
  obtain rfl : fn = Tryd.f4 := (Option.some.inj (Tryd.func4.symm.trans hfn)).symm
  refine ⟨by kernel_rfl, fun j t ht => ?_⟩
  have h : (Tryd.f4.params.toList.all fun t => !Tryd.prog.wantsStandIn t) = true := by kernel_rfl
  have := List.all_eq_true.1 h t (by simpa using Array.mem_of_getElem? ht)
  exact (show Tryd.prog.wantsStandIn t = false by simpa using this)
/-- THE CARD: for every input the law returns true, and its arguments read as they did -/
theorem holdsOne_card : Rows.HoldsOneCardSaid :=
  Claim7.holds_tied_plain_at .later [] _ _ _ _ holdsOne_said (fun _ h => by cases h) (by kernel_rfl) (fun _ h => by cases h) holdsOne_row_tie rfl ⟨rfl, rfl⟩ (by kernel_rfl) rfl holdsOne_plain (by kernel_rfl)
theorem holdsDaily_contract (H : Type) (enc : TypeId × Value → H) (W : World) (base : Nat) (args : Array Value) (ds gs : List (DataW H)) (before : List MemPlace)
    (hval : ∀ (j : Nat) t v, Tryd.f5.params[j]? = some t → args[j]? = some v → Value.okWide Tryd.prog W .any base t v)
    (hW : DataW.Whole enc Tryd.prog Tryd.f5.params.toList Rows.holdsDailySpec.vars false W args.toList ds gs before) (hL : laidMetH Tryd.prog Rows.holdsDailyRow.laid W) :
    Calls Tryd.prog 5 args W fun e W' => ∃ v, e = .returned v ∧ Rows.holdsDailySpec.post enc Tryd.prog Tryd.f5 false true false false W args v W' := by
  refine row_ofG (d := 6) (tb := 4) Hg laidOutK ?_ ?_ rfl (by kernel_rfl) Tryd.underlying4 ?_ law5 W (laidHolds hL) base args ds gs before hval hW
  · intro t ht
    have h : (Tryd.f5.params.toList.all fun t => Tryd.prog.readableRec t && decide (t < Tryd.prog.types.size)) = true := by kernel_rfl
    have := List.all_eq_true.1 h t ht
    simpa using this
  · intro t ht
    have h : (Tryd.f5.params.toList.all fun t => plainTy Tryd.prog 6 t) = true := by kernel_rfl
    exact List.all_eq_true.1 h t ht
  · intro ds hd
    rw [Tryd.params5] at hd
    match ds, hd with
    | [_, _, _], _ => exact ⟨rfl, rfl, rfl⟩
theorem holdsDaily_laid (os : Os) : laidMet Tryd.prog Rows.holdsDailyRow.laid ((laidWorld os).forCall (fun _ _ => 0) ⟨#[], #[.int .u16 0, .int .u16 0, .slice none 0 0], []⟩).memory :=
  laidMet_of_run' 8 (by kernel_rfl) (by kernel_rfl)
theorem holdsDaily_reads (os : Os) {H : Type} (enc : TypeId × Value → H) : ∃ places, DataW.whole enc Tryd.prog ((laidWorld os).forCall (fun _ _ => 0) ⟨#[], #[.int .u16 0, .int .u16 0, .slice none 0 0], []⟩).memory Tryd.f5.params.toList Rows.holdsDailySpec.vars false #[.int .u16 0, .int .u16 0, .slice none 0 0].toList 8 = some ([.lit (.int .u16 0), .lit (.int .u16 0), .nil], [], places) :=
  ⟨[], by kernel_rfl⟩
set_option maxRecDepth 100000 in
theorem holdsDaily_lifted (os : Os) (started : os.Started) (H : Type) (enc : TypeId × Value → H) (F : Stop.Interp) :
    ReturnsInHanded {} Tryd.checked os 5 .any ((OpenSpec.ofChange Rows.holdsDailySpec).preRow enc Tryd.prog Tryd.f5 Rows.holdsDailyRow.domain false Rows.holdsDailyRow.laid) (((OpenSpec.ofChange Rows.holdsDailySpec).at F).post enc Tryd.prog Tryd.f5 false true false false) := by
  obtain ⟨places, hx⟩ := holdsDaily_reads os enc
  refine returnsInHanded_of_row (C := Tryd.checked) (s := OpenSpec.ofChange Rows.holdsDailySpec) ownK started (by kernel_rfl) Tryd.func5
    (witness_row_at (enc := enc) (C := Tryd.checked) false (laidWorld os) #[.int .u16 0, .int .u16 0, .slice none 0 0] rfl (by kernel_rfl) (by kernel_rfl) (by kernel_rfl)
      (OpenSpec.preRow_of_cond 8 hx (by kernel_rfl) (fun k hk => by cases hk) (by kernel_rfl) (holdsDaily_laid os))) ?_
  intro W base args ds gs before hval hW _ _ _ hL _ _
  exact holdsDaily_contract H enc W base args ds gs before hval hW hL
theorem holdsDaily_said : Rows.HoldsDailySaid :=
  OpenClaim.holds_of_cond 5 Tryd.f5 rfl rfl rfl rfl rfl rfl rfl ⟨rfl, rfl, rfl, rfl, rfl⟩ rfl rfl rfl rfl rfl (by kernel_rfl) Tryd.func5 (by kernel_rfl)
    (of_decide_eq_true (by kernel_rfl)) (by unfold Func.isWrapper; first | (rw [if_pos (by decide +kernel)]; kernel_rfl) | (rw [if_neg (by decide +kernel)]; exact ⟨rfl, rfl⟩))
    (fun os started H enc _ F => by rw [OpenClaim.pre_eq_preRow]; exact holdsDaily_lifted os started H enc F)
theorem holdsDaily_plain (f : FuncId) (fn : Func) (hf : Tryd.pinned.checked.prog.funcNamed Rows.holdsDailyRow.func = some f) (hfn : Tryd.pinned.checked.prog.funcs[f]? = some fn) :
    false = Tryd.pinned.checked.prog.looks [] ∧ ∀ (j : Nat) t, fn.params[j]? = some t → Tryd.pinned.checked.prog.wantsStandIn t = false := by
  obtain rfl : f = 5 := Option.some.inj ((show Tryd.prog.funcNamed Rows.holdsDailyRow.func = some 5 by kernel_rfl).symm.trans hf) |>.symm
  obtain rfl : fn = Tryd.f5 := (Option.some.inj (Tryd.func5.symm.trans hfn)).symm
  refine ⟨by kernel_rfl, fun j t ht => ?_⟩
  have h : (Tryd.f5.params.toList.all fun t => !Tryd.prog.wantsStandIn t) = true := by kernel_rfl
  have := List.all_eq_true.1 h t (by simpa using Array.mem_of_getElem? ht)
  exact (show Tryd.prog.wantsStandIn t = false by simpa using this)
/-- THE CARD: for every input the law returns true, and its arguments read as they did -/
theorem holdsDaily_card : Rows.HoldsDailyCardSaid :=
  Claim7.holds_tied_plain_at .later [] _ _ _ _ holdsDaily_said (fun _ h => by cases h) (by kernel_rfl) (fun _ h => by cases h) holdsDaily_row_tie rfl ⟨rfl, rfl⟩ (by kernel_rfl) rfl holdsDaily_plain (by kernel_rfl)
theorem holdsAll_contract (H : Type) (enc : TypeId × Value → H) (W : World) (base : Nat) (args : Array Value) (ds gs : List (DataW H)) (before : List MemPlace)
    (hval : ∀ (j : Nat) t v, Tryd.f6.params[j]? = some t → args[j]? = some v → Value.okWide Tryd.prog W .any base t v)
    (hW : DataW.Whole enc Tryd.prog Tryd.f6.params.toList Rows.holdsAllSpec.vars false W args.toList ds gs before) (hL : laidMetH Tryd.prog Rows.holdsAllRow.laid W) :
    Calls Tryd.prog 6 args W fun e W' => ∃ v, e = .returned v ∧ Rows.holdsAllSpec.post enc Tryd.prog Tryd.f6 false true false false W args v W' := by
  refine row_ofG (d := 6) (tb := 4) Hg laidOutK ?_ ?_ rfl (by kernel_rfl) Tryd.underlying4 ?_ law6 W (laidHolds hL) base args ds gs before hval hW
  · intro t ht
    have h : (Tryd.f6.params.toList.all fun t => Tryd.prog.readableRec t && decide (t < Tryd.prog.types.size)) = true := by kernel_rfl
    have := List.all_eq_true.1 h t ht
    simpa using this
  · intro t ht
    have h : (Tryd.f6.params.toList.all fun t => plainTy Tryd.prog 6 t) = true := by kernel_rfl
    exact List.all_eq_true.1 h t ht
  · intro ds hd
    rw [Tryd.params6] at hd
    match ds, hd with
    | [_, _, _], _ => exact ⟨rfl, rfl, rfl⟩
theorem holdsAll_laid (os : Os) : laidMet Tryd.prog Rows.holdsAllRow.laid ((laidWorld os).forCall (fun _ _ => 0) ⟨#[], #[.slice none 0 0, ag [.int .i64 0, .int .i64 0, .int .i64 0, .string ⟨#[]⟩], .slice none 0 0], []⟩).memory :=
  laidMet_of_run' 8 (by kernel_rfl) (by kernel_rfl)
theorem holdsAll_reads (os : Os) {H : Type} (enc : TypeId × Value → H) : ∃ places, DataW.whole enc Tryd.prog ((laidWorld os).forCall (fun _ _ => 0) ⟨#[], #[.slice none 0 0, ag [.int .i64 0, .int .i64 0, .int .i64 0, .string ⟨#[]⟩], .slice none 0 0], []⟩).memory Tryd.f6.params.toList Rows.holdsAllSpec.vars false #[.slice none 0 0, ag [.int .i64 0, .int .i64 0, .int .i64 0, .string ⟨#[]⟩], .slice none 0 0].toList 8 = some ([.nil, .agg [.lit (.int .i64 0), .lit (.int .i64 0), .lit (.int .i64 0), .lit (.string [])], .nil], [], places) :=
  ⟨[], by kernel_rfl⟩
set_option maxRecDepth 100000 in
theorem holdsAll_lifted (os : Os) (started : os.Started) (H : Type) (enc : TypeId × Value → H) (F : Stop.Interp) :
    ReturnsInHanded {} Tryd.checked os 6 .any ((OpenSpec.ofChange Rows.holdsAllSpec).preRow enc Tryd.prog Tryd.f6 Rows.holdsAllRow.domain false Rows.holdsAllRow.laid) (((OpenSpec.ofChange Rows.holdsAllSpec).at F).post enc Tryd.prog Tryd.f6 false true false false) := by
  obtain ⟨places, hx⟩ := holdsAll_reads os enc
  refine returnsInHanded_of_row (C := Tryd.checked) (s := OpenSpec.ofChange Rows.holdsAllSpec) ownK started (by kernel_rfl) Tryd.func6
    (witness_row_at (enc := enc) (C := Tryd.checked) false (laidWorld os) #[.slice none 0 0, ag [.int .i64 0, .int .i64 0, .int .i64 0, .string ⟨#[]⟩], .slice none 0 0] rfl (by kernel_rfl) (by kernel_rfl) (by kernel_rfl)
      (OpenSpec.preRow_of_cond 8 hx (by kernel_rfl) (fun k hk => by cases hk) (by kernel_rfl) (holdsAll_laid os))) ?_
  intro W base args ds gs before hval hW _ _ _ hL _ _
  exact holdsAll_contract H enc W base args ds gs before hval hW hL
theorem holdsAll_said : Rows.HoldsAllSaid :=
  OpenClaim.holds_of_cond 6 Tryd.f6 rfl rfl rfl rfl rfl rfl rfl ⟨rfl, rfl, rfl, rfl, rfl⟩ rfl rfl rfl rfl rfl (by kernel_rfl) Tryd.func6 (by kernel_rfl)
    (of_decide_eq_true (by kernel_rfl)) (by unfold Func.isWrapper; first | (rw [if_pos (by decide +kernel)]; kernel_rfl) | (rw [if_neg (by decide +kernel)]; exact ⟨rfl, rfl⟩))
    (fun os started H enc _ F => by rw [OpenClaim.pre_eq_preRow]; exact holdsAll_lifted os started H enc F)
theorem holdsAll_plain (f : FuncId) (fn : Func) (hf : Tryd.pinned.checked.prog.funcNamed Rows.holdsAllRow.func = some f) (hfn : Tryd.pinned.checked.prog.funcs[f]? = some fn) :
    false = Tryd.pinned.checked.prog.looks [] ∧ ∀ (j : Nat) t, fn.params[j]? = some t → Tryd.pinned.checked.prog.wantsStandIn t = false := by
  obtain rfl : f = 6 := Option.some.inj ((show Tryd.prog.funcNamed Rows.holdsAllRow.func = some 6 by kernel_rfl).symm.trans hf) |>.symm
  obtain rfl : fn = Tryd.f6 := (Option.some.inj (Tryd.func6.symm.trans hfn)).symm
  refine ⟨by kernel_rfl, fun j t ht => ?_⟩
  have h : (Tryd.f6.params.toList.all fun t => !Tryd.prog.wantsStandIn t) = true := by kernel_rfl
  have := List.all_eq_true.1 h t (by simpa using Array.mem_of_getElem? ht)
  exact (show Tryd.prog.wantsStandIn t = false by simpa using this)
/-- THE CARD: for every input the law returns true, and its arguments read as they did -/
theorem holdsAll_card : Rows.HoldsAllCardSaid :=
  Claim7.holds_tied_plain_at .later [] _ _ _ _ holdsAll_said (fun _ h => by cases h) (by kernel_rfl) (fun _ h => by cases h) holdsAll_row_tie rfl ⟨rfl, rfl⟩ (by kernel_rfl) rfl holdsAll_plain (by kernel_rfl)
theorem holdsMore_contract (H : Type) (enc : TypeId × Value → H) (W : World) (base : Nat) (args : Array Value) (ds gs : List (DataW H)) (before : List MemPlace)
    (hval : ∀ (j : Nat) t v, Tryd.f7.params[j]? = some t → args[j]? = some v → Value.okWide Tryd.prog W .any base t v)
    (hW : DataW.Whole enc Tryd.prog Tryd.f7.params.toList Rows.holdsMoreSpec.vars false W args.toList ds gs before) (hL : laidMetH Tryd.prog Rows.holdsMoreRow.laid W) :
    Calls Tryd.prog 7 args W fun e W' => ∃ v, e = .returned v ∧ Rows.holdsMoreSpec.post enc Tryd.prog Tryd.f7 false true false false W args v W' := by
  refine row_ofG (d := 6) (tb := 4) Hg laidOutK ?_ ?_ rfl (by kernel_rfl) Tryd.underlying4 ?_ law7 W (laidHolds hL) base args ds gs before hval hW
  · intro t ht
    have h : (Tryd.f7.params.toList.all fun t => Tryd.prog.readableRec t && decide (t < Tryd.prog.types.size)) = true := by kernel_rfl
    have := List.all_eq_true.1 h t ht
    simpa using this
  · intro t ht
    have h : (Tryd.f7.params.toList.all fun t => plainTy Tryd.prog 6 t) = true := by kernel_rfl
    exact List.all_eq_true.1 h t ht
  · intro ds hd
    rw [Tryd.params7] at hd
    match ds, hd with
    | [_, _], _ => exact ⟨rfl, rfl, rfl⟩
theorem holdsMore_laid (os : Os) : laidMet Tryd.prog Rows.holdsMoreRow.laid ((laidWorld os).forCall (fun _ _ => 0) ⟨#[], #[.slice none 0 0, .int .i64 0], []⟩).memory :=
  laidMet_of_run' 8 (by kernel_rfl) (by kernel_rfl)
theorem holdsMore_reads (os : Os) {H : Type} (enc : TypeId × Value → H) : ∃ places, DataW.whole enc Tryd.prog ((laidWorld os).forCall (fun _ _ => 0) ⟨#[], #[.slice none 0 0, .int .i64 0], []⟩).memory Tryd.f7.params.toList Rows.holdsMoreSpec.vars false #[.slice none 0 0, .int .i64 0].toList 8 = some ([.nil, .lit (.int .i64 0)], [], places) :=
  ⟨[], by kernel_rfl⟩
set_option maxRecDepth 100000 in
theorem holdsMore_lifted (os : Os) (started : os.Started) (H : Type) (enc : TypeId × Value → H) (F : Stop.Interp) :
    ReturnsInHanded {} Tryd.checked os 7 .any ((OpenSpec.ofChange Rows.holdsMoreSpec).preRow enc Tryd.prog Tryd.f7 Rows.holdsMoreRow.domain false Rows.holdsMoreRow.laid) (((OpenSpec.ofChange Rows.holdsMoreSpec).at F).post enc Tryd.prog Tryd.f7 false true false false) := by
  obtain ⟨places, hx⟩ := holdsMore_reads os enc
  refine returnsInHanded_of_row (C := Tryd.checked) (s := OpenSpec.ofChange Rows.holdsMoreSpec) ownK started (by kernel_rfl) Tryd.func7
    (witness_row_at (enc := enc) (C := Tryd.checked) false (laidWorld os) #[.slice none 0 0, .int .i64 0] rfl (by kernel_rfl) (by kernel_rfl) (by kernel_rfl)
      (OpenSpec.preRow_of_cond 8 hx (by kernel_rfl) (fun k hk => by cases hk) (by kernel_rfl) (holdsMore_laid os))) ?_
  intro W base args ds gs before hval hW _ _ _ hL _ _
  exact holdsMore_contract H enc W base args ds gs before hval hW hL
theorem holdsMore_said : Rows.HoldsMoreSaid :=
  OpenClaim.holds_of_cond 7 Tryd.f7 rfl rfl rfl rfl rfl rfl rfl ⟨rfl, rfl, rfl, rfl, rfl⟩ rfl rfl rfl rfl rfl (by kernel_rfl) Tryd.func7 (by kernel_rfl)
    (of_decide_eq_true (by kernel_rfl)) (by unfold Func.isWrapper; first | (rw [if_pos (by decide +kernel)]; kernel_rfl) | (rw [if_neg (by decide +kernel)]; exact ⟨rfl, rfl⟩))
    (fun os started H enc _ F => by rw [OpenClaim.pre_eq_preRow]; exact holdsMore_lifted os started H enc F)
theorem holdsMore_plain (f : FuncId) (fn : Func) (hf : Tryd.pinned.checked.prog.funcNamed Rows.holdsMoreRow.func = some f) (hfn : Tryd.pinned.checked.prog.funcs[f]? = some fn) :
    false = Tryd.pinned.checked.prog.looks [] ∧ ∀ (j : Nat) t, fn.params[j]? = some t → Tryd.pinned.checked.prog.wantsStandIn t = false := by
  obtain rfl : f = 7 := Option.some.inj ((show Tryd.prog.funcNamed Rows.holdsMoreRow.func = some 7 by kernel_rfl).symm.trans hf) |>.symm
  obtain rfl : fn = Tryd.f7 := (Option.some.inj (Tryd.func7.symm.trans hfn)).symm
  refine ⟨by kernel_rfl, fun j t ht => ?_⟩
  have h : (Tryd.f7.params.toList.all fun t => !Tryd.prog.wantsStandIn t) = true := by kernel_rfl
  have := List.all_eq_true.1 h t (by simpa using Array.mem_of_getElem? ht)
  exact (show Tryd.prog.wantsStandIn t = false by simpa using this)
/-- THE CARD: for every input the law returns true, and its arguments read as they did -/
theorem holdsMore_card : Rows.HoldsMoreCardSaid :=
  Claim7.holds_tied_plain_at .later [] _ _ _ _ holdsMore_said (fun _ h => by cases h) (by kernel_rfl) (fun _ h => by cases h) holdsMore_row_tie rfl ⟨rfl, rfl⟩ (by kernel_rfl) rfl holdsMore_plain (by kernel_rfl)
end Go.Proofs.YtaiakomijoppdaaDoor
