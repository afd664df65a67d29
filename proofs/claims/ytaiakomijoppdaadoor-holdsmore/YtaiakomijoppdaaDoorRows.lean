/-
  NARROWER THAN 'FOR EVERY INPUT', by the rows' own cells (each row's printed sentence says how): HoldsValid: laid · HoldsOne: laid · HoldsDaily: laid · HoldsAll: laid · HoldsMore: laid.
  DERIVED. THE GIVEN ROWS OF THIS SEAT. 5 by the template 'for every input the law returns true; each argument reads behind the call as it read before'; 0 by the template 'total and deterministic' (their statements: YtaiakomijoppdaaDoorTotals.lean).
  GIVEN WITH THE SEED: the statements are not yours to turn. If you find one false, say at which input.
  Laid BY PROGRAM, IN A SANDBOX (cutbox-rows.mjs): the forced cells as the released guide's own fill.sh prints them over the translation 6477bf7112d5f8e7… (all of the seat's roots in one cut). By AI agents, Wed Nov 11 2026. No macro, syntax, notation, axiom, sorry.
-/
import Derived.Test.YtaiakomijoppdaaDoorChecked
import GoSem.Claim
import GoSem.ClaimJoined
import GoSem.ClaimMapViews
import Derived.JoinedTies
import Derived.KernelRfl
namespace Go.Proofs.YtaiakomijoppdaaDoor
/- THE CELL 'sum', in the pinned program and in every row, IS THE sha256 OF THE DUMP (.gsa) THAT YtaiakomijoppdaaDoorProg.lean LOADS. Nothing in Lean hashes anything: it is a label: what it is worth is what the hold of that sum in a sandbox is worth. -/
noncomputable def Tryd.pinned : Pinned := { name := "ytaiakomijoppdaadoor", sum := "6477bf7112d5f8e7142dad04a889bcf55b191acf98c4c300ac69cf8d52284702", checked := Tryd.checked }
namespace Rows
def none {H : Type} : Left H := { results := [], args := [] }

/- WHAT THE LISTED PACKAGE-LEVEL VARIABLES READ AS WHEN THE CALL BEGINS. Each datum BY PROGRAM (the guide's laid-datum.mjs) off the statement by which the dump's own 'gosem.cut.vars' lays the variable. In a bare row this is a premise. The card (YtaiakomijoppdaaDoorCards.lean) ties it to the program's text. -/
def laid_macaroon_predicate_bits {H : Type} : DataW H := .agg [.lit (.int .i64 0), .lit (.int .i64 64), .lit (.int .i64 32), .lit (.int .i64 7), .lit (.int .i64 0), .lit (.int .i64 0), .lit (.int .i64 0), .lit (.int .i64 0)]

/-- 'macaroonlaw07.HoldsValid': WHATEVER THE INPUT: true; the input reads as it did. -/
def holdsValidSpec : ChangeSpec := { name := "holdsValid", fn := fun _ => fun
  | [d1, d2, d3, d4] => { results := [.lit (.bool true)], args := [d1, d2, d3, d4] }
  | _ => none }
def holdsValidRow : OpenClaim := { program := "ytaiakomijoppdaadoor", sum := "6477bf7112d5f8e7142dad04a889bcf55b191acf98c4c300ac69cf8d52284702", func := "macaroon/macaroonlaw07.HoldsValid", spec := "holdsValid", unfollowed := true, recurses := true, named := ["macaroon/predicate.bits"], apart := false, laid := [("macaroon/predicate.bits", laid_macaroon_predicate_bits)] }
def HoldsValidSaid : Prop := holdsValidRow.holds Tryd.pinned (OpenSpec.ofChange holdsValidSpec)

/-- ITS FALSE NEIGHBOUR: 'it returns false'. Refute it at one input. -/
def holdsValidWrong : ChangeSpec := { name := "holdsValid", fn := fun _ => fun
  | [d1, d2, d3, d4] => { results := [.lit (.bool false)], args := [d1, d2, d3, d4] }
  | _ => none }
def HoldsValidWrongFalsely : Prop := holdsValidRow.holds Tryd.pinned (OpenSpec.ofChange holdsValidWrong)

/-- 'macaroonlaw07.HoldsOne': WHATEVER THE INPUT: true; the input reads as it did. -/
def holdsOneSpec : ChangeSpec := { name := "holdsOne", fn := fun _ => fun
  | [d1, d2, d3] => { results := [.lit (.bool true)], args := [d1, d2, d3] }
  | _ => none }
def holdsOneRow : OpenClaim := { program := "ytaiakomijoppdaadoor", sum := "6477bf7112d5f8e7142dad04a889bcf55b191acf98c4c300ac69cf8d52284702", func := "macaroon/macaroonlaw07.HoldsOne", spec := "holdsOne", unfollowed := true, recurses := true, named := ["macaroon/predicate.bits"], apart := false, laid := [("macaroon/predicate.bits", laid_macaroon_predicate_bits)] }
def HoldsOneSaid : Prop := holdsOneRow.holds Tryd.pinned (OpenSpec.ofChange holdsOneSpec)

/-- ITS FALSE NEIGHBOUR: 'it returns false'. Refute it at one input. -/
def holdsOneWrong : ChangeSpec := { name := "holdsOne", fn := fun _ => fun
  | [d1, d2, d3] => { results := [.lit (.bool false)], args := [d1, d2, d3] }
  | _ => none }
def HoldsOneWrongFalsely : Prop := holdsOneRow.holds Tryd.pinned (OpenSpec.ofChange holdsOneWrong)

/-- 'macaroonlaw07.HoldsDaily': WHATEVER THE INPUT: true; the input reads as it did. -/
def holdsDailySpec : ChangeSpec := { name := "holdsDaily", fn := fun _ => fun
  | [d1, d2, d3] => { results := [.lit (.bool true)], args := [d1, d2, d3] }
  | _ => none }
def holdsDailyRow : OpenClaim := { program := "ytaiakomijoppdaadoor", sum := "6477bf7112d5f8e7142dad04a889bcf55b191acf98c4c300ac69cf8d52284702", func := "macaroon/macaroonlaw07.HoldsDaily", spec := "holdsDaily", unfollowed := true, recurses := true, named := ["macaroon/predicate.bits"], apart := false, laid := [("macaroon/predicate.bits", laid_macaroon_predicate_bits)] }
def HoldsDailySaid : Prop := holdsDailyRow.holds Tryd.pinned (OpenSpec.ofChange holdsDailySpec)

/-- ITS FALSE NEIGHBOUR: 'it returns false'. Refute it at one input. -/
def holdsDailyWrong : ChangeSpec := { name := "holdsDaily", fn := fun _ => fun
  | [d1, d2, d3] => { results := [.lit (.bool false)], args := [d1, d2, d3] }
  | _ => none }
def HoldsDailyWrongFalsely : Prop := holdsDailyRow.holds Tryd.pinned (OpenSpec.ofChange holdsDailyWrong)

/-- 'macaroonlaw07.HoldsAll': WHATEVER THE INPUT: true; the input reads as it did. -/
def holdsAllSpec : ChangeSpec := { name := "holdsAll", fn := fun _ => fun
  | [d1, d2, d3] => { results := [.lit (.bool true)], args := [d1, d2, d3] }
  | _ => none }
def holdsAllRow : OpenClaim := { program := "ytaiakomijoppdaadoor", sum := "6477bf7112d5f8e7142dad04a889bcf55b191acf98c4c300ac69cf8d52284702", func := "macaroon/macaroonlaw07.HoldsAll", spec := "holdsAll", unfollowed := true, recurses := true, named := ["macaroon/predicate.bits"], apart := false, laid := [("macaroon/predicate.bits", laid_macaroon_predicate_bits)] }
def HoldsAllSaid : Prop := holdsAllRow.holds Tryd.pinned (OpenSpec.ofChange holdsAllSpec)

/-- ITS FALSE NEIGHBOUR: 'it returns false'. Refute it at one input. -/
def holdsAllWrong : ChangeSpec := { name := "holdsAll", fn := fun _ => fun
  | [d1, d2, d3] => { results := [.lit (.bool false)], args := [d1, d2, d3] }
  | _ => none }
def HoldsAllWrongFalsely : Prop := holdsAllRow.holds Tryd.pinned (OpenSpec.ofChange holdsAllWrong)

/-- 'macaroonlaw07.HoldsMore': WHATEVER THE INPUT: true; the input reads as it did. -/
def holdsMoreSpec : ChangeSpec := { name := "holdsMore", fn := fun _ => fun
  | [d1, d2] => { results := [.lit (.bool true)], args := [d1, d2] }
  | _ => none }
def holdsMoreRow : OpenClaim := { program := "ytaiakomijoppdaadoor", sum := "6477bf7112d5f8e7142dad04a889bcf55b191acf98c4c300ac69cf8d52284702", func := "macaroon/macaroonlaw07.HoldsMore", spec := "holdsMore", unfollowed := true, recurses := true, named := ["macaroon/predicate.bits"], apart := false, laid := [("macaroon/predicate.bits", laid_macaroon_predicate_bits)] }
def HoldsMoreSaid : Prop := holdsMoreRow.holds Tryd.pinned (OpenSpec.ofChange holdsMoreSpec)

/-- ITS FALSE NEIGHBOUR: 'it returns false'. Refute it at one input. -/
def holdsMoreWrong : ChangeSpec := { name := "holdsMore", fn := fun _ => fun
  | [d1, d2] => { results := [.lit (.bool false)], args := [d1, d2] }
  | _ => none }
def HoldsMoreWrongFalsely : Prop := holdsMoreRow.holds Tryd.pinned (OpenSpec.ofChange holdsMoreWrong)

/- THE SECOND FORM. 'bulk': how many values and letters a reading holds, each counted each time it is reached (what is shared counts as often as it is met; a slice's spare places count too). A statement '..UptoSaid' is the law's where the arguments, and the package variables that the reading takes, are together of bulk at most 1048576: NARROWER than '..Said'. Prove '..Said' where nothing that the law and all that it calls make is longer than what came in: it says more and counts as full. Else prove '..UptoSaid'. A law counts once. -/
mutual
def uptoBulk {H : Type} : DataW H → Nat
  | .lit (.string bytes) => bytes.length + 1
  | .lit _ => 1
  | .nil => 1
  | .ptr d => uptoBulk d + 1
  | .slice elems spare => uptoBulkAll elems + uptoBulkAll spare + 1
  | .agg parts => uptoBulkAll parts + 1
  | .iface _ d => uptoBulk d + 1
  | .map entries => uptoBulkEntries entries + 1
  | .held _ => 1
def uptoBulkAll {H : Type} : List (DataW H) → Nat
  | [] => 0
  | d :: r => uptoBulk d + uptoBulkAll r
def uptoBulkEntries {H : Type} : List (Lit × DataW H) → Nat
  | [] => 0
  | x :: r => uptoBulkEntry x + uptoBulkEntries r
def uptoBulkEntry {H : Type} : Lit × DataW H → Nat
  | (.string bytes, d) => bytes.length + uptoBulk d + 1
  | (_, d) => uptoBulk d + 1
 end
def uptoSmall : (H : Type) → List (DataW H) → Bool := fun _ ds => decide (uptoBulkAll ds ≤ 1048576)
def OpenSpec.upto (s : _root_.Go.ChangeSpec) : _root_.Go.OpenSpec := { _root_.Go.OpenSpec.ofChange s with cond := some uptoSmall }

/-- 'macaroonlaw07.HoldsValid', WHERE WHAT IT READS IS OF BULK AT MOST 1048576: true; the input reads as it did. -/
def holdsValidUptoRow : OpenClaim := { program := "ytaiakomijoppdaadoor", sum := "6477bf7112d5f8e7142dad04a889bcf55b191acf98c4c300ac69cf8d52284702", func := "macaroon/macaroonlaw07.HoldsValid", spec := "holdsValid", unfollowed := true, recurses := true, named := ["macaroon/predicate.bits"], apart := false, laid := [("macaroon/predicate.bits", laid_macaroon_predicate_bits)], narrowed := true }
def HoldsValidUptoSaid : Prop := holdsValidUptoRow.holds Tryd.pinned (OpenSpec.upto holdsValidSpec)

/-- 'macaroonlaw07.HoldsOne', WHERE WHAT IT READS IS OF BULK AT MOST 1048576: true; the input reads as it did. -/
def holdsOneUptoRow : OpenClaim := { program := "ytaiakomijoppdaadoor", sum := "6477bf7112d5f8e7142dad04a889bcf55b191acf98c4c300ac69cf8d52284702", func := "macaroon/macaroonlaw07.HoldsOne", spec := "holdsOne", unfollowed := true, recurses := true, named := ["macaroon/predicate.bits"], apart := false, laid := [("macaroon/predicate.bits", laid_macaroon_predicate_bits)], narrowed := true }
def HoldsOneUptoSaid : Prop := holdsOneUptoRow.holds Tryd.pinned (OpenSpec.upto holdsOneSpec)

/-- 'macaroonlaw07.HoldsDaily', WHERE WHAT IT READS IS OF BULK AT MOST 1048576: true; the input reads as it did. -/
def holdsDailyUptoRow : OpenClaim := { program := "ytaiakomijoppdaadoor", sum := "6477bf7112d5f8e7142dad04a889bcf55b191acf98c4c300ac69cf8d52284702", func := "macaroon/macaroonlaw07.HoldsDaily", spec := "holdsDaily", unfollowed := true, recurses := true, named := ["macaroon/predicate.bits"], apart := false, laid := [("macaroon/predicate.bits", laid_macaroon_predicate_bits)], narrowed := true }
def HoldsDailyUptoSaid : Prop := holdsDailyUptoRow.holds Tryd.pinned (OpenSpec.upto holdsDailySpec)

/-- 'macaroonlaw07.HoldsAll', WHERE WHAT IT READS IS OF BULK AT MOST 1048576: true; the input reads as it did. -/
def holdsAllUptoRow : OpenClaim := { program := "ytaiakomijoppdaadoor", sum := "6477bf7112d5f8e7142dad04a889bcf55b191acf98c4c300ac69cf8d52284702", func := "macaroon/macaroonlaw07.HoldsAll", spec := "holdsAll", unfollowed := true, recurses := true, named := ["macaroon/predicate.bits"], apart := false, laid := [("macaroon/predicate.bits", laid_macaroon_predicate_bits)], narrowed := true }
def HoldsAllUptoSaid : Prop := holdsAllUptoRow.holds Tryd.pinned (OpenSpec.upto holdsAllSpec)

/-- 'macaroonlaw07.HoldsMore', WHERE WHAT IT READS IS OF BULK AT MOST 1048576: true; the input reads as it did. -/
def holdsMoreUptoRow : OpenClaim := { program := "ytaiakomijoppdaadoor", sum := "6477bf7112d5f8e7142dad04a889bcf55b191acf98c4c300ac69cf8d52284702", func := "macaroon/macaroonlaw07.HoldsMore", spec := "holdsMore", unfollowed := true, recurses := true, named := ["macaroon/predicate.bits"], apart := false, laid := [("macaroon/predicate.bits", laid_macaroon_predicate_bits)], narrowed := true }
def HoldsMoreUptoSaid : Prop := holdsMoreUptoRow.holds Tryd.pinned (OpenSpec.upto holdsMoreSpec)

end Rows
end Go.Proofs.YtaiakomijoppdaaDoor
