/-
  NARROWER THAN 'FOR EVERY INPUT', by the rows' own cells (each row's printed sentence says how): ConcessionSteps: laid · ConcessionKnown: laid.
  DERIVED. THE GIVEN ROWS OF THIS SEAT. 2 by the template 'for every input the law returns true; each argument reads behind the call as it read before'; 0 by the template 'total and deterministic' (their statements: YtnighgphfomlkaaDoorTotals.lean).
  GIVEN WITH THE SEED: the statements are not yours to turn. If you find one false, say at which input.
  Laid BY PROGRAM, IN A SANDBOX (cutbox-rows.mjs): the forced cells as the released guide's own fill.sh prints them over the translation ac71fef7a158584d… (all of the seat's roots in one cut). By AI agents, Wed Nov 11 2026. No macro, syntax, notation, axiom, sorry.
-/
import Derived.Test.YtnighgphfomlkaaDoorChecked
import GoSem.Claim
import GoSem.ClaimJoined
import GoSem.ClaimMapViews
import Derived.JoinedTies
import Derived.KernelRfl
namespace Go.Proofs.YtnighgphfomlkaaDoor
/- THE CELL 'sum', in the pinned program and in every row, IS THE sha256 OF THE DUMP (.gsa) THAT YtnighgphfomlkaaDoorProg.lean LOADS. Nothing in Lean hashes anything: it is a label: what it is worth is what the hold of that sum in a sandbox is worth. -/
noncomputable def Tryd.pinned : Pinned := { name := "ytnighgphfomlkaadoor", sum := "ac71fef7a158584d156eff14f666d25a3f3d2b6c6d3f1cdb54da45c2ba25ddf0", checked := Tryd.checked }
namespace Rows
def none {H : Type} : Left H := { results := [], args := [] }

/- WHAT THE LISTED PACKAGE-LEVEL VARIABLES READ AS WHEN THE CALL BEGINS. Each datum BY PROGRAM (the guide's laid-datum.mjs) off the statement by which the dump's own 'gosem.cut.vars' lays the variable. In a bare row this is a premise. The card (YtnighgphfomlkaaDoorCards.lean) ties it to the program's text. -/
def laid_macaroon_predicate_bits {H : Type} : DataW H := .agg [.lit (.int .i64 0), .lit (.int .i64 64), .lit (.int .i64 32), .lit (.int .i64 7), .lit (.int .i64 0), .lit (.int .i64 0), .lit (.int .i64 0), .lit (.int .i64 0)]

/-- 'macaroonlaw27.ConcessionSteps': WHATEVER THE INPUT: true; the input reads as it did. -/
def concessionStepsSpec : ChangeSpec := { name := "concessionSteps", fn := fun _ => fun
  | [d1, d2, d3, d4, d5, d6] => { results := [.lit (.bool true)], args := [d1, d2, d3, d4, d5, d6] }
  | _ => none }
def concessionStepsRow : OpenClaim := { program := "ytnighgphfomlkaadoor", sum := "ac71fef7a158584d156eff14f666d25a3f3d2b6c6d3f1cdb54da45c2ba25ddf0", func := "macaroon/macaroonlaw27.ConcessionSteps", spec := "concessionSteps", unfollowed := true, recurses := true, named := ["macaroon/predicate.bits"], apart := false, laid := [("macaroon/predicate.bits", laid_macaroon_predicate_bits)] }
def ConcessionStepsSaid : Prop := concessionStepsRow.holds Tryd.pinned (OpenSpec.ofChange concessionStepsSpec)

/-- ITS FALSE NEIGHBOUR: 'it returns false'. Refute it at one input. -/
def concessionStepsWrong : ChangeSpec := { name := "concessionSteps", fn := fun _ => fun
  | [d1, d2, d3, d4, d5, d6] => { results := [.lit (.bool false)], args := [d1, d2, d3, d4, d5, d6] }
  | _ => none }
def ConcessionStepsWrongFalsely : Prop := concessionStepsRow.holds Tryd.pinned (OpenSpec.ofChange concessionStepsWrong)

/-- 'macaroonlaw27.ConcessionKnown': WHATEVER THE INPUT: true; the input reads as it did. -/
def concessionKnownSpec : ChangeSpec := { name := "concessionKnown", fn := fun _ => fun
  | [d] => { results := [.lit (.bool true)], args := [d] }
  | _ => none }
def concessionKnownRow : OpenClaim := { program := "ytnighgphfomlkaadoor", sum := "ac71fef7a158584d156eff14f666d25a3f3d2b6c6d3f1cdb54da45c2ba25ddf0", func := "macaroon/macaroonlaw27.ConcessionKnown", spec := "concessionKnown", unfollowed := true, recurses := true, named := ["macaroon/predicate.bits"], apart := false, laid := [("macaroon/predicate.bits", laid_macaroon_predicate_bits)] }
def ConcessionKnownSaid : Prop := concessionKnownRow.holds Tryd.pinned (OpenSpec.ofChange concessionKnownSpec)

/-- ITS FALSE NEIGHBOUR: 'it returns false'. Refute it at one input. -/
def concessionKnownWrong : ChangeSpec := { name := "concessionKnown", fn := fun _ => fun
  | [d] => { results := [.lit (.bool false)], args := [d] }
  | _ => none }
def ConcessionKnownWrongFalsely : Prop := concessionKnownRow.holds Tryd.pinned (OpenSpec.ofChange concessionKnownWrong)

/- THE SECOND FORM. 'bulk': how many values and letters a reading holds, each counted each time it is reached (what is shared counts as often as it is met; a slice's spare places count too). A statement '..UptoSaid' is the law's where the arguments, and the package variables that the reading takes, are together of bulk at most 1048576: NARROWER than '..Said'. Prove '..Said' where nothing that the law and all that it calls make is longer than what came in: it says more and counts as full. Else prove '..UptoSaid'. A law counts once. -/
mutual
def uptoBulk {H : Type} : DataW H → Nat
  | .lit (.string bytes) => bytes.length + 1
  | .lit _ => 1
  | .nil => 1
  | .ptr d => uptoBulk d + 1
  | .slice elems spare => uptoBulkAll elems + uptoBulkAll spare + 1
  | .agg parts => uptoBulkAll parts + 1
  | .iface _ d => uptoBulk d + 1
  | .map entries => uptoBulkEntries entries + 1
  | .held _ => 1
def uptoBulkAll {H : Type} : List (DataW H) → Nat
  | [] => 0
  | d :: r => uptoBulk d + uptoBulkAll r
def uptoBulkEntries {H : Type} : List (Lit × DataW H) → Nat
  | [] => 0
  | x :: r => uptoBulkEntry x + uptoBulkEntries r
def uptoBulkEntry {H : Type} : Lit × DataW H → Nat
  | (.string bytes, d) => bytes.length + uptoBulk d + 1
  | (_, d) => uptoBulk d + 1
 end
def uptoSmall : (H : Type) → List (DataW H) → Bool := fun _ ds => decide (uptoBulkAll ds ≤ 1048576)
def OpenSpec.upto (s : _root_.Go.ChangeSpec) : _root_.Go.OpenSpec := { _root_.Go.OpenSpec.ofChange s with cond := some uptoSmall }

/-- 'macaroonlaw27.ConcessionSteps', WHERE WHAT IT READS IS OF BULK AT MOST 1048576: true; the input reads as it did. -/
def concessionStepsUptoRow : OpenClaim := { program := "ytnighgphfomlkaadoor", sum := "ac71fef7a158584d156eff14f666d25a3f3d2b6c6d3f1cdb54da45c2ba25ddf0", func := "macaroon/macaroonlaw27.ConcessionSteps", spec := "concessionSteps", unfollowed := true, recurses := true, named := ["macaroon/predicate.bits"], apart := false, laid := [("macaroon/predicate.bits", laid_macaroon_predicate_bits)], narrowed := true }
def ConcessionStepsUptoSaid : Prop := concessionStepsUptoRow.holds Tryd.pinned (OpenSpec.upto concessionStepsSpec)

/-- 'macaroonlaw27.ConcessionKnown', WHERE WHAT IT READS IS OF BULK AT MOST 1048576: true; the input reads as it did. -/
def concessionKnownUptoRow : OpenClaim := { program := "ytnighgphfomlkaadoor", sum := "ac71fef7a158584d156eff14f666d25a3f3d2b6c6d3f1cdb54da45c2ba25ddf0", func := "macaroon/macaroonlaw27.ConcessionKnown", spec := "concessionKnown", unfollowed := true, recurses := true, named := ["macaroon/predicate.bits"], apart := false, laid := [("macaroon/predicate.bits", laid_macaroon_predicate_bits)], narrowed := true }
def ConcessionKnownUptoSaid : Prop := concessionKnownUptoRow.holds Tryd.pinned (OpenSpec.upto concessionKnownSpec)

end Rows
end Go.Proofs.YtnighgphfomlkaaDoor
