/-
  NARROWER THAN 'FOR EVERY INPUT', by the rows' own cells (each row's printed sentence says how): RegistrySteps: laid · RegistryExtends: laid.
  DERIVED. THE GIVEN ROWS OF THIS SEAT. 2 by the template 'for every input the law returns true; each argument reads behind the call as it read before'; 0 by the template 'total and deterministic' (their statements: YtjekgnmiimhomaaDoorTotals.lean).
  GIVEN WITH THE SEED: the statements are not yours to turn. If you find one false, say at which input.
  Laid BY PROGRAM, IN A SANDBOX (cutbox-rows.mjs): the forced cells as the released guide's own fill.sh prints them over the translation 2c318365f881662f… (all of the seat's roots in one cut). By AI agents, Wed Nov 11 2026. No macro, syntax, notation, axiom, sorry.
-/
import Derived.Test.YtjekgnmiimhomaaDoorChecked
import GoSem.Claim
import GoSem.ClaimJoined
import GoSem.ClaimMapViews
import Derived.JoinedTies
import Derived.KernelRfl
namespace Go.Proofs.YtjekgnmiimhomaaDoor
/- THE CELL 'sum', in the pinned program and in every row, IS THE sha256 OF THE DUMP (.gsa) THAT YtjekgnmiimhomaaDoorProg.lean LOADS. Nothing in Lean hashes anything: it is a label: what it is worth is what the hold of that sum in a sandbox is worth. -/
noncomputable def Tryd.pinned : Pinned := { name := "ytjekgnmiimhomaadoor", sum := "2c318365f881662fef1599d49a20674677fbd24e74ecc7f40d329a663df7a01b", checked := Tryd.checked }
namespace Rows
def none {H : Type} : Left H := { results := [], args := [] }

/- WHAT THE LISTED PACKAGE-LEVEL VARIABLES READ AS WHEN THE CALL BEGINS. Each datum BY PROGRAM (the guide's laid-datum.mjs) off the statement by which the dump's own 'gosem.cut.vars' lays the variable. In a bare row this is a premise. The card (YtjekgnmiimhomaaDoorCards.lean) ties it to the program's text. -/
def laid_macaroon_predicate_bits {H : Type} : DataW H := .agg [.lit (.int .i64 0), .lit (.int .i64 64), .lit (.int .i64 32), .lit (.int .i64 7), .lit (.int .i64 0), .lit (.int .i64 0), .lit (.int .i64 0), .lit (.int .i64 0)]

/-- 'macaroonlaw22.RegistrySteps': WHATEVER THE INPUT: true; the input reads as it did. -/
def registryStepsSpec : ChangeSpec := { name := "registrySteps", fn := fun _ => fun
  | [d1, d2, d3, d4, d5] => { results := [.lit (.bool true)], args := [d1, d2, d3, d4, d5] }
  | _ => none }
def registryStepsRow : OpenClaim := { program := "ytjekgnmiimhomaadoor", sum := "2c318365f881662fef1599d49a20674677fbd24e74ecc7f40d329a663df7a01b", func := "macaroon/macaroonlaw22.RegistrySteps", spec := "registrySteps", unfollowed := true, recurses := true, named := ["macaroon/predicate.bits"], apart := false, laid := [("macaroon/predicate.bits", laid_macaroon_predicate_bits)] }
def RegistryStepsSaid : Prop := registryStepsRow.holds Tryd.pinned (OpenSpec.ofChange registryStepsSpec)

/-- ITS FALSE NEIGHBOUR: 'it returns false'. Refute it at one input. -/
def registryStepsWrong : ChangeSpec := { name := "registrySteps", fn := fun _ => fun
  | [d1, d2, d3, d4, d5] => { results := [.lit (.bool false)], args := [d1, d2, d3, d4, d5] }
  | _ => none }
def RegistryStepsWrongFalsely : Prop := registryStepsRow.holds Tryd.pinned (OpenSpec.ofChange registryStepsWrong)

/-- 'macaroonlaw22.RegistryExtends': WHATEVER THE INPUT: true; the input reads as it did. -/
def registryExtendsSpec : ChangeSpec := { name := "registryExtends", fn := fun _ => fun
  | [d1, d2, d3, d4, d5, d6] => { results := [.lit (.bool true)], args := [d1, d2, d3, d4, d5, d6] }
  | _ => none }
def registryExtendsRow : OpenClaim := { program := "ytjekgnmiimhomaadoor", sum := "2c318365f881662fef1599d49a20674677fbd24e74ecc7f40d329a663df7a01b", func := "macaroon/macaroonlaw22.RegistryExtends", spec := "registryExtends", unfollowed := true, recurses := true, named := ["macaroon/predicate.bits"], apart := false, laid := [("macaroon/predicate.bits", laid_macaroon_predicate_bits)] }
def RegistryExtendsSaid : Prop := registryExtendsRow.holds Tryd.pinned (OpenSpec.ofChange registryExtendsSpec)

/-- ITS FALSE NEIGHBOUR: 'it returns false'. Refute it at one input. -/
def registryExtendsWrong : ChangeSpec := { name := "registryExtends", fn := fun _ => fun
  | [d1, d2, d3, d4, d5, d6] => { results := [.lit (.bool false)], args := [d1, d2, d3, d4, d5, d6] }
  | _ => none }
def RegistryExtendsWrongFalsely : Prop := registryExtendsRow.holds Tryd.pinned (OpenSpec.ofChange registryExtendsWrong)

/- THE SECOND FORM. 'bulk': how many values and letters a reading holds, each counted each time it is reached (what is shared counts as often as it is met; a slice's spare places count too). A statement '..UptoSaid' is the law's where the arguments, and the package variables that the reading takes, are together of bulk at most 1048576: NARROWER than '..Said'. Prove '..Said' where nothing that the law and all that it calls make is longer than what came in: it says more and counts as full. Else prove '..UptoSaid'. A law counts once. -/
mutual
def uptoBulk {H : Type} : DataW H → Nat
  | .lit (.string bytes) => bytes.length + 1
  | .lit _ => 1
  | .nil => 1
  | .ptr d => uptoBulk d + 1
  | .slice elems spare => uptoBulkAll elems + uptoBulkAll spare + 1
  | .agg parts => uptoBulkAll parts + 1
  | .iface _ d => uptoBulk d + 1
  | .map entries => uptoBulkEntries entries + 1
  | .held _ => 1
def uptoBulkAll {H : Type} : List (DataW H) → Nat
  | [] => 0
  | d :: r => uptoBulk d + uptoBulkAll r
def uptoBulkEntries {H : Type} : List (Lit × DataW H) → Nat
  | [] => 0
  | x :: r => uptoBulkEntry x + uptoBulkEntries r
def uptoBulkEntry {H : Type} : Lit × DataW H → Nat
  | (.string bytes, d) => bytes.length + uptoBulk d + 1
  | (_, d) => uptoBulk d + 1
 end
def uptoSmall : (H : Type) → List (DataW H) → Bool := fun _ ds => decide (uptoBulkAll ds ≤ 1048576)
def OpenSpec.upto (s : _root_.Go.ChangeSpec) : _root_.Go.OpenSpec := { _root_.Go.OpenSpec.ofChange s with cond := some uptoSmall }

/-- 'macaroonlaw22.RegistrySteps', WHERE WHAT IT READS IS OF BULK AT MOST 1048576: true; the input reads as it did. -/
def registryStepsUptoRow : OpenClaim := { program := "ytjekgnmiimhomaadoor", sum := "2c318365f881662fef1599d49a20674677fbd24e74ecc7f40d329a663df7a01b", func := "macaroon/macaroonlaw22.RegistrySteps", spec := "registrySteps", unfollowed := true, recurses := true, named := ["macaroon/predicate.bits"], apart := false, laid := [("macaroon/predicate.bits", laid_macaroon_predicate_bits)], narrowed := true }
def RegistryStepsUptoSaid : Prop := registryStepsUptoRow.holds Tryd.pinned (OpenSpec.upto registryStepsSpec)

/-- 'macaroonlaw22.RegistryExtends', WHERE WHAT IT READS IS OF BULK AT MOST 1048576: true; the input reads as it did. -/
def registryExtendsUptoRow : OpenClaim := { program := "ytjekgnmiimhomaadoor", sum := "2c318365f881662fef1599d49a20674677fbd24e74ecc7f40d329a663df7a01b", func := "macaroon/macaroonlaw22.RegistryExtends", spec := "registryExtends", unfollowed := true, recurses := true, named := ["macaroon/predicate.bits"], apart := false, laid := [("macaroon/predicate.bits", laid_macaroon_predicate_bits)], narrowed := true }
def RegistryExtendsUptoSaid : Prop := registryExtendsUptoRow.holds Tryd.pinned (OpenSpec.upto registryExtendsSpec)

end Rows
end Go.Proofs.YtjekgnmiimhomaaDoor
