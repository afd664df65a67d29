/-
  No cell of these rows narrows 'for every input' (looked for: loops, veiled, ifaces, maps, wideKeys, modest, calm, conditions, laid).
  DERIVED. THE GIVEN ROWS OF THIS SEAT. 4 by the template 'for every input the law returns true; each argument reads behind the call as it read before'; 0 by the template 'total and deterministic' (their statements: YtabichlcgiafcaaTotals.lean).
  GIVEN WITH THE SEED: the statements are not yours to turn. If you find one false, say at which input.
  Laid BY PROGRAM, IN A SANDBOX (cutbox-rows.mjs): the forced cells as the released guide's own fill.sh prints them over the translation 83cf8ce1ae789bef… (all of the seat's roots in one cut). By AI agents, Wed Nov 11 2026. No macro, syntax, notation, axiom, sorry.
-/
import Derived.Test.YtabichlcgiafcaaChecked
import GoSem.Claim
import GoSem.ClaimJoined
import GoSem.ClaimMapViews
import Derived.JoinedTies
import Derived.KernelRfl
namespace Go.Proofs.Ytabichlcgiafcaa
/- THE CELL 'sum', in the pinned program and in every row, IS THE sha256 OF THE DUMP (.gsa) THAT YtabichlcgiafcaaProg.lean LOADS. Nothing in Lean hashes anything: it is a label: what it is worth is what the hold of that sum in a sandbox is worth. -/
noncomputable def Try.pinned : Pinned := { name := "ytabichlcgiafcaa", sum := "83cf8ce1ae789bef0cd92660730bd13797cee9c6b677fd340241049414ec0343", checked := Try.checked }
namespace Rows
def none {H : Type} : Left H := { results := [], args := [] }

/-- 'macaroonlaw28.LedgerSteps': WHATEVER THE INPUT: true; the input reads as it did. -/
def ledgerStepsSpec : ChangeSpec := { name := "ledgerSteps", fn := fun _ => fun
  | [d1, d2, d3, d4] => { results := [.lit (.bool true)], args := [d1, d2, d3, d4] }
  | _ => none }
def ledgerStepsRow : OpenClaim := { program := "ytabichlcgiafcaa", sum := "83cf8ce1ae789bef0cd92660730bd13797cee9c6b677fd340241049414ec0343", func := "macaroon/macaroonlaw28.LedgerSteps", spec := "ledgerSteps", apart := false }
def LedgerStepsSaid : Prop := ledgerStepsRow.holds Try.pinned (OpenSpec.ofChange ledgerStepsSpec)

/-- ITS FALSE NEIGHBOUR: 'it returns false'. Refute it at one input. -/
def ledgerStepsWrong : ChangeSpec := { name := "ledgerSteps", fn := fun _ => fun
  | [d1, d2, d3, d4] => { results := [.lit (.bool false)], args := [d1, d2, d3, d4] }
  | _ => none }
def LedgerStepsWrongFalsely : Prop := ledgerStepsRow.holds Try.pinned (OpenSpec.ofChange ledgerStepsWrong)

/-- 'macaroonlaw28.LedgerAdds': WHATEVER THE INPUT: true; the input reads as it did. -/
def ledgerAddsSpec : ChangeSpec := { name := "ledgerAdds", fn := fun _ => fun
  | [d1, d2] => { results := [.lit (.bool true)], args := [d1, d2] }
  | _ => none }
def ledgerAddsRow : OpenClaim := { program := "ytabichlcgiafcaa", sum := "83cf8ce1ae789bef0cd92660730bd13797cee9c6b677fd340241049414ec0343", func := "macaroon/macaroonlaw28.LedgerAdds", spec := "ledgerAdds", apart := false }
def LedgerAddsSaid : Prop := ledgerAddsRow.holds Try.pinned (OpenSpec.ofChange ledgerAddsSpec)

/-- ITS FALSE NEIGHBOUR: 'it returns false'. Refute it at one input. -/
def ledgerAddsWrong : ChangeSpec := { name := "ledgerAdds", fn := fun _ => fun
  | [d1, d2] => { results := [.lit (.bool false)], args := [d1, d2] }
  | _ => none }
def LedgerAddsWrongFalsely : Prop := ledgerAddsRow.holds Try.pinned (OpenSpec.ofChange ledgerAddsWrong)

/-- 'macaroonlaw28.LedgerRoom': WHATEVER THE INPUT: true; the input reads as it did. -/
def ledgerRoomSpec : ChangeSpec := { name := "ledgerRoom", fn := fun _ => fun
  | [d1, d2, d3, d4] => { results := [.lit (.bool true)], args := [d1, d2, d3, d4] }
  | _ => none }
def ledgerRoomRow : OpenClaim := { program := "ytabichlcgiafcaa", sum := "83cf8ce1ae789bef0cd92660730bd13797cee9c6b677fd340241049414ec0343", func := "macaroon/macaroonlaw28.LedgerRoom", spec := "ledgerRoom", apart := false }
def LedgerRoomSaid : Prop := ledgerRoomRow.holds Try.pinned (OpenSpec.ofChange ledgerRoomSpec)

/-- ITS FALSE NEIGHBOUR: 'it returns false'. Refute it at one input. -/
def ledgerRoomWrong : ChangeSpec := { name := "ledgerRoom", fn := fun _ => fun
  | [d1, d2, d3, d4] => { results := [.lit (.bool false)], args := [d1, d2, d3, d4] }
  | _ => none }
def LedgerRoomWrongFalsely : Prop := ledgerRoomRow.holds Try.pinned (OpenSpec.ofChange ledgerRoomWrong)

/-- 'macaroonlaw28.LedgerNever': WHATEVER THE INPUT: true; the input reads as it did. -/
def ledgerNeverSpec : ChangeSpec := { name := "ledgerNever", fn := fun _ => fun
  | [d] => { results := [.lit (.bool true)], args := [d] }
  | _ => none }
def ledgerNeverRow : OpenClaim := { program := "ytabichlcgiafcaa", sum := "83cf8ce1ae789bef0cd92660730bd13797cee9c6b677fd340241049414ec0343", func := "macaroon/macaroonlaw28.LedgerNever", spec := "ledgerNever", apart := false }
def LedgerNeverSaid : Prop := ledgerNeverRow.holds Try.pinned (OpenSpec.ofChange ledgerNeverSpec)

/-- ITS FALSE NEIGHBOUR: 'it returns false'. Refute it at one input. -/
def ledgerNeverWrong : ChangeSpec := { name := "ledgerNever", fn := fun _ => fun
  | [d] => { results := [.lit (.bool false)], args := [d] }
  | _ => none }
def LedgerNeverWrongFalsely : Prop := ledgerNeverRow.holds Try.pinned (OpenSpec.ofChange ledgerNeverWrong)

/- THE SECOND FORM. 'bulk': how many values and letters a reading holds, each counted each time it is reached (what is shared counts as often as it is met; a slice's spare places count too). A statement '..UptoSaid' is the law's where the arguments, and the package variables that the reading takes, are together of bulk at most 1048576: NARROWER than '..Said'. Prove '..Said' where nothing that the law and all that it calls make is longer than what came in: it says more and counts as full. Else prove '..UptoSaid'. A law counts once. -/
mutual
def uptoBulk {H : Type} : DataW H → Nat
  | .lit (.string bytes) => bytes.length + 1
  | .lit _ => 1
  | .nil => 1
  | .ptr d => uptoBulk d + 1
  | .slice elems spare => uptoBulkAll elems + uptoBulkAll spare + 1
  | .agg parts => uptoBulkAll parts + 1
  | .iface _ d => uptoBulk d + 1
  | .map entries => uptoBulkEntries entries + 1
  | .held _ => 1
def uptoBulkAll {H : Type} : List (DataW H) → Nat
  | [] => 0
  | d :: r => uptoBulk d + uptoBulkAll r
def uptoBulkEntries {H : Type} : List (Lit × DataW H) → Nat
  | [] => 0
  | x :: r => uptoBulkEntry x + uptoBulkEntries r
def uptoBulkEntry {H : Type} : Lit × DataW H → Nat
  | (.string bytes, d) => bytes.length + uptoBulk d + 1
  | (_, d) => uptoBulk d + 1
 end
def uptoSmall : (H : Type) → List (DataW H) → Bool := fun _ ds => decide (uptoBulkAll ds ≤ 1048576)
def OpenSpec.upto (s : _root_.Go.ChangeSpec) : _root_.Go.OpenSpec := { _root_.Go.OpenSpec.ofChange s with cond := some uptoSmall }

/-- 'macaroonlaw28.LedgerSteps', WHERE WHAT IT READS IS OF BULK AT MOST 1048576: true; the input reads as it did. -/
def ledgerStepsUptoRow : OpenClaim := { program := "ytabichlcgiafcaa", sum := "83cf8ce1ae789bef0cd92660730bd13797cee9c6b677fd340241049414ec0343", func := "macaroon/macaroonlaw28.LedgerSteps", spec := "ledgerSteps", apart := false, narrowed := true }
def LedgerStepsUptoSaid : Prop := ledgerStepsUptoRow.holds Try.pinned (OpenSpec.upto ledgerStepsSpec)

/-- 'macaroonlaw28.LedgerAdds', WHERE WHAT IT READS IS OF BULK AT MOST 1048576: true; the input reads as it did. -/
def ledgerAddsUptoRow : OpenClaim := { program := "ytabichlcgiafcaa", sum := "83cf8ce1ae789bef0cd92660730bd13797cee9c6b677fd340241049414ec0343", func := "macaroon/macaroonlaw28.LedgerAdds", spec := "ledgerAdds", apart := false, narrowed := true }
def LedgerAddsUptoSaid : Prop := ledgerAddsUptoRow.holds Try.pinned (OpenSpec.upto ledgerAddsSpec)

/-- 'macaroonlaw28.LedgerRoom', WHERE WHAT IT READS IS OF BULK AT MOST 1048576: true; the input reads as it did. -/
def ledgerRoomUptoRow : OpenClaim := { program := "ytabichlcgiafcaa", sum := "83cf8ce1ae789bef0cd92660730bd13797cee9c6b677fd340241049414ec0343", func := "macaroon/macaroonlaw28.LedgerRoom", spec := "ledgerRoom", apart := false, narrowed := true }
def LedgerRoomUptoSaid : Prop := ledgerRoomUptoRow.holds Try.pinned (OpenSpec.upto ledgerRoomSpec)

/-- 'macaroonlaw28.LedgerNever', WHERE WHAT IT READS IS OF BULK AT MOST 1048576: true; the input reads as it did. -/
def ledgerNeverUptoRow : OpenClaim := { program := "ytabichlcgiafcaa", sum := "83cf8ce1ae789bef0cd92660730bd13797cee9c6b677fd340241049414ec0343", func := "macaroon/macaroonlaw28.LedgerNever", spec := "ledgerNever", apart := false, narrowed := true }
def LedgerNeverUptoSaid : Prop := ledgerNeverUptoRow.holds Try.pinned (OpenSpec.upto ledgerNeverSpec)

end Rows
end Go.Proofs.Ytabichlcgiafcaa
