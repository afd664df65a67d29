/-
  NARROWER THAN 'FOR EVERY INPUT', by the rows' own cells (each row's printed sentence says how): AuthorityOf: laid · AuthorityValid: laid · AuthorityLattice: laid · AuthorityOrder: laid · AuthorityContains: laid · AuthorityMeet: laid · AuthorityExact: laid · ContainWitness: laid · ContainWithin: laid · ContainOrder: laid · ContainShown: laid · ContainFirst: laid · ContainLeast: laid.
  DERIVED. THE GIVEN ROWS OF THIS SEAT. 13 by the template 'for every input the law returns true; each argument reads behind the call as it read before'; 0 by the template 'total and deterministic' (their statements: YtmcfkmdhjihgmaaDoorTotals.lean).
  GIVEN WITH THE SEED: the statements are not yours to turn. If you find one false, say at which input.
  Laid BY PROGRAM, IN A SANDBOX (cutbox-rows.mjs): the forced cells as the released guide's own fill.sh prints them over the translation 7b318b95994ecf05… (all of the seat's roots in one cut). By AI agents, Wed Nov 11 2026. No macro, syntax, notation, axiom, sorry.
-/
import Derived.Test.YtmcfkmdhjihgmaaDoorChecked
import GoSem.Claim
import GoSem.ClaimJoined
import GoSem.ClaimMapViews
import Derived.JoinedTies
import Derived.KernelRfl
namespace Go.Proofs.YtmcfkmdhjihgmaaDoor
/- THE CELL 'sum', in the pinned program and in every row, IS THE sha256 OF THE DUMP (.gsa) THAT YtmcfkmdhjihgmaaDoorProg.lean LOADS. Nothing in Lean hashes anything: it is a label: what it is worth is what the hold of that sum in a sandbox is worth. -/
noncomputable def Tryd.pinned : Pinned := { name := "ytmcfkmdhjihgmaadoor", sum := "7b318b95994ecf0560f6e04bd57d7e2547b8e5a39280afda4c560d6a1cc940de", checked := Tryd.checked }
namespace Rows
def none {H : Type} : Left H := { results := [], args := [] }

/- WHAT THE LISTED PACKAGE-LEVEL VARIABLES READ AS WHEN THE CALL BEGINS. Each datum BY PROGRAM (the guide's laid-datum.mjs) off the statement by which the dump's own 'gosem.cut.vars' lays the variable. In a bare row this is a premise. The card (YtmcfkmdhjihgmaaDoorCards.lean) ties it to the program's text. -/
def laid_macaroon_predicate_bits {H : Type} : DataW H := .agg [.lit (.int .i64 0), .lit (.int .i64 64), .lit (.int .i64 32), .lit (.int .i64 7), .lit (.int .i64 0), .lit (.int .i64 0), .lit (.int .i64 0), .lit (.int .i64 0)]
def laid_math_bits_deBruijn64tab {H : Type} : DataW H := .agg [.lit (.int .u8 0), .lit (.int .u8 1), .lit (.int .u8 56), .lit (.int .u8 2), .lit (.int .u8 57), .lit (.int .u8 49), .lit (.int .u8 28), .lit (.int .u8 3), .lit (.int .u8 61), .lit (.int .u8 58), .lit (.int .u8 42), .lit (.int .u8 50), .lit (.int .u8 38), .lit (.int .u8 29), .lit (.int .u8 17), .lit (.int .u8 4), .lit (.int .u8 62), .lit (.int .u8 47), .lit (.int .u8 59), .lit (.int .u8 36), .lit (.int .u8 45), .lit (.int .u8 43), .lit (.int .u8 51), .lit (.int .u8 22), .lit (.int .u8 53), .lit (.int .u8 39), .lit (.int .u8 33), .lit (.int .u8 30), .lit (.int .u8 24), .lit (.int .u8 18), .lit (.int .u8 12), .lit (.int .u8 5), .lit (.int .u8 63), .lit (.int .u8 55), .lit (.int .u8 48), .lit (.int .u8 27), .lit (.int .u8 60), .lit (.int .u8 41), .lit (.int .u8 37), .lit (.int .u8 16), .lit (.int .u8 46), .lit (.int .u8 35), .lit (.int .u8 44), .lit (.int .u8 21), .lit (.int .u8 52), .lit (.int .u8 32), .lit (.int .u8 23), .lit (.int .u8 11), .lit (.int .u8 54), .lit (.int .u8 26), .lit (.int .u8 40), .lit (.int .u8 15), .lit (.int .u8 34), .lit (.int .u8 20), .lit (.int .u8 31), .lit (.int .u8 10), .lit (.int .u8 25), .lit (.int .u8 14), .lit (.int .u8 19), .lit (.int .u8 9), .lit (.int .u8 13), .lit (.int .u8 8), .lit (.int .u8 7), .lit (.int .u8 6)]

/-- 'macaroonlaw08.AuthorityOf': WHATEVER THE INPUT: true; the input reads as it did. -/
def authorityOfSpec : ChangeSpec := { name := "authorityOf", fn := fun _ => fun
  | [d1, d2, d3] => { results := [.lit (.bool true)], args := [d1, d2, d3] }
  | _ => none }
def authorityOfRow : OpenClaim := { program := "ytmcfkmdhjihgmaadoor", sum := "7b318b95994ecf0560f6e04bd57d7e2547b8e5a39280afda4c560d6a1cc940de", func := "macaroon/macaroonlaw08.AuthorityOf", spec := "authorityOf", unfollowed := true, recurses := true, named := ["macaroon/predicate.bits"], apart := false, laid := [("macaroon/predicate.bits", laid_macaroon_predicate_bits)] }
def AuthorityOfSaid : Prop := authorityOfRow.holds Tryd.pinned (OpenSpec.ofChange authorityOfSpec)

/-- ITS FALSE NEIGHBOUR: 'it returns false'. Refute it at one input. -/
def authorityOfWrong : ChangeSpec := { name := "authorityOf", fn := fun _ => fun
  | [d1, d2, d3] => { results := [.lit (.bool false)], args := [d1, d2, d3] }
  | _ => none }
def AuthorityOfWrongFalsely : Prop := authorityOfRow.holds Tryd.pinned (OpenSpec.ofChange authorityOfWrong)

/-- 'macaroonlaw08.AuthorityValid': WHATEVER THE INPUT: true; the input reads as it did. -/
def authorityValidSpec : ChangeSpec := { name := "authorityValid", fn := fun _ => fun
  | [d1, d2, d3] => { results := [.lit (.bool true)], args := [d1, d2, d3] }
  | _ => none }
def authorityValidRow : OpenClaim := { program := "ytmcfkmdhjihgmaadoor", sum := "7b318b95994ecf0560f6e04bd57d7e2547b8e5a39280afda4c560d6a1cc940de", func := "macaroon/macaroonlaw08.AuthorityValid", spec := "authorityValid", unfollowed := true, recurses := true, named := ["macaroon/predicate.bits"], apart := false, laid := [("macaroon/predicate.bits", laid_macaroon_predicate_bits)] }
def AuthorityValidSaid : Prop := authorityValidRow.holds Tryd.pinned (OpenSpec.ofChange authorityValidSpec)

/-- ITS FALSE NEIGHBOUR: 'it returns false'. Refute it at one input. -/
def authorityValidWrong : ChangeSpec := { name := "authorityValid", fn := fun _ => fun
  | [d1, d2, d3] => { results := [.lit (.bool false)], args := [d1, d2, d3] }
  | _ => none }
def AuthorityValidWrongFalsely : Prop := authorityValidRow.holds Tryd.pinned (OpenSpec.ofChange authorityValidWrong)

/-- 'macaroonlaw08.AuthorityLattice': WHATEVER THE INPUT: true; the input reads as it did. -/
def authorityLatticeSpec : ChangeSpec := { name := "authorityLattice", fn := fun _ => fun
  | [d1, d2] => { results := [.lit (.bool true)], args := [d1, d2] }
  | _ => none }
def authorityLatticeRow : OpenClaim := { program := "ytmcfkmdhjihgmaadoor", sum := "7b318b95994ecf0560f6e04bd57d7e2547b8e5a39280afda4c560d6a1cc940de", func := "macaroon/macaroonlaw08.AuthorityLattice", spec := "authorityLattice", unfollowed := true, recurses := true, named := ["macaroon/predicate.bits"], apart := false, laid := [("macaroon/predicate.bits", laid_macaroon_predicate_bits)] }
def AuthorityLatticeSaid : Prop := authorityLatticeRow.holds Tryd.pinned (OpenSpec.ofChange authorityLatticeSpec)

/-- ITS FALSE NEIGHBOUR: 'it returns false'. Refute it at one input. -/
def authorityLatticeWrong : ChangeSpec := { name := "authorityLattice", fn := fun _ => fun
  | [d1, d2] => { results := [.lit (.bool false)], args := [d1, d2] }
  | _ => none }
def AuthorityLatticeWrongFalsely : Prop := authorityLatticeRow.holds Tryd.pinned (OpenSpec.ofChange authorityLatticeWrong)

/-- 'macaroonlaw08.AuthorityOrder': WHATEVER THE INPUT: true; the input reads as it did. -/
def authorityOrderSpec : ChangeSpec := { name := "authorityOrder", fn := fun _ => fun
  | [d1, d2] => { results := [.lit (.bool true)], args := [d1, d2] }
  | _ => none }
def authorityOrderRow : OpenClaim := { program := "ytmcfkmdhjihgmaadoor", sum := "7b318b95994ecf0560f6e04bd57d7e2547b8e5a39280afda4c560d6a1cc940de", func := "macaroon/macaroonlaw08.AuthorityOrder", spec := "authorityOrder", unfollowed := true, recurses := true, named := ["macaroon/predicate.bits"], apart := false, laid := [("macaroon/predicate.bits", laid_macaroon_predicate_bits)] }
def AuthorityOrderSaid : Prop := authorityOrderRow.holds Tryd.pinned (OpenSpec.ofChange authorityOrderSpec)

/-- ITS FALSE NEIGHBOUR: 'it returns false'. Refute it at one input. -/
def authorityOrderWrong : ChangeSpec := { name := "authorityOrder", fn := fun _ => fun
  | [d1, d2] => { results := [.lit (.bool false)], args := [d1, d2] }
  | _ => none }
def AuthorityOrderWrongFalsely : Prop := authorityOrderRow.holds Tryd.pinned (OpenSpec.ofChange authorityOrderWrong)

/-- 'macaroonlaw08.AuthorityContains': WHATEVER THE INPUT: true; the input reads as it did. -/
def authorityContainsSpec : ChangeSpec := { name := "authorityContains", fn := fun _ => fun
  | [d1, d2, d3, d4] => { results := [.lit (.bool true)], args := [d1, d2, d3, d4] }
  | _ => none }
def authorityContainsRow : OpenClaim := { program := "ytmcfkmdhjihgmaadoor", sum := "7b318b95994ecf0560f6e04bd57d7e2547b8e5a39280afda4c560d6a1cc940de", func := "macaroon/macaroonlaw08.AuthorityContains", spec := "authorityContains", unfollowed := true, recurses := true, named := ["macaroon/predicate.bits"], apart := false, laid := [("macaroon/predicate.bits", laid_macaroon_predicate_bits)] }
def AuthorityContainsSaid : Prop := authorityContainsRow.holds Tryd.pinned (OpenSpec.ofChange authorityContainsSpec)

/-- ITS FALSE NEIGHBOUR: 'it returns false'. Refute it at one input. -/
def authorityContainsWrong : ChangeSpec := { name := "authorityContains", fn := fun _ => fun
  | [d1, d2, d3, d4] => { results := [.lit (.bool false)], args := [d1, d2, d3, d4] }
  | _ => none }
def AuthorityContainsWrongFalsely : Prop := authorityContainsRow.holds Tryd.pinned (OpenSpec.ofChange authorityContainsWrong)

/-- 'macaroonlaw08.AuthorityMeet': WHATEVER THE INPUT: true; the input reads as it did. -/
def authorityMeetSpec : ChangeSpec := { name := "authorityMeet", fn := fun _ => fun
  | [d1, d2, d3] => { results := [.lit (.bool true)], args := [d1, d2, d3] }
  | _ => none }
def authorityMeetRow : OpenClaim := { program := "ytmcfkmdhjihgmaadoor", sum := "7b318b95994ecf0560f6e04bd57d7e2547b8e5a39280afda4c560d6a1cc940de", func := "macaroon/macaroonlaw08.AuthorityMeet", spec := "authorityMeet", unfollowed := true, recurses := true, named := ["macaroon/predicate.bits"], apart := false, laid := [("macaroon/predicate.bits", laid_macaroon_predicate_bits)] }
def AuthorityMeetSaid : Prop := authorityMeetRow.holds Tryd.pinned (OpenSpec.ofChange authorityMeetSpec)

/-- ITS FALSE NEIGHBOUR: 'it returns false'. Refute it at one input. -/
def authorityMeetWrong : ChangeSpec := { name := "authorityMeet", fn := fun _ => fun
  | [d1, d2, d3] => { results := [.lit (.bool false)], args := [d1, d2, d3] }
  | _ => none }
def AuthorityMeetWrongFalsely : Prop := authorityMeetRow.holds Tryd.pinned (OpenSpec.ofChange authorityMeetWrong)

/-- 'macaroonlaw08.AuthorityExact': WHATEVER THE INPUT: true; the input reads as it did. -/
def authorityExactSpec : ChangeSpec := { name := "authorityExact", fn := fun _ => fun
  | [d1, d2] => { results := [.lit (.bool true)], args := [d1, d2] }
  | _ => none }
def authorityExactRow : OpenClaim := { program := "ytmcfkmdhjihgmaadoor", sum := "7b318b95994ecf0560f6e04bd57d7e2547b8e5a39280afda4c560d6a1cc940de", func := "macaroon/macaroonlaw08.AuthorityExact", spec := "authorityExact", unfollowed := true, recurses := true, named := ["macaroon/predicate.bits"], apart := false, laid := [("macaroon/predicate.bits", laid_macaroon_predicate_bits)] }
def AuthorityExactSaid : Prop := authorityExactRow.holds Tryd.pinned (OpenSpec.ofChange authorityExactSpec)

/-- ITS FALSE NEIGHBOUR: 'it returns false'. Refute it at one input. -/
def authorityExactWrong : ChangeSpec := { name := "authorityExact", fn := fun _ => fun
  | [d1, d2] => { results := [.lit (.bool false)], args := [d1, d2] }
  | _ => none }
def AuthorityExactWrongFalsely : Prop := authorityExactRow.holds Tryd.pinned (OpenSpec.ofChange authorityExactWrong)

/-- 'macaroonlaw09.ContainWitness': WHATEVER THE INPUT: true; the input reads as it did. -/
def containWitnessSpec : ChangeSpec := { name := "containWitness", fn := fun _ => fun
  | [d1, d2, d3] => { results := [.lit (.bool true)], args := [d1, d2, d3] }
  | _ => none }
def containWitnessRow : OpenClaim := { program := "ytmcfkmdhjihgmaadoor", sum := "7b318b95994ecf0560f6e04bd57d7e2547b8e5a39280afda4c560d6a1cc940de", func := "macaroon/macaroonlaw09.ContainWitness", spec := "containWitness", unfollowed := true, recurses := true, named := ["macaroon/predicate.bits", "math/bits.deBruijn64tab"], apart := false, laid := [("math/bits.deBruijn64tab", laid_math_bits_deBruijn64tab), ("macaroon/predicate.bits", laid_macaroon_predicate_bits)] }
def ContainWitnessSaid : Prop := containWitnessRow.holds Tryd.pinned (OpenSpec.ofChange containWitnessSpec)

/-- ITS FALSE NEIGHBOUR: 'it returns false'. Refute it at one input. -/
def containWitnessWrong : ChangeSpec := { name := "containWitness", fn := fun _ => fun
  | [d1, d2, d3] => { results := [.lit (.bool false)], args := [d1, d2, d3] }
  | _ => none }
def ContainWitnessWrongFalsely : Prop := containWitnessRow.holds Tryd.pinned (OpenSpec.ofChange containWitnessWrong)

/-- 'macaroonlaw09.ContainWithin': WHATEVER THE INPUT: true; the input reads as it did. -/
def containWithinSpec : ChangeSpec := { name := "containWithin", fn := fun _ => fun
  | [d1, d2, d3] => { results := [.lit (.bool true)], args := [d1, d2, d3] }
  | _ => none }
def containWithinRow : OpenClaim := { program := "ytmcfkmdhjihgmaadoor", sum := "7b318b95994ecf0560f6e04bd57d7e2547b8e5a39280afda4c560d6a1cc940de", func := "macaroon/macaroonlaw09.ContainWithin", spec := "containWithin", unfollowed := true, recurses := true, named := ["macaroon/predicate.bits", "math/bits.deBruijn64tab"], apart := false, laid := [("math/bits.deBruijn64tab", laid_math_bits_deBruijn64tab), ("macaroon/predicate.bits", laid_macaroon_predicate_bits)] }
def ContainWithinSaid : Prop := containWithinRow.holds Tryd.pinned (OpenSpec.ofChange containWithinSpec)

/-- ITS FALSE NEIGHBOUR: 'it returns false'. Refute it at one input. -/
def containWithinWrong : ChangeSpec := { name := "containWithin", fn := fun _ => fun
  | [d1, d2, d3] => { results := [.lit (.bool false)], args := [d1, d2, d3] }
  | _ => none }
def ContainWithinWrongFalsely : Prop := containWithinRow.holds Tryd.pinned (OpenSpec.ofChange containWithinWrong)

/-- 'macaroonlaw09.ContainOrder': WHATEVER THE INPUT: true; the input reads as it did. -/
def containOrderSpec : ChangeSpec := { name := "containOrder", fn := fun _ => fun
  | [d1, d2] => { results := [.lit (.bool true)], args := [d1, d2] }
  | _ => none }
def containOrderRow : OpenClaim := { program := "ytmcfkmdhjihgmaadoor", sum := "7b318b95994ecf0560f6e04bd57d7e2547b8e5a39280afda4c560d6a1cc940de", func := "macaroon/macaroonlaw09.ContainOrder", spec := "containOrder", unfollowed := true, recurses := true, named := ["macaroon/predicate.bits", "math/bits.deBruijn64tab"], apart := false, laid := [("math/bits.deBruijn64tab", laid_math_bits_deBruijn64tab), ("macaroon/predicate.bits", laid_macaroon_predicate_bits)] }
def ContainOrderSaid : Prop := containOrderRow.holds Tryd.pinned (OpenSpec.ofChange containOrderSpec)

/-- ITS FALSE NEIGHBOUR: 'it returns false'. Refute it at one input. -/
def containOrderWrong : ChangeSpec := { name := "containOrder", fn := fun _ => fun
  | [d1, d2] => { results := [.lit (.bool false)], args := [d1, d2] }
  | _ => none }
def ContainOrderWrongFalsely : Prop := containOrderRow.holds Tryd.pinned (OpenSpec.ofChange containOrderWrong)

/-- 'macaroonlaw09.ContainShown': WHATEVER THE INPUT: true; the input reads as it did. -/
def containShownSpec : ChangeSpec := { name := "containShown", fn := fun _ => fun
  | [d1, d2] => { results := [.lit (.bool true)], args := [d1, d2] }
  | _ => none }
def containShownRow : OpenClaim := { program := "ytmcfkmdhjihgmaadoor", sum := "7b318b95994ecf0560f6e04bd57d7e2547b8e5a39280afda4c560d6a1cc940de", func := "macaroon/macaroonlaw09.ContainShown", spec := "containShown", unfollowed := true, recurses := true, named := ["macaroon/predicate.bits", "math/bits.deBruijn64tab"], apart := false, laid := [("math/bits.deBruijn64tab", laid_math_bits_deBruijn64tab), ("macaroon/predicate.bits", laid_macaroon_predicate_bits)] }
def ContainShownSaid : Prop := containShownRow.holds Tryd.pinned (OpenSpec.ofChange containShownSpec)

/-- ITS FALSE NEIGHBOUR: 'it returns false'. Refute it at one input. -/
def containShownWrong : ChangeSpec := { name := "containShown", fn := fun _ => fun
  | [d1, d2] => { results := [.lit (.bool false)], args := [d1, d2] }
  | _ => none }
def ContainShownWrongFalsely : Prop := containShownRow.holds Tryd.pinned (OpenSpec.ofChange containShownWrong)

/-- 'macaroonlaw09.ContainFirst': WHATEVER THE INPUT: true; the input reads as it did. -/
def containFirstSpec : ChangeSpec := { name := "containFirst", fn := fun _ => fun
  | [d1, d2] => { results := [.lit (.bool true)], args := [d1, d2] }
  | _ => none }
def containFirstRow : OpenClaim := { program := "ytmcfkmdhjihgmaadoor", sum := "7b318b95994ecf0560f6e04bd57d7e2547b8e5a39280afda4c560d6a1cc940de", func := "macaroon/macaroonlaw09.ContainFirst", spec := "containFirst", unfollowed := true, recurses := true, named := ["macaroon/predicate.bits", "math/bits.deBruijn64tab"], apart := false, laid := [("math/bits.deBruijn64tab", laid_math_bits_deBruijn64tab), ("macaroon/predicate.bits", laid_macaroon_predicate_bits)] }
def ContainFirstSaid : Prop := containFirstRow.holds Tryd.pinned (OpenSpec.ofChange containFirstSpec)

/-- ITS FALSE NEIGHBOUR: 'it returns false'. Refute it at one input. -/
def containFirstWrong : ChangeSpec := { name := "containFirst", fn := fun _ => fun
  | [d1, d2] => { results := [.lit (.bool false)], args := [d1, d2] }
  | _ => none }
def ContainFirstWrongFalsely : Prop := containFirstRow.holds Tryd.pinned (OpenSpec.ofChange containFirstWrong)

/-- 'macaroonlaw09.ContainLeast': WHATEVER THE INPUT: true; the input reads as it did. -/
def containLeastSpec : ChangeSpec := { name := "containLeast", fn := fun _ => fun
  | [d1, d2] => { results := [.lit (.bool true)], args := [d1, d2] }
  | _ => none }
def containLeastRow : OpenClaim := { program := "ytmcfkmdhjihgmaadoor", sum := "7b318b95994ecf0560f6e04bd57d7e2547b8e5a39280afda4c560d6a1cc940de", func := "macaroon/macaroonlaw09.ContainLeast", spec := "containLeast", unfollowed := true, recurses := true, named := ["macaroon/predicate.bits", "math/bits.deBruijn64tab"], apart := false, laid := [("math/bits.deBruijn64tab", laid_math_bits_deBruijn64tab), ("macaroon/predicate.bits", laid_macaroon_predicate_bits)] }
def ContainLeastSaid : Prop := containLeastRow.holds Tryd.pinned (OpenSpec.ofChange containLeastSpec)

/-- ITS FALSE NEIGHBOUR: 'it returns false'. Refute it at one input. -/
def containLeastWrong : ChangeSpec := { name := "containLeast", fn := fun _ => fun
  | [d1, d2] => { results := [.lit (.bool false)], args := [d1, d2] }
  | _ => none }
def ContainLeastWrongFalsely : Prop := containLeastRow.holds Tryd.pinned (OpenSpec.ofChange containLeastWrong)

/- THE SECOND FORM. 'bulk': how many values and letters a reading holds, each counted each time it is reached (what is shared counts as often as it is met; a slice's spare places count too). A statement '..UptoSaid' is the law's where the arguments, and the package variables that the reading takes, are together of bulk at most 1048576: NARROWER than '..Said'. Prove '..Said' where nothing that the law and all that it calls make is longer than what came in: it says more and counts as full. Else prove '..UptoSaid'. A law counts once. -/
mutual
def uptoBulk {H : Type} : DataW H → Nat
  | .lit (.string bytes) => bytes.length + 1
  | .lit _ => 1
  | .nil => 1
  | .ptr d => uptoBulk d + 1
  | .slice elems spare => uptoBulkAll elems + uptoBulkAll spare + 1
  | .agg parts => uptoBulkAll parts + 1
  | .iface _ d => uptoBulk d + 1
  | .map entries => uptoBulkEntries entries + 1
  | .held _ => 1
def uptoBulkAll {H : Type} : List (DataW H) → Nat
  | [] => 0
  | d :: r => uptoBulk d + uptoBulkAll r
def uptoBulkEntries {H : Type} : List (Lit × DataW H) → Nat
  | [] => 0
  | x :: r => uptoBulkEntry x + uptoBulkEntries r
def uptoBulkEntry {H : Type} : Lit × DataW H → Nat
  | (.string bytes, d) => bytes.length + uptoBulk d + 1
  | (_, d) => uptoBulk d + 1
 end
def uptoSmall : (H : Type) → List (DataW H) → Bool := fun _ ds => decide (uptoBulkAll ds ≤ 1048576)
def OpenSpec.upto (s : _root_.Go.ChangeSpec) : _root_.Go.OpenSpec := { _root_.Go.OpenSpec.ofChange s with cond := some uptoSmall }

/-- 'macaroonlaw08.AuthorityOf', WHERE WHAT IT READS IS OF BULK AT MOST 1048576: true; the input reads as it did. -/
def authorityOfUptoRow : OpenClaim := { program := "ytmcfkmdhjihgmaadoor", sum := "7b318b95994ecf0560f6e04bd57d7e2547b8e5a39280afda4c560d6a1cc940de", func := "macaroon/macaroonlaw08.AuthorityOf", spec := "authorityOf", unfollowed := true, recurses := true, named := ["macaroon/predicate.bits"], apart := false, laid := [("macaroon/predicate.bits", laid_macaroon_predicate_bits)], narrowed := true }
def AuthorityOfUptoSaid : Prop := authorityOfUptoRow.holds Tryd.pinned (OpenSpec.upto authorityOfSpec)

/-- 'macaroonlaw08.AuthorityValid', WHERE WHAT IT READS IS OF BULK AT MOST 1048576: true; the input reads as it did. -/
def authorityValidUptoRow : OpenClaim := { program := "ytmcfkmdhjihgmaadoor", sum := "7b318b95994ecf0560f6e04bd57d7e2547b8e5a39280afda4c560d6a1cc940de", func := "macaroon/macaroonlaw08.AuthorityValid", spec := "authorityValid", unfollowed := true, recurses := true, named := ["macaroon/predicate.bits"], apart := false, laid := [("macaroon/predicate.bits", laid_macaroon_predicate_bits)], narrowed := true }
def AuthorityValidUptoSaid : Prop := authorityValidUptoRow.holds Tryd.pinned (OpenSpec.upto authorityValidSpec)

/-- 'macaroonlaw08.AuthorityLattice', WHERE WHAT IT READS IS OF BULK AT MOST 1048576: true; the input reads as it did. -/
def authorityLatticeUptoRow : OpenClaim := { program := "ytmcfkmdhjihgmaadoor", sum := "7b318b95994ecf0560f6e04bd57d7e2547b8e5a39280afda4c560d6a1cc940de", func := "macaroon/macaroonlaw08.AuthorityLattice", spec := "authorityLattice", unfollowed := true, recurses := true, named := ["macaroon/predicate.bits"], apart := false, laid := [("macaroon/predicate.bits", laid_macaroon_predicate_bits)], narrowed := true }
def AuthorityLatticeUptoSaid : Prop := authorityLatticeUptoRow.holds Tryd.pinned (OpenSpec.upto authorityLatticeSpec)

/-- 'macaroonlaw08.AuthorityOrder', WHERE WHAT IT READS IS OF BULK AT MOST 1048576: true; the input reads as it did. -/
def authorityOrderUptoRow : OpenClaim := { program := "ytmcfkmdhjihgmaadoor", sum := "7b318b95994ecf0560f6e04bd57d7e2547b8e5a39280afda4c560d6a1cc940de", func := "macaroon/macaroonlaw08.AuthorityOrder", spec := "authorityOrder", unfollowed := true, recurses := true, named := ["macaroon/predicate.bits"], apart := false, laid := [("macaroon/predicate.bits", laid_macaroon_predicate_bits)], narrowed := true }
def AuthorityOrderUptoSaid : Prop := authorityOrderUptoRow.holds Tryd.pinned (OpenSpec.upto authorityOrderSpec)

/-- 'macaroonlaw08.AuthorityContains', WHERE WHAT IT READS IS OF BULK AT MOST 1048576: true; the input reads as it did. -/
def authorityContainsUptoRow : OpenClaim := { program := "ytmcfkmdhjihgmaadoor", sum := "7b318b95994ecf0560f6e04bd57d7e2547b8e5a39280afda4c560d6a1cc940de", func := "macaroon/macaroonlaw08.AuthorityContains", spec := "authorityContains", unfollowed := true, recurses := true, named := ["macaroon/predicate.bits"], apart := false, laid := [("macaroon/predicate.bits", laid_macaroon_predicate_bits)], narrowed := true }
def AuthorityContainsUptoSaid : Prop := authorityContainsUptoRow.holds Tryd.pinned (OpenSpec.upto authorityContainsSpec)

/-- 'macaroonlaw08.AuthorityMeet', WHERE WHAT IT READS IS OF BULK AT MOST 1048576: true; the input reads as it did. -/
def authorityMeetUptoRow : OpenClaim := { program := "ytmcfkmdhjihgmaadoor", sum := "7b318b95994ecf0560f6e04bd57d7e2547b8e5a39280afda4c560d6a1cc940de", func := "macaroon/macaroonlaw08.AuthorityMeet", spec := "authorityMeet", unfollowed := true, recurses := true, named := ["macaroon/predicate.bits"], apart := false, laid := [("macaroon/predicate.bits", laid_macaroon_predicate_bits)], narrowed := true }
def AuthorityMeetUptoSaid : Prop := authorityMeetUptoRow.holds Tryd.pinned (OpenSpec.upto authorityMeetSpec)

/-- 'macaroonlaw08.AuthorityExact', WHERE WHAT IT READS IS OF BULK AT MOST 1048576: true; the input reads as it did. -/
def authorityExactUptoRow : OpenClaim := { program := "ytmcfkmdhjihgmaadoor", sum := "7b318b95994ecf0560f6e04bd57d7e2547b8e5a39280afda4c560d6a1cc940de", func := "macaroon/macaroonlaw08.AuthorityExact", spec := "authorityExact", unfollowed := true, recurses := true, named := ["macaroon/predicate.bits"], apart := false, laid := [("macaroon/predicate.bits", laid_macaroon_predicate_bits)], narrowed := true }
def AuthorityExactUptoSaid : Prop := authorityExactUptoRow.holds Tryd.pinned (OpenSpec.upto authorityExactSpec)

/-- 'macaroonlaw09.ContainWitness', WHERE WHAT IT READS IS OF BULK AT MOST 1048576: true; the input reads as it did. -/
def containWitnessUptoRow : OpenClaim := { program := "ytmcfkmdhjihgmaadoor", sum := "7b318b95994ecf0560f6e04bd57d7e2547b8e5a39280afda4c560d6a1cc940de", func := "macaroon/macaroonlaw09.ContainWitness", spec := "containWitness", unfollowed := true, recurses := true, named := ["macaroon/predicate.bits", "math/bits.deBruijn64tab"], apart := false, laid := [("math/bits.deBruijn64tab", laid_math_bits_deBruijn64tab), ("macaroon/predicate.bits", laid_macaroon_predicate_bits)], narrowed := true }
def ContainWitnessUptoSaid : Prop := containWitnessUptoRow.holds Tryd.pinned (OpenSpec.upto containWitnessSpec)

/-- 'macaroonlaw09.ContainWithin', WHERE WHAT IT READS IS OF BULK AT MOST 1048576: true; the input reads as it did. -/
def containWithinUptoRow : OpenClaim := { program := "ytmcfkmdhjihgmaadoor", sum := "7b318b95994ecf0560f6e04bd57d7e2547b8e5a39280afda4c560d6a1cc940de", func := "macaroon/macaroonlaw09.ContainWithin", spec := "containWithin", unfollowed := true, recurses := true, named := ["macaroon/predicate.bits", "math/bits.deBruijn64tab"], apart := false, laid := [("math/bits.deBruijn64tab", laid_math_bits_deBruijn64tab), ("macaroon/predicate.bits", laid_macaroon_predicate_bits)], narrowed := true }
def ContainWithinUptoSaid : Prop := containWithinUptoRow.holds Tryd.pinned (OpenSpec.upto containWithinSpec)

/-- 'macaroonlaw09.ContainOrder', WHERE WHAT IT READS IS OF BULK AT MOST 1048576: true; the input reads as it did. -/
def containOrderUptoRow : OpenClaim := { program := "ytmcfkmdhjihgmaadoor", sum := "7b318b95994ecf0560f6e04bd57d7e2547b8e5a39280afda4c560d6a1cc940de", func := "macaroon/macaroonlaw09.ContainOrder", spec := "containOrder", unfollowed := true, recurses := true, named := ["macaroon/predicate.bits", "math/bits.deBruijn64tab"], apart := false, laid := [("math/bits.deBruijn64tab", laid_math_bits_deBruijn64tab), ("macaroon/predicate.bits", laid_macaroon_predicate_bits)], narrowed := true }
def ContainOrderUptoSaid : Prop := containOrderUptoRow.holds Tryd.pinned (OpenSpec.upto containOrderSpec)

/-- 'macaroonlaw09.ContainShown', WHERE WHAT IT READS IS OF BULK AT MOST 1048576: true; the input reads as it did. -/
def containShownUptoRow : OpenClaim := { program := "ytmcfkmdhjihgmaadoor", sum := "7b318b95994ecf0560f6e04bd57d7e2547b8e5a39280afda4c560d6a1cc940de", func := "macaroon/macaroonlaw09.ContainShown", spec := "containShown", unfollowed := true, recurses := true, named := ["macaroon/predicate.bits", "math/bits.deBruijn64tab"], apart := false, laid := [("math/bits.deBruijn64tab", laid_math_bits_deBruijn64tab), ("macaroon/predicate.bits", laid_macaroon_predicate_bits)], narrowed := true }
def ContainShownUptoSaid : Prop := containShownUptoRow.holds Tryd.pinned (OpenSpec.upto containShownSpec)

/-- 'macaroonlaw09.ContainFirst', WHERE WHAT IT READS IS OF BULK AT MOST 1048576: true; the input reads as it did. -/
def containFirstUptoRow : OpenClaim := { program := "ytmcfkmdhjihgmaadoor", sum := "7b318b95994ecf0560f6e04bd57d7e2547b8e5a39280afda4c560d6a1cc940de", func := "macaroon/macaroonlaw09.ContainFirst", spec := "containFirst", unfollowed := true, recurses := true, named := ["macaroon/predicate.bits", "math/bits.deBruijn64tab"], apart := false, laid := [("math/bits.deBruijn64tab", laid_math_bits_deBruijn64tab), ("macaroon/predicate.bits", laid_macaroon_predicate_bits)], narrowed := true }
def ContainFirstUptoSaid : Prop := containFirstUptoRow.holds Tryd.pinned (OpenSpec.upto containFirstSpec)

/-- 'macaroonlaw09.ContainLeast', WHERE WHAT IT READS IS OF BULK AT MOST 1048576: true; the input reads as it did. -/
def containLeastUptoRow : OpenClaim := { program := "ytmcfkmdhjihgmaadoor", sum := "7b318b95994ecf0560f6e04bd57d7e2547b8e5a39280afda4c560d6a1cc940de", func := "macaroon/macaroonlaw09.ContainLeast", spec := "containLeast", unfollowed := true, recurses := true, named := ["macaroon/predicate.bits", "math/bits.deBruijn64tab"], apart := false, laid := [("math/bits.deBruijn64tab", laid_math_bits_deBruijn64tab), ("macaroon/predicate.bits", laid_macaroon_predicate_bits)], narrowed := true }
def ContainLeastUptoSaid : Prop := containLeastUptoRow.holds Tryd.pinned (OpenSpec.upto containLeastSpec)

end Rows
end Go.Proofs.YtmcfkmdhjihgmaaDoor
