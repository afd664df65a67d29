/-
  DERIVED. GIVEN WITH THE SEED: THE CARDS: each row of YtmcfkmdhjihgmaaDoorRows.lean that lists a variable, with what it lists TIED to the program's text (the seventh form; the later family's looks); each row that meets fmt, with fmt's text TOLD by the authors' own Lean function (tested against real Go, not proved from fmt's source: count such statements apart). THE CARD IS WHAT COUNTS. Prove the row's statement (the work); the ties are given (YtmcfkmdhjihgmaaDoorTie.lean); close each card by the builder's one call (the guide's Derived/Test/ToyasCard.lean, 'card_holds'). Laid BY PROGRAM, IN A SANDBOX (cutbox-door.mjs). By AI agents, Wed Nov 11 2026. No macro, syntax, notation, axiom, sorry.
-/
import Derived.Test.YtmcfkmdhjihgmaaDoorRows
import GoSem.ClaimSeven
namespace Go.Proofs.YtmcfkmdhjihgmaaDoor
namespace Rows

/-- THE TIED CARD OF 'macaroonlaw08.AuthorityOf'. -/
def authorityOfCard : Claim7 := { stood := { row := authorityOfRow, standIns := [], harness := (true, "4fe78e7e8a39f28c9318f3fbda2652c5c84e627feba0d4165e1313992f964097"), looks := false }, kinds := [], alts := [], laidByText := true, laidKinds := [.data], laidTests := true, laidLooks := .later }
def AuthorityOfCardSaid : Prop := Claim7.holds Tryd.pinned (.plain (OpenSpec.ofChange authorityOfSpec)) authorityOfCard

/-- THE TIED CARD OF 'macaroonlaw08.AuthorityValid'. -/
def authorityValidCard : Claim7 := { stood := { row := authorityValidRow, standIns := [], harness := (true, "4fe78e7e8a39f28c9318f3fbda2652c5c84e627feba0d4165e1313992f964097"), looks := false }, kinds := [], alts := [], laidByText := true, laidKinds := [.data], laidTests := true, laidLooks := .later }
def AuthorityValidCardSaid : Prop := Claim7.holds Tryd.pinned (.plain (OpenSpec.ofChange authorityValidSpec)) authorityValidCard

/-- THE TIED CARD OF 'macaroonlaw08.AuthorityLattice'. -/
def authorityLatticeCard : Claim7 := { stood := { row := authorityLatticeRow, standIns := [], harness := (true, "4fe78e7e8a39f28c9318f3fbda2652c5c84e627feba0d4165e1313992f964097"), looks := false }, kinds := [], alts := [], laidByText := true, laidKinds := [.data], laidTests := true, laidLooks := .later }
def AuthorityLatticeCardSaid : Prop := Claim7.holds Tryd.pinned (.plain (OpenSpec.ofChange authorityLatticeSpec)) authorityLatticeCard

/-- THE TIED CARD OF 'macaroonlaw08.AuthorityOrder'. -/
def authorityOrderCard : Claim7 := { stood := { row := authorityOrderRow, standIns := [], harness := (true, "4fe78e7e8a39f28c9318f3fbda2652c5c84e627feba0d4165e1313992f964097"), looks := false }, kinds := [], alts := [], laidByText := true, laidKinds := [.data], laidTests := true, laidLooks := .later }
def AuthorityOrderCardSaid : Prop := Claim7.holds Tryd.pinned (.plain (OpenSpec.ofChange authorityOrderSpec)) authorityOrderCard

/-- THE TIED CARD OF 'macaroonlaw08.AuthorityContains'. -/
def authorityContainsCard : Claim7 := { stood := { row := authorityContainsRow, standIns := [], harness := (true, "4fe78e7e8a39f28c9318f3fbda2652c5c84e627feba0d4165e1313992f964097"), looks := false }, kinds := [], alts := [], laidByText := true, laidKinds := [.data], laidTests := true, laidLooks := .later }
def AuthorityContainsCardSaid : Prop := Claim7.holds Tryd.pinned (.plain (OpenSpec.ofChange authorityContainsSpec)) authorityContainsCard

/-- THE TIED CARD OF 'macaroonlaw08.AuthorityMeet'. -/
def authorityMeetCard : Claim7 := { stood := { row := authorityMeetRow, standIns := [], harness := (true, "4fe78e7e8a39f28c9318f3fbda2652c5c84e627feba0d4165e1313992f964097"), looks := false }, kinds := [], alts := [], laidByText := true, laidKinds := [.data], laidTests := true, laidLooks := .later }
def AuthorityMeetCardSaid : Prop := Claim7.holds Tryd.pinned (.plain (OpenSpec.ofChange authorityMeetSpec)) authorityMeetCard

/-- THE TIED CARD OF 'macaroonlaw08.AuthorityExact'. -/
def authorityExactCard : Claim7 := { stood := { row := authorityExactRow, standIns := [], harness := (true, "4fe78e7e8a39f28c9318f3fbda2652c5c84e627feba0d4165e1313992f964097"), looks := false }, kinds := [], alts := [], laidByText := true, laidKinds := [.data], laidTests := true, laidLooks := .later }
def AuthorityExactCardSaid : Prop := Claim7.holds Tryd.pinned (.plain (OpenSpec.ofChange authorityExactSpec)) authorityExactCard

/-- THE TIED CARD OF 'macaroonlaw09.ContainWitness'. -/
def containWitnessCard : Claim7 := { stood := { row := containWitnessRow, standIns := [], harness := (true, "4fe78e7e8a39f28c9318f3fbda2652c5c84e627feba0d4165e1313992f964097"), looks := false }, kinds := [], alts := [], laidByText := true, laidKinds := [.data, .data], laidTests := true, laidLooks := .later }
def ContainWitnessCardSaid : Prop := Claim7.holds Tryd.pinned (.plain (OpenSpec.ofChange containWitnessSpec)) containWitnessCard

/-- THE TIED CARD OF 'macaroonlaw09.ContainWithin'. -/
def containWithinCard : Claim7 := { stood := { row := containWithinRow, standIns := [], harness := (true, "4fe78e7e8a39f28c9318f3fbda2652c5c84e627feba0d4165e1313992f964097"), looks := false }, kinds := [], alts := [], laidByText := true, laidKinds := [.data, .data], laidTests := true, laidLooks := .later }
def ContainWithinCardSaid : Prop := Claim7.holds Tryd.pinned (.plain (OpenSpec.ofChange containWithinSpec)) containWithinCard

/-- THE TIED CARD OF 'macaroonlaw09.ContainOrder'. -/
def containOrderCard : Claim7 := { stood := { row := containOrderRow, standIns := [], harness := (true, "4fe78e7e8a39f28c9318f3fbda2652c5c84e627feba0d4165e1313992f964097"), looks := false }, kinds := [], alts := [], laidByText := true, laidKinds := [.data, .data], laidTests := true, laidLooks := .later }
def ContainOrderCardSaid : Prop := Claim7.holds Tryd.pinned (.plain (OpenSpec.ofChange containOrderSpec)) containOrderCard

/-- THE TIED CARD OF 'macaroonlaw09.ContainShown'. -/
def containShownCard : Claim7 := { stood := { row := containShownRow, standIns := [], harness := (true, "4fe78e7e8a39f28c9318f3fbda2652c5c84e627feba0d4165e1313992f964097"), looks := false }, kinds := [], alts := [], laidByText := true, laidKinds := [.data, .data], laidTests := true, laidLooks := .later }
def ContainShownCardSaid : Prop := Claim7.holds Tryd.pinned (.plain (OpenSpec.ofChange containShownSpec)) containShownCard

/-- THE TIED CARD OF 'macaroonlaw09.ContainFirst'. -/
def containFirstCard : Claim7 := { stood := { row := containFirstRow, standIns := [], harness := (true, "4fe78e7e8a39f28c9318f3fbda2652c5c84e627feba0d4165e1313992f964097"), looks := false }, kinds := [], alts := [], laidByText := true, laidKinds := [.data, .data], laidTests := true, laidLooks := .later }
def ContainFirstCardSaid : Prop := Claim7.holds Tryd.pinned (.plain (OpenSpec.ofChange containFirstSpec)) containFirstCard

/-- THE TIED CARD OF 'macaroonlaw09.ContainLeast'. -/
def containLeastCard : Claim7 := { stood := { row := containLeastRow, standIns := [], harness := (true, "4fe78e7e8a39f28c9318f3fbda2652c5c84e627feba0d4165e1313992f964097"), looks := false }, kinds := [], alts := [], laidByText := true, laidKinds := [.data, .data], laidTests := true, laidLooks := .later }
def ContainLeastCardSaid : Prop := Claim7.holds Tryd.pinned (.plain (OpenSpec.ofChange containLeastSpec)) containLeastCard

/-- THE SECOND FORM's CARD OF 'macaroonlaw08.AuthorityOf'. -/
def authorityOfUptoCard : Claim7 := { stood := { row := authorityOfUptoRow, standIns := [], harness := (true, "4fe78e7e8a39f28c9318f3fbda2652c5c84e627feba0d4165e1313992f964097"), looks := false }, kinds := [], alts := [], laidByText := true, laidKinds := [.data], laidTests := true, laidLooks := .later }
def AuthorityOfUptoCardSaid : Prop := Claim7.holds Tryd.pinned (.plain (OpenSpec.upto authorityOfSpec)) authorityOfUptoCard

/-- THE SECOND FORM's CARD OF 'macaroonlaw08.AuthorityValid'. -/
def authorityValidUptoCard : Claim7 := { stood := { row := authorityValidUptoRow, standIns := [], harness := (true, "4fe78e7e8a39f28c9318f3fbda2652c5c84e627feba0d4165e1313992f964097"), looks := false }, kinds := [], alts := [], laidByText := true, laidKinds := [.data], laidTests := true, laidLooks := .later }
def AuthorityValidUptoCardSaid : Prop := Claim7.holds Tryd.pinned (.plain (OpenSpec.upto authorityValidSpec)) authorityValidUptoCard

/-- THE SECOND FORM's CARD OF 'macaroonlaw08.AuthorityLattice'. -/
def authorityLatticeUptoCard : Claim7 := { stood := { row := authorityLatticeUptoRow, standIns := [], harness := (true, "4fe78e7e8a39f28c9318f3fbda2652c5c84e627feba0d4165e1313992f964097"), looks := false }, kinds := [], alts := [], laidByText := true, laidKinds := [.data], laidTests := true, laidLooks := .later }
def AuthorityLatticeUptoCardSaid : Prop := Claim7.holds Tryd.pinned (.plain (OpenSpec.upto authorityLatticeSpec)) authorityLatticeUptoCard

/-- THE SECOND FORM's CARD OF 'macaroonlaw08.AuthorityOrder'. -/
def authorityOrderUptoCard : Claim7 := { stood := { row := authorityOrderUptoRow, standIns := [], harness := (true, "4fe78e7e8a39f28c9318f3fbda2652c5c84e627feba0d4165e1313992f964097"), looks := false }, kinds := [], alts := [], laidByText := true, laidKinds := [.data], laidTests := true, laidLooks := .later }
def AuthorityOrderUptoCardSaid : Prop := Claim7.holds Tryd.pinned (.plain (OpenSpec.upto authorityOrderSpec)) authorityOrderUptoCard

/-- THE SECOND FORM's CARD OF 'macaroonlaw08.AuthorityContains'. -/
def authorityContainsUptoCard : Claim7 := { stood := { row := authorityContainsUptoRow, standIns := [], harness := (true, "4fe78e7e8a39f28c9318f3fbda2652c5c84e627feba0d4165e1313992f964097"), looks := false }, kinds := [], alts := [], laidByText := true, laidKinds := [.data], laidTests := true, laidLooks := .later }
def AuthorityContainsUptoCardSaid : Prop := Claim7.holds Tryd.pinned (.plain (OpenSpec.upto authorityContainsSpec)) authorityContainsUptoCard

/-- THE SECOND FORM's CARD OF 'macaroonlaw08.AuthorityMeet'. -/
def authorityMeetUptoCard : Claim7 := { stood := { row := authorityMeetUptoRow, standIns := [], harness := (true, "4fe78e7e8a39f28c9318f3fbda2652c5c84e627feba0d4165e1313992f964097"), looks := false }, kinds := [], alts := [], laidByText := true, laidKinds := [.data], laidTests := true, laidLooks := .later }
def AuthorityMeetUptoCardSaid : Prop := Claim7.holds Tryd.pinned (.plain (OpenSpec.upto authorityMeetSpec)) authorityMeetUptoCard

/-- THE SECOND FORM's CARD OF 'macaroonlaw08.AuthorityExact'. -/
def authorityExactUptoCard : Claim7 := { stood := { row := authorityExactUptoRow, standIns := [], harness := (true, "4fe78e7e8a39f28c9318f3fbda2652c5c84e627feba0d4165e1313992f964097"), looks := false }, kinds := [], alts := [], laidByText := true, laidKinds := [.data], laidTests := true, laidLooks := .later }
def AuthorityExactUptoCardSaid : Prop := Claim7.holds Tryd.pinned (.plain (OpenSpec.upto authorityExactSpec)) authorityExactUptoCard

/-- THE SECOND FORM's CARD OF 'macaroonlaw09.ContainWitness'. -/
def containWitnessUptoCard : Claim7 := { stood := { row := containWitnessUptoRow, standIns := [], harness := (true, "4fe78e7e8a39f28c9318f3fbda2652c5c84e627feba0d4165e1313992f964097"), looks := false }, kinds := [], alts := [], laidByText := true, laidKinds := [.data, .data], laidTests := true, laidLooks := .later }
def ContainWitnessUptoCardSaid : Prop := Claim7.holds Tryd.pinned (.plain (OpenSpec.upto containWitnessSpec)) containWitnessUptoCard

/-- THE SECOND FORM's CARD OF 'macaroonlaw09.ContainWithin'. -/
def containWithinUptoCard : Claim7 := { stood := { row := containWithinUptoRow, standIns := [], harness := (true, "4fe78e7e8a39f28c9318f3fbda2652c5c84e627feba0d4165e1313992f964097"), looks := false }, kinds := [], alts := [], laidByText := true, laidKinds := [.data, .data], laidTests := true, laidLooks := .later }
def ContainWithinUptoCardSaid : Prop := Claim7.holds Tryd.pinned (.plain (OpenSpec.upto containWithinSpec)) containWithinUptoCard

/-- THE SECOND FORM's CARD OF 'macaroonlaw09.ContainOrder'. -/
def containOrderUptoCard : Claim7 := { stood := { row := containOrderUptoRow, standIns := [], harness := (true, "4fe78e7e8a39f28c9318f3fbda2652c5c84e627feba0d4165e1313992f964097"), looks := false }, kinds := [], alts := [], laidByText := true, laidKinds := [.data, .data], laidTests := true, laidLooks := .later }
def ContainOrderUptoCardSaid : Prop := Claim7.holds Tryd.pinned (.plain (OpenSpec.upto containOrderSpec)) containOrderUptoCard

/-- THE SECOND FORM's CARD OF 'macaroonlaw09.ContainShown'. -/
def containShownUptoCard : Claim7 := { stood := { row := containShownUptoRow, standIns := [], harness := (true, "4fe78e7e8a39f28c9318f3fbda2652c5c84e627feba0d4165e1313992f964097"), looks := false }, kinds := [], alts := [], laidByText := true, laidKinds := [.data, .data], laidTests := true, laidLooks := .later }
def ContainShownUptoCardSaid : Prop := Claim7.holds Tryd.pinned (.plain (OpenSpec.upto containShownSpec)) containShownUptoCard

/-- THE SECOND FORM's CARD OF 'macaroonlaw09.ContainFirst'. -/
def containFirstUptoCard : Claim7 := { stood := { row := containFirstUptoRow, standIns := [], harness := (true, "4fe78e7e8a39f28c9318f3fbda2652c5c84e627feba0d4165e1313992f964097"), looks := false }, kinds := [], alts := [], laidByText := true, laidKinds := [.data, .data], laidTests := true, laidLooks := .later }
def ContainFirstUptoCardSaid : Prop := Claim7.holds Tryd.pinned (.plain (OpenSpec.upto containFirstSpec)) containFirstUptoCard

/-- THE SECOND FORM's CARD OF 'macaroonlaw09.ContainLeast'. -/
def containLeastUptoCard : Claim7 := { stood := { row := containLeastUptoRow, standIns := [], harness := (true, "4fe78e7e8a39f28c9318f3fbda2652c5c84e627feba0d4165e1313992f964097"), looks := false }, kinds := [], alts := [], laidByText := true, laidKinds := [.data, .data], laidTests := true, laidLooks := .later }
def ContainLeastUptoCardSaid : Prop := Claim7.holds Tryd.pinned (.plain (OpenSpec.upto containLeastSpec)) containLeastUptoCard
end Rows
end Go.Proofs.YtmcfkmdhjihgmaaDoor
