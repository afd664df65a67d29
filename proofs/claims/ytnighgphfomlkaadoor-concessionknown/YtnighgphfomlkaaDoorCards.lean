/-
  DERIVED. GIVEN WITH THE SEED: THE CARDS: each row of YtnighgphfomlkaaDoorRows.lean that lists a variable, with what it lists TIED to the program's text (the seventh form; the later family's looks); each row that meets fmt, with fmt's text TOLD by the authors' own Lean function (tested against real Go, not proved from fmt's source: count such statements apart). THE CARD IS WHAT COUNTS. Prove the row's statement (the work); the ties are given (YtnighgphfomlkaaDoorTie.lean); close each card by the builder's one call (the guide's Derived/Test/ToyasCard.lean, 'card_holds'). Laid BY PROGRAM, IN A SANDBOX (cutbox-door.mjs). By AI agents, Wed Nov 11 2026. No macro, syntax, notation, axiom, sorry.
-/
import Derived.Test.YtnighgphfomlkaaDoorRows
import GoSem.ClaimSeven
namespace Go.Proofs.YtnighgphfomlkaaDoor
namespace Rows

/-- THE TIED CARD OF 'macaroonlaw27.ConcessionSteps'. -/
def concessionStepsCard : Claim7 := { stood := { row := concessionStepsRow, standIns := [], harness := (true, "628425cbe50fcc35db06d5593ef574a0a6ff4dab8ba4fb9bcc348446bce57d42"), looks := false }, kinds := [], alts := [], laidByText := true, laidKinds := [.data], laidTests := true, laidLooks := .later }
def ConcessionStepsCardSaid : Prop := Claim7.holds Tryd.pinned (.plain (OpenSpec.ofChange concessionStepsSpec)) concessionStepsCard

/-- THE TIED CARD OF 'macaroonlaw27.ConcessionKnown'. -/
def concessionKnownCard : Claim7 := { stood := { row := concessionKnownRow, standIns := [], harness := (true, "628425cbe50fcc35db06d5593ef574a0a6ff4dab8ba4fb9bcc348446bce57d42"), looks := false }, kinds := [], alts := [], laidByText := true, laidKinds := [.data], laidTests := true, laidLooks := .later }
def ConcessionKnownCardSaid : Prop := Claim7.holds Tryd.pinned (.plain (OpenSpec.ofChange concessionKnownSpec)) concessionKnownCard

/-- THE SECOND FORM's CARD OF 'macaroonlaw27.ConcessionSteps'. -/
def concessionStepsUptoCard : Claim7 := { stood := { row := concessionStepsUptoRow, standIns := [], harness := (true, "628425cbe50fcc35db06d5593ef574a0a6ff4dab8ba4fb9bcc348446bce57d42"), looks := false }, kinds := [], alts := [], laidByText := true, laidKinds := [.data], laidTests := true, laidLooks := .later }
def ConcessionStepsUptoCardSaid : Prop := Claim7.holds Tryd.pinned (.plain (OpenSpec.upto concessionStepsSpec)) concessionStepsUptoCard

/-- THE SECOND FORM's CARD OF 'macaroonlaw27.ConcessionKnown'. -/
def concessionKnownUptoCard : Claim7 := { stood := { row := concessionKnownUptoRow, standIns := [], harness := (true, "628425cbe50fcc35db06d5593ef574a0a6ff4dab8ba4fb9bcc348446bce57d42"), looks := false }, kinds := [], alts := [], laidByText := true, laidKinds := [.data], laidTests := true, laidLooks := .later }
def ConcessionKnownUptoCardSaid : Prop := Claim7.holds Tryd.pinned (.plain (OpenSpec.upto concessionKnownSpec)) concessionKnownUptoCard
end Rows
end Go.Proofs.YtnighgphfomlkaaDoor
