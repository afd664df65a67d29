/-
  DERIVED. GIVEN WITH THE SEED: THE CARDS: each row of YtaiakomijoppdaaDoorRows.lean that lists a variable, with what it lists TIED to the program's text (the seventh form; the later family's looks); each row that meets fmt, with fmt's text TOLD by the authors' own Lean function (tested against real Go, not proved from fmt's source: count such statements apart). THE CARD IS WHAT COUNTS. Prove the row's statement (the work); the ties are given (YtaiakomijoppdaaDoorTie.lean); close each card by the builder's one call (the guide's Derived/Test/ToyasCard.lean, 'card_holds'). Laid BY PROGRAM, IN A SANDBOX (cutbox-door.mjs). By AI agents, Wed Nov 11 2026. No macro, syntax, notation, axiom, sorry.
-/
import Derived.Test.YtaiakomijoppdaaDoorRows
import GoSem.ClaimSeven
namespace Go.Proofs.YtaiakomijoppdaaDoor
namespace Rows

/-- THE TIED CARD OF 'macaroonlaw07.HoldsValid'. -/
def holdsValidCard : Claim7 := { stood := { row := holdsValidRow, standIns := [], harness := (true, "0e7feda108eafe69be718e8a18955a3a9126a1f06579801dbdae4b0e35e6adb1"), looks := false }, kinds := [], alts := [], laidByText := true, laidKinds := [.data], laidTests := true, laidLooks := .later }
def HoldsValidCardSaid : Prop := Claim7.holds Tryd.pinned (.plain (OpenSpec.ofChange holdsValidSpec)) holdsValidCard

/-- THE TIED CARD OF 'macaroonlaw07.HoldsOne'. -/
def holdsOneCard : Claim7 := { stood := { row := holdsOneRow, standIns := [], harness := (true, "0e7feda108eafe69be718e8a18955a3a9126a1f06579801dbdae4b0e35e6adb1"), looks := false }, kinds := [], alts := [], laidByText := true, laidKinds := [.data], laidTests := true, laidLooks := .later }
def HoldsOneCardSaid : Prop := Claim7.holds Tryd.pinned (.plain (OpenSpec.ofChange holdsOneSpec)) holdsOneCard

/-- THE TIED CARD OF 'macaroonlaw07.HoldsDaily'. -/
def holdsDailyCard : Claim7 := { stood := { row := holdsDailyRow, standIns := [], harness := (true, "0e7feda108eafe69be718e8a18955a3a9126a1f06579801dbdae4b0e35e6adb1"), looks := false }, kinds := [], alts := [], laidByText := true, laidKinds := [.data], laidTests := true, laidLooks := .later }
def HoldsDailyCardSaid : Prop := Claim7.holds Tryd.pinned (.plain (OpenSpec.ofChange holdsDailySpec)) holdsDailyCard

/-- THE TIED CARD OF 'macaroonlaw07.HoldsAll'. -/
def holdsAllCard : Claim7 := { stood := { row := holdsAllRow, standIns := [], harness := (true, "0e7feda108eafe69be718e8a18955a3a9126a1f06579801dbdae4b0e35e6adb1"), looks := false }, kinds := [], alts := [], laidByText := true, laidKinds := [.data], laidTests := true, laidLooks := .later }
def HoldsAllCardSaid : Prop := Claim7.holds Tryd.pinned (.plain (OpenSpec.ofChange holdsAllSpec)) holdsAllCard

/-- THE TIED CARD OF 'macaroonlaw07.HoldsMore'. -/
def holdsMoreCard : Claim7 := { stood := { row := holdsMoreRow, standIns := [], harness := (true, "0e7feda108eafe69be718e8a18955a3a9126a1f06579801dbdae4b0e35e6adb1"), looks := false }, kinds := [], alts := [], laidByText := true, laidKinds := [.data], laidTests := true, laidLooks := .later }
def HoldsMoreCardSaid : Prop := Claim7.holds Tryd.pinned (.plain (OpenSpec.ofChange holdsMoreSpec)) holdsMoreCard

/-- THE SECOND FORM's CARD OF 'macaroonlaw07.HoldsValid'. -/
def holdsValidUptoCard : Claim7 := { stood := { row := holdsValidUptoRow, standIns := [], harness := (true, "0e7feda108eafe69be718e8a18955a3a9126a1f06579801dbdae4b0e35e6adb1"), looks := false }, kinds := [], alts := [], laidByText := true, laidKinds := [.data], laidTests := true, laidLooks := .later }
def HoldsValidUptoCardSaid : Prop := Claim7.holds Tryd.pinned (.plain (OpenSpec.upto holdsValidSpec)) holdsValidUptoCard

/-- THE SECOND FORM's CARD OF 'macaroonlaw07.HoldsOne'. -/
def holdsOneUptoCard : Claim7 := { stood := { row := holdsOneUptoRow, standIns := [], harness := (true, "0e7feda108eafe69be718e8a18955a3a9126a1f06579801dbdae4b0e35e6adb1"), looks := false }, kinds := [], alts := [], laidByText := true, laidKinds := [.data], laidTests := true, laidLooks := .later }
def HoldsOneUptoCardSaid : Prop := Claim7.holds Tryd.pinned (.plain (OpenSpec.upto holdsOneSpec)) holdsOneUptoCard

/-- THE SECOND FORM's CARD OF 'macaroonlaw07.HoldsDaily'. -/
def holdsDailyUptoCard : Claim7 := { stood := { row := holdsDailyUptoRow, standIns := [], harness := (true, "0e7feda108eafe69be718e8a18955a3a9126a1f06579801dbdae4b0e35e6adb1"), looks := false }, kinds := [], alts := [], laidByText := true, laidKinds := [.data], laidTests := true, laidLooks := .later }
def HoldsDailyUptoCardSaid : Prop := Claim7.holds Tryd.pinned (.plain (OpenSpec.upto holdsDailySpec)) holdsDailyUptoCard

/-- THE SECOND FORM's CARD OF 'macaroonlaw07.HoldsAll'. -/
def holdsAllUptoCard : Claim7 := { stood := { row := holdsAllUptoRow, standIns := [], harness := (true, "0e7feda108eafe69be718e8a18955a3a9126a1f06579801dbdae4b0e35e6adb1"), looks := false }, kinds := [], alts := [], laidByText := true, laidKinds := [.data], laidTests := true, laidLooks := .later }
def HoldsAllUptoCardSaid : Prop := Claim7.holds Tryd.pinned (.plain (OpenSpec.upto holdsAllSpec)) holdsAllUptoCard

/-- THE SECOND FORM's CARD OF 'macaroonlaw07.HoldsMore'. -/
def holdsMoreUptoCard : Claim7 := { stood := { row := holdsMoreUptoRow, standIns := [], harness := (true, "0e7feda108eafe69be718e8a18955a3a9126a1f06579801dbdae4b0e35e6adb1"), looks := false }, kinds := [], alts := [], laidByText := true, laidKinds := [.data], laidTests := true, laidLooks := .later }
def HoldsMoreUptoCardSaid : Prop := Claim7.holds Tryd.pinned (.plain (OpenSpec.upto holdsMoreSpec)) holdsMoreUptoCard
end Rows
end Go.Proofs.YtaiakomijoppdaaDoor
