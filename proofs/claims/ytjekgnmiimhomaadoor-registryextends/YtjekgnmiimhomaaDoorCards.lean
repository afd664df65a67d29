/-
  DERIVED. GIVEN WITH THE SEED: THE CARDS: each row of YtjekgnmiimhomaaDoorRows.lean that lists a variable, with what it lists TIED to the program's text (the seventh form; the later family's looks); each row that meets fmt, with fmt's text TOLD by the authors' own Lean function (tested against real Go, not proved from fmt's source: count such statements apart). THE CARD IS WHAT COUNTS. Prove the row's statement (the work); the ties are given (YtjekgnmiimhomaaDoorTie.lean); close each card by the builder's one call (the guide's Derived/Test/ToyasCard.lean, 'card_holds'). Laid BY PROGRAM, IN A SANDBOX (cutbox-door.mjs). By AI agents, Wed Nov 11 2026. No macro, syntax, notation, axiom, sorry.
-/
import Derived.Test.YtjekgnmiimhomaaDoorRows
import GoSem.ClaimSeven
namespace Go.Proofs.YtjekgnmiimhomaaDoor
namespace Rows

/-- THE TIED CARD OF 'macaroonlaw22.RegistrySteps'. -/
def registryStepsCard : Claim7 := { stood := { row := registryStepsRow, standIns := [], harness := (true, "4afcdf5c6b4e985459af3670dda386970cf2dbae6e60844e2a00a7c21c834edb"), looks := false }, kinds := [], alts := [], laidByText := true, laidKinds := [.data], laidTests := true, laidLooks := .later }
def RegistryStepsCardSaid : Prop := Claim7.holds Tryd.pinned (.plain (OpenSpec.ofChange registryStepsSpec)) registryStepsCard

/-- THE TIED CARD OF 'macaroonlaw22.RegistryExtends'. -/
def registryExtendsCard : Claim7 := { stood := { row := registryExtendsRow, standIns := [], harness := (true, "4afcdf5c6b4e985459af3670dda386970cf2dbae6e60844e2a00a7c21c834edb"), looks := false }, kinds := [], alts := [], laidByText := true, laidKinds := [.data], laidTests := true, laidLooks := .later }
def RegistryExtendsCardSaid : Prop := Claim7.holds Tryd.pinned (.plain (OpenSpec.ofChange registryExtendsSpec)) registryExtendsCard

/-- THE SECOND FORM's CARD OF 'macaroonlaw22.RegistrySteps'. -/
def registryStepsUptoCard : Claim7 := { stood := { row := registryStepsUptoRow, standIns := [], harness := (true, "4afcdf5c6b4e985459af3670dda386970cf2dbae6e60844e2a00a7c21c834edb"), looks := false }, kinds := [], alts := [], laidByText := true, laidKinds := [.data], laidTests := true, laidLooks := .later }
def RegistryStepsUptoCardSaid : Prop := Claim7.holds Tryd.pinned (.plain (OpenSpec.upto registryStepsSpec)) registryStepsUptoCard

/-- THE SECOND FORM's CARD OF 'macaroonlaw22.RegistryExtends'. -/
def registryExtendsUptoCard : Claim7 := { stood := { row := registryExtendsUptoRow, standIns := [], harness := (true, "4afcdf5c6b4e985459af3670dda386970cf2dbae6e60844e2a00a7c21c834edb"), looks := false }, kinds := [], alts := [], laidByText := true, laidKinds := [.data], laidTests := true, laidLooks := .later }
def RegistryExtendsUptoCardSaid : Prop := Claim7.holds Tryd.pinned (.plain (OpenSpec.upto registryExtendsSpec)) registryExtendsUptoCard
end Rows
end Go.Proofs.YtjekgnmiimhomaaDoor
