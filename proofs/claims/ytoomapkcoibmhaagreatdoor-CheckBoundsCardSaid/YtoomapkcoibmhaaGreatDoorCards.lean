/-
  DERIVED. GIVEN WITH THE SEED: THE CARDS: each row of YtoomapkcoibmhaaGreatDoorRows.lean that lists a variable, with what it lists TIED to the program's text (the seventh form; the later family's looks); each row that meets fmt, with fmt's text TOLD by the authors' own Lean function (tested against real Go, not proved from fmt's source: count such statements apart). THE CARD IS WHAT COUNTS. Prove the row's statement (the work); the ties are given (YtoomapkcoibmhaaGreatDoorTie.lean); close each card by the builder's one call (the guide's Derived/Test/ToyasCard.lean, 'card_holds'). Laid BY PROGRAM, IN A SANDBOX (cutbox-door.mjs). By AI agents, Wed Nov 11 2026. No macro, syntax, notation, axiom, sorry.
-/
import Derived.Test.YtoomapkcoibmhaaGreatDoorRows
import GoSem.ClaimSeven
namespace Go.Proofs.YtoomapkcoibmhaaGreatDoor
namespace Rows

/-- THE TIED CARD OF 'casketlaw13.CheckBounds'. -/
def checkBoundsCard : Claim7 := { stood := { row := checkBoundsRow, standIns := [], harness := (true, "7b0924c084a159e37fd02a7a540e4a42b1203077622dd76143aefedc06fd7838"), looks := true }, kinds := [], alts := [], laidByText := true, laidKinds := [.data, .data, .data, .sentinel, .sentinel], laidTests := true, laidLooks := .later }
def CheckBoundsCardSaid : Prop := Claim7.holds Tryz.pinned (.plain (OpenSpec.ofChange checkBoundsSpec)) checkBoundsCard

/-- THE TIED CARD OF 'casketlaw13.CheckBehind'. -/
def checkBehindCard : Claim7 := { stood := { row := checkBehindRow, standIns := [], harness := (true, "7b0924c084a159e37fd02a7a540e4a42b1203077622dd76143aefedc06fd7838"), looks := true }, kinds := [], alts := [], laidByText := true, laidKinds := [.data, .data, .data, .sentinel, .sentinel], laidTests := true, laidLooks := .later }
def CheckBehindCardSaid : Prop := Claim7.holds Tryz.pinned (.plain (OpenSpec.ofChange checkBehindSpec)) checkBehindCard

/-- THE TIED CARD OF 'casketlaw13.CheckScopes'. -/
def checkScopesCard : Claim7 := { stood := { row := checkScopesRow, standIns := [], harness := (true, "7b0924c084a159e37fd02a7a540e4a42b1203077622dd76143aefedc06fd7838"), looks := true }, kinds := [], alts := [], laidByText := true, laidKinds := [.data, .data, .data, .sentinel, .sentinel], laidTests := true, laidLooks := .later }
def CheckScopesCardSaid : Prop := Claim7.holds Tryz.pinned (.plain (OpenSpec.ofChange checkScopesSpec)) checkScopesCard

/-- THE TIED CARD OF 'casketlaw13.CheckSites'. -/
def checkSitesCard : Claim7 := { stood := { row := checkSitesRow, standIns := [], harness := (true, "7b0924c084a159e37fd02a7a540e4a42b1203077622dd76143aefedc06fd7838"), looks := true }, kinds := [], alts := [], laidByText := true, laidKinds := [.data, .data, .data, .sentinel, .sentinel], laidTests := true, laidLooks := .later }
def CheckSitesCardSaid : Prop := Claim7.holds Tryz.pinned (.plain (OpenSpec.ofChange checkSitesSpec)) checkSitesCard

/-- THE SECOND FORM's CARD OF 'casketlaw13.CheckBounds'. -/
def checkBoundsUptoCard : Claim7 := { stood := { row := checkBoundsUptoRow, standIns := [], harness := (true, "7b0924c084a159e37fd02a7a540e4a42b1203077622dd76143aefedc06fd7838"), looks := true }, kinds := [], alts := [], laidByText := true, laidKinds := [.data, .data, .data, .sentinel, .sentinel], laidTests := true, laidLooks := .later }
def CheckBoundsUptoCardSaid : Prop := Claim7.holds Tryz.pinned (.plain (OpenSpec.upto checkBoundsSpec)) checkBoundsUptoCard

/-- THE SECOND FORM's CARD OF 'casketlaw13.CheckBehind'. -/
def checkBehindUptoCard : Claim7 := { stood := { row := checkBehindUptoRow, standIns := [], harness := (true, "7b0924c084a159e37fd02a7a540e4a42b1203077622dd76143aefedc06fd7838"), looks := true }, kinds := [], alts := [], laidByText := true, laidKinds := [.data, .data, .data, .sentinel, .sentinel], laidTests := true, laidLooks := .later }
def CheckBehindUptoCardSaid : Prop := Claim7.holds Tryz.pinned (.plain (OpenSpec.upto checkBehindSpec)) checkBehindUptoCard

/-- THE SECOND FORM's CARD OF 'casketlaw13.CheckScopes'. -/
def checkScopesUptoCard : Claim7 := { stood := { row := checkScopesUptoRow, standIns := [], harness := (true, "7b0924c084a159e37fd02a7a540e4a42b1203077622dd76143aefedc06fd7838"), looks := true }, kinds := [], alts := [], laidByText := true, laidKinds := [.data, .data, .data, .sentinel, .sentinel], laidTests := true, laidLooks := .later }
def CheckScopesUptoCardSaid : Prop := Claim7.holds Tryz.pinned (.plain (OpenSpec.upto checkScopesSpec)) checkScopesUptoCard

/-- THE SECOND FORM's CARD OF 'casketlaw13.CheckSites'. -/
def checkSitesUptoCard : Claim7 := { stood := { row := checkSitesUptoRow, standIns := [], harness := (true, "7b0924c084a159e37fd02a7a540e4a42b1203077622dd76143aefedc06fd7838"), looks := true }, kinds := [], alts := [], laidByText := true, laidKinds := [.data, .data, .data, .sentinel, .sentinel], laidTests := true, laidLooks := .later }
def CheckSitesUptoCardSaid : Prop := Claim7.holds Tryz.pinned (.plain (OpenSpec.upto checkSitesSpec)) checkSitesUptoCard
end Rows
end Go.Proofs.YtoomapkcoibmhaaGreatDoor
