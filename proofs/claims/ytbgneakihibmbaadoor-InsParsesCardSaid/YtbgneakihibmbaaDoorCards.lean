/-
  DERIVED. GIVEN WITH THE SEED: THE CARDS: each row of YtbgneakihibmbaaDoorRows.lean that lists a variable, with what it lists TIED to the program's text (the seventh form; the later family's looks); each row that meets fmt, with fmt's text TOLD by the authors' own Lean function (tested against real Go, not proved from fmt's source: count such statements apart). THE CARD IS WHAT COUNTS. Prove the row's statement (the work); the ties are given (YtbgneakihibmbaaDoorTie.lean); close each card by the builder's one call (the guide's Derived/Test/ToyasCard.lean, 'card_holds'). Laid BY PROGRAM, IN A SANDBOX (cutbox-door.mjs). By AI agents, Wed Nov 11 2026. No macro, syntax, notation, axiom, sorry.
-/
import Derived.Test.YtbgneakihibmbaaDoorRows
import GoSem.ClaimSeven
namespace Go.Proofs.YtbgneakihibmbaaDoor
namespace Rows

/-- THE TIED CARD OF 'hurdlelaw02.InsPrints'. -/
def insPrintsCard : Claim7 := { stood := { row := insPrintsRow, standIns := [], harness := (true, "9596468bb339e49875baa305f50110a3c143670e00647377cf6755e55ede4edd"), looks := false }, kinds := [], alts := [], laidByText := true, laidKinds := [.data], laidTests := true, laidLooks := .later }
def InsPrintsCardSaid : Prop := Claim7.holds Tryd.pinned (.plain (OpenSpec.ofChange insPrintsSpec)) insPrintsCard

/-- THE TIED CARD OF 'hurdlelaw02.InsParses'. -/
def insParsesCard : Claim7 := { stood := { row := insParsesRow, standIns := [], harness := (true, "9596468bb339e49875baa305f50110a3c143670e00647377cf6755e55ede4edd"), looks := false }, kinds := [], alts := [], laidByText := true, laidKinds := [.data], laidTests := true, laidLooks := .later }
def InsParsesCardSaid : Prop := Claim7.holds Tryd.pinned (.plain (OpenSpec.ofChange insParsesSpec)) insParsesCard

/-- THE TIED CARD OF 'hurdlelaw02.InsKinds'. -/
def insKindsCard : Claim7 := { stood := { row := insKindsRow, standIns := [], harness := (true, "9596468bb339e49875baa305f50110a3c143670e00647377cf6755e55ede4edd"), looks := false }, kinds := [], alts := [], laidByText := true, laidKinds := [.data], laidTests := true, laidLooks := .later }
def InsKindsCardSaid : Prop := Claim7.holds Tryd.pinned (.plain (OpenSpec.ofChange insKindsSpec)) insKindsCard

/-- THE TIED CARD OF 'hurdlelaw02.InsBack'. -/
def insBackCard : Claim7 := { stood := { row := insBackRow, standIns := [], harness := (true, "9596468bb339e49875baa305f50110a3c143670e00647377cf6755e55ede4edd"), looks := false }, kinds := [], alts := [], laidByText := true, laidKinds := [.data], laidTests := true, laidLooks := .later }
def InsBackCardSaid : Prop := Claim7.holds Tryd.pinned (.plain (OpenSpec.ofChange insBackSpec)) insBackCard

/-- THE TIED CARD OF 'hurdlelaw02.InsApart'. -/
def insApartCard : Claim7 := { stood := { row := insApartRow, standIns := [], harness := (true, "9596468bb339e49875baa305f50110a3c143670e00647377cf6755e55ede4edd"), looks := false }, kinds := [], alts := [], laidByText := true, laidKinds := [.data], laidTests := true, laidLooks := .later }
def InsApartCardSaid : Prop := Claim7.holds Tryd.pinned (.plain (OpenSpec.ofChange insApartSpec)) insApartCard

/-- THE TIED CARD OF 'hurdlelaw02.InsOnly'. -/
def insOnlyCard : Claim7 := { stood := { row := insOnlyRow, standIns := [], harness := (true, "9596468bb339e49875baa305f50110a3c143670e00647377cf6755e55ede4edd"), looks := false }, kinds := [], alts := [], laidByText := true, laidKinds := [.data], laidTests := true, laidLooks := .later }
def InsOnlyCardSaid : Prop := Claim7.holds Tryd.pinned (.plain (OpenSpec.ofChange insOnlySpec)) insOnlyCard

/-- THE SECOND FORM's CARD OF 'hurdlelaw02.InsPrints'. -/
def insPrintsUptoCard : Claim7 := { stood := { row := insPrintsUptoRow, standIns := [], harness := (true, "9596468bb339e49875baa305f50110a3c143670e00647377cf6755e55ede4edd"), looks := false }, kinds := [], alts := [], laidByText := true, laidKinds := [.data], laidTests := true, laidLooks := .later }
def InsPrintsUptoCardSaid : Prop := Claim7.holds Tryd.pinned (.plain (OpenSpec.upto insPrintsSpec)) insPrintsUptoCard

/-- THE SECOND FORM's CARD OF 'hurdlelaw02.InsParses'. -/
def insParsesUptoCard : Claim7 := { stood := { row := insParsesUptoRow, standIns := [], harness := (true, "9596468bb339e49875baa305f50110a3c143670e00647377cf6755e55ede4edd"), looks := false }, kinds := [], alts := [], laidByText := true, laidKinds := [.data], laidTests := true, laidLooks := .later }
def InsParsesUptoCardSaid : Prop := Claim7.holds Tryd.pinned (.plain (OpenSpec.upto insParsesSpec)) insParsesUptoCard

/-- THE SECOND FORM's CARD OF 'hurdlelaw02.InsKinds'. -/
def insKindsUptoCard : Claim7 := { stood := { row := insKindsUptoRow, standIns := [], harness := (true, "9596468bb339e49875baa305f50110a3c143670e00647377cf6755e55ede4edd"), looks := false }, kinds := [], alts := [], laidByText := true, laidKinds := [.data], laidTests := true, laidLooks := .later }
def InsKindsUptoCardSaid : Prop := Claim7.holds Tryd.pinned (.plain (OpenSpec.upto insKindsSpec)) insKindsUptoCard

/-- THE SECOND FORM's CARD OF 'hurdlelaw02.InsBack'. -/
def insBackUptoCard : Claim7 := { stood := { row := insBackUptoRow, standIns := [], harness := (true, "9596468bb339e49875baa305f50110a3c143670e00647377cf6755e55ede4edd"), looks := false }, kinds := [], alts := [], laidByText := true, laidKinds := [.data], laidTests := true, laidLooks := .later }
def InsBackUptoCardSaid : Prop := Claim7.holds Tryd.pinned (.plain (OpenSpec.upto insBackSpec)) insBackUptoCard

/-- THE SECOND FORM's CARD OF 'hurdlelaw02.InsApart'. -/
def insApartUptoCard : Claim7 := { stood := { row := insApartUptoRow, standIns := [], harness := (true, "9596468bb339e49875baa305f50110a3c143670e00647377cf6755e55ede4edd"), looks := false }, kinds := [], alts := [], laidByText := true, laidKinds := [.data], laidTests := true, laidLooks := .later }
def InsApartUptoCardSaid : Prop := Claim7.holds Tryd.pinned (.plain (OpenSpec.upto insApartSpec)) insApartUptoCard

/-- THE SECOND FORM's CARD OF 'hurdlelaw02.InsOnly'. -/
def insOnlyUptoCard : Claim7 := { stood := { row := insOnlyUptoRow, standIns := [], harness := (true, "9596468bb339e49875baa305f50110a3c143670e00647377cf6755e55ede4edd"), looks := false }, kinds := [], alts := [], laidByText := true, laidKinds := [.data], laidTests := true, laidLooks := .later }
def InsOnlyUptoCardSaid : Prop := Claim7.holds Tryd.pinned (.plain (OpenSpec.upto insOnlySpec)) insOnlyUptoCard
end Rows
end Go.Proofs.YtbgneakihibmbaaDoor
