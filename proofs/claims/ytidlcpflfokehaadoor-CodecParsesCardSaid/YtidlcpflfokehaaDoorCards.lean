/-
  DERIVED. GIVEN WITH THE SEED: THE CARDS: each row of YtidlcpflfokehaaDoorRows.lean that lists a variable, with what it lists TIED to the program's text (the seventh form; the later family's looks); each row that meets fmt, with fmt's text TOLD by the authors' own Lean function (tested against real Go, not proved from fmt's source: count such statements apart). THE CARD IS WHAT COUNTS. Prove the row's statement (the work); the ties are given (YtidlcpflfokehaaDoorTie.lean); close each card by the builder's one call (the guide's Derived/Test/ToyasCard.lean, 'card_holds'). Laid BY PROGRAM, IN A SANDBOX (cutbox-door.mjs). By AI agents, Wed Nov 11 2026. No macro, syntax, notation, axiom, sorry.
-/
import Derived.Test.YtidlcpflfokehaaDoorRows
import GoSem.ClaimSeven
namespace Go.Proofs.YtidlcpflfokehaaDoor
namespace Rows

/-- THE TIED CARD OF 'hurdlelaw03.CodecReads'. -/
def codecReadsCard : Claim7 := { stood := { row := codecReadsRow, standIns := [], harness := (true, "1fce1d3001640416f50b7e9b81f33334e3096c1ed0bcb1ed05e6980954de26a1"), looks := false }, kinds := [], alts := [], laidByText := true, laidKinds := [.data], laidTests := true, laidLooks := .later }
def CodecReadsCardSaid : Prop := Claim7.holds Tryd.pinned (.plain (OpenSpec.ofChange codecReadsSpec)) codecReadsCard

/-- THE TIED CARD OF 'hurdlelaw03.CodecParses'. -/
def codecParsesCard : Claim7 := { stood := { row := codecParsesRow, standIns := [], harness := (true, "1fce1d3001640416f50b7e9b81f33334e3096c1ed0bcb1ed05e6980954de26a1"), looks := false }, kinds := [], alts := [], laidByText := true, laidKinds := [.data], laidTests := true, laidLooks := .later }
def CodecParsesCardSaid : Prop := Claim7.holds Tryd.pinned (.plain (OpenSpec.ofChange codecParsesSpec)) codecParsesCard

/-- THE TIED CARD OF 'hurdlelaw03.CodecBytes'. -/
def codecBytesCard : Claim7 := { stood := { row := codecBytesRow, standIns := [], harness := (true, "1fce1d3001640416f50b7e9b81f33334e3096c1ed0bcb1ed05e6980954de26a1"), looks := false }, kinds := [], alts := [], laidByText := true, laidKinds := [.data], laidTests := true, laidLooks := .later }
def CodecBytesCardSaid : Prop := Claim7.holds Tryd.pinned (.plain (OpenSpec.ofChange codecBytesSpec)) codecBytesCard

/-- THE TIED CARD OF 'hurdlelaw03.CodecBack'. -/
def codecBackCard : Claim7 := { stood := { row := codecBackRow, standIns := [], harness := (true, "1fce1d3001640416f50b7e9b81f33334e3096c1ed0bcb1ed05e6980954de26a1"), looks := false }, kinds := [], alts := [], laidByText := true, laidKinds := [.data], laidTests := true, laidLooks := .later }
def CodecBackCardSaid : Prop := Claim7.holds Tryd.pinned (.plain (OpenSpec.ofChange codecBackSpec)) codecBackCard

/-- THE TIED CARD OF 'hurdlelaw03.CodecOnly'. -/
def codecOnlyCard : Claim7 := { stood := { row := codecOnlyRow, standIns := [], harness := (true, "1fce1d3001640416f50b7e9b81f33334e3096c1ed0bcb1ed05e6980954de26a1"), looks := false }, kinds := [], alts := [], laidByText := true, laidKinds := [.data], laidTests := true, laidLooks := .later }
def CodecOnlyCardSaid : Prop := Claim7.holds Tryd.pinned (.plain (OpenSpec.ofChange codecOnlySpec)) codecOnlyCard

/-- THE TIED CARD OF 'hurdlelaw03.CodecRows'. -/
def codecRowsCard : Claim7 := { stood := { row := codecRowsRow, standIns := [], harness := (true, "1fce1d3001640416f50b7e9b81f33334e3096c1ed0bcb1ed05e6980954de26a1"), looks := false }, kinds := [], alts := [], laidByText := true, laidKinds := [.data], laidTests := true, laidLooks := .later }
def CodecRowsCardSaid : Prop := Claim7.holds Tryd.pinned (.plain (OpenSpec.ofChange codecRowsSpec)) codecRowsCard

/-- THE SECOND FORM's CARD OF 'hurdlelaw03.CodecReads'. -/
def codecReadsUptoCard : Claim7 := { stood := { row := codecReadsUptoRow, standIns := [], harness := (true, "1fce1d3001640416f50b7e9b81f33334e3096c1ed0bcb1ed05e6980954de26a1"), looks := false }, kinds := [], alts := [], laidByText := true, laidKinds := [.data], laidTests := true, laidLooks := .later }
def CodecReadsUptoCardSaid : Prop := Claim7.holds Tryd.pinned (.plain (OpenSpec.upto codecReadsSpec)) codecReadsUptoCard

/-- THE SECOND FORM's CARD OF 'hurdlelaw03.CodecParses'. -/
def codecParsesUptoCard : Claim7 := { stood := { row := codecParsesUptoRow, standIns := [], harness := (true, "1fce1d3001640416f50b7e9b81f33334e3096c1ed0bcb1ed05e6980954de26a1"), looks := false }, kinds := [], alts := [], laidByText := true, laidKinds := [.data], laidTests := true, laidLooks := .later }
def CodecParsesUptoCardSaid : Prop := Claim7.holds Tryd.pinned (.plain (OpenSpec.upto codecParsesSpec)) codecParsesUptoCard

/-- THE SECOND FORM's CARD OF 'hurdlelaw03.CodecBytes'. -/
def codecBytesUptoCard : Claim7 := { stood := { row := codecBytesUptoRow, standIns := [], harness := (true, "1fce1d3001640416f50b7e9b81f33334e3096c1ed0bcb1ed05e6980954de26a1"), looks := false }, kinds := [], alts := [], laidByText := true, laidKinds := [.data], laidTests := true, laidLooks := .later }
def CodecBytesUptoCardSaid : Prop := Claim7.holds Tryd.pinned (.plain (OpenSpec.upto codecBytesSpec)) codecBytesUptoCard

/-- THE SECOND FORM's CARD OF 'hurdlelaw03.CodecBack'. -/
def codecBackUptoCard : Claim7 := { stood := { row := codecBackUptoRow, standIns := [], harness := (true, "1fce1d3001640416f50b7e9b81f33334e3096c1ed0bcb1ed05e6980954de26a1"), looks := false }, kinds := [], alts := [], laidByText := true, laidKinds := [.data], laidTests := true, laidLooks := .later }
def CodecBackUptoCardSaid : Prop := Claim7.holds Tryd.pinned (.plain (OpenSpec.upto codecBackSpec)) codecBackUptoCard

/-- THE SECOND FORM's CARD OF 'hurdlelaw03.CodecOnly'. -/
def codecOnlyUptoCard : Claim7 := { stood := { row := codecOnlyUptoRow, standIns := [], harness := (true, "1fce1d3001640416f50b7e9b81f33334e3096c1ed0bcb1ed05e6980954de26a1"), looks := false }, kinds := [], alts := [], laidByText := true, laidKinds := [.data], laidTests := true, laidLooks := .later }
def CodecOnlyUptoCardSaid : Prop := Claim7.holds Tryd.pinned (.plain (OpenSpec.upto codecOnlySpec)) codecOnlyUptoCard

/-- THE SECOND FORM's CARD OF 'hurdlelaw03.CodecRows'. -/
def codecRowsUptoCard : Claim7 := { stood := { row := codecRowsUptoRow, standIns := [], harness := (true, "1fce1d3001640416f50b7e9b81f33334e3096c1ed0bcb1ed05e6980954de26a1"), looks := false }, kinds := [], alts := [], laidByText := true, laidKinds := [.data], laidTests := true, laidLooks := .later }
def CodecRowsUptoCardSaid : Prop := Claim7.holds Tryd.pinned (.plain (OpenSpec.upto codecRowsSpec)) codecRowsUptoCard
end Rows
end Go.Proofs.YtidlcpflfokehaaDoor
