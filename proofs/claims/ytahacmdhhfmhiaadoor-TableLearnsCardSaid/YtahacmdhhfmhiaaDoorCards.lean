/-
  DERIVED. GIVEN WITH THE SEED: THE CARDS: each row of YtahacmdhhfmhiaaDoorRows.lean that lists a variable, with what it lists TIED to the program's text (the seventh form; the later family's looks); each row that meets fmt, with fmt's text TOLD by the authors' own Lean function (tested against real Go, not proved from fmt's source: count such statements apart). THE CARD IS WHAT COUNTS. Prove the row's statement (the work); the ties are given (YtahacmdhhfmhiaaDoorTie.lean); close each card by the builder's one call (the guide's Derived/Test/ToyasCard.lean, 'card_holds'). Laid BY PROGRAM, IN A SANDBOX (cutbox-door.mjs). By AI agents, Wed Nov 11 2026. No macro, syntax, notation, axiom, sorry.
-/
import Derived.Test.YtahacmdhhfmhiaaDoorRows
import GoSem.ClaimSeven
namespace Go.Proofs.YtahacmdhhfmhiaaDoor
namespace Rows

/-- THE TIED CARD OF 'hurdlelaw21.TableBytes'. -/
def tableBytesCard : Claim7 := { stood := { row := tableBytesRow, standIns := [], harness := (true, "8aa2517191f15e101009b5f2723aa0f77a3ffebc3c1abd5f7ed82a362e99248f"), looks := false }, kinds := [], alts := [], laidByText := true, laidKinds := [.data], laidTests := true, laidLooks := .later }
def TableBytesCardSaid : Prop := Claim7.holds Tryd.pinned (.plain (OpenSpec.ofChange tableBytesSpec)) tableBytesCard

/-- THE TIED CARD OF 'hurdlelaw21.TableReads'. -/
def tableReadsCard : Claim7 := { stood := { row := tableReadsRow, standIns := [], harness := (true, "8aa2517191f15e101009b5f2723aa0f77a3ffebc3c1abd5f7ed82a362e99248f"), looks := false }, kinds := [], alts := [], laidByText := true, laidKinds := [.data], laidTests := true, laidLooks := .later }
def TableReadsCardSaid : Prop := Claim7.holds Tryd.pinned (.plain (OpenSpec.ofChange tableReadsSpec)) tableReadsCard

/-- THE TIED CARD OF 'hurdlelaw21.TableLearns'. -/
def tableLearnsCard : Claim7 := { stood := { row := tableLearnsRow, standIns := [], harness := (true, "8aa2517191f15e101009b5f2723aa0f77a3ffebc3c1abd5f7ed82a362e99248f"), looks := false }, kinds := [], alts := [], laidByText := true, laidKinds := [.data], laidTests := true, laidLooks := .later }
def TableLearnsCardSaid : Prop := Claim7.holds Tryd.pinned (.plain (OpenSpec.ofChange tableLearnsSpec)) tableLearnsCard

/-- THE TIED CARD OF 'hurdlelaw21.TableBack'. -/
def tableBackCard : Claim7 := { stood := { row := tableBackRow, standIns := [], harness := (true, "8aa2517191f15e101009b5f2723aa0f77a3ffebc3c1abd5f7ed82a362e99248f"), looks := false }, kinds := [], alts := [], laidByText := true, laidKinds := [.data], laidTests := true, laidLooks := .later }
def TableBackCardSaid : Prop := Claim7.holds Tryd.pinned (.plain (OpenSpec.ofChange tableBackSpec)) tableBackCard

/-- THE TIED CARD OF 'hurdlelaw21.TableCuts'. -/
def tableCutsCard : Claim7 := { stood := { row := tableCutsRow, standIns := [], harness := (true, "8aa2517191f15e101009b5f2723aa0f77a3ffebc3c1abd5f7ed82a362e99248f"), looks := false }, kinds := [], alts := [], laidByText := true, laidKinds := [.data], laidTests := true, laidLooks := .later }
def TableCutsCardSaid : Prop := Claim7.holds Tryd.pinned (.plain (OpenSpec.ofChange tableCutsSpec)) tableCutsCard

/-- THE TIED CARD OF 'hurdlelaw21.TableOrders'. -/
def tableOrdersCard : Claim7 := { stood := { row := tableOrdersRow, standIns := [], harness := (true, "8aa2517191f15e101009b5f2723aa0f77a3ffebc3c1abd5f7ed82a362e99248f"), looks := false }, kinds := [], alts := [], laidByText := true, laidKinds := [.data], laidTests := true, laidLooks := .later }
def TableOrdersCardSaid : Prop := Claim7.holds Tryd.pinned (.plain (OpenSpec.ofChange tableOrdersSpec)) tableOrdersCard

/-- THE TIED CARD OF 'hurdlelaw21.TableFinds'. -/
def tableFindsCard : Claim7 := { stood := { row := tableFindsRow, standIns := [], harness := (true, "8aa2517191f15e101009b5f2723aa0f77a3ffebc3c1abd5f7ed82a362e99248f"), looks := false }, kinds := [], alts := [], laidByText := true, laidKinds := [.data], laidTests := true, laidLooks := .later }
def TableFindsCardSaid : Prop := Claim7.holds Tryd.pinned (.plain (OpenSpec.ofChange tableFindsSpec)) tableFindsCard

/-- THE SECOND FORM's CARD OF 'hurdlelaw21.TableBytes'. -/
def tableBytesUptoCard : Claim7 := { stood := { row := tableBytesUptoRow, standIns := [], harness := (true, "8aa2517191f15e101009b5f2723aa0f77a3ffebc3c1abd5f7ed82a362e99248f"), looks := false }, kinds := [], alts := [], laidByText := true, laidKinds := [.data], laidTests := true, laidLooks := .later }
def TableBytesUptoCardSaid : Prop := Claim7.holds Tryd.pinned (.plain (OpenSpec.upto tableBytesSpec)) tableBytesUptoCard

/-- THE SECOND FORM's CARD OF 'hurdlelaw21.TableReads'. -/
def tableReadsUptoCard : Claim7 := { stood := { row := tableReadsUptoRow, standIns := [], harness := (true, "8aa2517191f15e101009b5f2723aa0f77a3ffebc3c1abd5f7ed82a362e99248f"), looks := false }, kinds := [], alts := [], laidByText := true, laidKinds := [.data], laidTests := true, laidLooks := .later }
def TableReadsUptoCardSaid : Prop := Claim7.holds Tryd.pinned (.plain (OpenSpec.upto tableReadsSpec)) tableReadsUptoCard

/-- THE SECOND FORM's CARD OF 'hurdlelaw21.TableLearns'. -/
def tableLearnsUptoCard : Claim7 := { stood := { row := tableLearnsUptoRow, standIns := [], harness := (true, "8aa2517191f15e101009b5f2723aa0f77a3ffebc3c1abd5f7ed82a362e99248f"), looks := false }, kinds := [], alts := [], laidByText := true, laidKinds := [.data], laidTests := true, laidLooks := .later }
def TableLearnsUptoCardSaid : Prop := Claim7.holds Tryd.pinned (.plain (OpenSpec.upto tableLearnsSpec)) tableLearnsUptoCard

/-- THE SECOND FORM's CARD OF 'hurdlelaw21.TableBack'. -/
def tableBackUptoCard : Claim7 := { stood := { row := tableBackUptoRow, standIns := [], harness := (true, "8aa2517191f15e101009b5f2723aa0f77a3ffebc3c1abd5f7ed82a362e99248f"), looks := false }, kinds := [], alts := [], laidByText := true, laidKinds := [.data], laidTests := true, laidLooks := .later }
def TableBackUptoCardSaid : Prop := Claim7.holds Tryd.pinned (.plain (OpenSpec.upto tableBackSpec)) tableBackUptoCard

/-- THE SECOND FORM's CARD OF 'hurdlelaw21.TableCuts'. -/
def tableCutsUptoCard : Claim7 := { stood := { row := tableCutsUptoRow, standIns := [], harness := (true, "8aa2517191f15e101009b5f2723aa0f77a3ffebc3c1abd5f7ed82a362e99248f"), looks := false }, kinds := [], alts := [], laidByText := true, laidKinds := [.data], laidTests := true, laidLooks := .later }
def TableCutsUptoCardSaid : Prop := Claim7.holds Tryd.pinned (.plain (OpenSpec.upto tableCutsSpec)) tableCutsUptoCard

/-- THE SECOND FORM's CARD OF 'hurdlelaw21.TableOrders'. -/
def tableOrdersUptoCard : Claim7 := { stood := { row := tableOrdersUptoRow, standIns := [], harness := (true, "8aa2517191f15e101009b5f2723aa0f77a3ffebc3c1abd5f7ed82a362e99248f"), looks := false }, kinds := [], alts := [], laidByText := true, laidKinds := [.data], laidTests := true, laidLooks := .later }
def TableOrdersUptoCardSaid : Prop := Claim7.holds Tryd.pinned (.plain (OpenSpec.upto tableOrdersSpec)) tableOrdersUptoCard

/-- THE SECOND FORM's CARD OF 'hurdlelaw21.TableFinds'. -/
def tableFindsUptoCard : Claim7 := { stood := { row := tableFindsUptoRow, standIns := [], harness := (true, "8aa2517191f15e101009b5f2723aa0f77a3ffebc3c1abd5f7ed82a362e99248f"), looks := false }, kinds := [], alts := [], laidByText := true, laidKinds := [.data], laidTests := true, laidLooks := .later }
def TableFindsUptoCardSaid : Prop := Claim7.holds Tryd.pinned (.plain (OpenSpec.upto tableFindsSpec)) tableFindsUptoCard
end Rows
end Go.Proofs.YtahacmdhhfmhiaaDoor
