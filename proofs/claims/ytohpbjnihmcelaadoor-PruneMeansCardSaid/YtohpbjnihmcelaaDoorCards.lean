/-
  DERIVED. GIVEN WITH THE SEED: THE CARDS: each row of YtohpbjnihmcelaaDoorRows.lean that lists a variable, with what it lists TIED to the program's text (the seventh form; the later family's looks); each row that meets fmt, with fmt's text TOLD by the authors' own Lean function (tested against real Go, not proved from fmt's source: count such statements apart). THE CARD IS WHAT COUNTS. Prove the row's statement (the work); the ties are given (YtohpbjnihmcelaaDoorTie.lean); close each card by the builder's one call (the guide's Derived/Test/ToyasCard.lean, 'card_holds'). Laid BY PROGRAM, IN A SANDBOX (cutbox-door.mjs). By AI agents, Wed Nov 11 2026. No macro, syntax, notation, axiom, sorry.
-/
import Derived.Test.YtohpbjnihmcelaaDoorRows
import GoSem.ClaimSeven
namespace Go.Proofs.YtohpbjnihmcelaaDoor
namespace Rows

/-- THE TIED CARD OF 'hurdlelaw23.PruneLeaves'. -/
def pruneLeavesCard : Claim7 := { stood := { row := pruneLeavesRow, standIns := [], harness := (true, "999580ac0dde86079c8d98de08cb6d6be2bc9a801d1d9d5bb1cf222e75512fac"), looks := false }, kinds := [], alts := [], laidByText := true, laidKinds := [.data], laidTests := true, laidLooks := .later }
def PruneLeavesCardSaid : Prop := Claim7.holds Tryd.pinned (.plain (OpenSpec.ofChange pruneLeavesSpec)) pruneLeavesCard

/-- THE TIED CARD OF 'hurdlelaw23.PruneMeans'. -/
def pruneMeansCard : Claim7 := { stood := { row := pruneMeansRow, standIns := [], harness := (true, "999580ac0dde86079c8d98de08cb6d6be2bc9a801d1d9d5bb1cf222e75512fac"), looks := false }, kinds := [], alts := [], laidByText := true, laidKinds := [.data], laidTests := true, laidLooks := .later }
def PruneMeansCardSaid : Prop := Claim7.holds Tryd.pinned (.plain (OpenSpec.ofChange pruneMeansSpec)) pruneMeansCard

/-- THE TIED CARD OF 'hurdlelaw23.PruneAgain'. -/
def pruneAgainCard : Claim7 := { stood := { row := pruneAgainRow, standIns := [], harness := (true, "999580ac0dde86079c8d98de08cb6d6be2bc9a801d1d9d5bb1cf222e75512fac"), looks := false }, kinds := [], alts := [], laidByText := true, laidKinds := [.data], laidTests := true, laidLooks := .later }
def PruneAgainCardSaid : Prop := Claim7.holds Tryd.pinned (.plain (OpenSpec.ofChange pruneAgainSpec)) pruneAgainCard

/-- THE TIED CARD OF 'hurdlelaw23.PruneBehind'. -/
def pruneBehindCard : Claim7 := { stood := { row := pruneBehindRow, standIns := [], harness := (true, "999580ac0dde86079c8d98de08cb6d6be2bc9a801d1d9d5bb1cf222e75512fac"), looks := false }, kinds := [], alts := [], laidByText := true, laidKinds := [.data], laidTests := true, laidLooks := .later }
def PruneBehindCardSaid : Prop := Claim7.holds Tryd.pinned (.plain (OpenSpec.ofChange pruneBehindSpec)) pruneBehindCard

/-- THE TIED CARD OF 'hurdlelaw23.PruneMet'. -/
def pruneMetCard : Claim7 := { stood := { row := pruneMetRow, standIns := [], harness := (true, "999580ac0dde86079c8d98de08cb6d6be2bc9a801d1d9d5bb1cf222e75512fac"), looks := false }, kinds := [], alts := [], laidByText := true, laidKinds := [.data], laidTests := true, laidLooks := .later }
def PruneMetCardSaid : Prop := Claim7.holds Tryd.pinned (.plain (OpenSpec.ofChange pruneMetSpec)) pruneMetCard

/-- THE SECOND FORM's CARD OF 'hurdlelaw23.PruneLeaves'. -/
def pruneLeavesUptoCard : Claim7 := { stood := { row := pruneLeavesUptoRow, standIns := [], harness := (true, "999580ac0dde86079c8d98de08cb6d6be2bc9a801d1d9d5bb1cf222e75512fac"), looks := false }, kinds := [], alts := [], laidByText := true, laidKinds := [.data], laidTests := true, laidLooks := .later }
def PruneLeavesUptoCardSaid : Prop := Claim7.holds Tryd.pinned (.plain (OpenSpec.upto pruneLeavesSpec)) pruneLeavesUptoCard

/-- THE SECOND FORM's CARD OF 'hurdlelaw23.PruneMeans'. -/
def pruneMeansUptoCard : Claim7 := { stood := { row := pruneMeansUptoRow, standIns := [], harness := (true, "999580ac0dde86079c8d98de08cb6d6be2bc9a801d1d9d5bb1cf222e75512fac"), looks := false }, kinds := [], alts := [], laidByText := true, laidKinds := [.data], laidTests := true, laidLooks := .later }
def PruneMeansUptoCardSaid : Prop := Claim7.holds Tryd.pinned (.plain (OpenSpec.upto pruneMeansSpec)) pruneMeansUptoCard

/-- THE SECOND FORM's CARD OF 'hurdlelaw23.PruneAgain'. -/
def pruneAgainUptoCard : Claim7 := { stood := { row := pruneAgainUptoRow, standIns := [], harness := (true, "999580ac0dde86079c8d98de08cb6d6be2bc9a801d1d9d5bb1cf222e75512fac"), looks := false }, kinds := [], alts := [], laidByText := true, laidKinds := [.data], laidTests := true, laidLooks := .later }
def PruneAgainUptoCardSaid : Prop := Claim7.holds Tryd.pinned (.plain (OpenSpec.upto pruneAgainSpec)) pruneAgainUptoCard

/-- THE SECOND FORM's CARD OF 'hurdlelaw23.PruneBehind'. -/
def pruneBehindUptoCard : Claim7 := { stood := { row := pruneBehindUptoRow, standIns := [], harness := (true, "999580ac0dde86079c8d98de08cb6d6be2bc9a801d1d9d5bb1cf222e75512fac"), looks := false }, kinds := [], alts := [], laidByText := true, laidKinds := [.data], laidTests := true, laidLooks := .later }
def PruneBehindUptoCardSaid : Prop := Claim7.holds Tryd.pinned (.plain (OpenSpec.upto pruneBehindSpec)) pruneBehindUptoCard

/-- THE SECOND FORM's CARD OF 'hurdlelaw23.PruneMet'. -/
def pruneMetUptoCard : Claim7 := { stood := { row := pruneMetUptoRow, standIns := [], harness := (true, "999580ac0dde86079c8d98de08cb6d6be2bc9a801d1d9d5bb1cf222e75512fac"), looks := false }, kinds := [], alts := [], laidByText := true, laidKinds := [.data], laidTests := true, laidLooks := .later }
def PruneMetUptoCardSaid : Prop := Claim7.holds Tryd.pinned (.plain (OpenSpec.upto pruneMetSpec)) pruneMetUptoCard
end Rows
end Go.Proofs.YtohpbjnihmcelaaDoor
