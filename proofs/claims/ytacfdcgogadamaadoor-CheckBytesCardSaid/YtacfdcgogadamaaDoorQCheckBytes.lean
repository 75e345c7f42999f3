import Derived.Test.YtacfdcgogadamaaDoorKA
import Derived.Test.YtacfdcgogadamaaDoorM28
/-! What is to be shown of CheckBytes, with no program in sight. -/
namespace Go.Proofs.YtacfdcgogadamaaDoor.Q
open Go.RowKit
def CheckBytes : Prop := ∀ (l0 : List M.S36), l0.length ≤ maxLen → (∀ x ∈ l0, Q.wfIns x) → ∃ k, Go.Proofs.YtacfdcgogadamaaDoor.M.hurdlelaw05_CheckBytes.f k l0 = some true
end Go.Proofs.YtacfdcgogadamaaDoor.Q
