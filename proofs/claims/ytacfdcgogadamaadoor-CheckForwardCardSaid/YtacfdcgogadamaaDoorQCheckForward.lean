import Derived.Test.YtacfdcgogadamaaDoorKWf
import Derived.Test.YtacfdcgogadamaaDoorM18
/-! What is to be shown of CheckForward, with no program in sight. -/
namespace Go.Proofs.YtacfdcgogadamaaDoor.Q
open Go.RowKit
def CheckForward : Prop := ∀ (l0 : List M.S36), l0.length ≤ maxLen → (∀ x ∈ l0, Q.wfIns x) → ∃ k, Go.Proofs.YtacfdcgogadamaaDoor.M.hurdlelaw05_CheckForward.f k l0 = some true
end Go.Proofs.YtacfdcgogadamaaDoor.Q
