import Derived.Test.YtacfdcgogadamaaDoorKWf
import Derived.Test.YtacfdcgogadamaaDoorM19
/-! What is to be shown of CheckBehind, with no program in sight. -/
namespace Go.Proofs.YtacfdcgogadamaaDoor.Q
open Go.RowKit
def CheckBehind : Prop := ∀ (l0 : List M.S36) (l1 : List M.S36), l0.length ≤ maxLen → (∀ x ∈ l0, Q.wfIns x) → l1.length ≤ maxLen → (∀ x ∈ l1, Q.wfIns x) → ∃ k, Go.Proofs.YtacfdcgogadamaaDoor.M.hurdlelaw05_CheckBehind.f k l0 l1 = some true
end Go.Proofs.YtacfdcgogadamaaDoor.Q
