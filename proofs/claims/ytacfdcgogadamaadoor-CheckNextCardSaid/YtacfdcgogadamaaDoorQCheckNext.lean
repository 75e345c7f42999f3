import Derived.Test.YtacfdcgogadamaaDoorKWf
import Derived.Test.YtacfdcgogadamaaDoorM17
/-! What is to be shown of CheckNext, with no program in sight. -/
namespace Go.Proofs.YtacfdcgogadamaaDoor.Q
open Go.RowKit
def CheckNext : Prop := ∀ (l0 : List M.S36) (a1 : Int), l0.length ≤ maxLen → (∀ x ∈ l0, Q.wfIns x) → (Lit.int .i64 a1).wf = true → ∃ k, Go.Proofs.YtacfdcgogadamaaDoor.M.hurdlelaw05_CheckNext.f k l0 a1 = some true
end Go.Proofs.YtacfdcgogadamaaDoor.Q
