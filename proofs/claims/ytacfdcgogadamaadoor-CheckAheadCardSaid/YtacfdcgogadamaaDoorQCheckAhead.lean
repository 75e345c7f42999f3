import Derived.Test.YtacfdcgogadamaaDoorKWf
import Derived.Test.YtacfdcgogadamaaDoorM20
/-! What is to be shown of CheckAhead, with no program in sight. -/
namespace Go.Proofs.YtacfdcgogadamaaDoor.Q
open Go.RowKit
def CheckAhead : Prop := ∀ (l0 : List M.S36) (a1_0 : Int) (a1_1 : Int) (a1_2 : Int) (a1_3 : Int), l0.length ≤ maxLen → (∀ x ∈ l0, Q.wfIns x) → (Lit.int .i64 a1_0).wf = true → (Lit.int .i64 a1_1).wf = true → (Lit.int .i64 a1_2).wf = true → (Lit.int .u32 a1_3).wf = true → ∃ k, Go.Proofs.YtacfdcgogadamaaDoor.M.hurdlelaw05_CheckAhead.f k l0 a1_0 a1_1 a1_2 a1_3 = some true
end Go.Proofs.YtacfdcgogadamaaDoor.Q
