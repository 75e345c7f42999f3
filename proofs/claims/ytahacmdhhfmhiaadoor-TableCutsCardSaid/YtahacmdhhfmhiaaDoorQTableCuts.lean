import Derived.Test.YtahacmdhhfmhiaaDoorKA
import Derived.Test.YtahacmdhhfmhiaaDoorM50
/-! What is to be shown of TableCuts, with no program in sight. -/
namespace Go.Proofs.YtahacmdhhfmhiaaDoor.Q
open Go.RowKit
def TableCuts : Prop := ∀ (l0 : List M.S42) (a1 : Int) (a2 : Int) (a3 : Int), l0.length ≤ maxLen → (∀ x ∈ l0, Q.wfRule x) → (Lit.int .i64 a1).wf = true → (Lit.int .i64 a2).wf = true → (Lit.int .u32 a3).wf = true → ∃ k, Go.Proofs.YtahacmdhhfmhiaaDoor.M.l21_TableCuts.f k l0 a1 a2 a3 = some true
end Go.Proofs.YtahacmdhhfmhiaaDoor.Q
