import Derived.Test.YtahacmdhhfmhiaaDoorKA
import Derived.Test.YtahacmdhhfmhiaaDoorM45
/-! What is to be shown of TableReads, with no program in sight. -/
namespace Go.Proofs.YtahacmdhhfmhiaaDoor.Q
open Go.RowKit
def TableReads : Prop := ∀ (l0 : List Int), l0.length ≤ maxLen → (∀ x ∈ l0, (fun x : Int => (Lit.int .u8 x).wf = true) x) → ∃ k, Go.Proofs.YtahacmdhhfmhiaaDoor.M.l21_TableReads.f k l0 = some true
end Go.Proofs.YtahacmdhhfmhiaaDoor.Q
