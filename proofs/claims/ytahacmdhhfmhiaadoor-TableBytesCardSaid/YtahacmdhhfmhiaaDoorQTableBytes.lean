import Derived.Test.YtahacmdhhfmhiaaDoorKA
import Derived.Test.YtahacmdhhfmhiaaDoorM39
/-! What is to be shown of TableBytes, with no program in sight. -/
namespace Go.Proofs.YtahacmdhhfmhiaaDoor.Q
open Go.RowKit
def TableBytes : Prop := ∀ (l0 : List M.S42), l0.length ≤ maxLen → (∀ x ∈ l0, Q.wfRule x) → ∃ k, Go.Proofs.YtahacmdhhfmhiaaDoor.M.l21_TableBytes.f k l0 = some true
end Go.Proofs.YtahacmdhhfmhiaaDoor.Q
