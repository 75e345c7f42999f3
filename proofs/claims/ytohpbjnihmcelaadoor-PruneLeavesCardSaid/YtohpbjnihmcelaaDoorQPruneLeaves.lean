import Derived.Test.YtohpbjnihmcelaaDoorKA
import Derived.Test.YtohpbjnihmcelaaDoorM23
/-! What is to be shown of PruneLeaves, with no program in sight. -/
namespace Go.Proofs.YtohpbjnihmcelaaDoor.Q
open Go.RowKit
def PruneLeaves : Prop := ∀ (l0 : List M.S45), l0.length ≤ maxLen → (∀ x ∈ l0, Q.wfIns x) → ∃ k, Go.Proofs.YtohpbjnihmcelaaDoor.M.hurdlelaw23_PruneLeaves.f k l0 = some true
end Go.Proofs.YtohpbjnihmcelaaDoor.Q
