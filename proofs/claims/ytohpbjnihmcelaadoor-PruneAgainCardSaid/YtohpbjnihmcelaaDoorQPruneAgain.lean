import Derived.Test.YtohpbjnihmcelaaDoorKA
import Derived.Test.YtohpbjnihmcelaaDoorM28
namespace Go.Proofs.YtohpbjnihmcelaaDoor.Q
open Go.RowKit
def PruneAgain : Prop := ∀ (l0 : List M.S45), l0.length ≤ maxLen → (∀ x ∈ l0, Q.wfIns x) → ∃ k, Go.Proofs.YtohpbjnihmcelaaDoor.M.hurdlelaw23_PruneAgain.f k l0 = some true
end Go.Proofs.YtohpbjnihmcelaaDoor.Q
