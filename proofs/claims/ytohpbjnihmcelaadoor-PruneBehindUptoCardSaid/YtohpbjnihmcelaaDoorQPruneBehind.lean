import Derived.Test.YtohpbjnihmcelaaDoorKA
import Derived.Test.YtohpbjnihmcelaaDoorM29
/-! What is to be shown of PruneBehind, with no program in sight. -/
namespace Go.Proofs.YtohpbjnihmcelaaDoor.Q
open Go.RowKit
def PruneBehind : Prop := ∀ (l0 : List M.S45) (l1 : List M.S45), l0.length ≤ maxLen → (∀ x ∈ l0, Q.wfIns x) → l1.length ≤ maxLen → (∀ x ∈ l1, Q.wfIns x) → l0.length + l1.length ≤ 1048576 → ∃ k, Go.Proofs.YtohpbjnihmcelaaDoor.M.hurdlelaw23_PruneBehind.f k l0 l1 = some true
end Go.Proofs.YtohpbjnihmcelaaDoor.Q
