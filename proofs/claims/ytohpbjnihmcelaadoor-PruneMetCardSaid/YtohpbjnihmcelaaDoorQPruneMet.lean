import Derived.Test.YtohpbjnihmcelaaDoorKA
import Derived.Test.YtohpbjnihmcelaaDoorM29
/-! What is to be shown of PruneMet, with no program in sight. -/
namespace Go.Proofs.YtohpbjnihmcelaaDoor.Q
open Go.RowKit
def PruneMet : Prop := ∀ (l0 : List M.S45) (a1_0 : Int) (a1_1 : Int) (a1_2 : Int) (a1_3 : List Int), l0.length ≤ maxLen → (∀ x ∈ l0, Q.wfIns x) → ∃ k, Go.Proofs.YtohpbjnihmcelaaDoor.M.l23_PruneMet.f k l0 a1_0 a1_1 a1_2 a1_3 = some true
end Go.Proofs.YtohpbjnihmcelaaDoor.Q
