import Derived.Test.YtnchbnnijboklaaDoorKActWf
import Derived.Test.YtnchbnnijboklaaDoorM19
/-! What is to be shown of CodeKeeps, with no program in sight. -/
namespace Go.Proofs.YtnchbnnijboklaaDoor.Q
open Go.RowKit
def CodeKeeps : Prop := ∀ (l0 : List M.S30) (l1 : List M.S33), l0.length ≤ maxLen → (∀ x ∈ l0, Q.wfIns x) → l1.length ≤ maxLen → (∀ x ∈ l1, Q.wfAct x) → ∃ k, Go.Proofs.YtnchbnnijboklaaDoor.M.hurdlelaw12_CodeKeeps.f k l0 l1 = some true
end Go.Proofs.YtnchbnnijboklaaDoor.Q
