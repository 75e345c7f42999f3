import Derived.Test.YtnchbnnijboklaaDoorKActWf
import Derived.Test.YtnchbnnijboklaaDoorM17
/-! What is to be shown of CodeGrows, with no program in sight. -/
namespace Go.Proofs.YtnchbnnijboklaaDoor.Q
open Go.RowKit
def CodeGrows : Prop := ∀ (l0 : List M.S30) (l1 : List M.S33), l0.length ≤ maxLen → (∀ x ∈ l0, Q.wfIns x) → l1.length ≤ maxLen → (∀ x ∈ l1, Q.wfAct x) → ∃ k, Go.Proofs.YtnchbnnijboklaaDoor.M.hurdlelaw12_CodeGrows.f k l0 l1 = some true
end Go.Proofs.YtnchbnnijboklaaDoor.Q
