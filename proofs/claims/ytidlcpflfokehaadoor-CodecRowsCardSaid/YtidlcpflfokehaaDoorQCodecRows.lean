import Derived.Test.YtidlcpflfokehaaDoorKA
import Derived.Test.YtidlcpflfokehaaDoorM28
/-! What is to be shown of CodecRows, with no program in sight. -/
namespace Go.Proofs.YtidlcpflfokehaaDoor.Q
open Go.RowKit
def CodecRows : Prop := ∀ (l0 : List M.S48) (l1 : List M.S48), l0.length ≤ maxLen → (∀ x ∈ l0, Q.wfIns x) → l1.length ≤ maxLen → (∀ x ∈ l1, Q.wfIns x) → ∃ k, Go.Proofs.YtidlcpflfokehaaDoor.M.hurdlelaw03_CodecRows.f k l0 l1 = some true
end Go.Proofs.YtidlcpflfokehaaDoor.Q
