import Derived.Test.YtidlcpflfokehaaDoorKA
import Derived.Test.YtidlcpflfokehaaDoorM25
/-! What is to be shown of CodecBytes, with no program in sight. -/
namespace Go.Proofs.YtidlcpflfokehaaDoor.Q
open Go.RowKit
def CodecBytes : Prop := ∀ (l0 : List M.S48), l0.length ≤ maxLen → (∀ x ∈ l0, Q.wfIns x) → ∃ k, Go.Proofs.YtidlcpflfokehaaDoor.M.hurdlelaw03_CodecBytes.f k l0 = some true
end Go.Proofs.YtidlcpflfokehaaDoor.Q
