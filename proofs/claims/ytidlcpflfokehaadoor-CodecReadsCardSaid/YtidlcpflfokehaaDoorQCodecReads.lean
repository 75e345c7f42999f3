import Derived.Test.YtidlcpflfokehaaDoorKWf
import Derived.Test.YtidlcpflfokehaaDoorM15
/-! What is to be shown of CodecReads, with no program in sight. -/
namespace Go.Proofs.YtidlcpflfokehaaDoor.Q
open Go.RowKit
def CodecReads : Prop := ∀ (l0 : List Int), l0.length ≤ maxLen → (∀ x ∈ l0, (fun x : Int => (Lit.int .u8 x).wf = true) x) → ∃ k, Go.Proofs.YtidlcpflfokehaaDoor.M.hurdlelaw03_CodecReads.f k l0 = some true
end Go.Proofs.YtidlcpflfokehaaDoor.Q
