import Derived.Test.YtidlcpflfokehaaDoorKA
import Derived.Test.YtidlcpflfokehaaDoorM26
/-! What is to be shown of CodecBack, with no program in sight. -/
namespace Go.Proofs.YtidlcpflfokehaaDoor.Q
open Go.RowKit
def CodecBack : Prop := ∀ (l0 : List M.S48) (l1 : List Int), l0.length ≤ maxLen → (∀ x ∈ l0, Q.wfIns x) → l1.length ≤ maxLen → (∀ x ∈ l1, (fun x : Int => (Lit.int .u8 x).wf = true) x) → ∃ k, Go.Proofs.YtidlcpflfokehaaDoor.M.hurdlelaw03_CodecBack.f k l0 l1 = some true
end Go.Proofs.YtidlcpflfokehaaDoor.Q
