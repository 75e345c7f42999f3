import Derived.Test.YtidlcpflfokehaaDoorM20
/-! What is to be shown of CodecParses, with no program in sight. -/
namespace Go.Proofs.YtidlcpflfokehaaDoor.Q
open Go.RowKit
def CodecParses : Prop := ∀ (a0 : ByteArray), a0.size ≤ 140737488351232 → ∃ k, Go.Proofs.YtidlcpflfokehaaDoor.M.hurdlelaw03_CodecParses.f k a0 = some true
end Go.Proofs.YtidlcpflfokehaaDoor.Q
