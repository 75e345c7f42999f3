import Derived.Test.YtbgneakihibmbaaDoorM17
/-! What is to be shown of InsParses, with no program in sight. -/
namespace Go.Proofs.YtbgneakihibmbaaDoor.Q
open Go.RowKit
def InsParses : Prop := ∀ (a0 : ByteArray), a0.size ≤ 140737488351232 → ∃ k, Go.Proofs.YtbgneakihibmbaaDoor.M.hurdlelaw02_InsParses.f k a0 = some true
end Go.Proofs.YtbgneakihibmbaaDoor.Q
