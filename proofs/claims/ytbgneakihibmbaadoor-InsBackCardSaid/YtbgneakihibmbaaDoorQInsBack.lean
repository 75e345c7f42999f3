import Derived.Test.YtbgneakihibmbaaDoorM19
/-! What is to be shown of InsBack, with no program in sight. -/
namespace Go.Proofs.YtbgneakihibmbaaDoor.Q
open Go.RowKit
def InsBack : Prop := ∀ (a0_0 : Int) (a0_1 : Int) (a0_2 : Int) (a0_3 : Int) (a1 : ByteArray), (Lit.int .i64 a0_0).wf = true → (Lit.int .i64 a0_1).wf = true → (Lit.int .i64 a0_2).wf = true → (Lit.int .u32 a0_3).wf = true → a1.size ≤ 140737488351232 → ∃ k, Go.Proofs.YtbgneakihibmbaaDoor.M.hurdlelaw02_InsBack.f k a0_0 a0_1 a0_2 a0_3 a1 = some true
end Go.Proofs.YtbgneakihibmbaaDoor.Q
