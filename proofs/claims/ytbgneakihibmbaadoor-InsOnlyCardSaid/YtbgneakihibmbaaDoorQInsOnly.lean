import Derived.Test.YtbgneakihibmbaaDoorM31
/-! What is to be shown of InsOnly, with no program in sight. -/
namespace Go.Proofs.YtbgneakihibmbaaDoor.Q
open Go.RowKit
def InsOnly : Prop := ∀ (a0_0 : Int) (a0_1 : Int) (a0_2 : Int) (a0_3 : Int), (Lit.int .i64 a0_0).wf = true → (Lit.int .i64 a0_1).wf = true → (Lit.int .i64 a0_2).wf = true → (Lit.int .u32 a0_3).wf = true → ∃ k, Go.Proofs.YtbgneakihibmbaaDoor.M.hurdlelaw02_InsOnly.f k a0_0 a0_1 a0_2 a0_3 = some true
end Go.Proofs.YtbgneakihibmbaaDoor.Q
