import Derived.Test.YtbgneakihibmbaaDoorM14
/-! What is to be shown of InsPrints, with no program in sight. -/
namespace Go.Proofs.YtbgneakihibmbaaDoor.Q
open Go.RowKit
def InsPrints : Prop := ∀ (a0_0 : Int) (a0_1 : Int) (a0_2 : Int) (a0_3 : Int), (Lit.int .i64 a0_0).wf = true → (Lit.int .i64 a0_1).wf = true → (Lit.int .i64 a0_2).wf = true → (Lit.int .u32 a0_3).wf = true → ∃ k, Go.Proofs.YtbgneakihibmbaaDoor.M.hurdlelaw02_InsPrints.f k a0_0 a0_1 a0_2 a0_3 = some true
end Go.Proofs.YtbgneakihibmbaaDoor.Q
