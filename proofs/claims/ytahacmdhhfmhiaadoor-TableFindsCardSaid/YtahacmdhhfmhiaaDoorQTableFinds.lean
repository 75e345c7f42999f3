import Derived.Test.YtahacmdhhfmhiaaDoorKA
import Derived.Test.YtahacmdhhfmhiaaDoorM48
/-! What is to be shown of TableFinds, with no program in sight. -/
namespace Go.Proofs.YtahacmdhhfmhiaaDoor.Q
open Go.RowKit
def TableFinds : Prop := ∀ (l0 : List M.S42) (l1_0 : List M.S59) (l1_1 : List M.S59) (a1_2 : Int), l0.length ≤ maxLen → (∀ x ∈ l0, Q.wfRule x) → l1_0.length ≤ maxLen → (∀ x ∈ l1_0, Q.wfIns x) → l1_1.length ≤ maxLen → (∀ x ∈ l1_1, Q.wfIns x) → (Lit.int .u32 a1_2).wf = true → ∃ k, Go.Proofs.YtahacmdhhfmhiaaDoor.M.l21_TableFinds.f k l0 l1_0 l1_1 a1_2 = some true
end Go.Proofs.YtahacmdhhfmhiaaDoor.Q
