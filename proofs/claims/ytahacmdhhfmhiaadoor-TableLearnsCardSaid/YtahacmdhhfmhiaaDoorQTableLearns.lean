import Derived.Test.YtahacmdhhfmhiaaDoorKA
import Derived.Test.YtahacmdhhfmhiaaDoorM53
/-! What is to be shown of TableLearns, with no program in sight. -/
namespace Go.Proofs.YtahacmdhhfmhiaaDoor.Q
open Go.RowKit
def TableLearns : Prop := ∀ (l0 : List M.S42) (l1_0 : List M.S59) (l1_1 : List M.S59) (a1_2 : Int) (a2 : Int), l0.length ≤ maxLen → (∀ x ∈ l0, Q.wfRule x) → l1_0.length ≤ maxLen → (∀ x ∈ l1_0, Q.wfIns x) → l1_1.length ≤ maxLen → (∀ x ∈ l1_1, Q.wfIns x) → (Lit.int .u32 a1_2).wf = true → (Lit.int .u32 a2).wf = true → ∃ k, Go.Proofs.YtahacmdhhfmhiaaDoor.M.l21_TableLearns.f k l0 l1_0 l1_1 a1_2 a2 = some true
end Go.Proofs.YtahacmdhhfmhiaaDoor.Q
