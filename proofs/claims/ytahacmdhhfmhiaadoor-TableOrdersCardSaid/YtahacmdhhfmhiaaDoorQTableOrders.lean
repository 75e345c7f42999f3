import Derived.Test.YtahacmdhhfmhiaaDoorKA
import Derived.Test.YtahacmdhhfmhiaaDoorM47
/-! What is to be shown of TableOrders, with no program in sight. -/
namespace Go.Proofs.YtahacmdhhfmhiaaDoor.Q
open Go.RowKit
def TableOrders : Prop := ∀ (l0 : List M.S42) (l1_0 : List M.S59) (l1_1 : List M.S59) (a1_2 : Int) (l2_0 : List M.S59) (l2_1 : List M.S59) (a2_2 : Int), l0.length ≤ maxLen → (∀ x ∈ l0, Q.wfRule x) → l1_0.length ≤ maxLen → (∀ x ∈ l1_0, Q.wfIns x) → l1_1.length ≤ maxLen → (∀ x ∈ l1_1, Q.wfIns x) → (Lit.int .u32 a1_2).wf = true → l2_0.length ≤ maxLen → (∀ x ∈ l2_0, Q.wfIns x) → l2_1.length ≤ maxLen → (∀ x ∈ l2_1, Q.wfIns x) → (Lit.int .u32 a2_2).wf = true → ∃ k, Go.Proofs.YtahacmdhhfmhiaaDoor.M.l21_TableOrders.f k l0 l1_0 l1_1 a1_2 l2_0 l2_1 a2_2 = some true
end Go.Proofs.YtahacmdhhfmhiaaDoor.Q
