import Derived.Test.YtahacmdhhfmhiaaDoorKA
import Derived.Test.YtahacmdhhfmhiaaDoorM46
/-! What is to be shown of TableBack, with no program in sight. -/
namespace Go.Proofs.YtahacmdhhfmhiaaDoor.Q
open Go.RowKit
def TableBack : Prop := ∀ (l0 : List M.S42) (l1 : List Int), l0.length ≤ maxLen → (∀ x ∈ l0, Q.wfRule x) → l1.length ≤ maxLen → (∀ x ∈ l1, (fun x : Int => (Lit.int .u8 x).wf = true) x) → ∃ k, Go.Proofs.YtahacmdhhfmhiaaDoor.M.l21_TableBack.f k l0 l1 = some true
end Go.Proofs.YtahacmdhhfmhiaaDoor.Q
