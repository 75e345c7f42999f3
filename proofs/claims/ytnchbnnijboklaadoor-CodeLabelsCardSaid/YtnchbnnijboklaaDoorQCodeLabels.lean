import Derived.Test.YtnchbnnijboklaaDoorKWf
import Derived.Test.YtnchbnnijboklaaDoorM18
/-! What is to be shown of CodeLabels, with no program in sight. -/
namespace Go.Proofs.YtnchbnnijboklaaDoor.Q
open Go.RowKit
def CodeLabels : Prop := ∀ (l0 : List M.S30) (a1_0 : Int) (a1_1 : Int) (a1_2 : Int) (a1_3 : Int) (a2 : Int) (a3 : Int), l0.length ≤ maxLen → (∀ x ∈ l0, Q.wfIns x) → (Lit.int .i64 a1_0).wf = true → (Lit.int .i64 a1_1).wf = true → (Lit.int .i64 a1_2).wf = true → (Lit.int .u32 a1_3).wf = true → (Lit.int .i64 a2).wf = true → (Lit.int .i64 a3).wf = true → ∃ k, Go.Proofs.YtnchbnnijboklaaDoor.M.hurdlelaw12_CodeLabels.f k l0 a1_0 a1_1 a1_2 a1_3 a2 a3 = some true
end Go.Proofs.YtnchbnnijboklaaDoor.Q
