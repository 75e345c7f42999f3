import Derived.Test.YtnchbnnijboklaaDoorKA
import Derived.Test.YtnchbnnijboklaaDoorM26
/-! What is to be shown of CodeSound, with no program in sight. -/
namespace Go.Proofs.YtnchbnnijboklaaDoor.Q
open Go.RowKit
def CodeSound : Prop := ∀ (l0 : List M.S30) (l1 : List M.S33) (a2_0 : Int) (a2_1 : Int) (a2_2 : List Int) (a3_0 : Int) (a3_1 : Int) (a3_2 : Int) (a3_3 : List Int), l0.length ≤ maxLen → (∀ x ∈ l0, Q.wfIns x) → l1.length ≤ maxLen → (∀ x ∈ l1, Q.wfAct x) → (Lit.int .u32 a2_0).wf = true → (Lit.int .u32 a2_1).wf = true → (∀ x ∈ a2_2, (Lit.int .u32 x).wf = true) → ∃ k, Go.Proofs.YtnchbnnijboklaaDoor.M.hurdlelaw12_CodeSound.f k l0 l1 a2_0 a2_1 a2_2 a3_0 a3_1 a3_2 a3_3 = some true
end Go.Proofs.YtnchbnnijboklaaDoor.Q
