import Derived.Test.YtnchbnnijboklaaDoorKWf
/-! When an act's numbers are of their kinds. -/
namespace Go.Proofs.YtnchbnnijboklaaDoor.Q
open Go.RowKit
def wfAct (x : Go.Proofs.YtnchbnnijboklaaDoor.M.S33) : Prop := (Lit.int .i64 x.f0).wf = true ∧ wfIns x.f1 ∧ (Lit.int .u16 x.f2).wf = true ∧ (Lit.int .u16 x.f3).wf = true
end Go.Proofs.YtnchbnnijboklaaDoor.Q
