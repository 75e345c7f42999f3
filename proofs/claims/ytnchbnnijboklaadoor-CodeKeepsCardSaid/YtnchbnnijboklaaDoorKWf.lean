import Derived.Test.YtnchbnnijboklaaDoorM1
/-! When a record's numbers are of their kinds. -/
namespace Go.Proofs.YtnchbnnijboklaaDoor.Q
open Go.RowKit
def wfIns (x : Go.Proofs.YtnchbnnijboklaaDoor.M.S30) : Prop := (Lit.int .i64 x.f0).wf = true ∧ (Lit.int .i64 x.f1).wf = true ∧ (Lit.int .i64 x.f2).wf = true ∧ (Lit.int .u32 x.f3).wf = true
end Go.Proofs.YtnchbnnijboklaaDoor.Q
