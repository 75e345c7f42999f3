import Derived.Test.YtidlcpflfokehaaDoorM1
/-! When a record's numbers are of their kinds. -/
namespace Go.Proofs.YtidlcpflfokehaaDoor.Q
open Go.RowKit
def wfIns (x : Go.Proofs.YtidlcpflfokehaaDoor.M.S48) : Prop := (Lit.int .i64 x.f0).wf = true ∧ (Lit.int .i64 x.f1).wf = true ∧ (Lit.int .i64 x.f2).wf = true ∧ (Lit.int .u32 x.f3).wf = true
end Go.Proofs.YtidlcpflfokehaaDoor.Q
