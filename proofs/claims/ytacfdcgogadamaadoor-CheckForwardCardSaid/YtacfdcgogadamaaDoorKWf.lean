import Derived.Test.YtacfdcgogadamaaDoorM1
/-! When a record's numbers are of their kinds. -/
namespace Go.Proofs.YtacfdcgogadamaaDoor.Q
open Go.RowKit
def wfIns (x : Go.Proofs.YtacfdcgogadamaaDoor.M.S36) : Prop := (Lit.int .i64 x.f0).wf = true ∧ (Lit.int .i64 x.f1).wf = true ∧ (Lit.int .i64 x.f2).wf = true ∧ (Lit.int .u32 x.f3).wf = true
end Go.Proofs.YtacfdcgogadamaaDoor.Q
