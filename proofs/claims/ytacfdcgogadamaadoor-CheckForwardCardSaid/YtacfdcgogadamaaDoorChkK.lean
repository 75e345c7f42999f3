/- The document's examples of sound filters hold. No condition. -/
import Derived.Test.YtacfdcgogadamaaDoorM10
namespace Go.Proofs.YtacfdcgogadamaaDoor.ChkK
open Go.RowKit Go.Proofs.YtacfdcgogadamaaDoorW.PrintWords Go.Proofs.YtacfdcgogadamaaDoorW.PrintLast Go.Proofs.YtacfdcgogadamaaDoorW.PrintMore Go.Proofs.YtacfdcgogadamaaDoor.M
theorem knows_is : Ev (fun k => hurdlelaw05_knows.f k) true := Ev.of hurdlelaw05_knows.mono (k := 80) (by decide +kernel)
end Go.Proofs.YtacfdcgogadamaaDoor.ChkK
