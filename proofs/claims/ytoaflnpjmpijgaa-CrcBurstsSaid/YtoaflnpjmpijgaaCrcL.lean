/- The examples of the document on sums: what 'knows' asks is so. No condition. -/
import Derived.Test.YtoaflnpjmpijgaaM3
import Derived.Test.YtoaflnpjmpijgaaCrcB
namespace Go.Proofs.Ytoaflnpjmpijgaa.CrcL
set_option linter.unusedVariables false
open Go.RowKit Go.Proofs.YtoaflnpjmpijgaaW.PrintWords Go.Proofs.YtoaflnpjmpijgaaW.PrintLast Go.Proofs.YtoaflnpjmpijgaaW.PrintMore Go.Proofs.Ytoaflnpjmpijgaa.M Go.Proofs.Ytoaflnpjmpijgaa.CrcPlain Go.Proofs.Ytoaflnpjmpijgaa.CrcB
theorem knows_is : Ev (fun k => hurdlelaw20_knows.f k) true := Ev.of hurdlelaw20_knows.mono (k := 150) (by decide +kernel)
end Go.Proofs.Ytoaflnpjmpijgaa.CrcL
