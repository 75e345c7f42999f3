/- The document's examples of code hold. No condition. -/
import Derived.Test.YtnchbnnijboklaaDoorCodeB
import Derived.Test.YtnchbnnijboklaaDoorM7
namespace Go.Proofs.YtnchbnnijboklaaDoor.CodeB
open Go.RowKit Go.Proofs.YtnchbnnijboklaaDoorW.PrintWords Go.Proofs.YtnchbnnijboklaaDoorW.PrintLast Go.Proofs.YtnchbnnijboklaaDoorW.PrintMore Go.Proofs.YtnchbnnijboklaaDoor.M
theorem knows_is : Ev (fun k => hurdlelaw12_knows.f k) true := Ev.of hurdlelaw12_knows.mono (k := 60) (by decide +kernel)
end Go.Proofs.YtnchbnnijboklaaDoor.CodeB
