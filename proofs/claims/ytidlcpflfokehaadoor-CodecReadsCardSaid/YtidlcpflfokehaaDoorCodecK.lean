/- The document's examples of filters' bytes and texts hold. No condition. -/
import Derived.Test.YtidlcpflfokehaaDoorM10
namespace Go.Proofs.YtidlcpflfokehaaDoor.CodecK
open Go.RowKit Go.Proofs.YtidlcpflfokehaaDoorW.PrintWords Go.Proofs.YtidlcpflfokehaaDoorW.PrintLast Go.Proofs.YtidlcpflfokehaaDoorW.PrintMore Go.Proofs.YtidlcpflfokehaaDoor.M
theorem knows_is : Ev (fun k => hurdlelaw03_knows.f k) true := Ev.of hurdlelaw03_knows.mono (k := 60) (by decide +kernel)
end Go.Proofs.YtidlcpflfokehaaDoor.CodecK
