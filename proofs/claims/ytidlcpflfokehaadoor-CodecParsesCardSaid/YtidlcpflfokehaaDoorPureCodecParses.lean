/- The pure statement of CodecParses is proved: any text is read as the document says, or the line and the error are told. No condition. -/
import Derived.Test.YtidlcpflfokehaaDoorCodA
import Derived.Test.YtidlcpflfokehaaDoorQCodecParses
namespace Go.Proofs.YtidlcpflfokehaaDoor.Pure
set_option linter.unusedVariables false
set_option linter.unusedSimpArgs false
open Go.RowKit Go.Proofs.YtidlcpflfokehaaDoorW.PrintWords Go.Proofs.YtidlcpflfokehaaDoorW.PrintLast Go.Proofs.YtidlcpflfokehaaDoorW.PrintMore Go.Proofs.YtidlcpflfokehaaDoor.M Go.Proofs.YtidlcpflfokehaaDoor.Hex Go.Proofs.YtidlcpflfokehaaDoor.CodecK Go.Proofs.YtidlcpflfokehaaDoor.CodecQ
theorem CodecParses : Q.CodecParses := by
  intro s _
  have hb := bytes_bs s
  have he := str_bytes s
  generalize numsL s = L at hb he
  subst he
  refine Ev.rounds ?_
  unfold hurdlelaw03_CodecParses.f
  by_cases h : ((str L).size : Int) > 5000
  · exact Ev.congr (fun k => if_pos h) (Ev.bind knows_is (Ev.now _))
  · refine Ev.congr (fun k => if_neg h) ?_
    rw [str_size] at h
    refine Ev.bind (pparse_is L hb (by omega)) (Ev.bind (rparse3_is L hb (by omega)) ?_)
    have hl := rdL_len (RefP.spm 10 [] L) [] (by simp)
    refine Ev.bind (same_is _ (by omega)) ?_
    simp only [if_true]
    exact Ev.bind knows_is (Ev.now _)
end Go.Proofs.YtidlcpflfokehaaDoor.Pure
