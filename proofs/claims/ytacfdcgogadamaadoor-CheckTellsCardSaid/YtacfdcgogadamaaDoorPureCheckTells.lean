/- The pure statement of CheckTells is proved: which filters are sound is told as by the document. No condition. -/
import Derived.Test.YtacfdcgogadamaaDoorChkB
import Derived.Test.YtacfdcgogadamaaDoorChkK
import Derived.Test.YtacfdcgogadamaaDoorQCheckTells
namespace Go.Proofs.YtacfdcgogadamaaDoor.Pure
set_option linter.unusedVariables false
set_option linter.unusedSimpArgs false
open Go.RowKit Go.Proofs.YtacfdcgogadamaaDoorW.PrintWords Go.Proofs.YtacfdcgogadamaaDoorW.PrintLast Go.Proofs.YtacfdcgogadamaaDoorW.PrintMore Go.Proofs.YtacfdcgogadamaaDoor.M Go.Proofs.YtacfdcgogadamaaDoor.InsOps Go.Proofs.YtacfdcgogadamaaDoor.RightB Go.Proofs.YtacfdcgogadamaaDoor.ChkB Go.Proofs.YtacfdcgogadamaaDoor.ChkK
theorem CheckTells : Q.CheckTells := by
  intro l _ hw
  refine Ev.rounds ?_
  unfold hurdlelaw05_CheckTells.f
  by_cases h : (l.length : Int) > 5000
  · exact Ev.congr (fun k => if_pos h) (Ev.bind knows_is (Ev.now _))
  · refine Ev.congr (fun k => if_neg h) ?_
    have hl : l.length < 100000 := by omega
    refine Ev.bind (check_is l hl hw) (Ev.bind (rcheck_is l hl hw) ?_)
    refine Ev.congr (fun k => (if_pos rfl).trans (if_pos rfl)) ?_
    refine Ev.bind (sound_is l hl hw) ?_
    exact Ev.congr (fun k => if_pos (by simp)) (Ev.bind knows_is (Ev.now _))
end Go.Proofs.YtacfdcgogadamaaDoor.Pure
