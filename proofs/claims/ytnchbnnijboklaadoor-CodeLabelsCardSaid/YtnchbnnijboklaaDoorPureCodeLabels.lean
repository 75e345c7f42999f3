/- CodeLabels: labels that are none are told. No condition. -/
import Derived.Test.YtnchbnnijboklaaDoorCodeK
import Derived.Test.YtnchbnnijboklaaDoorQCodeLabels
namespace Go.Proofs.YtnchbnnijboklaaDoor.Pure
set_option linter.unusedVariables false
set_option linter.unusedSimpArgs false
open Go.RowKit Go.Proofs.YtnchbnnijboklaaDoorW.PrintWords Go.Proofs.YtnchbnnijboklaaDoorW.PrintLast Go.Proofs.YtnchbnnijboklaaDoorW.PrintMore Go.Proofs.YtnchbnnijboklaaDoor.M Go.Proofs.YtnchbnnijboklaaDoor.InsOps Go.Proofs.YtnchbnnijboklaaDoor.RightB Go.Proofs.YtnchbnnijboklaaDoor.CodeB
theorem CodeLabels : Q.CodeLabels := by
  intro c a0 a1 a2 a3 t f _ _ _ _ _ _ _ _
  refine Ev.rounds ?_
  unfold hurdlelaw12_CodeLabels.f
  by_cases h : (c.length : Int) > 1000
  · exact Ev.congr (fun k => if_pos h) (Ev.bind knows_is (Ev.now _))
  · refine Ev.congr (fun k => if_neg h) ?_
    have hs : Sm c := show c.length < 100000 by omega
    have l1 := jump_len c t
    obtain ⟨m, e, l2⟩ := branch_on (branchI a0 && rightI a0 0 0 a3) c a0 a3 t f
    have l3 : (branch (branchI a0 && rightI a0 0 0 a3) c a0 a3 t f).1.length < 100000 := by rw [e, List.length_append]; omega
    rw [jump_is c t hs]
    simp only [Option.bind_some]
    refine Ev.bind (rjump_is c t hs) ?_
    refine Ev.bind (branch_is _ c a0 a3 t f hs (by omega) rfl) ?_
    refine Ev.bind (rbranch_is _ c a0 a3 t f hs (by omega) rfl) ?_
    refine Ev.bind (same_is _ (show (jump c t).1.length < 100000 by omega)) ?_
    refine Ev.congr (fun k => (if_pos rfl).trans ((if_pos rfl).trans (if_pos rfl))) ?_
    refine Ev.bind (same_is _ l3) ?_
    exact Ev.congr (fun k => (if_pos rfl).trans ((if_pos rfl).trans (if_pos rfl))) (Ev.bind knows_is (Ev.now _))
end Go.Proofs.YtnchbnnijboklaaDoor.Pure
