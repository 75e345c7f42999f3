/- InsPrints: which instructions are right, and their texts, is told as by the document. No condition. -/
import Derived.Test.YtbgneakihibmbaaDoorInsB
import Derived.Test.YtbgneakihibmbaaDoorQInsPrints
namespace Go.Proofs.YtbgneakihibmbaaDoor.Pure
set_option linter.unusedVariables false
set_option linter.unusedSimpArgs false
open Go.RowKit Go.Proofs.YtbgneakihibmbaaDoorW.PrintWords Go.Proofs.YtbgneakihibmbaaDoorW.PrintLast Go.Proofs.YtbgneakihibmbaaDoorW.PrintMore Go.Proofs.YtbgneakihibmbaaDoor.M Go.Proofs.YtbgneakihibmbaaDoor.Hex Go.Proofs.YtbgneakihibmbaaDoor.HexB Go.Proofs.YtbgneakihibmbaaDoor.InsOps Go.Proofs.YtbgneakihibmbaaDoor.InsB
theorem InsPrints : Q.InsPrints := by
  intro a jt jf k _ _ _ hk
  refine Ev.rounds ?_
  unfold hurdlelaw02_InsPrints.f
  have wrong : Ev (fun n => ins_Right.f n a jt jf k) false → Ev (fun n => hurdleref02_Right.f n a jt jf k) false → Ev (fun n => hurdlelaw02_InsPrints.f n a jt jf k) true := by
    intro h1 h2
    unfold hurdlelaw02_InsPrints.f
    refine Ev.bind (print_wrong h1) (Ev.bind h2 (Ev.bind h1 ?_))
    simp only [bne_self_eq_false, Bool.false_eq_true, if_false]
    have e : (str []).toList = [] := by rw [ByteArray.toList_eq]; rfl
    simp only [e, if_true]
    exact Ev.bind knows_is (Ev.now _)
  rcases op_cases a with ⟨i, hi, h⟩ | h
  · have h1 := right_is hi h jt jf k
    have h2 := rright_is hi h jt jf k
    by_cases hr : right i jt jf k = true
    · obtain ⟨x, y, z, rfl, rfl, rfl, hx, hy, hz⟩ := right_fields hk hr
      rw [hr] at h1 h2
      refine Ev.bind (print_is hi h x y z hx hy hz hr) (Ev.bind h2 (Ev.bind h1 ?_))
      simp only [bne_self_eq_false, Bool.false_eq_true, if_false, if_true]
      refine Ev.bind (rprint_is hi h x y z hx hy hz) ?_
      simp only [if_true]
      exact Ev.bind knows_is (Ev.now _)
    · have hr := Bool.eq_false_iff.mpr hr
      rw [hr] at h1 h2
      exact wrong h1 h2
  · exact wrong (right_none h jt jf k) (rright_none h jt jf k)
end Go.Proofs.YtbgneakihibmbaaDoor.Pure
