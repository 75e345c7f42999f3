/- InsParses: a text is the instruction that the document says, or the error is told. No condition. -/
import Derived.Test.YtbgneakihibmbaaDoorRefP
import Derived.Test.YtbgneakihibmbaaDoorQInsParses
import Derived.Test.YtbgneakihibmbaaDoorM9
namespace Go.Proofs.YtbgneakihibmbaaDoor.Pure
set_option linter.unusedVariables false
set_option linter.unusedSimpArgs false
open Go.RowKit Go.Proofs.YtbgneakihibmbaaDoorW.PrintWords Go.Proofs.YtbgneakihibmbaaDoorW.PrintLast Go.Proofs.YtbgneakihibmbaaDoorW.PrintMore Go.Proofs.YtbgneakihibmbaaDoor.M Go.Proofs.YtbgneakihibmbaaDoor.Hex Go.Proofs.YtbgneakihibmbaaDoor.HexB Go.Proofs.YtbgneakihibmbaaDoor.InsOps Go.Proofs.YtbgneakihibmbaaDoor.InsB Go.Proofs.YtbgneakihibmbaaDoor.InsR Go.Proofs.YtbgneakihibmbaaDoor.InsO Go.Proofs.YtbgneakihibmbaaDoor.RefP
theorem knows_is : Ev (fun k => hurdlelaw02_knows.f k) true := Ev.of hurdlelaw02_knows.mono (k := 60) (by decide +kernel)
theorem InsParses : Q.InsParses := by
  intro s _
  refine Ev.rounds ?_
  unfold hurdlelaw02_InsParses.f
  by_cases hs : (s.size : Int) > 1000
  · exact Ev.congr (fun k => if_pos hs) (Ev.bind knows_is (Ev.now _))
  · refine Ev.congr (fun k => if_neg hs) ?_
    have hb := bytes_bs s
    have he := str_bytes s
    generalize numsL s = l at hb he
    subst he
    rw [str_size] at hs
    rcases parse_both l hb (by omega) with ⟨h1, h2⟩ | ⟨op, i, x, y, z, h1, h2, _⟩
    · simp only [h1, Option.bind_some]
      refine Ev.bind h2 ?_
      simp only [beq_self_eq_true, Bool.and_self, if_true, show (((2 : Int) == 0) == false) = true from rfl, Bool.false_eq_true, if_false]
      exact Ev.bind knows_is (Ev.now _)
    · simp only [h1, Option.bind_some]
      refine Ev.bind h2 ?_
      simp only [beq_self_eq_true, Bool.and_self, if_true]
      exact Ev.bind knows_is (Ev.now _)
end Go.Proofs.YtbgneakihibmbaaDoor.Pure
