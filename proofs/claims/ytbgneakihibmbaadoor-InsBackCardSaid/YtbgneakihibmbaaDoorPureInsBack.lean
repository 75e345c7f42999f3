/- InsBack: an instruction's text is read as it, and what was read has just that text. No condition. -/
import Derived.Test.YtbgneakihibmbaaDoorInsO
import Derived.Test.YtbgneakihibmbaaDoorPureInsApart
import Derived.Test.YtbgneakihibmbaaDoorQInsBack
namespace Go.Proofs.YtbgneakihibmbaaDoor.Pure
set_option linter.unusedVariables false
set_option linter.unusedSimpArgs false
open Go.RowKit Go.Proofs.YtbgneakihibmbaaDoorW.PrintWords Go.Proofs.YtbgneakihibmbaaDoorW.PrintLast Go.Proofs.YtbgneakihibmbaaDoorW.PrintMore Go.Proofs.YtbgneakihibmbaaDoor.M Go.Proofs.YtbgneakihibmbaaDoor.Hex Go.Proofs.YtbgneakihibmbaaDoor.HexB Go.Proofs.YtbgneakihibmbaaDoor.InsOps Go.Proofs.YtbgneakihibmbaaDoor.InsB Go.Proofs.YtbgneakihibmbaaDoor.InsR Go.Proofs.YtbgneakihibmbaaDoor.InsO
theorem back_text (s : ByteArray) (hs : s.size ≤ 1000) : Ev (fun k => hurdlelaw02_InsBack.j0 k s) true := by
  have hb := bytes_bs s
  have he := str_bytes s
  generalize numsL s = l at hb he
  subst he
  rw [str_size] at hs
  rcases parse_cases l hb (by omega) with h | ⟨op, i, x, y, z, h, hi, ho, hx, hy, hz, hr, rfl⟩
  · refine Ev.step (f := fun k => (hurdlelaw02_knows.f k).bind fun t => some t) (fun k => ?_) (Ev.bind knows_is (Ev.now _))
    simp [hurdlelaw02_InsBack.j0, h]
  · have hp := print_is hi ho x y z hx hy hz hr
    have hq := right_is hi ho (x : Int) (y : Int) (z : Int)
    rw [hr] at hq
    refine Ev.step (fun k => by simp only [hurdlelaw02_InsBack.j0, h, Option.bind_some, if_true]; rfl) (Ev.bind hp ?_)
    simp only [if_true]
    refine Ev.bind hq ?_
    simp only [if_true]
    exact Ev.bind knows_is (Ev.now _)
theorem InsBack : Q.InsBack := by
  intro a b c d s _ _ _ hd _
  refine Ev.rounds ?_
  unfold hurdlelaw02_InsBack.f
  by_cases hs : (s.size : Int) > 1000
  · exact Ev.congr (fun k => if_pos hs) (Ev.bind knows_is (Ev.now _))
  · refine Ev.congr (fun k => if_neg hs) ?_
    rcases print_any a b c d hd with ⟨i, x, y, z, hi, h, rfl, rfl, rfl, hx, hy, hz, hr, hp⟩ | hp
    · refine Ev.bind hp ?_
      simp only [if_true, parse_ins hi h x y z hx hy hz hr, Option.bind_some, beq_self_eq_true, Bool.not_true, Bool.or_self, Bool.false_eq_true, if_false]
      exact back_text s (by omega)
    · refine Ev.bind hp ?_
      simp only [show ((1 : Int) = 0) = False by simp, if_false]
      exact back_text s (by omega)
end Go.Proofs.YtbgneakihibmbaaDoor.Pure
