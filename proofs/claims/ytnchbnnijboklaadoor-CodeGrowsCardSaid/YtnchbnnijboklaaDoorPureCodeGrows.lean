/- CodeGrows: code grows as the document says, act by act. No condition. -/
import Derived.Test.YtnchbnnijboklaaDoorCodeK
import Derived.Test.YtnchbnnijboklaaDoorQCodeGrows
namespace Go.Proofs.YtnchbnnijboklaaDoor.Pure
set_option linter.unusedVariables false
set_option linter.unusedSimpArgs false
open Go.RowKit Go.Proofs.YtnchbnnijboklaaDoorW.PrintWords Go.Proofs.YtnchbnnijboklaaDoorW.PrintLast Go.Proofs.YtnchbnnijboklaaDoorW.PrintMore Go.Proofs.YtnchbnnijboklaaDoor.M Go.Proofs.YtnchbnnijboklaaDoor.InsOps Go.Proofs.YtnchbnnijboklaaDoor.RightB Go.Proofs.YtnchbnnijboklaaDoor.CodeB
theorem grows_end (c : List In) (l : List S33) (i : Int) : Ev (fun k => hurdlelaw12_CodeGrows.j1 k c l i false) true :=
  Ev.step (f := fun k => (hurdlelaw12_knows.f k).bind fun t => some t) (fun k => by simp [hurdlelaw12_CodeGrows.j1]) (Ev.bind knows_is (Ev.now _))
theorem grows_from (l : List S33) : ∀ (m i : Nat) (c : List In), i + m = 60 → c.length ≤ 1000 + 3 * i → Ev (fun k => hurdlelaw12_CodeGrows.l0 k c l (i : Int)) true := by
  intro m
  induction m with
  | zero =>
    intro i c hi hc
    refine Ev.step (fun k => ?_) (grows_end c l (i : Int))
    simp only [hurdlelaw12_CodeGrows.l0]
    rw [decide_eq_false (show ¬ (i : Int) < 60 by omega), ite_self]
  | succ m ih =>
    intro i c hi hc
    by_cases hl : i < l.length
    · refine Ev.step (fun k => by simp only [hurdlelaw12_CodeGrows.l0]; rw [if_pos (by omega), decide_eq_true (show (i : Int) < 60 by omega)]) ?_
      refine Ev.step (fun k => by simp only [hurdlelaw12_CodeGrows.j1]; rw [if_pos trivial, if_pos (by omega), if_pos (by omega)]) ?_
      refine Ev.bind (do_is c (rd_T33 l (i : Int)) (by omega)) ?_
      refine Ev.bind (means_is c (rd_T33 l (i : Int)) (by omega)) ?_
      obtain ⟨x, hx, hm⟩ := act_on c (rd_T33 l (i : Int))
      have hlen : (act c (rd_T33 l (i : Int))).1.length ≤ 1000 + 3 * (i + 1) := by rw [hx, List.length_append]; omega
      refine Ev.bind (same_is _ (show (act c (rd_T33 l (i : Int))).1.length < 100000 by omega)) ?_
      refine Ev.congr (fun k => (if_pos rfl).trans ((if_pos rfl).trans (if_pos rfl))) ?_
      have := ih (i + 1) _ (by omega) hlen
      rw [show wrap64 ((i : Int) + 1) = ((i + 1 : Nat) : Int) from by rw [w64s (by omega) (by omega)]; rfl]
      exact this
    · refine Ev.step (fun k => ?_) (grows_end c l (i : Int))
      simp only [hurdlelaw12_CodeGrows.l0]
      rw [if_neg (by omega)]
theorem CodeGrows : Q.CodeGrows := by
  intro c l _ _ _ _
  refine Ev.rounds ?_
  unfold hurdlelaw12_CodeGrows.f
  by_cases h : (c.length : Int) > 1000
  · exact Ev.congr (fun k => if_pos h) (Ev.bind knows_is (Ev.now _))
  · exact Ev.congr (fun k => if_neg h) (grows_from l 60 0 c (by omega) (by omega))
end Go.Proofs.YtnchbnnijboklaaDoor.Pure
