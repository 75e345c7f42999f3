/- CodeKeeps: code that grew has what it was at its end. No condition. -/
import Derived.Test.YtnchbnnijboklaaDoorCodeK
import Derived.Test.YtnchbnnijboklaaDoorQCodeKeeps
namespace Go.Proofs.YtnchbnnijboklaaDoor.Pure
set_option linter.unusedVariables false
set_option linter.unusedSimpArgs false
open Go.RowKit Go.Proofs.YtnchbnnijboklaaDoorW.PrintWords Go.Proofs.YtnchbnnijboklaaDoorW.PrintLast Go.Proofs.YtnchbnnijboklaaDoorW.PrintMore Go.Proofs.YtnchbnnijboklaaDoor.M Go.Proofs.YtnchbnnijboklaaDoor.InsOps Go.Proofs.YtnchbnnijboklaaDoor.RightB Go.Proofs.YtnchbnnijboklaaDoor.CodeB
theorem keeps_end (c0 c : List In) (m : List In) (h : c = m ++ c0) (hc : c.length < 100000) : Ev (fun k => hurdlelaw12_CodeKeeps.j1 k c0 c) true := by
  have hl : c.length = m.length + c0.length := by rw [h, List.length_append]
  have e : wrap64 ((c.length : Int) - (c0.length : Int)) = (m.length : Int) := by rw [w64s (by omega) (by omega)]; omega
  have ed : c.drop m.length = c0 := by rw [h, List.drop_left]
  refine Ev.step (fun k => by simp only [hurdlelaw12_CodeKeeps.j1]; rw [if_neg (by omega), e, if_pos (by omega), if_pos (by omega), Int.toNat_natCast, ed]) ?_
  refine Ev.bind (same_is c0 (show c0.length < 100000 by omega)) ?_
  exact Ev.congr (fun k => if_pos rfl) (Ev.bind knows_is (Ev.now _))
theorem keeps_from (c0 : List In) (l : List S33) : ∀ (m i : Nat) (c : List In), i + m = 60 → c.length ≤ 1000 + 3 * i → (∃ x, c = x ++ c0) → Ev (fun k => hurdlelaw12_CodeKeeps.l0 k c0 l c (i : Int)) true := by
  intro m
  induction m with
  | zero =>
    intro i c hi hc ⟨x, hx⟩
    refine Ev.step (fun k => ?_) (keeps_end c0 c x hx (by omega))
    simp only [hurdlelaw12_CodeKeeps.l0]
    rw [if_neg (show ¬ (i : Int) < 60 by omega), ite_self]
  | succ m ih =>
    intro i c hi hc ⟨x, hx⟩
    by_cases hl : i < l.length
    · refine Ev.step (fun k => by simp only [hurdlelaw12_CodeKeeps.l0]; rw [if_pos (by omega), if_pos (by omega), if_pos (by omega)]) ?_
      refine Ev.bind (do_is c (rd_T33 l (i : Int)) (by omega)) ?_
      obtain ⟨y, hy, hm⟩ := act_on c (rd_T33 l (i : Int))
      have hlen : (act c (rd_T33 l (i : Int))).1.length ≤ 1000 + 3 * (i + 1) := by rw [hy, List.length_append]; omega
      have := ih (i + 1) _ (by omega) hlen ⟨y ++ x, by rw [hy, List.append_assoc, ← hx]⟩
      rw [show wrap64 ((i : Int) + 1) = ((i + 1 : Nat) : Int) from by rw [w64s (by omega) (by omega)]; rfl]
      exact this
    · refine Ev.step (fun k => ?_) (keeps_end c0 c x hx (by omega))
      simp only [hurdlelaw12_CodeKeeps.l0]
      rw [if_neg (by omega)]
theorem CodeKeeps : Q.CodeKeeps := by
  intro c l _ _ _ _
  refine Ev.rounds ?_
  unfold hurdlelaw12_CodeKeeps.f
  by_cases h : (c.length : Int) > 1000
  · exact Ev.congr (fun k => if_pos h) (Ev.bind knows_is (Ev.now _))
  · exact Ev.congr (fun k => if_neg h) (keeps_from c l 60 0 c (by omega) (by omega) ⟨[], rfl⟩)
end Go.Proofs.YtnchbnnijboklaaDoor.Pure
