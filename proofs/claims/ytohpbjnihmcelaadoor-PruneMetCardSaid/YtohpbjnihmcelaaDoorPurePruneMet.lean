/- The pure statement of PruneMet is proved: place 0 is come to, and a run has no more instructions than there are places that are come to, by the program's and the document's functions. No condition. -/
import Derived.Test.YtohpbjnihmcelaaDoorRunX
import Derived.Test.YtohpbjnihmcelaaDoorPruD
import Derived.Test.YtohpbjnihmcelaaDoorQPruneMet
namespace Go.Proofs.YtohpbjnihmcelaaDoor.Pure
set_option linter.unusedVariables false
set_option linter.unusedSimpArgs false
open Go.RowKit Go.Proofs.YtohpbjnihmcelaaDoorW.PrintWords Go.Proofs.YtohpbjnihmcelaaDoorW.PrintLast Go.Proofs.YtohpbjnihmcelaaDoorW.PrintMore Go.Proofs.YtohpbjnihmcelaaDoor.M Go.Proofs.YtohpbjnihmcelaaDoor.InsOps Go.Proofs.YtohpbjnihmcelaaDoor.RightB Go.Proofs.YtohpbjnihmcelaaDoor.ChkB Go.Proofs.YtohpbjnihmcelaaDoor.ChkN Go.Proofs.YtohpbjnihmcelaaDoor.PruA Go.Proofs.YtohpbjnihmcelaaDoor.PruB Go.Proofs.YtohpbjnihmcelaaDoor.PruK Go.Proofs.YtohpbjnihmcelaaDoor.PruS Go.Proofs.YtohpbjnihmcelaaDoor.PruG
theorem met_from {l : List In} (h : Ok l) (n r p : Int) (q : List Int) : ∀ (d i : Nat), i + d = l.length → Ev (fun k => l23_PruneMet.l0 k l (metL l) ((cnt (metL l) i : Nat) : Int) (i : Int) n r p q) true := by
 have hl := h.hl
 have hm := metL_len l
 intro d
 induction d with
 | zero =>
  intro i hi
  obtain ⟨v, u, hu, e1, _⟩ := run_pr h n r p q
  have e : i = l.length := by omega
  refine Ev.step (fun k => by rw [l23_PruneMet.l0, if_neg (by omega)]) (Ev.bind e1 (Ev.congr (fun k => if_pos (show u ≤ ((cnt (metL l) i : Nat) : Int) by rw [e]; exact hu)) (Ev.bind knows_is (Ev.now _))))
 | succ d ih =>
  intro i hi
  have hc := cnt_succ (metL l) i (by omega)
  have hle := cnt_le (metL l) i
  have hi2 := ih (i + 1) (by omega)
  refine Ev.step (fun k => ?_) hi2
  simp only [l23_PruneMet.l0]
  rw [if_pos (by omega), if_pos (by omega), rdB, wS i (by omega)]
  cases hb : (metL l).getD i false
  ·rw [hb] at hc
   rw [if_neg Bool.false_ne_true, hc, if_neg Bool.false_ne_true]; rfl
  ·rw [hb] at hc
   rw [if_pos rfl, hc, if_pos rfl, wS (cnt (metL l) i) (by omega)]
theorem PruneMet : Q.PruneMet := by
 intro l n r p q _ hw
 refine Ev.rounds ?_
 unfold l23_PruneMet.f
 have out : Ev (fun k => l23_PruneMet.j0 k l true n r p q) true :=
  Ev.step (f := fun k => (l23_knows.f k).bind fun t => some t) (fun k => by rw [l23_PruneMet.j0, if_pos rfl]) (Ev.bind knows_is (Ev.now _))
 by_cases hlen : (l.length : Int) > 100
 ·exact Ev.congr (fun k => if_pos hlen) out
 ·refine Ev.congr (fun k => if_neg hlen) ?_
  have hl : l.length < 100000 := by omega
  refine Ev.bind (rsound_is l hl hw) ?_
  by_cases hs : (chk l).2 = 0
  ·have h : Ok l := ⟨hl, hw, hs⟩
   have h0 := ok_ne h
   rw [hs]
   have hm := metL_len l
   have hz : rdOf false (metL l) 0 = true := (metL_at h h0 0).mpr (.refl 0)
   have go : Ev (fun k => l23_PruneMet.j1 k l (metL l) (!(rdOf false (metL l) 0)) n r p q) true := by
    have e := met_from h n r p q l.length 0 (by omega)
    rw [cnt_zero] at e
    have e : Ev (fun k => l23_PruneMet.l0 k l (metL l) 0 0 n r p q) true := e
    rw [hz]
    exact Ev.step (fun k => by rw [l23_PruneMet.j1, if_neg (show ¬ (!true) = true by decide)]) e
   have h1 : ((metL l).length : Int) = (l.length : Int) := by omega
   have h2 : (0 : Int) < ((metL l).length : Int) := by omega
   exact Ev.step (fun k => by rw [l23_PruneMet.j0, if_neg (show ¬ (!((0 : Int) == 0)) = true by decide)]) (Ev.bind (met_is h) (Ev.congr (fun k => (if_pos rfl).trans ((if_pos h1).trans (if_pos h2))) go))
  ·rw [show ((chk l).2 == 0) = false from beq_eq_false_iff_ne.mpr hs]
   exact out
end Go.Proofs.YtohpbjnihmcelaaDoor.Pure
