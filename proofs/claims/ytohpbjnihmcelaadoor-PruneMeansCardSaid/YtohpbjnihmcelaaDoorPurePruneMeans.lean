/- The pure statement of PruneMeans is proved: what is pruned is sound, and a run of it comes to the same by as many instructions, by the program's and the document's functions. No condition. -/
import Derived.Test.YtohpbjnihmcelaaDoorRunX
import Derived.Test.YtohpbjnihmcelaaDoorPruD
import Derived.Test.YtohpbjnihmcelaaDoorQPruneMeans
namespace Go.Proofs.YtohpbjnihmcelaaDoor.Pure
set_option linter.unusedVariables false
set_option linter.unusedSimpArgs false
open Go.RowKit Go.Proofs.YtohpbjnihmcelaaDoorW.PrintWords Go.Proofs.YtohpbjnihmcelaaDoorW.PrintLast Go.Proofs.YtohpbjnihmcelaaDoorW.PrintMore Go.Proofs.YtohpbjnihmcelaaDoor.M Go.Proofs.YtohpbjnihmcelaaDoor.InsOps Go.Proofs.YtohpbjnihmcelaaDoor.RightB Go.Proofs.YtohpbjnihmcelaaDoor.ChkB Go.Proofs.YtohpbjnihmcelaaDoor.ChkN Go.Proofs.YtohpbjnihmcelaaDoor.PruA Go.Proofs.YtohpbjnihmcelaaDoor.PruB Go.Proofs.YtohpbjnihmcelaaDoor.PruK Go.Proofs.YtohpbjnihmcelaaDoor.PruS Go.Proofs.YtohpbjnihmcelaaDoor.PruG
theorem PruneMeans : Q.PruneMeans := by
 intro l n r p q _ hw
 refine Ev.rounds ?_
 unfold l23_PruneMeans.f
 have out : Ev (fun k => l23_PruneMeans.j0 k l true n r p q) true :=
  Ev.step (f := fun k => (l23_knows.f k).bind fun t => some t) (fun k => by rw [l23_PruneMeans.j0, if_pos rfl]) (Ev.bind knows_is (Ev.now _))
 by_cases hlen : (l.length : Int) > 100
 ·exact Ev.congr (fun k => if_pos hlen) out
 ·refine Ev.congr (fun k => if_neg hlen) ?_
  have hl : l.length < 100000 := by omega
  refine Ev.bind (rsound_is l hl hw) ?_
  by_cases hs : (chk l).2 = 0
  ·have h : Ok l := ⟨hl, hw, hs⟩
   rw [hs]
   have hk := g_ok h
   have hg := g_len h
   have hc := cnt_le (metL l) l.length
   obtain ⟨v, u, _, e1, e2⟩ := run_pr h n r p q
   have s1 := sound_is _ hk.hl hk.hw
   have s2 := rsound_is _ hk.hl hk.hw
   rw [hk.hs] at s1 s2
   have last : Ev (fun k => l23_PruneMeans.j1 k l (prL (metL l) l) false n r p q) true :=
    Ev.step (fun k => by rw [l23_PruneMeans.j1, if_neg Bool.false_ne_true]) (Ev.bind e1 (Ev.bind e2 (Ev.congr (fun k => (if_pos rfl).trans (if_pos rfl)) (Ev.bind knows_is (Ev.now _)))))
   have d0 : decide (((prL (metL l) l).length : Int) > (l.length : Int)) = false := decide_eq_false (by omega)
   refine Ev.step (fun k => by rw [l23_PruneMeans.j0, if_neg (show ¬ (!((0 : Int) == 0)) = true by decide)]) (Ev.bind (prune_is h) (Ev.congr (fun k => if_pos rfl) (Ev.bind s1 (Ev.congr (fun k => if_pos rfl) (Ev.bind s2 (Ev.congr (fun k => if_pos rfl) ?_))))))
   show Ev (fun k => l23_PruneMeans.j1 k l (prL (metL l) l) (decide (((prL (metL l) l).length : Int) > (l.length : Int))) n r p q) true
   rw [d0]
   exact last
  ·rw [show ((chk l).2 == 0) = false from beq_eq_false_iff_ne.mpr hs]
   exact out
end Go.Proofs.YtohpbjnihmcelaaDoor.Pure
