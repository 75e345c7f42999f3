/- The pure statement of PruneLeaves is proved: which places are come to, and what is left, by the program's and the document's functions. No condition. -/
import Derived.Test.YtohpbjnihmcelaaDoorPruD
import Derived.Test.YtohpbjnihmcelaaDoorQPruneLeaves
namespace Go.Proofs.YtohpbjnihmcelaaDoor.Pure
set_option linter.unusedVariables false
set_option linter.unusedSimpArgs false
open Go.RowKit Go.Proofs.YtohpbjnihmcelaaDoorW.PrintWords Go.Proofs.YtohpbjnihmcelaaDoorW.PrintLast Go.Proofs.YtohpbjnihmcelaaDoorW.PrintMore Go.Proofs.YtohpbjnihmcelaaDoor.M Go.Proofs.YtohpbjnihmcelaaDoor.InsOps Go.Proofs.YtohpbjnihmcelaaDoor.RightB Go.Proofs.YtohpbjnihmcelaaDoor.ChkB Go.Proofs.YtohpbjnihmcelaaDoor.ChkN Go.Proofs.YtohpbjnihmcelaaDoor.PruA Go.Proofs.YtohpbjnihmcelaaDoor.PruB Go.Proofs.YtohpbjnihmcelaaDoor.PruK
theorem same_from (c : List In) (hc : c.length < 100000) : ∀ (m i : Nat), i + m = c.length → Ev (fun k => hurdleref03_Same.l0 k c c (i : Int)) true := by
  intro m
  induction m with
  | zero =>
    intro i hi
    refine Ev.step (f := fun _ => some true) (fun k => ?_) (Ev.now _)
    simp only [hurdleref03_Same.l0]
    rw [if_neg (by omega)]
  | succ m ih =>
    intro i hi
    refine Ev.step (fun k => ?_) (ih (i + 1) (by omega))
    simp only [hurdleref03_Same.l0]
    rw [if_pos (by omega), if_pos (by omega), if_pos (by omega), if_neg (by simp), wS i (by omega)]
theorem same_is (c : List In) (hc : c.length < 100000) : Ev (fun k => hurdleref03_Same.f k c c) true := by
  unfold hurdleref03_Same.f
  exact Ev.congr (fun k => if_pos rfl) (same_from c hc c.length 0 (by omega))
theorem leaves_from {l : List In} (h : Ok l) : ∀ (d i : Nat), i + d = l.length → Ev (fun k => hurdlelaw23_PruneLeaves.l0 k l (metL l) (prL (metL l) l) (metL l) (i : Int)) true := by
  have hl := h.hl
  have hm := metL_len l
  intro d
  induction d with
  | zero =>
    intro i hi
    refine Ev.step (f := fun k => (hurdleref23_Prune.f k l).bind fun t => (hurdleref03_Same.f k (prL (metL l) l) t).bind fun u => if u = true then (hurdlelaw23_knows.f k).bind fun v => some v else none) (fun k => ?_) ?_
    · simp only [hurdlelaw23_PruneLeaves.l0]
      rw [if_neg (by omega)]
    · have hp := prF_len (metL l) l l.length 0
      exact Ev.bind (rprune_is h) (Ev.bind (same_is _ (by unfold prL; omega)) (Ev.congr (fun k => if_pos rfl) (Ev.bind knows_is (Ev.now _))))
  | succ d ih =>
    intro i hi
    refine Ev.step (fun k => ?_) (ih (i + 1) (by omega))
    simp only [hurdlelaw23_PruneLeaves.l0]
    rw [if_pos (by omega), if_pos (by omega), if_pos (by omega), if_neg (by simp), wS i (by omega)]
theorem PruneLeaves : Q.PruneLeaves := by
  intro l _ hw
  refine Ev.rounds ?_
  unfold hurdlelaw23_PruneLeaves.f
  by_cases hlen : (l.length : Int) > 100
  · exact Ev.congr (fun k => if_pos hlen) (Ev.bind knows_is (Ev.now _))
  · refine Ev.congr (fun k => if_neg hlen) ?_
    have hl : l.length < 100000 := by omega
    by_cases hs : (chk l).2 = 0
    · have h : Ok l := ⟨hl, hw, hs⟩
      refine Ev.bind (met_is h) (Ev.bind (prune_is h) (Ev.bind (rsound_is l hl hw) ?_))
      rw [hs]
      refine Ev.congr (fun k => if_pos rfl) (Ev.bind (rmet_is h) ?_)
      refine Ev.congr (f := fun k => hurdlelaw23_PruneLeaves.j0 k l (metL l) (prL (metL l) l) (metL l) false) (fun k => by rw [if_pos rfl, if_pos rfl]; rfl) ?_
      refine Ev.step (fun k => ?_) (leaves_from h l.length 0 (by omega))
      simp only [hurdlelaw23_PruneLeaves.j0]
      rw [if_neg Bool.false_ne_true]
      rfl
    · refine Ev.bind (met_not hl hw hs) (Ev.bind (prune_not hl hw hs) (Ev.bind (rsound_is l hl hw) ?_))
      rw [show ((chk l).2 == 0) = false from beq_eq_false_iff_ne.mpr hs]
      exact Ev.congr (fun k => by simp) (Ev.bind knows_is (Ev.now _))
end Go.Proofs.YtohpbjnihmcelaaDoor.Pure
