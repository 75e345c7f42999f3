/- The pure statement of PruneAgain is proved: what is pruned has only places that are come to, and is pruned as it is. No condition. -/
import Derived.Test.YtohpbjnihmcelaaDoorPruD
import Derived.Test.YtohpbjnihmcelaaDoorQPruneAgain
namespace Go.Proofs.YtohpbjnihmcelaaDoor.Pure
set_option linter.unusedVariables false
set_option linter.unusedSimpArgs false
open Go.RowKit Go.Proofs.YtohpbjnihmcelaaDoorW.PrintWords Go.Proofs.YtohpbjnihmcelaaDoorW.PrintLast Go.Proofs.YtohpbjnihmcelaaDoorW.PrintMore Go.Proofs.YtohpbjnihmcelaaDoor.M Go.Proofs.YtohpbjnihmcelaaDoor.InsOps Go.Proofs.YtohpbjnihmcelaaDoor.RightB Go.Proofs.YtohpbjnihmcelaaDoor.ChkB Go.Proofs.YtohpbjnihmcelaaDoor.ChkN Go.Proofs.YtohpbjnihmcelaaDoor.PruA Go.Proofs.YtohpbjnihmcelaaDoor.PruB Go.Proofs.YtohpbjnihmcelaaDoor.PruK Go.Proofs.YtohpbjnihmcelaaDoor.PruS
theorem same_from (c : List In) (hc : c.length < 100000) : ∀ (m i : Nat), i + m = c.length → Ev (fun k => hurdleref03_Same.l0 k c c (i : Int)) true := by
  intro m
  induction m with
  | zero =>
    intro i hi
    refine Ev.step (f := fun _ => some true) (fun k => ?_) (Ev.now _)
    simp only [hurdleref03_Same.l0]
    rw [if_neg (by omega)]
  | succ m ih =>
    intro i hi
    refine Ev.step (fun k => ?_) (ih (i + 1) (by omega))
    simp only [hurdleref03_Same.l0]
    rw [if_pos (by omega), if_pos (by omega), if_pos (by omega), if_neg (by simp), wS i (by omega)]
theorem same_is (c : List In) (hc : c.length < 100000) : Ev (fun k => hurdleref03_Same.f k c c) true := by
  unfold hurdleref03_Same.f
  exact Ev.congr (fun k => if_pos rfl) (same_from c hc c.length 0 (by omega))
theorem again_from {l g : List In} (h : Ok l) (hg : g = prL (metL l) l) : ∀ (d i : Nat), i + d = g.length → Ev (fun k => hurdlelaw23_PruneAgain.l0 k g 0 g 0 (metL g) 0 (i : Int)) true := by
  have hk : Ok g := by rw [hg]; exact g_ok h
  have hm := metL_len g
  have hl := hk.hl
  intro d
  induction d with
  | zero =>
    intro i hi
    refine Ev.step (f := fun k => (hurdleref03_Same.f k g g).bind fun t => if t = true then if ((metL g).length : Int) = (g.length : Int) then (hurdlelaw23_knows.f k).bind fun v => some v else none else none) (fun k => ?_) ?_
    · simp only [hurdlelaw23_PruneAgain.l0]
      rw [if_neg (by omega)]
      simp only [if_true]
    · exact Ev.bind (same_is g hl) (Ev.congr (fun k => by rw [if_pos rfl, if_pos (by omega)]) (Ev.bind knows_is (Ev.now _)))
  | succ d ih =>
    intro i hi
    refine Ev.step (fun k => ?_) (ih (i + 1) (by omega))
    have hb : rdOf false (metL g) (i : Int) = true := by
      have e : metL g = List.replicate g.length true := by rw [hg]; exact g_met h
      rw [rdB, e, List.getD_eq_getElem?_getD, List.getElem?_replicate, if_pos (by omega)]
      rfl
    simp only [hurdlelaw23_PruneAgain.l0]
    rw [if_pos (by omega), if_pos (by omega), if_pos hb, wS i (by omega)]
theorem PruneAgain : Q.PruneAgain := by
  intro l _ hw
  refine Ev.rounds ?_
  unfold hurdlelaw23_PruneAgain.f
  have out : Ev (fun k => hurdlelaw23_PruneAgain.j0 k l true) true :=
    Ev.step (f := fun k => (hurdlelaw23_knows.f k).bind fun t => some t) (fun k => by simp [hurdlelaw23_PruneAgain.j0]) (Ev.bind knows_is (Ev.now _))
  by_cases hlen : (l.length : Int) > 100
  · exact Ev.congr (fun k => if_pos hlen) out
  · refine Ev.congr (fun k => if_neg hlen) ?_
    have hl : l.length < 100000 := by omega
    refine Ev.bind (rsound_is l hl hw) ?_
    by_cases hs : (chk l).2 = 0
    · have h : Ok l := ⟨hl, hw, hs⟩
      rw [hs]
      obtain ⟨g, hg⟩ : ∃ g, g = prL (metL l) l := ⟨_, rfl⟩
      have hk : Ok g := by rw [hg]; exact g_ok h
      have e1 := prune_is h
      rw [← hg] at e1
      have e2 := prune_is hk
      rw [show prL (metL g) g = g by rw [hg]; exact g_again h] at e2
      refine Ev.step (f := fun k => (prune_Prune.f k l).bind fun a => (prune_Prune.f k a.1).bind fun b => (prune_Met.f k a.1).bind fun c => hurdlelaw23_PruneAgain.l0 k a.1 a.2 b.1 b.2 c.1 c.2 0) (fun k => ?_) (Ev.bind e1 (Ev.bind e2 (Ev.bind (met_is hk) (again_from h hg g.length 0 (by omega)))))
      simp only [hurdlelaw23_PruneAgain.j0]
      rw [if_neg (by simp)]
    · rw [show ((chk l).2 == 0) = false from beq_eq_false_iff_ne.mpr hs]
      exact out
end Go.Proofs.YtohpbjnihmcelaaDoor.Pure
