/- The pure statement of TableLearns is proved: a table with one rule more, and what it finds for a window, is what the document says, or the error is told. No condition. -/
import Derived.Test.YtahacmdhhfmhiaaDoorTabC
import Derived.Test.YtahacmdhhfmhiaaDoorQTableLearns
namespace Go.Proofs.YtahacmdhhfmhiaaDoor.Pure
set_option linter.unusedVariables false
set_option linter.unusedSimpArgs false
open Go.RowKit Go.Proofs.YtahacmdhhfmhiaaDoorW.PrintWords Go.Proofs.YtahacmdhhfmhiaaDoorW.PrintLast Go.Proofs.YtahacmdhhfmhiaaDoorW.PrintMore Go.Proofs.YtahacmdhhfmhiaaDoor.M Go.Proofs.YtahacmdhhfmhiaaDoor.InsOps Go.Proofs.YtahacmdhhfmhiaaDoor.RightB Go.Proofs.YtahacmdhhfmhiaaDoor.Hex Go.Proofs.YtahacmdhhfmhiaaDoor.TabA Go.Proofs.YtahacmdhhfmhiaaDoor.TabB Go.Proofs.YtahacmdhhfmhiaaDoor.TabD Go.Proofs.YtahacmdhhfmhiaaDoor.TabL Go.Proofs.YtahacmdhhfmhiaaDoor.TabV Go.Proofs.YtahacmdhhfmhiaaDoor.TabK
theorem learns_j0 {t : List Ru} (h : Wt t) (hl : t.length ≤ 100) {x : Ru} (hx : Wr x) {live : Int} (h0 : 0 ≤ live) (h1 : live < 4294967296) : Ev (fun k => l21_TableLearns.j0 k t live false x.f0 x.f1 x.f2) true := by
 have kn : Ev (fun k => (l21_knows.f k).bind fun t => some t) true := Ev.bind knows_is (Ev.now _)
 have hA := as_is t (by omega)
 have hw := lrn_wt h hl hx
 have hB := as_is (lrn t x).1 hw.n
 have hS := same_is (lrn t x).1 hw
 have hF := CodecB.same_is (fndT t x.f0 live).1 (fndT_len h x.f0 live)
 refine Ev.step (fun k => by rw [l21_TableLearns.j0, if_neg Bool.false_ne_true]) ?_
 refine Ev.bind (learn_all h hx) (Ev.bind hA ?_)
 refine Ev.congr (fun k => show _ = (r21_Learn.f k (t.map toR) x.f0 x.f1 x.f2).bind _ from rfl) ?_
 refine Ev.bind (rlearn_all h hx) (Ev.bind (find_is h x.f0 h0 h1) (Ev.bind hA (Ev.bind (rfind_is h x.f0 live) (Ev.bind hB (Ev.bind hS ?_)))))
 exact Ev.congr (fun k => (if_pos rfl).trans (if_pos rfl)) (Ev.bind hF (Ev.congr (fun k => (if_pos rfl).trans (if_pos (by simp))) kn))
theorem gr_len {t : List Ru} (hg : grN t = false) : t.length ≤ 100 := by
 unfold grN at hg
 rw [Bool.or_eq_false_iff, decide_eq_false_iff_not] at hg
 omega
theorem TableLearns : Q.TableLearns := by
 intro t x0 x1 x2 live hl hw _ wx0 _ wx1 wx2 wl
 simp only [maxLen] at hl
 refine Ev.rounds ?_
 unfold l21_TableLearns.f
 have kn : Ev (fun k => (l21_knows.f k).bind fun t => some t) true := Ev.bind knows_is (Ev.now _)
 have out : Ev (fun k => l21_TableLearns.j0 k t live true x0 x1 x2) true := Ev.step (fun k => by rw [l21_TableLearns.j0, if_pos rfl]) kn
 refine Ev.bind (great_is t (by omega)) ?_
 cases hg : grN t
 ·refine Ev.congr (fun k => if_neg Bool.false_ne_true) (Ev.bind (great_is [⟨x0, x1, x2⟩] (by simp)) ?_)
  cases hg2 : grN [⟨x0, x1, x2⟩]
  ·have h2 := wt_of (t := [⟨x0, x1, x2⟩]) (fun x hx => by
    rw [List.mem_singleton.1 hx]
    exact ⟨wx0, wx1, wx2⟩) hg2
   have hx := h2.w ⟨x0, x1, x2⟩ List.mem_cons_self
   have h := wt_of (fun x hx => ⟨(hw x hx).1.2, (hw x hx).2.1.2, (hw x hx).2.2⟩) hg
   have r := ChkB.u32_range wl
   exact learns_j0 h (gr_len hg) hx r.1 r.2
  ·exact out
 ·exact Ev.congr (fun k => if_pos rfl) out
end Go.Proofs.YtahacmdhhfmhiaaDoor.Pure
