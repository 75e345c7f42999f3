/- The pure statement of TableOrders is proved: in whichever order two rules are learned, the table is the same. No condition. -/
import Derived.Test.YtahacmdhhfmhiaaDoorTabC
import Derived.Test.YtahacmdhhfmhiaaDoorQTableOrders
namespace Go.Proofs.YtahacmdhhfmhiaaDoor.Pure
set_option linter.unusedVariables false
set_option linter.unusedSimpArgs false
open Go.RowKit Go.Proofs.YtahacmdhhfmhiaaDoorW.PrintWords Go.Proofs.YtahacmdhhfmhiaaDoorW.PrintLast Go.Proofs.YtahacmdhhfmhiaaDoorW.PrintMore Go.Proofs.YtahacmdhhfmhiaaDoor.M Go.Proofs.YtahacmdhhfmhiaaDoor.InsOps Go.Proofs.YtahacmdhhfmhiaaDoor.RightB Go.Proofs.YtahacmdhhfmhiaaDoor.Hex Go.Proofs.YtahacmdhhfmhiaaDoor.TabA Go.Proofs.YtahacmdhhfmhiaaDoor.TabB Go.Proofs.YtahacmdhhfmhiaaDoor.TabD Go.Proofs.YtahacmdhhfmhiaaDoor.TabL Go.Proofs.YtahacmdhhfmhiaaDoor.TabK
theorem orders_j0 {t : List Ru} (h : Tb t) (hl : t.length ≤ 60) {x y : Ru} (hx : Wr x) (mx : may x = true) (hy : Wr y) (my : may y = true) : Ev (fun k => l21_TableOrders.j0 k t false x.f0 x.f1 x.f2 y.f0 y.f1 y.f2) true := by
 have l1 := len_ins t x
 have l2 := len_ins (ins t x) y
 have l3 := len_ins t y
 have l4 := len_ins (ins t y) x
 have a1 := tb_ins h (by omega) hx mx
 have a2 := tb_ins a1 (by omega) hy my
 have b1 := tb_ins h (by omega) hy my
 have b2 := tb_ins b1 (by omega) hx mx
 have c2 := tb_ins a2 (by omega) hx mx
 have eb : ins (ins t y) x = ins (ins t x) y := up_one _ _ b2.u a2.u fun z => by
  rw [mem_iff b1 hx mx, mem_iff h hy my, mem_iff a1 hy my, mem_iff h hx mx]
  constructor
  ·rintro ((h | h) | h)
   ·exact .inl (.inl h)
   ·exact .inr h
   ·exact .inl (.inr h)
  ·rintro ((h | h) | h)
   ·exact .inl (.inl h)
   ·exact .inr h
   ·exact .inl (.inr h)
 have ec : ins (ins (ins t x) y) x = ins (ins t x) y := up_one _ _ c2.u a2.u fun z => by
  rw [mem_iff a2 hx mx]
  refine ⟨fun hz => ?_, .inl⟩
  rcases hz with hz | rfl
  ·exact hz
  ·exact (mem_iff a1 hy my z).2 (.inl ((mem_iff h hx mx z).2 (.inr rfl)))
 have e1 := learn_is h.w (tb_rg h (by omega)) (by omega) hx mx
 have e2 := learn_is a1.w (tb_rg a1 (by omega)) (by omega) hy my
 have e3 := learn_is h.w (tb_rg h (by omega)) (by omega) hy my
 have e4 := learn_is b1.w (tb_rg b1 (by omega)) (by omega) hx mx
 have e5 := learn_is a2.w (tb_rg a2 (by omega)) (by omega) hx mx
 rw [eb] at e4
 rw [ec] at e5
 have hA := as_is _ a2.w.n
 have hS := same_is _ a2.w
 have hr := right_is a2.w
 rw [tb_rg a2 (by omega)] at hr
 have kn : Ev (fun k => (l21_knows.f k).bind fun t => some t) true := Ev.bind knows_is (Ev.now _)
 exact Ev.step (fun k => by rw [l21_TableOrders.j0, if_neg Bool.false_ne_true]) (Ev.bind e1 (Ev.bind e2 (Ev.bind e3 (Ev.bind e4 (Ev.bind e5 (Ev.congr (fun k => (if_pos rfl).trans ((if_pos rfl).trans ((if_pos rfl).trans ((if_pos rfl).trans (if_pos rfl))))) (Ev.bind hA (Ev.bind hA (Ev.bind hS (Ev.congr (fun k => if_pos rfl) (Ev.bind hA (Ev.bind hA (Ev.bind hS (Ev.congr (fun k => if_pos rfl) (Ev.bind hr (Ev.congr (fun k => if_pos rfl) kn))))))))))))))))
theorem TableOrders : Q.TableOrders := by
 intro t x0 x1 x2 y0 y1 y2 hl hw _ wx0 _ wx1 wx2 _ wy0 _ wy1 wy2
 simp only [maxLen] at hl
 refine Ev.rounds ?_
 unfold l21_TableOrders.f
 have kn : Ev (fun k => (l21_knows.f k).bind fun t => some t) true := Ev.bind knows_is (Ev.now _)
 have out : Ev (fun k => l21_TableOrders.j0 k t true x0 x1 x2 y0 y1 y2) true := Ev.step (fun k => by rw [l21_TableOrders.j0, if_pos rfl]) kn
 refine Ev.bind (great_is t (by omega)) ?_
 cases hg : grN t
 ·refine Ev.congr (fun k => if_neg Bool.false_ne_true) (Ev.bind (great_is [⟨x0, x1, x2⟩, ⟨y0, y1, y2⟩] (by simp)) ?_)
  cases hg2 : grN [⟨x0, x1, x2⟩, ⟨y0, y1, y2⟩]
  ·have h2 := wt_of (t := [⟨x0, x1, x2⟩, ⟨y0, y1, y2⟩]) (fun x hx => by
    rcases List.mem_cons.1 hx with rfl | hx
    ·exact ⟨wx0, wx1, wx2⟩
    ·rw [List.mem_singleton.1 hx]
     exact ⟨wy0, wy1, wy2⟩) hg2
   have hx := h2.w ⟨x0, x1, x2⟩ List.mem_cons_self
   have hy := h2.w ⟨y0, y1, y2⟩ (List.mem_cons_of_mem _ List.mem_cons_self)
   have h := wt_of (fun x hx => ⟨(hw x hx).1.2, (hw x hx).2.1.2, (hw x hx).2.2⟩) hg
   refine Ev.congr (fun k => if_neg Bool.false_ne_true) ?_
   by_cases h60 : (t.length : Int) > 60
   ·exact Ev.congr (fun k => if_pos h60) out
   ·refine Ev.congr (fun k => if_neg h60) (Ev.bind (as_is t h.n) (Ev.bind (rright_is h) ?_))
    cases hr : rg t
    ·exact Ev.congr (fun k => if_neg Bool.false_ne_true) out
    ·have ex : Ev (fun k => r21_May.f k x0 x1 x2) (may ⟨x0, x1, x2⟩) := rmay_is hx.l0 hx.l1 hx.w0 hx.w1 x2
     have ey : Ev (fun k => r21_May.f k y0 y1 y2) (may ⟨y0, y1, y2⟩) := rmay_is hy.l0 hy.l1 hy.w0 hy.w1 y2
     refine Ev.congr (fun k => (if_pos rfl).trans (Option.bind_some _ _)) (Ev.bind ex ?_)
     cases mx : may ⟨x0, x1, x2⟩
     ·exact Ev.congr (fun k => if_neg Bool.false_ne_true) out
     ·refine Ev.congr (fun k => (if_pos rfl).trans (Option.bind_some _ _)) (Ev.bind ey ?_)
      cases my : may ⟨y0, y1, y2⟩
      ·exact out
      ·exact orders_j0 (tb_of h hr) (by omega) hx mx hy my
  ·exact Ev.congr (fun k => if_pos rfl) out
 ·exact Ev.congr (fun k => if_pos rfl) out
end Go.Proofs.YtahacmdhhfmhiaaDoor.Pure
