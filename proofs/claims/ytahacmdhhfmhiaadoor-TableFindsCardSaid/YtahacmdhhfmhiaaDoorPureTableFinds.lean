/- The pure statement of TableFinds is proved: what was learned is found. No condition. -/
import Derived.Test.YtahacmdhhfmhiaaDoorTabC
import Derived.Test.YtahacmdhhfmhiaaDoorQTableFinds
import Derived.Test.YtahacmdhhfmhiaaDoorMD
import Derived.Test.YtahacmdhhfmhiaaDoorM43
namespace Go.Proofs.YtahacmdhhfmhiaaDoor.Pure
set_option linter.unusedVariables false
set_option linter.unusedSimpArgs false
open Go.RowKit Go.Proofs.YtahacmdhhfmhiaaDoorW.PrintWords Go.Proofs.YtahacmdhhfmhiaaDoorW.PrintLast Go.Proofs.YtahacmdhhfmhiaaDoorW.PrintMore Go.Proofs.YtahacmdhhfmhiaaDoor.M Go.Proofs.YtahacmdhhfmhiaaDoor.InsOps Go.Proofs.YtahacmdhhfmhiaaDoor.RightB Go.Proofs.YtahacmdhhfmhiaaDoor.Hex Go.Proofs.YtahacmdhhfmhiaaDoor.TabA Go.Proofs.YtahacmdhhfmhiaaDoor.TabB Go.Proofs.YtahacmdhhfmhiaaDoor.TabD Go.Proofs.YtahacmdhhfmhiaaDoor.TabL Go.Proofs.YtahacmdhhfmhiaaDoor.TabK
theorem ne_or {x y : S59} (h : x ≠ y) : (!(x.f0 == y.f0) || (!(x.f1 == y.f1) || (!(x.f2 == y.f2) || (!(x.f3 == y.f3))))) = true := by
 obtain ⟨a, b, c, d⟩ := x
 obtain ⟨a', b', c', d'⟩ := y
 refine Classical.byContradiction fun hn => h ?_
 simp at hn
 obtain ⟨rfl, rfl, rfl, rfl⟩ := hn
 rfl
theorem tsame_from {a b : List S59} (hl : a.length = b.length) (hn : a.length < 100000) : ∀ d i, i + d = a.length → ∃ v, Ev (fun k => table_same.l0 k a b (a.length : Int) (i : Int)) v ∧ (v = true ↔ a.drop i = b.drop i) := by
 intro d
 induction d with
 | zero =>
  intro i hi
  refine ⟨true, Ev.step (f := fun _ => some true) (fun k => by rw [table_same.l0, if_neg (by omega)]) (Ev.now _), ?_⟩
  rw [List.drop_of_length_le (by omega), List.drop_of_length_le (by omega)]
  simp
 | succ d ih =>
  intro i hi
  have hia : i < a.length := by omega
  have hib : i < b.length := by omega
  by_cases e : a[i] = b[i]
  ·obtain ⟨v, hv, hv2⟩ := ih (i + 1) (by omega)
   refine ⟨v, Ev.step (fun k => ?_) hv, ?_⟩
   ·rw [table_same.l0, if_pos (by omega), if_pos (by omega), if_pos (by omega), if_pos (by omega), CodecB.rd_at a i hia, CodecB.rd_at b i hib, e, if_neg (by simp), CodecB.wS i (by omega)]
   ·rw [hv2, List.drop_eq_getElem_cons hia, List.drop_eq_getElem_cons hib, e]
    exact ⟨fun h => by rw [h], fun h => (List.cons.inj h).2⟩
  ·refine ⟨false, Ev.step (f := fun _ => some false) (fun k => ?_) (Ev.now _), ?_⟩
   ·rw [table_same.l0, if_pos (by omega), if_pos (by omega), if_pos (by omega), if_pos (by omega), CodecB.rd_at a i hia, CodecB.rd_at b i hib, if_pos (ne_or e)]
   ·rw [List.drop_eq_getElem_cons hia, List.drop_eq_getElem_cons hib]
    exact ⟨fun h => Bool.noConfusion h, fun h => absurd (List.cons.inj h).1 e⟩
theorem rsame_from {a b : List S59} (hl : a.length = b.length) (hn : a.length < 100000) : ∀ d i, i + d = a.length → ∃ v, Ev (fun k => r03_Same.l0 k a b (i : Int)) v ∧ (v = true ↔ a.drop i = b.drop i) := by
 intro d
 induction d with
 | zero =>
  intro i hi
  refine ⟨true, Ev.step (f := fun _ => some true) (fun k => by rw [r03_Same.l0, if_neg (by omega)]) (Ev.now _), ?_⟩
  rw [List.drop_of_length_le (by omega), List.drop_of_length_le (by omega)]
  simp
 | succ d ih =>
  intro i hi
  have hia : i < a.length := by omega
  have hib : i < b.length := by omega
  by_cases e : a[i] = b[i]
  ·obtain ⟨v, hv, hv2⟩ := ih (i + 1) (by omega)
   refine ⟨v, Ev.step (fun k => ?_) hv, ?_⟩
   ·rw [r03_Same.l0, if_pos (by omega), if_pos (by omega), if_pos (by omega), CodecB.rd_at a i hia, CodecB.rd_at b i hib, e, if_neg (by simp), CodecB.wS i (by omega)]
   ·rw [hv2, List.drop_eq_getElem_cons hia, List.drop_eq_getElem_cons hib, e]
    exact ⟨fun h => by rw [h], fun h => (List.cons.inj h).2⟩
  ·refine ⟨false, Ev.step (f := fun _ => some false) (fun k => ?_) (Ev.now _), ?_⟩
   ·rw [r03_Same.l0, if_pos (by omega), if_pos (by omega), if_pos (by omega), CodecB.rd_at a i hia, CodecB.rd_at b i hib, if_pos (ne_or e)]
   ·rw [List.drop_eq_getElem_cons hia, List.drop_eq_getElem_cons hib]
    exact ⟨fun h => Bool.noConfusion h, fun h => absurd (List.cons.inj h).1 e⟩
theorem tsame_is (a b : List S59) (hn : a.length < 100000) : ∃ v, Ev (fun k => table_same.f k a b) v ∧ (v = true ↔ a = b) := by
 unfold table_same.f
 by_cases hl : a.length = b.length
 ·obtain ⟨v, hv, h2⟩ := tsame_from hl hn a.length 0 (by omega)
  exact ⟨v, Ev.congr (fun k => if_pos (by omega)) hv, h2⟩
 ·exact ⟨false, Ev.congr (fun k => if_neg (by omega)) (Ev.now _), ⟨fun h => Bool.noConfusion h, fun h => absurd (congrArg List.length h) hl⟩⟩
theorem rsame_is (a b : List S59) (hn : a.length < 100000) : ∃ v, Ev (fun k => r03_Same.f k a b) v ∧ (v = true ↔ a = b) := by
 unfold r03_Same.f
 by_cases hl : a.length = b.length
 ·obtain ⟨v, hv, h2⟩ := rsame_from hl hn a.length 0 (by omega)
  exact ⟨v, Ev.congr (fun k => if_pos (by omega)) hv, h2⟩
 ·exact ⟨false, Ev.congr (fun k => if_neg (by omega)) (Ev.now _), ⟨fun h => Bool.noConfusion h, fun h => absurd (congrArg List.length h) hl⟩⟩
theorem live_is {v : Int} (h0 : 0 ≤ v) (h1 : v < 262144) : Go.bits .and .u32 v 262143 = v := by
 obtain ⟨n, rfl⟩ := Int.eq_ofNat_of_zero_le h0
 have h : n &&& 262143 = n := by
  rw [show (262143 : Nat) = 2 ^ 18 - 1 by decide, Nat.and_two_pow_sub_one_eq_mod]
  exact Nat.mod_eq_of_lt (by omega)
 have := Go.u32_and_nat n 262143 (by omega) (by decide)
 rw [h] at this
 exact this
theorem finds_from {u : List Ru} (h : Wt u) {x : Ru} (hx : Wr x) (mx : may x = true) : ∀ d i, i + d = u.length → x ∈ u.drop i →
  ∃ z : Ru, z.f1.length < 100000 ∧ Ev (fun k => table_Find.l0 k x.f0 x.f2 u (u.length : Int) (i : Int)) (z.f1, true) ∧ Ev (fun k => l21_TableFinds.l0 k u 0 z.f1 true (i : Int) x.f0 x.f1 x.f2) true := by
 have hl := h.n
 have hv := live_is hx.v0 (may_un mx).2.2.2
 have kn : Ev (fun k => (l21_knows.f k).bind fun t => some t) true := Ev.bind knows_is (Ev.now _)
 intro d
 induction d with
 | zero =>
  intro i hi hm
  rw [List.drop_of_length_le (by omega)] at hm
  cases hm
 | succ d ih =>
  intro i hi hm
  have hil : i < u.length := by omega
  have w := h.w _ (List.getElem_mem hil)
  obtain ⟨v1, e1, i1⟩ := tsame_is u[i].f0 x.f0 w.l0
  obtain ⟨v2, e2, i2⟩ := rsame_is u[i].f0 x.f0 w.l0
  have s1 : ∀ k, table_Find.l0 (k + 1) x.f0 x.f2 u (u.length : Int) (i : Int) = _ := fun k => by
   rw [table_Find.l0, if_pos (by omega), if_pos (by omega), if_pos (by omega), rd_ru u i hil, hv]
  by_cases m : u[i].f0 = x.f0 ∧ u[i].f2 = x.f2
  ·obtain rfl : v1 = true := i1.2 m.1
   obtain rfl : v2 = true := i2.2 m.1
   obtain ⟨v3, e3, i3⟩ := rsame_is u[i].f1 u[i].f1 w.l1
   obtain rfl : v3 = true := i3.2 rfl
   refine ⟨u[i], w.l1, ?_, ?_⟩
   ·refine Ev.step s1 (Ev.bind e1 (Ev.congr (f := fun _ => some (u[i].f1, true)) (fun k => (if_pos rfl).trans ((if_pos m.2.symm).trans (if_pos ?_))) (Ev.now _)))
    have := w.l1
    show 0 + u[i].f1.length < 4398046511104
    omega
   ·exact Ev.step (fun k => by rw [l21_TableFinds.l0, if_pos (by omega), if_pos (by omega), rd_ru u i hil]) (Ev.bind e2 (Ev.congr (fun k => (if_pos rfl).trans (if_pos m.2)) (Ev.bind e3 (Ev.congr (fun k => (if_pos rfl).trans ((if_pos rfl).trans (if_pos rfl))) kn))))
  ·rw [List.drop_eq_getElem_cons hil] at hm
   have hm' : x ∈ u.drop (i + 1) := by
    rcases List.mem_cons.1 hm with e | e
    ·exact absurd ⟨congrArg (·.f0) e.symm, congrArg (·.f2) e.symm⟩ m
    ·exact e
   obtain ⟨z, hz, f1, f2⟩ := ih (i + 1) (by omega) hm'
   rw [← CodecB.wS i (by omega)] at f1 f2
   refine ⟨z, hz, ?_, ?_⟩
   ·refine Ev.step s1 (Ev.bind e1 ?_)
    cases v1
    ·exact Ev.congr (fun k => if_neg Bool.false_ne_true) f1
    ·have q : ¬ x.f2 = u[i].f2 := fun q => m ⟨i1.1 rfl, q.symm⟩
     exact Ev.congr (fun k => (if_pos rfl).trans (if_neg q)) f1
   ·refine Ev.step (fun k => by rw [l21_TableFinds.l0, if_pos (by omega), if_pos (by omega), rd_ru u i hil]) (Ev.bind e2 ?_)
    cases v2
    ·exact Ev.congr (fun k => if_neg Bool.false_ne_true) f2
    ·have q : ¬ u[i].f2 = x.f2 := fun q => m ⟨i2.1 rfl, q⟩
     exact Ev.congr (fun k => (if_pos rfl).trans (if_neg q)) f2
theorem finds_j0 {t : List Ru} (h : Tb t) (hl : t.length ≤ 60) {x : Ru} (hx : Wr x) (mx : may x = true) : Ev (fun k => l21_TableFinds.j0 k t false x.f0 x.f1 x.f2) true := by
 have l1 := len_ins t x
 have a1 := tb_ins h (by omega) hx mx
 have e1 := learn_is h.w (tb_rg h (by omega)) (by omega) hx mx
 obtain ⟨z, hz, f1, f2⟩ := finds_from a1.w hx mx (ins t x).length 0 (by omega) ((mem_iff h hx mx x).2 (.inr rfl))
 have hr := right_is a1.w
 rw [tb_rg a1 (by omega)] at hr
 have ef : Ev (fun k => table_Find.f k (ins t x) x.f0 x.f2) (z.f1, true) := Ev.bind hr (Ev.congr (fun k => if_pos rfl) f1)
 exact Ev.step (fun k => by rw [l21_TableFinds.j0, if_neg Bool.false_ne_true]) (Ev.bind e1 (Ev.bind ef f2))
theorem TableFinds : Q.TableFinds := by
 intro t x0 x1 x2 hl hw _ wx0 _ wx1 wx2
 simp only [maxLen] at hl
 refine Ev.rounds ?_
 unfold l21_TableFinds.f
 have kn : Ev (fun k => (l21_knows.f k).bind fun t => some t) true := Ev.bind knows_is (Ev.now _)
 have out : Ev (fun k => l21_TableFinds.j0 k t true x0 x1 x2) true := Ev.step (fun k => by rw [l21_TableFinds.j0, if_pos rfl]) kn
 refine Ev.bind (great_is t (by omega)) ?_
 cases hg : grN t
 ·refine Ev.congr (fun k => if_neg Bool.false_ne_true) (Ev.bind (great_is [⟨x0, x1, x2⟩] (by simp)) ?_)
  cases hg2 : grN [⟨x0, x1, x2⟩]
  ·have h2 := wt_of (t := [⟨x0, x1, x2⟩]) (fun x hx => by
    rw [List.mem_singleton.1 hx]
    exact ⟨wx0, wx1, wx2⟩) hg2
   have hx := h2.w ⟨x0, x1, x2⟩ List.mem_cons_self
   have h := wt_of (fun x hx => ⟨(hw x hx).1.2, (hw x hx).2.1.2, (hw x hx).2.2⟩) hg
   refine Ev.congr (fun k => if_neg Bool.false_ne_true) ?_
   by_cases h60 : (t.length : Int) > 60
   ·exact Ev.congr (fun k => if_pos h60) out
   ·refine Ev.congr (fun k => if_neg h60) (Ev.bind (as_is t h.n) (Ev.bind (rright_is h) ?_))
    cases hr : rg t
    ·exact Ev.congr (fun k => if_neg Bool.false_ne_true) out
    ·have ex : Ev (fun k => r21_May.f k x0 x1 x2) (may ⟨x0, x1, x2⟩) := rmay_is hx.l0 hx.l1 hx.w0 hx.w1 x2
     refine Ev.congr (fun k => (if_pos rfl).trans (Option.bind_some _ _)) (Ev.bind ex ?_)
     cases mx : may ⟨x0, x1, x2⟩
     ·exact out
     ·exact finds_j0 (tb_of h hr) (by omega) hx mx
  ·exact Ev.congr (fun k => if_pos rfl) out
 ·exact Ev.congr (fun k => if_pos rfl) out
end Go.Proofs.YtahacmdhhfmhiaaDoor.Pure
