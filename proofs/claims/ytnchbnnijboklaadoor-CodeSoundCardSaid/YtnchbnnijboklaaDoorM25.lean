/- By a program of this session: what Go functions of the seat compute, as Lean functions, each with a proof that the call of the Go function comes to that. -/
import Derived.Test.YtnchbnnijboklaaDoorM0
import Derived.Test.YtnchbnnijboklaaDoorM10
import Derived.Test.YtnchbnnijboklaaDoorM19
import Derived.Test.YtnchbnnijboklaaDoorM24
namespace Go.Proofs.YtnchbnnijboklaaDoor.M
open Go.RowKit Go.Proofs.YtnchbnnijboklaaDoorW.PrintWords Go.Proofs.YtnchbnnijboklaaDoorW.PrintLast Go.Proofs.YtnchbnnijboklaaDoorW.PrintMore
attribute [local go_sem] max2_int min2_int max_two min_two max_three min_three max_four min_four   -- for this text's walks alone
set_option linter.unusedVariables false
set_option linter.unusedSimpArgs false
mutual
def hurdleref06_From.j0 : Nat → List (S30) → Int → Int → Int → List Int → Int → Int → Int → List Int → Int → Int → Int → Int → Option (Int × Int)
 | 0, _, _, _, _, _, _, _, _, _, _, _, _, _ => none
 | k + 1, x0, x11, x332000, x332001, x332002, x333000, x333001, x333002, x333003, x335000, x335001, x335002, x335003 => (hurdleref02_Branch.f k x335000 x335001 x335002 x335003).bind fun t335 => (if t335 = true then ((hurdleref06_Takes.f k x332000 x332001 x332002 x335000 x335001 x335002 x335003).bind fun t336 => (if t336 = true then (hurdleref06_From.j1 k x0 (wrap64 (x11 + x335001)) x332000 x332001 x332002 x333000 x333001 x333002 x333003 x335000 x335001 x335002 x335003) else (hurdleref06_From.j1 k x0 (wrap64 (x11 + x335002)) x332000 x332001 x332002 x333000 x333001 x333002 x333003 x335000 x335001 x335002 x335003))) else (hurdleref06_From.j1 k x0 x11 x332000 x332001 x332002 x333000 x333001 x333002 x333003 x335000 x335001 x335002 x335003))
def hurdleref06_From.j1 : Nat → List (S30) → Int → Int → Int → List Int → Int → Int → Int → List Int → Int → Int → Int → Int → Option (Int × Int)
 | 0, _, _, _, _, _, _, _, _, _, _, _, _, _ => none
 | k + 1, x0, x11, x332000, x332001, x332002, x333000, x333001, x333002, x333003, x335000, x335001, x335002, x335003 => (hurdleref06_Step.f k x332000 x332001 x332002 x335000 x335001 x335002 x335003 x333000 x333001 x333002 x333003).bind fun bt337 => (if bt337.2.2.2 = true then ((hurdleref06_From.f k x0 bt337.1 bt337.2.1 bt337.2.2.1 x11 x333000 x333001 x333002 x333003).bind fun bt342 => (some (bt342.1, wrap64 (bt342.2 + 1)))) else (some (0, 1)))
def hurdleref06_From.f : Nat → List (S30) → Int → Int → List Int → Int → Int → Int → Int → List Int → Option (Int × Int)
 | 0, _, _, _, _, _, _, _, _, _ => none
 | k + 1, l0, a1_0, a1_1, a1_2, a2, a3_0, a3_1, a3_2, a3_3 => if 0 ≤ a2 then (if a2 < (l0.length : Int) then (if ((rd_T30 l0 a2).f0) = 6 then (some ((rd_T30 l0 a2).f3, 1)) else (if ((rd_T30 l0 a2).f0) = 22 then (some (a1_0, 1)) else (if ((rd_T30 l0 a2).f0) = 5 then (hurdleref06_From.j0 k l0 (wrap64 ((wrap64 (a2 + 1)) + (wrap64 ((rd_T30 l0 a2).f3)))) a1_0 a1_1 a1_2 a3_0 a3_1 a3_2 a3_3 ((rd_T30 l0 a2).f0) ((rd_T30 l0 a2).f1) ((rd_T30 l0 a2).f2) ((rd_T30 l0 a2).f3)) else (hurdleref06_From.j0 k l0 (wrap64 (a2 + 1)) a1_0 a1_1 a1_2 a3_0 a3_1 a3_2 a3_3 ((rd_T30 l0 a2).f0) ((rd_T30 l0 a2).f1) ((rd_T30 l0 a2).f2) ((rd_T30 l0 a2).f3))))) else (none)) else (none)
end
theorem hurdleref06_From.mono_l : ∀ k, (∀ y0 y1 y2 y3 y4 y5 y6 y7 y8, LeO (hurdleref06_From.f k y0 y1 y2 y3 y4 y5 y6 y7 y8) (hurdleref06_From.f (k + 1) y0 y1 y2 y3 y4 y5 y6 y7 y8)) ∧ (∀ y0 y1 y2 y3 y4 y5 y6 y7 y8 y9 y10 y11 y12, LeO (hurdleref06_From.j0 k y0 y1 y2 y3 y4 y5 y6 y7 y8 y9 y10 y11 y12) (hurdleref06_From.j0 (k + 1) y0 y1 y2 y3 y4 y5 y6 y7 y8 y9 y10 y11 y12)) ∧ (∀ y0 y1 y2 y3 y4 y5 y6 y7 y8 y9 y10 y11 y12, LeO (hurdleref06_From.j1 k y0 y1 y2 y3 y4 y5 y6 y7 y8 y9 y10 y11 y12) (hurdleref06_From.j1 (k + 1) y0 y1 y2 y3 y4 y5 y6 y7 y8 y9 y10 y11 y12))
 | 0 => ⟨fun _ _ _ _ _ _ _ _ _ r h => by simp [hurdleref06_From.f] at h, fun _ _ _ _ _ _ _ _ _ _ _ _ _ r h => by simp [hurdleref06_From.j0] at h, fun _ _ _ _ _ _ _ _ _ _ _ _ _ r h => by simp [hurdleref06_From.j1] at h⟩
 | k + 1 => by
  obtain ⟨ih0, ih1, ih2⟩ := hurdleref06_From.mono_l k
  refine ⟨?_, ?_, ?_⟩
  all_goals intros
  all_goals first | unfold hurdleref06_From.f | unfold hurdleref06_From.j0 | unfold hurdleref06_From.j1
  all_goals repeat' first
   | (with_reducible exact ih0 _ _ _ _ _ _ _ _ _)
   | (with_reducible exact ih1 _ _ _ _ _ _ _ _ _ _ _ _ _)
   | (with_reducible exact ih2 _ _ _ _ _ _ _ _ _ _ _ _ _)
   | (with_reducible exact hurdleref02_Branch.mono _ _ _ _ _)
   | (with_reducible exact hurdleref06_Step.mono _ _ _ _ _ _ _ _ _ _ _ _)
   | (with_reducible exact hurdleref06_Takes.mono _ _ _ _ _ _ _ _)
   | (with_reducible exact LeO.refl _)
   | (with_reducible exact LeO.none _)
   | (with_reducible refine LeO.ite ?_ ?_)
   | (with_reducible refine LeO.bind ?_ (fun _ => ?_))
   | exact ih0 _ _ _ _ _ _ _ _ _
   | exact ih1 _ _ _ _ _ _ _ _ _ _ _ _ _
   | exact ih2 _ _ _ _ _ _ _ _ _ _ _ _ _
   | exact hurdleref02_Branch.mono _ _ _ _ _
   | exact hurdleref06_Step.mono _ _ _ _ _ _ _ _ _ _ _ _
   | exact hurdleref06_Takes.mono _ _ _ _ _ _ _ _
   | exact LeO.none _
   | refine LeO.ite ?_ ?_
   | refine LeO.bind ?_ (fun _ => ?_)
theorem hurdleref06_From.mono : ∀ a0 a1 a2 a3 a4 a5 a6 a7 a8 k, LeO (hurdleref06_From.f k a0 a1 a2 a3 a4 a5 a6 a7 a8) (hurdleref06_From.f (k + 1) a0 a1 a2 a3 a4 a5 a6 a7 a8) := by
 intro a0 a1 a2 a3 a4 a5 a6 a7 a8 k
 obtain ⟨ih0, ih1, ih2⟩ := hurdleref06_From.mono_l k
 exact ih0 a0 a1 a2 a3 a4 a5 a6 a7 a8
set_option maxHeartbeats 8000000 in
set_option maxRecDepth 100000 in
theorem hurdleref06_From.calls (k : Nat) : ∀ (A0 : Option Addr) (c0 : Nat) (l0 : List (S30)) (a1_0 : Int) (a1_1 : Int) (a1_2 : List Int) (a2 : Int) (a3_0 : Int) (a3_1 : Int) (a3_2 : Int) (a3_3 : List Int) (r1 : Int) (r2 : Int) (w : World) (hr0 : Kd.C k30 w A0 l0.length l0) (hc0 : l0.length ≤ c0) (h : hurdleref06_From.f k l0 a1_0 a1_1 a1_2 a2 a3_0 a3_1 a3_2 a3_3 = some (r1, r2)),
  Calls Tryd.prog 21 #[.slice A0 l0.length c0, .agg (arC [.int .u32 a1_0, .int .u32 a1_1] .u32 16 a1_2), .int .i64 a2, .agg (arC [.int .u32 a3_0, .int .u32 a3_1, .int .u64 a3_2] .u64 6 a3_3)] w fun e w' => e = .returned (.tuple #[.int .u32 r1, .int .i64 r2]) ∧ Below w.heap.size w w' := by
 induction k using Nat.strongRecOn with
 | _ k ih =>
 intro A0 c0 l0 a1_0 a1_1 a1_2 a2 a3_0 a3_1 a3_2 a3_3 r1 r2 w hr0 hc0 h
 cases k with
 | zero => exact absurd h (by simp [hurdleref06_From.f])
 | succ k =>
 simp only [hurdleref06_From.f] at h
 have hu47 := Tryd.underlying47
 have hu51 := Tryd.underlying51
 have hu30 := Tryd.underlying30
 have HR0 := Aside0.mk hr0
 have HC0 := Aside0.mk hc0
 clear hr0 hc0
 have HB := Aside0.mk (Below.refl w.heap.size w)
 have H : (if 0 ≤ a2 then (if a2 < (l0.length : Int) then (if ((rd_T30 l0 a2).f0) = 6 then (some ((rd_T30 l0 a2).f3, 1)) else (if ((rd_T30 l0 a2).f0) = 22 then (some (a1_0, 1)) else (if ((rd_T30 l0 a2).f0) = 5 then (hurdleref06_From.j0 k l0 (wrap64 ((wrap64 (a2 + 1)) + (wrap64 ((rd_T30 l0 a2).f3)))) a1_0 a1_1 a1_2 a3_0 a3_1 a3_2 a3_3 ((rd_T30 l0 a2).f0) ((rd_T30 l0 a2).f1) ((rd_T30 l0 a2).f2) ((rd_T30 l0 a2).f3)) else (hurdleref06_From.j0 k l0 (wrap64 (a2 + 1)) a1_0 a1_1 a1_2 a3_0 a3_1 a3_2 a3_3 ((rd_T30 l0 a2).f0) ((rd_T30 l0 a2).f1) ((rd_T30 l0 a2).f2) ((rd_T30 l0 a2).f3))))) else (none)) else (none)) = some (r1, r2) := h
 clear h
 by_cases c5 : 0 ≤ a2
 ·rw [if_pos c5] at H
  have c5b0 : decide (0 ≤ a2) = true := dT c5
  clear c5
  by_cases c6 : a2 < (l0.length : Int)
  ·rw [if_pos c6] at H
   have c6b0 : decide (a2 < (l0.length : Int)) = true := dT c6
   clear c6
   by_cases c7 : ((rd_T30 l0 a2).f0) = 6
   ·rw [if_pos c7] at H
    have c7b0 : (((rd_T30 l0 a2).f0) == 6) = true := bI.mpr c7
    have c7b1 : (((rd_T30 l0 a2).f0) != 6) = false := nF.mpr c7
    clear c7
    simp only [Option.some.injEq, Prod.mk.injEq] at H
    obtain ⟨rfl, rfl⟩ := H
    go_enter Tryd.func21, Tryd.ntmps21
    go_wp2_with (first | ((with_reducible refine gate_dst (N := 5) rfl ?_); refine box_event ?hg (N := 5) ?hd (cs := (arC [.int .u32 a1_0, .int .u32 a1_1] .u32 16 a1_2)) (t := 47) ?hr ?_; (case hd => rfl); (case hg => rfl); (case hr => first | (go_simp; done) | (go_simp; rfl)); intro gb331 hg w8 hbox hb; have n0_ := Aside0.mk (zT (jH HB) hb); have n1_ := Aside0.mk (hbox); have n2_ := Aside0.mk ((by rw [hg]; exact (zZ (jH HB)) : w.heap.size ≤ gb331)); have n3_ := Aside0.mk ((by rw [hg]; exact (zZ (jH HB)) : w.heap.size ≤ gb331)); clear HB; have HB := n0_; have BK331 := n1_; have GW331 := n2_; have GE331 := n3_; clear n0_ n1_ n2_ n3_; clear hb hbox hg) | ((with_reducible refine gate_dst (N := 7) rfl ?_); refine box_event ?hg (N := 7) ?hd (cs := (arC [.int .u32 a3_0, .int .u32 a3_1, .int .u64 a3_2] .u64 6 a3_3)) (t := 51) ?hr ?_; (case hd => rfl); (case hg => rfl); (case hr => first | (go_simp; done) | (go_simp; rfl)); intro gb332 hg w9 hbox hb; have n0_ := Aside0.mk (jB BK331 hb); have n1_ := Aside0.mk (zT (jH HB) hb); have n2_ := Aside0.mk (hbox); have n3_ := Aside0.mk ((by rw [hg]; exact (zZ (jH HB)) : w.heap.size ≤ gb332)); have n4_ := Aside0.mk ((by rw [hg]; exact (zZ (jH HB)) : w.heap.size ≤ gb332)); have n5_ := Aside0.mk ((by rw [hg]; exact Nat.ne_of_lt (jL BK331) : gb331 ≠ gb332)); have n6_ := Aside0.mk ((by rw [hg]; exact Nat.ne_of_gt (jL BK331) : gb332 ≠ gb331)); clear BK331; clear HB; have BK331 := n0_; have HB := n1_; have BK332 := n2_; have GW332 := n3_; have GE332 := n4_; have NB331_332 := n5_; have NB332_331 := n6_; clear n0_ n1_ n2_ n3_ n4_ n5_ n6_; clear hb hbox hg; have p333 : 0 ≤ (a2 : Int) := oD (jA); have q333 : a2 < (l0.length : Int) := oD (jA); obtain ⟨ad333, e333, hx333_0, hx333_1, hx333_2, hx333_3⟩ := at_T30 HR0.out a2 p333 q333; cases e333; replace hx333_0 := (HB.out.cell (bL w _ hx333_0)).trans hx333_0; replace hx333_1 := (HB.out.cell (bL w _ hx333_1)).trans hx333_1; replace hx333_2 := (HB.out.cell (bL w _ hx333_2)).trans hx333_2; replace hx333_3 := (HB.out.cell (bL w _ hx333_3)).trans hx333_3; replace p333 := eq_true p333; replace q333 := eq_true q333) | ((with_reducible refine gate_dst (N := 10) rfl ?_); refine box_event ?hg (N := 10) ?hd (cs := #[.int .i64 0, .int .i64 0, .int .i64 0, .int .u32 0]) (t := 30) ?hr ?_; (case hd => rfl); (case hg => rfl); (case hr => first | (go_simp; done) | (go_simp; rfl)); intro gb334 hg w10 hbox hb; have n0_ := Aside0.mk (jB BK331 hb); have n1_ := Aside0.mk (jB BK332 hb); have n2_ := Aside0.mk (zT (jH HB) hb); have n3_ := Aside0.mk (hbox); have n4_ := Aside0.mk ((by rw [hg]; exact (zZ (jH HB)) : w.heap.size ≤ gb334)); have n5_ := Aside0.mk ((by rw [hg]; exact (zZ (jH HB)) : w.heap.size ≤ gb334)); have n6_ := Aside0.mk ((by rw [hg]; exact Nat.ne_of_lt (jL BK331) : gb331 ≠ gb334)); have n7_ := Aside0.mk ((by rw [hg]; exact Nat.ne_of_gt (jL BK331) : gb334 ≠ gb331)); have n8_ := Aside0.mk ((by rw [hg]; exact Nat.ne_of_lt (jL BK332) : gb332 ≠ gb334)); have n9_ := Aside0.mk ((by rw [hg]; exact Nat.ne_of_gt (jL BK332) : gb334 ≠ gb332)); clear BK331; clear BK332; clear HB; have BK331 := n0_; have BK332 := n1_; have HB := n2_; have BK334 := n3_; have GW334 := n4_; have GE334 := n5_; have NB331_334 := n6_; have NB334_331 := n7_; have NB332_334 := n8_; have NB334_332 := n9_; clear n0_ n1_ n2_ n3_ n4_ n5_ n6_ n7_ n8_ n9_; clear hb hbox hg; have hnb11 := NB334_331.out; have hnc11 := NB331_334.out; have hnb12 := NB334_332.out; have hnc12 := NB332_334.out; have hcz13_0 : w10.cell? ⟨gb334, 0, none⟩ = some (.int .i64 0) := (kC BK334.out 0).trans rfl; have hcz13_1 : w10.cell? ⟨gb334, 1, none⟩ = some (.int .i64 0) := (kC BK334.out 1).trans rfl; have hcz13_2 : w10.cell? ⟨gb334, 2, none⟩ = some (.int .i64 0) := (kC BK334.out 2).trans rfl; have hcz13_3 : w10.cell? ⟨gb334, 3, none⟩ = some (.int .u32 0) := (kC BK334.out 3).trans rfl; have hfz13_0 := kF BK334.out 0; have hfz13_1 := kF BK334.out 1; have hfz13_2 := kF BK334.out 2; have hfz13_3 := kF BK334.out 3))
    go_ret2
    exact ⟨jE, jH HB⟩
   ·rw [if_neg c7] at H
    have c7b0 : (((rd_T30 l0 a2).f0) == 6) = false := bF.mpr c7
    have c7b1 : (((rd_T30 l0 a2).f0) != 6) = true := nI.mpr c7
    by_cases c14 : ((rd_T30 l0 a2).f0) = 22
    ·rw [if_pos c14] at H
     have c14b0 : (((rd_T30 l0 a2).f0) == 22) = true := bI.mpr c14
     have c14b1 : (((rd_T30 l0 a2).f0) != 22) = false := nF.mpr c14
     clear c14
     simp only [Option.some.injEq, Prod.mk.injEq] at H
     obtain ⟨rfl, rfl⟩ := H
     go_enter Tryd.func21, Tryd.ntmps21
     go_wp2_with (first | ((with_reducible refine gate_dst (N := 5) rfl ?_); refine box_event ?hg (N := 5) ?hd (cs := (arC [.int .u32 a1_0, .int .u32 a1_1] .u32 16 a1_2)) (t := 47) ?hr ?_; (case hd => rfl); (case hg => rfl); (case hr => first | (go_simp; done) | (go_simp; rfl)); intro gb331 hg w15 hbox hb; have n0_ := Aside0.mk (zT (jH HB) hb); have n1_ := Aside0.mk (hbox); have n2_ := Aside0.mk ((by rw [hg]; exact (zZ (jH HB)) : w.heap.size ≤ gb331)); have n3_ := Aside0.mk ((by rw [hg]; exact (zZ (jH HB)) : w.heap.size ≤ gb331)); clear HB; have HB := n0_; have BK331 := n1_; have GW331 := n2_; have GE331 := n3_; clear n0_ n1_ n2_ n3_; clear hb hbox hg) | ((with_reducible refine gate_dst (N := 7) rfl ?_); refine box_event ?hg (N := 7) ?hd (cs := (arC [.int .u32 a3_0, .int .u32 a3_1, .int .u64 a3_2] .u64 6 a3_3)) (t := 51) ?hr ?_; (case hd => rfl); (case hg => rfl); (case hr => first | (go_simp; done) | (go_simp; rfl)); intro gb332 hg w16 hbox hb; have n0_ := Aside0.mk (jB BK331 hb); have n1_ := Aside0.mk (zT (jH HB) hb); have n2_ := Aside0.mk (hbox); have n3_ := Aside0.mk ((by rw [hg]; exact (zZ (jH HB)) : w.heap.size ≤ gb332)); have n4_ := Aside0.mk ((by rw [hg]; exact (zZ (jH HB)) : w.heap.size ≤ gb332)); have n5_ := Aside0.mk ((by rw [hg]; exact Nat.ne_of_lt (jL BK331) : gb331 ≠ gb332)); have n6_ := Aside0.mk ((by rw [hg]; exact Nat.ne_of_gt (jL BK331) : gb332 ≠ gb331)); clear BK331; clear HB; have BK331 := n0_; have HB := n1_; have BK332 := n2_; have GW332 := n3_; have GE332 := n4_; have NB331_332 := n5_; have NB332_331 := n6_; clear n0_ n1_ n2_ n3_ n4_ n5_ n6_; clear hb hbox hg; have p333 : 0 ≤ (a2 : Int) := oD (jA); have q333 : a2 < (l0.length : Int) := oD (jA); obtain ⟨ad333, e333, hx333_0, hx333_1, hx333_2, hx333_3⟩ := at_T30 HR0.out a2 p333 q333; cases e333; replace hx333_0 := (HB.out.cell (bL w _ hx333_0)).trans hx333_0; replace hx333_1 := (HB.out.cell (bL w _ hx333_1)).trans hx333_1; replace hx333_2 := (HB.out.cell (bL w _ hx333_2)).trans hx333_2; replace hx333_3 := (HB.out.cell (bL w _ hx333_3)).trans hx333_3; replace p333 := eq_true p333; replace q333 := eq_true q333) | ((with_reducible refine gate_dst (N := 10) rfl ?_); refine box_event ?hg (N := 10) ?hd (cs := #[.int .i64 0, .int .i64 0, .int .i64 0, .int .u32 0]) (t := 30) ?hr ?_; (case hd => rfl); (case hg => rfl); (case hr => first | (go_simp; done) | (go_simp; rfl)); intro gb334 hg w17 hbox hb; have n0_ := Aside0.mk (jB BK331 hb); have n1_ := Aside0.mk (jB BK332 hb); have n2_ := Aside0.mk (zT (jH HB) hb); have n3_ := Aside0.mk (hbox); have n4_ := Aside0.mk ((by rw [hg]; exact (zZ (jH HB)) : w.heap.size ≤ gb334)); have n5_ := Aside0.mk ((by rw [hg]; exact (zZ (jH HB)) : w.heap.size ≤ gb334)); have n6_ := Aside0.mk ((by rw [hg]; exact Nat.ne_of_lt (jL BK331) : gb331 ≠ gb334)); have n7_ := Aside0.mk ((by rw [hg]; exact Nat.ne_of_gt (jL BK331) : gb334 ≠ gb331)); have n8_ := Aside0.mk ((by rw [hg]; exact Nat.ne_of_lt (jL BK332) : gb332 ≠ gb334)); have n9_ := Aside0.mk ((by rw [hg]; exact Nat.ne_of_gt (jL BK332) : gb334 ≠ gb332)); clear BK331; clear BK332; clear HB; have BK331 := n0_; have BK332 := n1_; have HB := n2_; have BK334 := n3_; have GW334 := n4_; have GE334 := n5_; have NB331_334 := n6_; have NB334_331 := n7_; have NB332_334 := n8_; have NB334_332 := n9_; clear n0_ n1_ n2_ n3_ n4_ n5_ n6_ n7_ n8_ n9_; clear hb hbox hg; have hnb18 := NB334_331.out; have hnc18 := NB331_334.out; have hnb19 := NB334_332.out; have hnc19 := NB332_334.out; have hcz20_0 : w17.cell? ⟨gb334, 0, none⟩ = some (.int .i64 0) := (kC BK334.out 0).trans rfl; have hcz20_1 : w17.cell? ⟨gb334, 1, none⟩ = some (.int .i64 0) := (kC BK334.out 1).trans rfl; have hcz20_2 : w17.cell? ⟨gb334, 2, none⟩ = some (.int .i64 0) := (kC BK334.out 2).trans rfl; have hcz20_3 : w17.cell? ⟨gb334, 3, none⟩ = some (.int .u32 0) := (kC BK334.out 3).trans rfl; have hfz20_0 := kF BK334.out 0; have hfz20_1 := kF BK334.out 1; have hfz20_2 := kF BK334.out 2; have hfz20_3 := kF BK334.out 3; have hnb21 := NB331_332.out; have hnc21 := NB332_331.out; have hcz22_0 : w17.cell? ⟨gb331, 0, none⟩ = some (.int .u32 a1_0) := (kC BK331.out 0).trans rfl; have hcz22_1 : w17.cell? ⟨gb331, 1, none⟩ = some (.int .u32 a1_1) := (kC BK331.out 1).trans rfl; have hfz22_0 := kF BK331.out 0; have hfz22_1 := kF BK331.out 1; have hfz22_2 := kF BK331.out 2))
     go_ret2
     exact ⟨jE, jH HB⟩
    ·rw [if_neg c14] at H
     have c14b0 : (((rd_T30 l0 a2).f0) == 22) = false := bF.mpr c14
     have c14b1 : (((rd_T30 l0 a2).f0) != 22) = true := nI.mpr c14
     have HC23 := Aside0.mk H
     clear H
     go_enter Tryd.func21, Tryd.ntmps21
     go_upto_if 34 with (first | ((with_reducible refine gate_dst (N := 5) rfl ?_); refine box_event ?hg (N := 5) ?hd (cs := (arC [.int .u32 a1_0, .int .u32 a1_1] .u32 16 a1_2)) (t := 47) ?hr ?_; (case hd => rfl); (case hg => rfl); (case hr => first | (go_simp; done) | (go_simp; rfl)); intro gb331 hg w24 hbox hb; have n0_ := Aside0.mk (zT (jH HB) hb); have n1_ := Aside0.mk (hbox); have n2_ := Aside0.mk ((by rw [hg]; exact (zZ (jH HB)) : w.heap.size ≤ gb331)); have n3_ := Aside0.mk ((by rw [hg]; exact (zZ (jH HB)) : w.heap.size ≤ gb331)); clear HB; have HB := n0_; have BK331 := n1_; have GW331 := n2_; have GE331 := n3_; clear n0_ n1_ n2_ n3_; clear hb hbox hg) | ((with_reducible refine gate_dst (N := 7) rfl ?_); refine box_event ?hg (N := 7) ?hd (cs := (arC [.int .u32 a3_0, .int .u32 a3_1, .int .u64 a3_2] .u64 6 a3_3)) (t := 51) ?hr ?_; (case hd => rfl); (case hg => rfl); (case hr => first | (go_simp; done) | (go_simp; rfl)); intro gb332 hg w25 hbox hb; have n0_ := Aside0.mk (jB BK331 hb); have n1_ := Aside0.mk (zT (jH HB) hb); have n2_ := Aside0.mk (hbox); have n3_ := Aside0.mk ((by rw [hg]; exact (zZ (jH HB)) : w.heap.size ≤ gb332)); have n4_ := Aside0.mk ((by rw [hg]; exact (zZ (jH HB)) : w.heap.size ≤ gb332)); have n5_ := Aside0.mk ((by rw [hg]; exact Nat.ne_of_lt (jL BK331) : gb331 ≠ gb332)); have n6_ := Aside0.mk ((by rw [hg]; exact Nat.ne_of_gt (jL BK331) : gb332 ≠ gb331)); clear BK331; clear HB; have BK331 := n0_; have HB := n1_; have BK332 := n2_; have GW332 := n3_; have GE332 := n4_; have NB331_332 := n5_; have NB332_331 := n6_; clear n0_ n1_ n2_ n3_ n4_ n5_ n6_; clear hb hbox hg; have p333 : 0 ≤ (a2 : Int) := oD (jA); have q333 : a2 < (l0.length : Int) := oD (jA); obtain ⟨ad333, e333, hx333_0, hx333_1, hx333_2, hx333_3⟩ := at_T30 HR0.out a2 p333 q333; cases e333; replace hx333_0 := (HB.out.cell (bL w _ hx333_0)).trans hx333_0; replace hx333_1 := (HB.out.cell (bL w _ hx333_1)).trans hx333_1; replace hx333_2 := (HB.out.cell (bL w _ hx333_2)).trans hx333_2; replace hx333_3 := (HB.out.cell (bL w _ hx333_3)).trans hx333_3; replace p333 := eq_true p333; replace q333 := eq_true q333) | ((with_reducible refine gate_dst (N := 10) rfl ?_); refine box_event ?hg (N := 10) ?hd (cs := #[.int .i64 0, .int .i64 0, .int .i64 0, .int .u32 0]) (t := 30) ?hr ?_; (case hd => rfl); (case hg => rfl); (case hr => first | (go_simp; done) | (go_simp; rfl)); intro gb334 hg w26 hbox hb; have n0_ := Aside0.mk (jB BK331 hb); have n1_ := Aside0.mk (jB BK332 hb); have n2_ := Aside0.mk (zT (jH HB) hb); have n3_ := Aside0.mk (hbox); have n4_ := Aside0.mk ((by rw [hg]; exact (zZ (jH HB)) : w.heap.size ≤ gb334)); have n5_ := Aside0.mk ((by rw [hg]; exact (zZ (jH HB)) : w.heap.size ≤ gb334)); have n6_ := Aside0.mk ((by rw [hg]; exact Nat.ne_of_lt (jL BK331) : gb331 ≠ gb334)); have n7_ := Aside0.mk ((by rw [hg]; exact Nat.ne_of_gt (jL BK331) : gb334 ≠ gb331)); have n8_ := Aside0.mk ((by rw [hg]; exact Nat.ne_of_lt (jL BK332) : gb332 ≠ gb334)); have n9_ := Aside0.mk ((by rw [hg]; exact Nat.ne_of_gt (jL BK332) : gb334 ≠ gb332)); clear BK331; clear BK332; clear HB; have BK331 := n0_; have BK332 := n1_; have HB := n2_; have BK334 := n3_; have GW334 := n4_; have GE334 := n5_; have NB331_334 := n6_; have NB334_331 := n7_; have NB332_334 := n8_; have NB334_332 := n9_; clear n0_ n1_ n2_ n3_ n4_ n5_ n6_ n7_ n8_ n9_; clear hb hbox hg; have hnb27 := NB334_331.out; have hnc27 := NB331_334.out; have hnb28 := NB334_332.out; have hnc28 := NB332_334.out; have hcz29_0 : w26.cell? ⟨gb334, 0, none⟩ = some (.int .i64 0) := (kC BK334.out 0).trans rfl; have hcz29_1 : w26.cell? ⟨gb334, 1, none⟩ = some (.int .i64 0) := (kC BK334.out 1).trans rfl; have hcz29_2 : w26.cell? ⟨gb334, 2, none⟩ = some (.int .i64 0) := (kC BK334.out 2).trans rfl; have hcz29_3 : w26.cell? ⟨gb334, 3, none⟩ = some (.int .u32 0) := (kC BK334.out 3).trans rfl; have hfz29_0 := kF BK334.out 0; have hfz29_1 := kF BK334.out 1; have hfz29_2 := kF BK334.out 2; have hfz29_3 := kF BK334.out 3))
     (try simp only [Act.put, List.setIfInBounds_toArray, List.set_cons_zero, List.set_cons_succ])
     go_cut [11] (fun v11 wc => ∃ (kq : Nat) (x11_22 : Int), v11 = .int .i64 x11_22 ∧ Aside0 (hurdleref06_From.j0 kq l0 x11_22 a1_0 a1_1 a1_2 a3_0 a3_1 a3_2 a3_3 ((rd_T30 l0 a2).f0) ((rd_T30 l0 a2).f1) ((rd_T30 l0 a2).f2) ((rd_T30 l0 a2).f3) = some (r1, r2)) ∧ Aside0 (kq ≤ k) ∧ Aside0 (wc.heap[gb331]? = some (.cells (arC [.int .u32 a1_0, .int .u32 a1_1] .u32 16 a1_2) 47 (0, 0))) ∧ Aside0 (wc.heap[gb332]? = some (.cells (arC [.int .u32 a3_0, .int .u32 a3_1, .int .u64 a3_2] .u64 6 a3_3) 51 (0, 0))) ∧ Aside0 (wc.heap[gb334]? = some (.cells #[.int .i64 ((rd_T30 l0 a2).f0), .int .i64 ((rd_T30 l0 a2).f1), .int .i64 ((rd_T30 l0 a2).f2), .int .u32 ((rd_T30 l0 a2).f3)] 30 (0, 0))) ∧ Aside0 (Below w.heap.size w wc))
     case first =>
      have H := HC23.out
      clear HC23
      by_cases c30 : ((rd_T30 l0 a2).f0) = 5
      ·rw [if_pos c30] at H
       have c30b0 : (((rd_T30 l0 a2).f0) == 5) = true := bI.mpr c30
       have c30b1 : (((rd_T30 l0 a2).f0) != 5) = false := nF.mpr c30
       clear c30
       (first | rw [c30b0] | (simp only [i64_w, i32_w]; rw [c30b0]) | skip)
       have H' := Aside0.mk H
       clear H
       have hnb31 := NB334_331.out
       have hnc31 := NB331_334.out
       have hnb32 := NB334_332.out
       have hnc32 := NB332_334.out
       have hcz33_0 : w26.cell? ⟨gb334, 0, none⟩ = some (.int .i64 0) := (kC BK334.out 0).trans rfl
       have hcz33_1 : w26.cell? ⟨gb334, 1, none⟩ = some (.int .i64 0) := (kC BK334.out 1).trans rfl
       have hcz33_2 : w26.cell? ⟨gb334, 2, none⟩ = some (.int .i64 0) := (kC BK334.out 2).trans rfl
       have hcz33_3 : w26.cell? ⟨gb334, 3, none⟩ = some (.int .u32 0) := (kC BK334.out 3).trans rfl
       have hfz33_0 := kF BK334.out 0
       have hfz33_1 := kF BK334.out 1
       have hfz33_2 := kF BK334.out 2
       have hfz33_3 := kF BK334.out 3
       go_wp2
       go_meet
       case rel => exact ⟨_, (wrap64 ((wrap64 (a2 + 1)) + (wrap64 ((rd_T30 l0 a2).f3)))), jS, H', ⟨jO⟩, ⟨by (with_reducible repeat (first | refine kN ?_ _ | refine kD ?_ | refine kA ?_ _)); refine kR ?_ NB331_334.out _; (with_reducible repeat (first | refine kN ?_ _ | refine kD ?_ | refine kA ?_ _)); refine kR ?_ NB331_334.out _; (with_reducible repeat (first | refine kN ?_ _ | refine kD ?_ | refine kA ?_ _)); refine kR ?_ NB331_334.out _; (with_reducible repeat (first | refine kN ?_ _ | refine kD ?_ | refine kA ?_ _)); refine kR ?_ NB331_334.out _; (with_reducible repeat (first | refine kN ?_ _ | refine kD ?_ | refine kA ?_ _)); exact BK331.out⟩, ⟨by (with_reducible repeat (first | refine kN ?_ _ | refine kD ?_ | refine kA ?_ _)); refine kR ?_ NB332_334.out _; (with_reducible repeat (first | refine kN ?_ _ | refine kD ?_ | refine kA ?_ _)); refine kR ?_ NB332_334.out _; (with_reducible repeat (first | refine kN ?_ _ | refine kD ?_ | refine kA ?_ _)); refine kR ?_ NB332_334.out _; (with_reducible repeat (first | refine kN ?_ _ | refine kD ?_ | refine kA ?_ _)); refine kR ?_ NB332_334.out _; (with_reducible repeat (first | refine kN ?_ _ | refine kD ?_ | refine kA ?_ _)); exact BK332.out⟩, ⟨by (with_reducible repeat (first | refine kN ?_ _ | refine kD ?_ | refine kA ?_ _)); refine kP (cs := #[.int .i64 ((rd_T30 l0 a2).f0), .int .i64 ((rd_T30 l0 a2).f1), .int .i64 ((rd_T30 l0 a2).f2), .int .u32 0]) ?_ 3 _ rfl; (with_reducible repeat (first | refine kN ?_ _ | refine kD ?_ | refine kA ?_ _)); refine kP (cs := #[.int .i64 ((rd_T30 l0 a2).f0), .int .i64 ((rd_T30 l0 a2).f1), .int .i64 0, .int .u32 0]) ?_ 2 _ rfl; (with_reducible repeat (first | refine kN ?_ _ | refine kD ?_ | refine kA ?_ _)); refine kP (cs := #[.int .i64 ((rd_T30 l0 a2).f0), .int .i64 0, .int .i64 0, .int .u32 0]) ?_ 1 _ rfl; (with_reducible repeat (first | refine kN ?_ _ | refine kD ?_ | refine kA ?_ _)); refine kP (cs := #[.int .i64 0, .int .i64 0, .int .i64 0, .int .u32 0]) ?_ 0 _ rfl; (with_reducible repeat (first | refine kN ?_ _ | refine kD ?_ | refine kA ?_ _)); exact BK334.out⟩, ⟨jH HB⟩⟩
      ·rw [if_neg c30] at H
       have c30b0 : (((rd_T30 l0 a2).f0) == 5) = false := bF.mpr c30
       have c30b1 : (((rd_T30 l0 a2).f0) != 5) = true := nI.mpr c30
       (first | rw [c30b0] | (simp only [i64_w, i32_w]; rw [c30b0]) | skip)
       have H' := Aside0.mk H
       clear H
       go_wp2
       go_meet
       case rel => exact ⟨_, (wrap64 (a2 + 1)), jS, H', ⟨jO⟩, ⟨by (with_reducible repeat (first | refine kN ?_ _ | refine kD ?_ | refine kA ?_ _)); refine kR ?_ NB331_334.out _; (with_reducible repeat (first | refine kN ?_ _ | refine kD ?_ | refine kA ?_ _)); refine kR ?_ NB331_334.out _; (with_reducible repeat (first | refine kN ?_ _ | refine kD ?_ | refine kA ?_ _)); refine kR ?_ NB331_334.out _; (with_reducible repeat (first | refine kN ?_ _ | refine kD ?_ | refine kA ?_ _)); refine kR ?_ NB331_334.out _; (with_reducible repeat (first | refine kN ?_ _ | refine kD ?_ | refine kA ?_ _)); exact BK331.out⟩, ⟨by (with_reducible repeat (first | refine kN ?_ _ | refine kD ?_ | refine kA ?_ _)); refine kR ?_ NB332_334.out _; (with_reducible repeat (first | refine kN ?_ _ | refine kD ?_ | refine kA ?_ _)); refine kR ?_ NB332_334.out _; (with_reducible repeat (first | refine kN ?_ _ | refine kD ?_ | refine kA ?_ _)); refine kR ?_ NB332_334.out _; (with_reducible repeat (first | refine kN ?_ _ | refine kD ?_ | refine kA ?_ _)); refine kR ?_ NB332_334.out _; (with_reducible repeat (first | refine kN ?_ _ | refine kD ?_ | refine kA ?_ _)); exact BK332.out⟩, ⟨by (with_reducible repeat (first | refine kN ?_ _ | refine kD ?_ | refine kA ?_ _)); refine kP (cs := #[.int .i64 ((rd_T30 l0 a2).f0), .int .i64 ((rd_T30 l0 a2).f1), .int .i64 ((rd_T30 l0 a2).f2), .int .u32 0]) ?_ 3 _ rfl; (with_reducible repeat (first | refine kN ?_ _ | refine kD ?_ | refine kA ?_ _)); refine kP (cs := #[.int .i64 ((rd_T30 l0 a2).f0), .int .i64 ((rd_T30 l0 a2).f1), .int .i64 0, .int .u32 0]) ?_ 2 _ rfl; (with_reducible repeat (first | refine kN ?_ _ | refine kD ?_ | refine kA ?_ _)); refine kP (cs := #[.int .i64 ((rd_T30 l0 a2).f0), .int .i64 0, .int .i64 0, .int .u32 0]) ?_ 1 _ rfl; (with_reducible repeat (first | refine kN ?_ _ | refine kD ?_ | refine kA ?_ _)); refine kP (cs := #[.int .i64 0, .int .i64 0, .int .i64 0, .int .u32 0]) ?_ 0 _ rfl; (with_reducible repeat (first | refine kN ?_ _ | refine kD ?_ | refine kA ?_ _)); exact BK334.out⟩, ⟨jH HB⟩⟩
     case rest =>
      clear HC23
      obtain ⟨kq, x11_22, rfl, HA, HJ22, BK331, BK332, BK334, HB⟩ := hcut
      cases kq with
      | zero => exact absurd HA.out (by simp [hurdleref06_From.j0])
      | succ kj22 =>
       have H := HA.out
       clear HA
       simp only [hurdleref06_From.j0] at H
       replace H := Option.bind_eq_some_iff.mp H
       obtain ⟨t335, A340, H⟩ := H
       try dsimp only at H
       have A34 := Aside0.mk A340
       clear A340
       have HC35 := Aside0.mk H
       clear H
       have hnb36 := NB334_331.out
       have hnc36 := NB331_334.out
       have hnb37 := NB334_332.out
       have hnc37 := NB332_334.out
       have hcz38_0 : wc.cell? ⟨gb334, 0, none⟩ = some (.int .i64 ((rd_T30 l0 a2).f0)) := (kC BK334.out 0).trans rfl
       have hcz38_1 : wc.cell? ⟨gb334, 1, none⟩ = some (.int .i64 ((rd_T30 l0 a2).f1)) := (kC BK334.out 1).trans rfl
       have hcz38_2 : wc.cell? ⟨gb334, 2, none⟩ = some (.int .i64 ((rd_T30 l0 a2).f2)) := (kC BK334.out 2).trans rfl
       have hcz38_3 : wc.cell? ⟨gb334, 3, none⟩ = some (.int .u32 ((rd_T30 l0 a2).f3)) := (kC BK334.out 3).trans rfl
       have hfz38_0 := kF BK334.out 0
       have hfz38_1 := kF BK334.out 1
       have hfz38_2 := kF BK334.out 2
       have hfz38_3 := kF BK334.out 3
       go_upto_if 41 with (first | ((with_reducible refine gate_callee (f := 30) rfl ?_); refine goesL_ (some 41) rfl rfl Tryd.func30 (by kernel_rfl) rfl #[.agg #[.int .i64 ((rd_T30 l0 a2).f0), .int .i64 ((rd_T30 l0 a2).f1), .int .i64 ((rd_T30 l0 a2).f2), .int .u32 ((rd_T30 l0 a2).f3)]] rfl jZ ?_; (with_reducible refine (hurdleref02_Branch.calls kj22 ((rd_T30 l0 a2).f0) ((rd_T30 l0 a2).f1) ((rd_T30 l0 a2).f2) ((rd_T30 l0 a2).f3) t335 _ A34.out).mono ?_); rintro e w39 ⟨rfl, hb⟩; refine ⟨_, rfl, ?_⟩; have n0_ := Aside0.mk (jB BK331 hb); have n1_ := Aside0.mk (jB BK332 hb); have n2_ := Aside0.mk (jB BK334 hb); have n3_ := Aside0.mk (zT (jH HB) hb); clear BK331; clear BK332; clear BK334; clear HB; have BK331 := n0_; have BK332 := n1_; have BK334 := n2_; have HB := n3_; clear n0_ n1_ n2_ n3_; (try clear hb); (try clear hb2); (try clear hk); (try clear hi)))
       (try simp only [Act.put, List.setIfInBounds_toArray, List.set_cons_zero, List.set_cons_succ])
       go_cut [11] (fun v11 wc => ∃ (kq : Nat) (x11_34 : Int), v11 = .int .i64 x11_34 ∧ Aside0 (hurdleref06_From.j1 kq l0 x11_34 a1_0 a1_1 a1_2 a3_0 a3_1 a3_2 a3_3 ((rd_T30 l0 a2).f0) ((rd_T30 l0 a2).f1) ((rd_T30 l0 a2).f2) ((rd_T30 l0 a2).f3) = some (r1, r2)) ∧ Aside0 (kq ≤ kj22) ∧ Aside0 (wc.heap[gb331]? = some (.cells (arC [.int .u32 a1_0, .int .u32 a1_1] .u32 16 a1_2) 47 (0, 0))) ∧ Aside0 (wc.heap[gb332]? = some (.cells (arC [.int .u32 a3_0, .int .u32 a3_1, .int .u64 a3_2] .u64 6 a3_3) 51 (0, 0))) ∧ Aside0 (wc.heap[gb334]? = some (.cells #[.int .i64 ((rd_T30 l0 a2).f0), .int .i64 ((rd_T30 l0 a2).f1), .int .i64 ((rd_T30 l0 a2).f2), .int .u32 ((rd_T30 l0 a2).f3)] 30 (0, 0))) ∧ Aside0 (Below w.heap.size w wc))
       case first =>
        have H := HC35.out
        clear HC35
        by_cases c40 : t335 = true
        ·subst c40
         rw [if_pos rfl] at H
         replace H := Option.bind_eq_some_iff.mp H
         obtain ⟨t336, A410, H⟩ := H
         try dsimp only at H
         have A41 := Aside0.mk A410
         clear A410
         by_cases c42 : t336 = true
         ·subst c42
          rw [if_pos rfl] at H
          have H' := Aside0.mk H
          clear H
          go_wp2_with (first | ((with_reducible refine gate_dst (N := 42) rfl ?_); refine wpList_load_row rfl 47 (.tmp 5) rfl gb331 rfl 47 (arC [.int .u32 a1_0, .int .u32 a1_1] .u32 16 a1_2) (0, 0) _ (jK BK331) Tryd.underlying47 rfl (by kernel_rfl) ?_; have hnb43 := NB334_331.out; have hnc43 := NB331_334.out; have hnb44 := NB334_332.out; have hnc44 := NB332_334.out; have hcz45_0 : w39.cell? ⟨gb334, 0, none⟩ = some (.int .i64 ((rd_T30 l0 a2).f0)) := (kC BK334.out 0).trans rfl; have hcz45_1 : w39.cell? ⟨gb334, 1, none⟩ = some (.int .i64 ((rd_T30 l0 a2).f1)) := (kC BK334.out 1).trans rfl; have hcz45_2 : w39.cell? ⟨gb334, 2, none⟩ = some (.int .i64 ((rd_T30 l0 a2).f2)) := (kC BK334.out 2).trans rfl; have hcz45_3 : w39.cell? ⟨gb334, 3, none⟩ = some (.int .u32 ((rd_T30 l0 a2).f3)) := (kC BK334.out 3).trans rfl; have hfz45_0 := kF BK334.out 0; have hfz45_1 := kF BK334.out 1; have hfz45_2 := kF BK334.out 2; have hfz45_3 := kF BK334.out 3) | ((with_reducible refine gate_callee (f := 20) rfl ?_); refine goesL_ (some 44) rfl rfl Tryd.func20 (by kernel_rfl) rfl #[.agg (arC [.int .u32 a1_0, .int .u32 a1_1] .u32 16 a1_2), .agg #[.int .i64 ((rd_T30 l0 a2).f0), .int .i64 ((rd_T30 l0 a2).f1), .int .i64 ((rd_T30 l0 a2).f2), .int .u32 ((rd_T30 l0 a2).f3)]] rfl jZ ?_; (with_reducible refine (hurdleref06_Takes.calls kj22 a1_0 a1_1 a1_2 ((rd_T30 l0 a2).f0) ((rd_T30 l0 a2).f1) ((rd_T30 l0 a2).f2) ((rd_T30 l0 a2).f3) true _ A41.out).mono ?_); rintro e w46 ⟨rfl, hb⟩; refine ⟨_, rfl, ?_⟩; have n0_ := Aside0.mk (jB BK331 hb); have n1_ := Aside0.mk (jB BK332 hb); have n2_ := Aside0.mk (jB BK334 hb); have n3_ := Aside0.mk (zT (jH HB) hb); clear BK331; clear BK332; clear BK334; clear HB; have BK331 := n0_; have BK332 := n1_; have BK334 := n2_; have HB := n3_; clear n0_ n1_ n2_ n3_; (try clear hb); (try clear hb2); (try clear hk); (try clear hi); have hcz47_0 : w46.cell? ⟨gb334, 0, none⟩ = some (.int .i64 ((rd_T30 l0 a2).f0)) := (kC BK334.out 0).trans rfl; have hcz47_1 : w46.cell? ⟨gb334, 1, none⟩ = some (.int .i64 ((rd_T30 l0 a2).f1)) := (kC BK334.out 1).trans rfl; have hcz47_2 : w46.cell? ⟨gb334, 2, none⟩ = some (.int .i64 ((rd_T30 l0 a2).f2)) := (kC BK334.out 2).trans rfl; have hcz47_3 : w46.cell? ⟨gb334, 3, none⟩ = some (.int .u32 ((rd_T30 l0 a2).f3)) := (kC BK334.out 3).trans rfl; have hfz47_0 := kF BK334.out 0; have hfz47_1 := kF BK334.out 1; have hfz47_2 := kF BK334.out 2; have hfz47_3 := kF BK334.out 3))
          go_meet
          case rel => exact ⟨_, (wrap64 (x11_22 + ((rd_T30 l0 a2).f1))), jS, H', ⟨by have := HJ22.out; first | omega | exact Nat.le_refl _⟩, ⟨jK BK331⟩, ⟨jK BK332⟩, ⟨jK BK334⟩, ⟨jH HB⟩⟩
         ·replace c42 := Bool.eq_false_iff.mpr c42
          subst c42
          rw [if_neg (show ¬ (false = true) by decide)] at H
          have H' := Aside0.mk H
          clear H
          go_wp2_with (first | ((with_reducible refine gate_dst (N := 42) rfl ?_); refine wpList_load_row rfl 47 (.tmp 5) rfl gb331 rfl 47 (arC [.int .u32 a1_0, .int .u32 a1_1] .u32 16 a1_2) (0, 0) _ (jK BK331) Tryd.underlying47 rfl (by kernel_rfl) ?_; have hnb48 := NB334_331.out; have hnc48 := NB331_334.out; have hnb49 := NB334_332.out; have hnc49 := NB332_334.out; have hcz50_0 : w39.cell? ⟨gb334, 0, none⟩ = some (.int .i64 ((rd_T30 l0 a2).f0)) := (kC BK334.out 0).trans rfl; have hcz50_1 : w39.cell? ⟨gb334, 1, none⟩ = some (.int .i64 ((rd_T30 l0 a2).f1)) := (kC BK334.out 1).trans rfl; have hcz50_2 : w39.cell? ⟨gb334, 2, none⟩ = some (.int .i64 ((rd_T30 l0 a2).f2)) := (kC BK334.out 2).trans rfl; have hcz50_3 : w39.cell? ⟨gb334, 3, none⟩ = some (.int .u32 ((rd_T30 l0 a2).f3)) := (kC BK334.out 3).trans rfl; have hfz50_0 := kF BK334.out 0; have hfz50_1 := kF BK334.out 1; have hfz50_2 := kF BK334.out 2; have hfz50_3 := kF BK334.out 3) | ((with_reducible refine gate_callee (f := 20) rfl ?_); refine goesL_ (some 44) rfl rfl Tryd.func20 (by kernel_rfl) rfl #[.agg (arC [.int .u32 a1_0, .int .u32 a1_1] .u32 16 a1_2), .agg #[.int .i64 ((rd_T30 l0 a2).f0), .int .i64 ((rd_T30 l0 a2).f1), .int .i64 ((rd_T30 l0 a2).f2), .int .u32 ((rd_T30 l0 a2).f3)]] rfl jZ ?_; (with_reducible refine (hurdleref06_Takes.calls kj22 a1_0 a1_1 a1_2 ((rd_T30 l0 a2).f0) ((rd_T30 l0 a2).f1) ((rd_T30 l0 a2).f2) ((rd_T30 l0 a2).f3) false _ A41.out).mono ?_); rintro e w51 ⟨rfl, hb⟩; refine ⟨_, rfl, ?_⟩; have n0_ := Aside0.mk (jB BK331 hb); have n1_ := Aside0.mk (jB BK332 hb); have n2_ := Aside0.mk (jB BK334 hb); have n3_ := Aside0.mk (zT (jH HB) hb); clear BK331; clear BK332; clear BK334; clear HB; have BK331 := n0_; have BK332 := n1_; have BK334 := n2_; have HB := n3_; clear n0_ n1_ n2_ n3_; (try clear hb); (try clear hb2); (try clear hk); (try clear hi); have hcz52_0 : w51.cell? ⟨gb334, 0, none⟩ = some (.int .i64 ((rd_T30 l0 a2).f0)) := (kC BK334.out 0).trans rfl; have hcz52_1 : w51.cell? ⟨gb334, 1, none⟩ = some (.int .i64 ((rd_T30 l0 a2).f1)) := (kC BK334.out 1).trans rfl; have hcz52_2 : w51.cell? ⟨gb334, 2, none⟩ = some (.int .i64 ((rd_T30 l0 a2).f2)) := (kC BK334.out 2).trans rfl; have hcz52_3 : w51.cell? ⟨gb334, 3, none⟩ = some (.int .u32 ((rd_T30 l0 a2).f3)) := (kC BK334.out 3).trans rfl; have hfz52_0 := kF BK334.out 0; have hfz52_1 := kF BK334.out 1; have hfz52_2 := kF BK334.out 2; have hfz52_3 := kF BK334.out 3))
          go_meet
          case rel => exact ⟨_, (wrap64 (x11_22 + ((rd_T30 l0 a2).f2))), jS, H', ⟨by have := HJ22.out; first | omega | exact Nat.le_refl _⟩, ⟨jK BK331⟩, ⟨jK BK332⟩, ⟨jK BK334⟩, ⟨jH HB⟩⟩
        ·replace c40 := Bool.eq_false_iff.mpr c40
         subst c40
         rw [if_neg (show ¬ (false = true) by decide)] at H
         have H' := Aside0.mk H
         clear H
         go_wp2
         go_meet
         case rel => exact ⟨_, (x11_22), jS, H', ⟨by have := HJ22.out; first | omega | exact Nat.le_refl _⟩, ⟨jK BK331⟩, ⟨jK BK332⟩, ⟨jK BK334⟩, ⟨jH HB⟩⟩
       case rest =>
        clear HC35
        obtain ⟨kq, x11_34, rfl, HA, HJ34, BK331, BK332, BK334, HB⟩ := hcut
        cases kq with
        | zero => exact absurd HA.out (by simp [hurdleref06_From.j1])
        | succ kj34 =>
         have H := HA.out
         clear HA
         simp only [hurdleref06_From.j1] at H
         replace H := Option.bind_eq_some_iff.mp H
         obtain ⟨⟨t337, t338, t339, t340⟩, A530, H⟩ := H
         try dsimp only at H
         have A53 := Aside0.mk A530
         clear A530
         by_cases c54 : t340 = true
         ·subst c54
          rw [if_pos rfl] at H
          replace H := Option.bind_eq_some_iff.mp H
          obtain ⟨⟨t342, t343⟩, A550, H⟩ := H
          try dsimp only at H
          have A55 := Aside0.mk A550
          clear A550
          simp only [Option.some.injEq, Prod.mk.injEq] at H
          obtain ⟨rfl, rfl⟩ := H
          go_wp2_with (first | ((with_reducible refine gate_dst (N := 54) rfl ?_); refine wpList_load_row rfl 47 (.tmp 5) rfl gb331 rfl 47 (arC [.int .u32 a1_0, .int .u32 a1_1] .u32 16 a1_2) (0, 0) _ (jK BK331) Tryd.underlying47 rfl (by kernel_rfl) ?_; have hnb56 := NB334_331.out; have hnc56 := NB331_334.out; have hnb57 := NB334_332.out; have hnc57 := NB332_334.out; have hcz58_0 : wc.cell? ⟨gb334, 0, none⟩ = some (.int .i64 ((rd_T30 l0 a2).f0)) := (kC BK334.out 0).trans rfl; have hcz58_1 : wc.cell? ⟨gb334, 1, none⟩ = some (.int .i64 ((rd_T30 l0 a2).f1)) := (kC BK334.out 1).trans rfl; have hcz58_2 : wc.cell? ⟨gb334, 2, none⟩ = some (.int .i64 ((rd_T30 l0 a2).f2)) := (kC BK334.out 2).trans rfl; have hcz58_3 : wc.cell? ⟨gb334, 3, none⟩ = some (.int .u32 ((rd_T30 l0 a2).f3)) := (kC BK334.out 3).trans rfl; have hfz58_0 := kF BK334.out 0; have hfz58_1 := kF BK334.out 1; have hfz58_2 := kF BK334.out 2; have hfz58_3 := kF BK334.out 3) | ((with_reducible refine gate_dst (N := 56) rfl ?_); refine wpList_load_row rfl 51 (.tmp 7) rfl gb332 rfl 51 (arC [.int .u32 a3_0, .int .u32 a3_1, .int .u64 a3_2] .u64 6 a3_3) (0, 0) _ (jK BK332) Tryd.underlying51 rfl (by kernel_rfl) ?_) | ((with_reducible refine gate_callee (f := 35) rfl ?_); refine goesL_ (some 57) rfl rfl Tryd.func35 (by kernel_rfl) rfl #[.agg (arC [.int .u32 a1_0, .int .u32 a1_1] .u32 16 a1_2), .agg #[.int .i64 ((rd_T30 l0 a2).f0), .int .i64 ((rd_T30 l0 a2).f1), .int .i64 ((rd_T30 l0 a2).f2), .int .u32 ((rd_T30 l0 a2).f3)], .agg (arC [.int .u32 a3_0, .int .u32 a3_1, .int .u64 a3_2] .u64 6 a3_3)] rfl jZ ?_; (with_reducible refine (hurdleref06_Step.calls kj34 a1_0 a1_1 a1_2 ((rd_T30 l0 a2).f0) ((rd_T30 l0 a2).f1) ((rd_T30 l0 a2).f2) ((rd_T30 l0 a2).f3) a3_0 a3_1 a3_2 a3_3 t337 t338 t339 true _ A53.out).mono ?_); rintro e w59 ⟨rfl, hb⟩; refine ⟨_, rfl, ?_⟩; have n0_ := Aside0.mk (jB BK331 hb); have n1_ := Aside0.mk (jB BK332 hb); have n2_ := Aside0.mk (jB BK334 hb); have n3_ := Aside0.mk (zT (jH HB) hb); clear BK331; clear BK332; clear BK334; clear HB; have BK331 := n0_; have BK332 := n1_; have BK334 := n2_; have HB := n3_; clear n0_ n1_ n2_ n3_; (try clear hb); (try clear hb2); (try clear hk); (try clear hi)) | ((with_reducible refine gate_dst (N := 12) rfl ?_); refine box_event ?hg (N := 12) ?hd (cs := (arC [.int .u32 0, .int .u32 0] .u32 16 ([] : List Int))) (t := 47) ?hr ?_; (case hd => rfl); (case hg => rfl); (case hr => first | (go_simp; done) | (go_simp; rfl)); intro gb341 hg w60 hbox hb; have n0_ := Aside0.mk (jB BK331 hb); have n1_ := Aside0.mk (jB BK332 hb); have n2_ := Aside0.mk (jB BK334 hb); have n3_ := Aside0.mk (zT (jH HB) hb); have n4_ := Aside0.mk (hbox); have n5_ := Aside0.mk ((by rw [hg]; exact (zZ (jH HB)) : w.heap.size ≤ gb341)); have n6_ := Aside0.mk ((by rw [hg]; exact (zZ (jH HB)) : w.heap.size ≤ gb341)); have n7_ := Aside0.mk ((by rw [hg]; exact Nat.ne_of_lt (jL BK331) : gb331 ≠ gb341)); have n8_ := Aside0.mk ((by rw [hg]; exact Nat.ne_of_gt (jL BK331) : gb341 ≠ gb331)); have n9_ := Aside0.mk ((by rw [hg]; exact Nat.ne_of_lt (jL BK332) : gb332 ≠ gb341)); have n10_ := Aside0.mk ((by rw [hg]; exact Nat.ne_of_gt (jL BK332) : gb341 ≠ gb332)); have n11_ := Aside0.mk ((by rw [hg]; exact Nat.ne_of_lt (jL BK334) : gb334 ≠ gb341)); have n12_ := Aside0.mk ((by rw [hg]; exact Nat.ne_of_gt (jL BK334) : gb341 ≠ gb334)); clear BK331; clear BK332; clear BK334; clear HB; have BK331 := n0_; have BK332 := n1_; have BK334 := n2_; have HB := n3_; have BK341 := n4_; have GW341 := n5_; have GE341 := n6_; have NB331_341 := n7_; have NB341_331 := n8_; have NB332_341 := n9_; have NB341_332 := n10_; have NB334_341 := n11_; have NB341_334 := n12_; clear n0_ n1_ n2_ n3_ n4_ n5_ n6_ n7_ n8_ n9_ n10_ n11_ n12_; clear hb hbox hg) | ((with_reducible refine gate_store (t := 47) (p := 12) rfl ?_); refine stw_event rfl 47 (.tmp 12) _ rfl rfl gb341 (arC [.int .u32 t337, .int .u32 t338] .u32 16 t339) rfl rfl 47 (arC [.int .u32 0, .int .u32 0] .u32 16 ([] : List Int)) (jK BK341) (by kernel_rfl) (by kernel_rfl) (arC_one rfl) ?_; intro w61 hw1_ hw2_ hw3_; have n0_ : Aside0 (w61.heap[gb331]? = some (.cells (arC [.int .u32 a1_0, .int .u32 a1_1] .u32 16 a1_2) 47 (0, 0))) := ⟨hw2_ _ _ NB331_341.out (jK BK331)⟩; have n1_ : Aside0 (w61.heap[gb332]? = some (.cells (arC [.int .u32 a3_0, .int .u32 a3_1, .int .u64 a3_2] .u64 6 a3_3) 51 (0, 0))) := ⟨hw2_ _ _ NB332_341.out (jK BK332)⟩; have n2_ : Aside0 (w61.heap[gb334]? = some (.cells #[.int .i64 ((rd_T30 l0 a2).f0), .int .i64 ((rd_T30 l0 a2).f1), .int .i64 ((rd_T30 l0 a2).f2), .int .u32 ((rd_T30 l0 a2).f3)] 30 (0, 0))) := ⟨hw2_ _ _ NB334_341.out (jK BK334)⟩; have n3_ : Aside0 (w61.heap[gb341]? = some (.cells (arC [.int .u32 t337, .int .u32 t338] .u32 16 t339) 47 (0, 0))) := ⟨hw1_⟩; have n4_ : Aside0 (Below w.heap.size w w61) := ⟨hw3_ _ _ (jH HB) GE341.out⟩; clear hw1_ hw2_ hw3_; clear BK331; clear BK332; clear BK334; clear BK341; clear HB; have BK331 := n0_; have BK332 := n1_; have BK334 := n2_; have BK341 := n3_; have HB := n4_; clear n0_ n1_ n2_ n3_ n4_) | ((with_reducible refine gate_dst (N := 64) rfl ?_); refine wpList_load_row rfl 47 (.tmp 12) rfl gb341 rfl 47 (arC [.int .u32 t337, .int .u32 t338] .u32 16 t339) (0, 0) _ (jK BK341) Tryd.underlying47 rfl (by kernel_rfl) ?_) | ((with_reducible refine gate_dst (N := 66) rfl ?_); refine wpList_load_row rfl 51 (.tmp 7) rfl gb332 rfl 51 (arC [.int .u32 a3_0, .int .u32 a3_1, .int .u64 a3_2] .u64 6 a3_3) (0, 0) _ (jK BK332) Tryd.underlying51 rfl (by kernel_rfl) ?_) | ((with_reducible refine gate_callee (f := 21) rfl ?_); refine goesL_ (some 67) rfl rfl Tryd.func21 (by kernel_rfl) rfl #[.slice (some ad333) l0.length c0, .agg (arC [.int .u32 t337, .int .u32 t338] .u32 16 t339), .int .i64 x11_34, .agg (arC [.int .u32 a3_0, .int .u32 a3_1, .int .u64 a3_2] .u64 6 a3_3)] rfl jZ ?_; (with_reducible refine (ih kj34 (by have := HJ22.out; have := HJ34.out; omega) _ _ l0 t337 t338 t339 x11_34 a3_0 a3_1 a3_2 a3_3 t342 t343 _ ?side1 ?side2 A55.out).mono ?_); (case side1 => exact jC (Kd.C_below HR0.out HB.out)); (case side2 => exact HC0.out); rintro e w62 ⟨rfl, hb⟩; refine ⟨_, rfl, ?_⟩; have n0_ := Aside0.mk (jB BK331 hb); have n1_ := Aside0.mk (jB BK332 hb); have n2_ := Aside0.mk (jB BK334 hb); have n3_ := Aside0.mk (jB BK341 hb); have n4_ := Aside0.mk (zT (jH HB) hb); clear BK331; clear BK332; clear BK334; clear BK341; clear HB; have BK331 := n0_; have BK332 := n1_; have BK334 := n2_; have BK341 := n3_; have HB := n4_; clear n0_ n1_ n2_ n3_ n4_; (try clear hb); (try clear hb2); (try clear hk); (try clear hi)))
          go_ret2
          exact ⟨jE, jH HB⟩
         ·replace c54 := Bool.eq_false_iff.mpr c54
          subst c54
          rw [if_neg (show ¬ (false = true) by decide)] at H
          simp only [Option.some.injEq, Prod.mk.injEq] at H
          obtain ⟨rfl, rfl⟩ := H
          go_wp2_with (first | ((with_reducible refine gate_dst (N := 54) rfl ?_); refine wpList_load_row rfl 47 (.tmp 5) rfl gb331 rfl 47 (arC [.int .u32 a1_0, .int .u32 a1_1] .u32 16 a1_2) (0, 0) _ (jK BK331) Tryd.underlying47 rfl (by kernel_rfl) ?_; have hnb63 := NB334_331.out; have hnc63 := NB331_334.out; have hnb64 := NB334_332.out; have hnc64 := NB332_334.out; have hcz65_0 : wc.cell? ⟨gb334, 0, none⟩ = some (.int .i64 ((rd_T30 l0 a2).f0)) := (kC BK334.out 0).trans rfl; have hcz65_1 : wc.cell? ⟨gb334, 1, none⟩ = some (.int .i64 ((rd_T30 l0 a2).f1)) := (kC BK334.out 1).trans rfl; have hcz65_2 : wc.cell? ⟨gb334, 2, none⟩ = some (.int .i64 ((rd_T30 l0 a2).f2)) := (kC BK334.out 2).trans rfl; have hcz65_3 : wc.cell? ⟨gb334, 3, none⟩ = some (.int .u32 ((rd_T30 l0 a2).f3)) := (kC BK334.out 3).trans rfl; have hfz65_0 := kF BK334.out 0; have hfz65_1 := kF BK334.out 1; have hfz65_2 := kF BK334.out 2; have hfz65_3 := kF BK334.out 3) | ((with_reducible refine gate_dst (N := 56) rfl ?_); refine wpList_load_row rfl 51 (.tmp 7) rfl gb332 rfl 51 (arC [.int .u32 a3_0, .int .u32 a3_1, .int .u64 a3_2] .u64 6 a3_3) (0, 0) _ (jK BK332) Tryd.underlying51 rfl (by kernel_rfl) ?_) | ((with_reducible refine gate_callee (f := 35) rfl ?_); refine goesL_ (some 57) rfl rfl Tryd.func35 (by kernel_rfl) rfl #[.agg (arC [.int .u32 a1_0, .int .u32 a1_1] .u32 16 a1_2), .agg #[.int .i64 ((rd_T30 l0 a2).f0), .int .i64 ((rd_T30 l0 a2).f1), .int .i64 ((rd_T30 l0 a2).f2), .int .u32 ((rd_T30 l0 a2).f3)], .agg (arC [.int .u32 a3_0, .int .u32 a3_1, .int .u64 a3_2] .u64 6 a3_3)] rfl jZ ?_; (with_reducible refine (hurdleref06_Step.calls kj34 a1_0 a1_1 a1_2 ((rd_T30 l0 a2).f0) ((rd_T30 l0 a2).f1) ((rd_T30 l0 a2).f2) ((rd_T30 l0 a2).f3) a3_0 a3_1 a3_2 a3_3 t337 t338 t339 false _ A53.out).mono ?_); rintro e w66 ⟨rfl, hb⟩; refine ⟨_, rfl, ?_⟩; have n0_ := Aside0.mk (jB BK331 hb); have n1_ := Aside0.mk (jB BK332 hb); have n2_ := Aside0.mk (jB BK334 hb); have n3_ := Aside0.mk (zT (jH HB) hb); clear BK331; clear BK332; clear BK334; clear HB; have BK331 := n0_; have BK332 := n1_; have BK334 := n2_; have HB := n3_; clear n0_ n1_ n2_ n3_; (try clear hb); (try clear hb2); (try clear hk); (try clear hi)) | ((with_reducible refine gate_dst (N := 12) rfl ?_); refine box_event ?hg (N := 12) ?hd (cs := (arC [.int .u32 0, .int .u32 0] .u32 16 ([] : List Int))) (t := 47) ?hr ?_; (case hd => rfl); (case hg => rfl); (case hr => first | (go_simp; done) | (go_simp; rfl)); intro gb341 hg w67 hbox hb; have n0_ := Aside0.mk (jB BK331 hb); have n1_ := Aside0.mk (jB BK332 hb); have n2_ := Aside0.mk (jB BK334 hb); have n3_ := Aside0.mk (zT (jH HB) hb); have n4_ := Aside0.mk (hbox); have n5_ := Aside0.mk ((by rw [hg]; exact (zZ (jH HB)) : w.heap.size ≤ gb341)); have n6_ := Aside0.mk ((by rw [hg]; exact (zZ (jH HB)) : w.heap.size ≤ gb341)); have n7_ := Aside0.mk ((by rw [hg]; exact Nat.ne_of_lt (jL BK331) : gb331 ≠ gb341)); have n8_ := Aside0.mk ((by rw [hg]; exact Nat.ne_of_gt (jL BK331) : gb341 ≠ gb331)); have n9_ := Aside0.mk ((by rw [hg]; exact Nat.ne_of_lt (jL BK332) : gb332 ≠ gb341)); have n10_ := Aside0.mk ((by rw [hg]; exact Nat.ne_of_gt (jL BK332) : gb341 ≠ gb332)); have n11_ := Aside0.mk ((by rw [hg]; exact Nat.ne_of_lt (jL BK334) : gb334 ≠ gb341)); have n12_ := Aside0.mk ((by rw [hg]; exact Nat.ne_of_gt (jL BK334) : gb341 ≠ gb334)); clear BK331; clear BK332; clear BK334; clear HB; have BK331 := n0_; have BK332 := n1_; have BK334 := n2_; have HB := n3_; have BK341 := n4_; have GW341 := n5_; have GE341 := n6_; have NB331_341 := n7_; have NB341_331 := n8_; have NB332_341 := n9_; have NB341_332 := n10_; have NB334_341 := n11_; have NB341_334 := n12_; clear n0_ n1_ n2_ n3_ n4_ n5_ n6_ n7_ n8_ n9_ n10_ n11_ n12_; clear hb hbox hg) | ((with_reducible refine gate_store (t := 47) (p := 12) rfl ?_); refine stw_event rfl 47 (.tmp 12) _ rfl rfl gb341 (arC [.int .u32 t337, .int .u32 t338] .u32 16 t339) rfl rfl 47 (arC [.int .u32 0, .int .u32 0] .u32 16 ([] : List Int)) (jK BK341) (by kernel_rfl) (by kernel_rfl) (arC_one rfl) ?_; intro w68 hw1_ hw2_ hw3_; have n0_ : Aside0 (w68.heap[gb331]? = some (.cells (arC [.int .u32 a1_0, .int .u32 a1_1] .u32 16 a1_2) 47 (0, 0))) := ⟨hw2_ _ _ NB331_341.out (jK BK331)⟩; have n1_ : Aside0 (w68.heap[gb332]? = some (.cells (arC [.int .u32 a3_0, .int .u32 a3_1, .int .u64 a3_2] .u64 6 a3_3) 51 (0, 0))) := ⟨hw2_ _ _ NB332_341.out (jK BK332)⟩; have n2_ : Aside0 (w68.heap[gb334]? = some (.cells #[.int .i64 ((rd_T30 l0 a2).f0), .int .i64 ((rd_T30 l0 a2).f1), .int .i64 ((rd_T30 l0 a2).f2), .int .u32 ((rd_T30 l0 a2).f3)] 30 (0, 0))) := ⟨hw2_ _ _ NB334_341.out (jK BK334)⟩; have n3_ : Aside0 (w68.heap[gb341]? = some (.cells (arC [.int .u32 t337, .int .u32 t338] .u32 16 t339) 47 (0, 0))) := ⟨hw1_⟩; have n4_ : Aside0 (Below w.heap.size w w68) := ⟨hw3_ _ _ (jH HB) GE341.out⟩; clear hw1_ hw2_ hw3_; clear BK331; clear BK332; clear BK334; clear BK341; clear HB; have BK331 := n0_; have BK332 := n1_; have BK334 := n2_; have BK341 := n3_; have HB := n4_; clear n0_ n1_ n2_ n3_ n4_))
          go_ret2
          exact ⟨jE, jH HB⟩
  ·rw [if_neg c6] at H
   exact absurd H (by simp)
 ·rw [if_neg c5] at H
  exact absurd H (by simp)
end Go.Proofs.YtnchbnnijboklaaDoor.M
