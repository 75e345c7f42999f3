/- What Go functions compute; their calls come to it. No condition. -/
import Derived.Test.YtohpbjnihmcelaaDoorM0
import Derived.Test.YtohpbjnihmcelaaDoorM13
import Derived.Test.YtohpbjnihmcelaaDoorM20
import Derived.Test.YtohpbjnihmcelaaDoorM25
namespace Go.Proofs.YtohpbjnihmcelaaDoor.M
open Go.RowKit Go.Proofs.YtohpbjnihmcelaaDoorW.PrintWords Go.Proofs.YtohpbjnihmcelaaDoorW.PrintLast Go.Proofs.YtohpbjnihmcelaaDoorW.PrintMore
attribute [local go_sem] max2_int min2_int max_two min_two max_three min_three max_four min_four   -- for this text's walks alone
set_option linter.unusedVariables false
set_option linter.unusedSimpArgs false
mutual
def r06_From.j0 : Nat → List (S45) → Int → Int → Int → List Int → Int → Int → Int → List Int → Int → Int → Int → Int → Option (Int × Int)
 | 0, _, _, _, _, _, _, _, _, _, _, _, _, _ => none
 | k + 1, x0, x11, x258000, x258001, x258002, x259000, x259001, x259002, x259003, x261000, x261001, x261002, x261003 => (r02_Branch.f k x261000 x261001 x261002 x261003).bind fun t261 => (if t261 = true then ((r06_Takes.f k x258000 x258001 x258002 x261000 x261001 x261002 x261003).bind fun t262 => (if t262 = true then (r06_From.j1 k x0 (wrap64 (x11 + x261001)) x258000 x258001 x258002 x259000 x259001 x259002 x259003 x261000 x261001 x261002 x261003) else (r06_From.j1 k x0 (wrap64 (x11 + x261002)) x258000 x258001 x258002 x259000 x259001 x259002 x259003 x261000 x261001 x261002 x261003))) else (r06_From.j1 k x0 x11 x258000 x258001 x258002 x259000 x259001 x259002 x259003 x261000 x261001 x261002 x261003))
def r06_From.j1 : Nat → List (S45) → Int → Int → Int → List Int → Int → Int → Int → List Int → Int → Int → Int → Int → Option (Int × Int)
 | 0, _, _, _, _, _, _, _, _, _, _, _, _, _ => none
 | k + 1, x0, x11, x258000, x258001, x258002, x259000, x259001, x259002, x259003, x261000, x261001, x261002, x261003 => (r06_Step.f k x258000 x258001 x258002 x261000 x261001 x261002 x261003 x259000 x259001 x259002 x259003).bind fun bt263 => (if bt263.2.2.2 = true then ((r06_From.f k x0 bt263.1 bt263.2.1 bt263.2.2.1 x11 x259000 x259001 x259002 x259003).bind fun bt268 => (some (bt268.1, wrap64 (bt268.2 + 1)))) else (some (0, 1)))
def r06_From.f : Nat → List (S45) → Int → Int → List Int → Int → Int → Int → Int → List Int → Option (Int × Int)
 | 0, _, _, _, _, _, _, _, _, _ => none
 | k + 1, l0, a1_0, a1_1, a1_2, a2, a3_0, a3_1, a3_2, a3_3 => if 0 ≤ a2 then (if a2 < (l0.length : Int) then (if ((rd_T45 l0 a2).f0) = 6 then (some ((rd_T45 l0 a2).f3, 1)) else (if ((rd_T45 l0 a2).f0) = 22 then (some (a1_0, 1)) else (if ((rd_T45 l0 a2).f0) = 5 then (r06_From.j0 k l0 (wrap64 ((wrap64 (a2 + 1)) + (wrap64 ((rd_T45 l0 a2).f3)))) a1_0 a1_1 a1_2 a3_0 a3_1 a3_2 a3_3 ((rd_T45 l0 a2).f0) ((rd_T45 l0 a2).f1) ((rd_T45 l0 a2).f2) ((rd_T45 l0 a2).f3)) else (r06_From.j0 k l0 (wrap64 (a2 + 1)) a1_0 a1_1 a1_2 a3_0 a3_1 a3_2 a3_3 ((rd_T45 l0 a2).f0) ((rd_T45 l0 a2).f1) ((rd_T45 l0 a2).f2) ((rd_T45 l0 a2).f3))))) else (none)) else (none)
end
theorem r06_From.mono_l : ∀ k, (∀ y0 y1 y2 y3 y4 y5 y6 y7 y8, LeO (r06_From.f k y0 y1 y2 y3 y4 y5 y6 y7 y8) (r06_From.f (k + 1) y0 y1 y2 y3 y4 y5 y6 y7 y8)) ∧ (∀ y0 y1 y2 y3 y4 y5 y6 y7 y8 y9 y10 y11 y12, LeO (r06_From.j0 k y0 y1 y2 y3 y4 y5 y6 y7 y8 y9 y10 y11 y12) (r06_From.j0 (k + 1) y0 y1 y2 y3 y4 y5 y6 y7 y8 y9 y10 y11 y12)) ∧ (∀ y0 y1 y2 y3 y4 y5 y6 y7 y8 y9 y10 y11 y12, LeO (r06_From.j1 k y0 y1 y2 y3 y4 y5 y6 y7 y8 y9 y10 y11 y12) (r06_From.j1 (k + 1) y0 y1 y2 y3 y4 y5 y6 y7 y8 y9 y10 y11 y12))
 | 0 => ⟨fun _ _ _ _ _ _ _ _ _ r h => by simp [r06_From.f] at h, fun _ _ _ _ _ _ _ _ _ _ _ _ _ r h => by simp [r06_From.j0] at h, fun _ _ _ _ _ _ _ _ _ _ _ _ _ r h => by simp [r06_From.j1] at h⟩
 | k + 1 => by
  obtain ⟨ih0, ih1, ih2⟩ := r06_From.mono_l k
  refine ⟨?_, ?_, ?_⟩
  all_goals intros
  all_goals first | unfold r06_From.f | unfold r06_From.j0 | unfold r06_From.j1
  all_goals repeat' first
   | (with_reducible apply ih0)
   | (with_reducible apply ih1)
   | (with_reducible apply ih2)
   | (with_reducible apply r02_Branch.mono)
   | (with_reducible apply r06_Step.mono)
   | (with_reducible apply r06_Takes.mono)
   | (with_reducible exact LeO.refl _)
   | (with_reducible exact LeO.none _)
   | (with_reducible refine LeO.ite ?_ ?_)
   | (with_reducible refine LeO.bind ?_ (fun _ => ?_))
   | apply ih0
   | apply ih1
   | apply ih2
   | apply r02_Branch.mono
   | apply r06_Step.mono
   | apply r06_Takes.mono
   | exact LeO.none _
   | refine LeO.ite ?_ ?_
   | refine LeO.bind ?_ (fun _ => ?_)
theorem r06_From.mono : ∀ a0 a1 a2 a3 a4 a5 a6 a7 a8 k, LeO (r06_From.f k a0 a1 a2 a3 a4 a5 a6 a7 a8) (r06_From.f (k + 1) a0 a1 a2 a3 a4 a5 a6 a7 a8) := by
 intro a0 a1 a2 a3 a4 a5 a6 a7 a8 k
 obtain ⟨ih0, ih1, ih2⟩ := r06_From.mono_l k
 exact ih0 a0 a1 a2 a3 a4 a5 a6 a7 a8
set_option maxHeartbeats 8000000 in
set_option maxRecDepth 100000 in
theorem r06_From.calls (k : Nat) : ∀ (A0 : Option Addr) (c0 : Nat) (l0 : List (S45)) (a1_0 : Int) (a1_1 : Int) (a1_2 : List Int) (a2 : Int) (a3_0 : Int) (a3_1 : Int) (a3_2 : Int) (a3_3 : List Int) (r1 : Int) (r2 : Int) (w : World) (hr0 : Kd.C k45 w A0 l0.length l0) (hc0 : l0.length ≤ c0) (h : r06_From.f k l0 a1_0 a1_1 a1_2 a2 a3_0 a3_1 a3_2 a3_3 = some (r1, r2)),
  Calls Tryd.prog 27 #[.slice A0 l0.length c0, .agg (arC [.int .u32 a1_0, .int .u32 a1_1] .u32 16 a1_2), .int .i64 a2, .agg (arC [.int .u32 a3_0, .int .u32 a3_1, .int .u64 a3_2] .u64 6 a3_3)] w fun e w' => e = .returned (.tuple #[.int .u32 r1, .int .i64 r2]) ∧ Below w.heap.size w w' := by
 induction k using Nat.strongRecOn with
 | _ k ih =>
 intro A0 c0 l0 a1_0 a1_1 a1_2 a2 a3_0 a3_1 a3_2 a3_3 r1 r2 w hr0 hc0 h
 cases k with
 | zero => exact absurd h (by simp [r06_From.f])
 | succ k =>
 simp only [r06_From.f] at h
 have hu59 := Tryd.underlying59
 have hu38 := Tryd.underlying38
 have hu45 := Tryd.underlying45
 have HR0 := Aside0.mk hr0
 have HC0 := Aside0.mk hc0
 clear hr0 hc0
 have HB := Aside0.mk (Below.refl w.heap.size w)
 have H : (if 0 ≤ a2 then (if a2 < (l0.length : Int) then (if ((rd_T45 l0 a2).f0) = 6 then (some ((rd_T45 l0 a2).f3, 1)) else (if ((rd_T45 l0 a2).f0) = 22 then (some (a1_0, 1)) else (if ((rd_T45 l0 a2).f0) = 5 then (r06_From.j0 k l0 (wrap64 ((wrap64 (a2 + 1)) + (wrap64 ((rd_T45 l0 a2).f3)))) a1_0 a1_1 a1_2 a3_0 a3_1 a3_2 a3_3 ((rd_T45 l0 a2).f0) ((rd_T45 l0 a2).f1) ((rd_T45 l0 a2).f2) ((rd_T45 l0 a2).f3)) else (r06_From.j0 k l0 (wrap64 (a2 + 1)) a1_0 a1_1 a1_2 a3_0 a3_1 a3_2 a3_3 ((rd_T45 l0 a2).f0) ((rd_T45 l0 a2).f1) ((rd_T45 l0 a2).f2) ((rd_T45 l0 a2).f3))))) else (none)) else (none)) = some (r1, r2) := h
 clear h
 by_cases c5 : 0 ≤ a2
 ·rw [if_pos c5] at H
  have c5b0 : decide (0 ≤ a2) = true := dT c5
  clear c5
  by_cases c6 : a2 < (l0.length : Int)
  ·rw [if_pos c6] at H
   have c6b0 : decide (a2 < (l0.length : Int)) = true := dT c6
   clear c6
   by_cases c7 : ((rd_T45 l0 a2).f0) = 6
   ·rw [if_pos c7] at H
    have c7b0 : (((rd_T45 l0 a2).f0) == 6) = true := bI.mpr c7
    have c7b1 : (((rd_T45 l0 a2).f0) != 6) = false := nF.mpr c7
    clear c7
    simp only [Option.some.injEq, Prod.mk.injEq] at H
    obtain ⟨rfl, rfl⟩ := H
    go_enter Tryd.func27, Tryd.ntmps27
    go_wp2_with (first | ((with_reducible refine gate_dst (N := 5) rfl ?_); refine box_event rfl (N := 5) rfl (cs := (arC [.int .u32 a1_0, .int .u32 a1_1] .u32 16 a1_2)) (t := 59) jW ?_; intro gb257 hg w8 hbox hb; have n0_ := Aside0.mk (zT (jH HB) hb); have n1_ := Aside0.mk hbox; have n2_ := Aside0.mk (jG hg HB); have n3_ := Aside0.mk (jG hg HB); clear HB; have HB := n0_; have BK257 := n1_; have GW257 := n2_; have GE257 := n3_; clear n0_ n1_ n2_ n3_; clear hb hbox hg) | ((with_reducible refine gate_dst (N := 7) rfl ?_); refine box_event rfl (N := 7) rfl (cs := (arC [.int .u32 a3_0, .int .u32 a3_1, .int .u64 a3_2] .u64 6 a3_3)) (t := 38) jW ?_; intro gb258 hg w9 hbox hb; have n0_ := Aside0.mk (jB BK257 hb); have n1_ := Aside0.mk (zT (jH HB) hb); have n2_ := Aside0.mk hbox; have n3_ := Aside0.mk (jG hg HB); have n4_ := Aside0.mk (jG hg HB); have n5_ := Aside0.mk (jN hg BK257); have n6_ := Aside0.mk (jM hg BK257); clear BK257; clear HB; have BK257 := n0_; have HB := n1_; have BK258 := n2_; have GW258 := n3_; have GE258 := n4_; have NB257_258 := n5_; have NB258_257 := n6_; clear n0_ n1_ n2_ n3_ n4_ n5_ n6_; clear hb hbox hg; have p259 : 0 ≤ (a2 : Int) := oD (jA); have q259 : a2 < (l0.length : Int) := oD (jA); obtain ⟨ad259, e259, hx259_0, hx259_1, hx259_2, hx259_3⟩ := at_T45 HR0.out a2 p259 q259; cases e259; replace hx259_0 := (HB.out.cell (bL w _ hx259_0)).trans hx259_0; replace hx259_1 := (HB.out.cell (bL w _ hx259_1)).trans hx259_1; replace hx259_2 := (HB.out.cell (bL w _ hx259_2)).trans hx259_2; replace hx259_3 := (HB.out.cell (bL w _ hx259_3)).trans hx259_3; replace p259 := eq_true p259; replace q259 := eq_true q259) | ((with_reducible refine gate_dst (N := 10) rfl ?_); refine box_event rfl (N := 10) rfl (cs := #[.int .i64 0, .int .i64 0, .int .i64 0, .int .u32 0]) (t := 45) jW ?_; intro gb260 hg w10 hbox hb; have n0_ := Aside0.mk (jB BK257 hb); have n1_ := Aside0.mk (jB BK258 hb); have n2_ := Aside0.mk (zT (jH HB) hb); have n3_ := Aside0.mk hbox; have n4_ := Aside0.mk (jG hg HB); have n5_ := Aside0.mk (jG hg HB); have n6_ := Aside0.mk (jN hg BK257); have n7_ := Aside0.mk (jM hg BK257); have n8_ := Aside0.mk (jN hg BK258); have n9_ := Aside0.mk (jM hg BK258); clear BK257; clear BK258; clear HB; have BK257 := n0_; have BK258 := n1_; have HB := n2_; have BK260 := n3_; have GW260 := n4_; have GE260 := n5_; have NB257_260 := n6_; have NB260_257 := n7_; have NB258_260 := n8_; have NB260_258 := n9_; clear n0_ n1_ n2_ n3_ n4_ n5_ n6_ n7_ n8_ n9_; clear hb hbox hg; have hnb11 := NB260_257.out; have hnc11 := NB257_260.out; have hnb12 := NB260_258.out; have hnc12 := NB258_260.out; have hcz13_0 : w10.cell? ⟨gb260, 0, none⟩ = some (.int .i64 0) := (kC BK260.out 0).trans rfl; have hcz13_1 : w10.cell? ⟨gb260, 1, none⟩ = some (.int .i64 0) := (kC BK260.out 1).trans rfl; have hcz13_2 : w10.cell? ⟨gb260, 2, none⟩ = some (.int .i64 0) := (kC BK260.out 2).trans rfl; have hcz13_3 : w10.cell? ⟨gb260, 3, none⟩ = some (.int .u32 0) := (kC BK260.out 3).trans rfl; have hfz13_0 := kF BK260.out 0; have hfz13_1 := kF BK260.out 1; have hfz13_2 := kF BK260.out 2; have hfz13_3 := kF BK260.out 3))
    go_ret2
    exact ⟨jE, jH HB⟩
   ·rw [if_neg c7] at H
    have c7b0 : (((rd_T45 l0 a2).f0) == 6) = false := bF.mpr c7
    have c7b1 : (((rd_T45 l0 a2).f0) != 6) = true := nI.mpr c7
    by_cases c14 : ((rd_T45 l0 a2).f0) = 22
    ·rw [if_pos c14] at H
     have c14b0 : (((rd_T45 l0 a2).f0) == 22) = true := bI.mpr c14
     have c14b1 : (((rd_T45 l0 a2).f0) != 22) = false := nF.mpr c14
     clear c14
     simp only [Option.some.injEq, Prod.mk.injEq] at H
     obtain ⟨rfl, rfl⟩ := H
     go_enter Tryd.func27, Tryd.ntmps27
     go_wp2_with (first | ((with_reducible refine gate_dst (N := 5) rfl ?_); refine box_event rfl (N := 5) rfl (cs := (arC [.int .u32 a1_0, .int .u32 a1_1] .u32 16 a1_2)) (t := 59) jW ?_; intro gb257 hg w15 hbox hb; have n0_ := Aside0.mk (zT (jH HB) hb); have n1_ := Aside0.mk hbox; have n2_ := Aside0.mk (jG hg HB); have n3_ := Aside0.mk (jG hg HB); clear HB; have HB := n0_; have BK257 := n1_; have GW257 := n2_; have GE257 := n3_; clear n0_ n1_ n2_ n3_; clear hb hbox hg) | ((with_reducible refine gate_dst (N := 7) rfl ?_); refine box_event rfl (N := 7) rfl (cs := (arC [.int .u32 a3_0, .int .u32 a3_1, .int .u64 a3_2] .u64 6 a3_3)) (t := 38) jW ?_; intro gb258 hg w16 hbox hb; have n0_ := Aside0.mk (jB BK257 hb); have n1_ := Aside0.mk (zT (jH HB) hb); have n2_ := Aside0.mk hbox; have n3_ := Aside0.mk (jG hg HB); have n4_ := Aside0.mk (jG hg HB); have n5_ := Aside0.mk (jN hg BK257); have n6_ := Aside0.mk (jM hg BK257); clear BK257; clear HB; have BK257 := n0_; have HB := n1_; have BK258 := n2_; have GW258 := n3_; have GE258 := n4_; have NB257_258 := n5_; have NB258_257 := n6_; clear n0_ n1_ n2_ n3_ n4_ n5_ n6_; clear hb hbox hg; have p259 : 0 ≤ (a2 : Int) := oD (jA); have q259 : a2 < (l0.length : Int) := oD (jA); obtain ⟨ad259, e259, hx259_0, hx259_1, hx259_2, hx259_3⟩ := at_T45 HR0.out a2 p259 q259; cases e259; replace hx259_0 := (HB.out.cell (bL w _ hx259_0)).trans hx259_0; replace hx259_1 := (HB.out.cell (bL w _ hx259_1)).trans hx259_1; replace hx259_2 := (HB.out.cell (bL w _ hx259_2)).trans hx259_2; replace hx259_3 := (HB.out.cell (bL w _ hx259_3)).trans hx259_3; replace p259 := eq_true p259; replace q259 := eq_true q259) | ((with_reducible refine gate_dst (N := 10) rfl ?_); refine box_event rfl (N := 10) rfl (cs := #[.int .i64 0, .int .i64 0, .int .i64 0, .int .u32 0]) (t := 45) jW ?_; intro gb260 hg w17 hbox hb; have n0_ := Aside0.mk (jB BK257 hb); have n1_ := Aside0.mk (jB BK258 hb); have n2_ := Aside0.mk (zT (jH HB) hb); have n3_ := Aside0.mk hbox; have n4_ := Aside0.mk (jG hg HB); have n5_ := Aside0.mk (jG hg HB); have n6_ := Aside0.mk (jN hg BK257); have n7_ := Aside0.mk (jM hg BK257); have n8_ := Aside0.mk (jN hg BK258); have n9_ := Aside0.mk (jM hg BK258); clear BK257; clear BK258; clear HB; have BK257 := n0_; have BK258 := n1_; have HB := n2_; have BK260 := n3_; have GW260 := n4_; have GE260 := n5_; have NB257_260 := n6_; have NB260_257 := n7_; have NB258_260 := n8_; have NB260_258 := n9_; clear n0_ n1_ n2_ n3_ n4_ n5_ n6_ n7_ n8_ n9_; clear hb hbox hg; have hnb18 := NB260_257.out; have hnc18 := NB257_260.out; have hnb19 := NB260_258.out; have hnc19 := NB258_260.out; have hcz20_0 : w17.cell? ⟨gb260, 0, none⟩ = some (.int .i64 0) := (kC BK260.out 0).trans rfl; have hcz20_1 : w17.cell? ⟨gb260, 1, none⟩ = some (.int .i64 0) := (kC BK260.out 1).trans rfl; have hcz20_2 : w17.cell? ⟨gb260, 2, none⟩ = some (.int .i64 0) := (kC BK260.out 2).trans rfl; have hcz20_3 : w17.cell? ⟨gb260, 3, none⟩ = some (.int .u32 0) := (kC BK260.out 3).trans rfl; have hfz20_0 := kF BK260.out 0; have hfz20_1 := kF BK260.out 1; have hfz20_2 := kF BK260.out 2; have hfz20_3 := kF BK260.out 3; have hnb21 := NB257_258.out; have hnc21 := NB258_257.out; have hcz22_0 : w17.cell? ⟨gb257, 0, none⟩ = some (.int .u32 a1_0) := (kC BK257.out 0).trans rfl; have hcz22_1 : w17.cell? ⟨gb257, 1, none⟩ = some (.int .u32 a1_1) := (kC BK257.out 1).trans rfl; have hfz22_0 := kF BK257.out 0; have hfz22_1 := kF BK257.out 1; have hfz22_2 := kF BK257.out 2))
     go_ret2
     exact ⟨jE, jH HB⟩
    ·rw [if_neg c14] at H
     have c14b0 : (((rd_T45 l0 a2).f0) == 22) = false := bF.mpr c14
     have c14b1 : (((rd_T45 l0 a2).f0) != 22) = true := nI.mpr c14
     have HC23 := Aside0.mk H
     clear H
     go_enter Tryd.func27, Tryd.ntmps27
     go_upto_if 34 with (first | ((with_reducible refine gate_dst (N := 5) rfl ?_); refine box_event rfl (N := 5) rfl (cs := (arC [.int .u32 a1_0, .int .u32 a1_1] .u32 16 a1_2)) (t := 59) jW ?_; intro gb257 hg w24 hbox hb; have n0_ := Aside0.mk (zT (jH HB) hb); have n1_ := Aside0.mk hbox; have n2_ := Aside0.mk (jG hg HB); have n3_ := Aside0.mk (jG hg HB); clear HB; have HB := n0_; have BK257 := n1_; have GW257 := n2_; have GE257 := n3_; clear n0_ n1_ n2_ n3_; clear hb hbox hg) | ((with_reducible refine gate_dst (N := 7) rfl ?_); refine box_event rfl (N := 7) rfl (cs := (arC [.int .u32 a3_0, .int .u32 a3_1, .int .u64 a3_2] .u64 6 a3_3)) (t := 38) jW ?_; intro gb258 hg w25 hbox hb; have n0_ := Aside0.mk (jB BK257 hb); have n1_ := Aside0.mk (zT (jH HB) hb); have n2_ := Aside0.mk hbox; have n3_ := Aside0.mk (jG hg HB); have n4_ := Aside0.mk (jG hg HB); have n5_ := Aside0.mk (jN hg BK257); have n6_ := Aside0.mk (jM hg BK257); clear BK257; clear HB; have BK257 := n0_; have HB := n1_; have BK258 := n2_; have GW258 := n3_; have GE258 := n4_; have NB257_258 := n5_; have NB258_257 := n6_; clear n0_ n1_ n2_ n3_ n4_ n5_ n6_; clear hb hbox hg; have p259 : 0 ≤ (a2 : Int) := oD (jA); have q259 : a2 < (l0.length : Int) := oD (jA); obtain ⟨ad259, e259, hx259_0, hx259_1, hx259_2, hx259_3⟩ := at_T45 HR0.out a2 p259 q259; cases e259; replace hx259_0 := (HB.out.cell (bL w _ hx259_0)).trans hx259_0; replace hx259_1 := (HB.out.cell (bL w _ hx259_1)).trans hx259_1; replace hx259_2 := (HB.out.cell (bL w _ hx259_2)).trans hx259_2; replace hx259_3 := (HB.out.cell (bL w _ hx259_3)).trans hx259_3; replace p259 := eq_true p259; replace q259 := eq_true q259) | ((with_reducible refine gate_dst (N := 10) rfl ?_); refine box_event rfl (N := 10) rfl (cs := #[.int .i64 0, .int .i64 0, .int .i64 0, .int .u32 0]) (t := 45) jW ?_; intro gb260 hg w26 hbox hb; have n0_ := Aside0.mk (jB BK257 hb); have n1_ := Aside0.mk (jB BK258 hb); have n2_ := Aside0.mk (zT (jH HB) hb); have n3_ := Aside0.mk hbox; have n4_ := Aside0.mk (jG hg HB); have n5_ := Aside0.mk (jG hg HB); have n6_ := Aside0.mk (jN hg BK257); have n7_ := Aside0.mk (jM hg BK257); have n8_ := Aside0.mk (jN hg BK258); have n9_ := Aside0.mk (jM hg BK258); clear BK257; clear BK258; clear HB; have BK257 := n0_; have BK258 := n1_; have HB := n2_; have BK260 := n3_; have GW260 := n4_; have GE260 := n5_; have NB257_260 := n6_; have NB260_257 := n7_; have NB258_260 := n8_; have NB260_258 := n9_; clear n0_ n1_ n2_ n3_ n4_ n5_ n6_ n7_ n8_ n9_; clear hb hbox hg; have hnb27 := NB260_257.out; have hnc27 := NB257_260.out; have hnb28 := NB260_258.out; have hnc28 := NB258_260.out; have hcz29_0 : w26.cell? ⟨gb260, 0, none⟩ = some (.int .i64 0) := (kC BK260.out 0).trans rfl; have hcz29_1 : w26.cell? ⟨gb260, 1, none⟩ = some (.int .i64 0) := (kC BK260.out 1).trans rfl; have hcz29_2 : w26.cell? ⟨gb260, 2, none⟩ = some (.int .i64 0) := (kC BK260.out 2).trans rfl; have hcz29_3 : w26.cell? ⟨gb260, 3, none⟩ = some (.int .u32 0) := (kC BK260.out 3).trans rfl; have hfz29_0 := kF BK260.out 0; have hfz29_1 := kF BK260.out 1; have hfz29_2 := kF BK260.out 2; have hfz29_3 := kF BK260.out 3))
     (try simp only [Act.put, List.setIfInBounds_toArray, List.set_cons_zero, List.set_cons_succ])
     go_cut [11] (fun v11 wc => ∃ (kq : Nat) (x11_22 : Int), v11 = .int .i64 x11_22 ∧ Aside0 (r06_From.j0 kq l0 x11_22 a1_0 a1_1 a1_2 a3_0 a3_1 a3_2 a3_3 ((rd_T45 l0 a2).f0) ((rd_T45 l0 a2).f1) ((rd_T45 l0 a2).f2) ((rd_T45 l0 a2).f3) = some (r1, r2)) ∧ Aside0 (kq ≤ k) ∧ Aside0 (wc.heap[gb257]? = some (.cells (arC [.int .u32 a1_0, .int .u32 a1_1] .u32 16 a1_2) 59 (0, 0))) ∧ Aside0 (wc.heap[gb258]? = some (.cells (arC [.int .u32 a3_0, .int .u32 a3_1, .int .u64 a3_2] .u64 6 a3_3) 38 (0, 0))) ∧ Aside0 (wc.heap[gb260]? = some (.cells #[.int .i64 ((rd_T45 l0 a2).f0), .int .i64 ((rd_T45 l0 a2).f1), .int .i64 ((rd_T45 l0 a2).f2), .int .u32 ((rd_T45 l0 a2).f3)] 45 (0, 0))) ∧ Aside0 (Below w.heap.size w wc))
     case first =>
      have H := HC23.out
      clear HC23
      by_cases c30 : ((rd_T45 l0 a2).f0) = 5
      ·rw [if_pos c30] at H
       have c30b0 : (((rd_T45 l0 a2).f0) == 5) = true := bI.mpr c30
       have c30b1 : (((rd_T45 l0 a2).f0) != 5) = false := nF.mpr c30
       clear c30
       (first | rw [c30b0] | (simp only [i64_w, i32_w]; rw [c30b0]) | skip)
       have H' := Aside0.mk H
       clear H
       have hnb31 := NB260_257.out
       have hnc31 := NB257_260.out
       have hnb32 := NB260_258.out
       have hnc32 := NB258_260.out
       have hcz33_0 : w26.cell? ⟨gb260, 0, none⟩ = some (.int .i64 0) := (kC BK260.out 0).trans rfl
       have hcz33_1 : w26.cell? ⟨gb260, 1, none⟩ = some (.int .i64 0) := (kC BK260.out 1).trans rfl
       have hcz33_2 : w26.cell? ⟨gb260, 2, none⟩ = some (.int .i64 0) := (kC BK260.out 2).trans rfl
       have hcz33_3 : w26.cell? ⟨gb260, 3, none⟩ = some (.int .u32 0) := (kC BK260.out 3).trans rfl
       have hfz33_0 := kF BK260.out 0
       have hfz33_1 := kF BK260.out 1
       have hfz33_2 := kF BK260.out 2
       have hfz33_3 := kF BK260.out 3
       go_wp2
       go_meet
       case rel => exact ⟨_, (wrap64 ((wrap64 (a2 + 1)) + (wrap64 ((rd_T45 l0 a2).f3)))), jS, H', ⟨jO⟩, ⟨by (with_reducible repeat (first | refine kN ?_ _ | refine kD ?_ | refine kA ?_ _)); refine kR ?_ NB257_260.out _; (with_reducible repeat (first | refine kN ?_ _ | refine kD ?_ | refine kA ?_ _)); refine kR ?_ NB257_260.out _; (with_reducible repeat (first | refine kN ?_ _ | refine kD ?_ | refine kA ?_ _)); refine kR ?_ NB257_260.out _; (with_reducible repeat (first | refine kN ?_ _ | refine kD ?_ | refine kA ?_ _)); refine kR ?_ NB257_260.out _; (with_reducible repeat (first | refine kN ?_ _ | refine kD ?_ | refine kA ?_ _)); exact BK257.out⟩, ⟨by (with_reducible repeat (first | refine kN ?_ _ | refine kD ?_ | refine kA ?_ _)); refine kR ?_ NB258_260.out _; (with_reducible repeat (first | refine kN ?_ _ | refine kD ?_ | refine kA ?_ _)); refine kR ?_ NB258_260.out _; (with_reducible repeat (first | refine kN ?_ _ | refine kD ?_ | refine kA ?_ _)); refine kR ?_ NB258_260.out _; (with_reducible repeat (first | refine kN ?_ _ | refine kD ?_ | refine kA ?_ _)); refine kR ?_ NB258_260.out _; (with_reducible repeat (first | refine kN ?_ _ | refine kD ?_ | refine kA ?_ _)); exact BK258.out⟩, ⟨by (with_reducible repeat (first | refine kN ?_ _ | refine kD ?_ | refine kA ?_ _)); refine kP (cs := #[.int .i64 ((rd_T45 l0 a2).f0), .int .i64 ((rd_T45 l0 a2).f1), .int .i64 ((rd_T45 l0 a2).f2), .int .u32 0]) ?_ 3 _ rfl; (with_reducible repeat (first | refine kN ?_ _ | refine kD ?_ | refine kA ?_ _)); refine kP (cs := #[.int .i64 ((rd_T45 l0 a2).f0), .int .i64 ((rd_T45 l0 a2).f1), .int .i64 0, .int .u32 0]) ?_ 2 _ rfl; (with_reducible repeat (first | refine kN ?_ _ | refine kD ?_ | refine kA ?_ _)); refine kP (cs := #[.int .i64 ((rd_T45 l0 a2).f0), .int .i64 0, .int .i64 0, .int .u32 0]) ?_ 1 _ rfl; (with_reducible repeat (first | refine kN ?_ _ | refine kD ?_ | refine kA ?_ _)); refine kP (cs := #[.int .i64 0, .int .i64 0, .int .i64 0, .int .u32 0]) ?_ 0 _ rfl; (with_reducible repeat (first | refine kN ?_ _ | refine kD ?_ | refine kA ?_ _)); exact BK260.out⟩, ⟨jH HB⟩⟩
      ·rw [if_neg c30] at H
       have c30b0 : (((rd_T45 l0 a2).f0) == 5) = false := bF.mpr c30
       have c30b1 : (((rd_T45 l0 a2).f0) != 5) = true := nI.mpr c30
       (first | rw [c30b0] | (simp only [i64_w, i32_w]; rw [c30b0]) | skip)
       have H' := Aside0.mk H
       clear H
       go_wp2
       go_meet
       case rel => exact ⟨_, (wrap64 (a2 + 1)), jS, H', ⟨jO⟩, ⟨by (with_reducible repeat (first | refine kN ?_ _ | refine kD ?_ | refine kA ?_ _)); refine kR ?_ NB257_260.out _; (with_reducible repeat (first | refine kN ?_ _ | refine kD ?_ | refine kA ?_ _)); refine kR ?_ NB257_260.out _; (with_reducible repeat (first | refine kN ?_ _ | refine kD ?_ | refine kA ?_ _)); refine kR ?_ NB257_260.out _; (with_reducible repeat (first | refine kN ?_ _ | refine kD ?_ | refine kA ?_ _)); refine kR ?_ NB257_260.out _; (with_reducible repeat (first | refine kN ?_ _ | refine kD ?_ | refine kA ?_ _)); exact BK257.out⟩, ⟨by (with_reducible repeat (first | refine kN ?_ _ | refine kD ?_ | refine kA ?_ _)); refine kR ?_ NB258_260.out _; (with_reducible repeat (first | refine kN ?_ _ | refine kD ?_ | refine kA ?_ _)); refine kR ?_ NB258_260.out _; (with_reducible repeat (first | refine kN ?_ _ | refine kD ?_ | refine kA ?_ _)); refine kR ?_ NB258_260.out _; (with_reducible repeat (first | refine kN ?_ _ | refine kD ?_ | refine kA ?_ _)); refine kR ?_ NB258_260.out _; (with_reducible repeat (first | refine kN ?_ _ | refine kD ?_ | refine kA ?_ _)); exact BK258.out⟩, ⟨by (with_reducible repeat (first | refine kN ?_ _ | refine kD ?_ | refine kA ?_ _)); refine kP (cs := #[.int .i64 ((rd_T45 l0 a2).f0), .int .i64 ((rd_T45 l0 a2).f1), .int .i64 ((rd_T45 l0 a2).f2), .int .u32 0]) ?_ 3 _ rfl; (with_reducible repeat (first | refine kN ?_ _ | refine kD ?_ | refine kA ?_ _)); refine kP (cs := #[.int .i64 ((rd_T45 l0 a2).f0), .int .i64 ((rd_T45 l0 a2).f1), .int .i64 0, .int .u32 0]) ?_ 2 _ rfl; (with_reducible repeat (first | refine kN ?_ _ | refine kD ?_ | refine kA ?_ _)); refine kP (cs := #[.int .i64 ((rd_T45 l0 a2).f0), .int .i64 0, .int .i64 0, .int .u32 0]) ?_ 1 _ rfl; (with_reducible repeat (first | refine kN ?_ _ | refine kD ?_ | refine kA ?_ _)); refine kP (cs := #[.int .i64 0, .int .i64 0, .int .i64 0, .int .u32 0]) ?_ 0 _ rfl; (with_reducible repeat (first | refine kN ?_ _ | refine kD ?_ | refine kA ?_ _)); exact BK260.out⟩, ⟨jH HB⟩⟩
     case rest =>
      clear HC23
      obtain ⟨kq, x11_22, rfl, HA, HJ22, BK257, BK258, BK260, HB⟩ := hcut
      cases kq with
      | zero => exact absurd HA.out (by simp [r06_From.j0])
      | succ kj22 =>
       have H := HA.out
       clear HA
       simp only [r06_From.j0] at H
       replace H := Option.bind_eq_some_iff.mp H
       obtain ⟨t261, A340, H⟩ := H
       try dsimp only at H
       have A34 := Aside0.mk A340
       clear A340
       have HC35 := Aside0.mk H
       clear H
       have hnb36 := NB260_257.out
       have hnc36 := NB257_260.out
       have hnb37 := NB260_258.out
       have hnc37 := NB258_260.out
       have hcz38_0 : wc.cell? ⟨gb260, 0, none⟩ = some (.int .i64 ((rd_T45 l0 a2).f0)) := (kC BK260.out 0).trans rfl
       have hcz38_1 : wc.cell? ⟨gb260, 1, none⟩ = some (.int .i64 ((rd_T45 l0 a2).f1)) := (kC BK260.out 1).trans rfl
       have hcz38_2 : wc.cell? ⟨gb260, 2, none⟩ = some (.int .i64 ((rd_T45 l0 a2).f2)) := (kC BK260.out 2).trans rfl
       have hcz38_3 : wc.cell? ⟨gb260, 3, none⟩ = some (.int .u32 ((rd_T45 l0 a2).f3)) := (kC BK260.out 3).trans rfl
       have hfz38_0 := kF BK260.out 0
       have hfz38_1 := kF BK260.out 1
       have hfz38_2 := kF BK260.out 2
       have hfz38_3 := kF BK260.out 3
       go_upto_if 41 with (first | ((with_reducible refine gate_callee (f := 25) rfl ?_); refine goesL_ (some 41) rfl rfl Tryd.func25 (by kernel_rfl) rfl #[.agg #[.int .i64 ((rd_T45 l0 a2).f0), .int .i64 ((rd_T45 l0 a2).f1), .int .i64 ((rd_T45 l0 a2).f2), .int .u32 ((rd_T45 l0 a2).f3)]] rfl jZ ?_; (with_reducible refine (r02_Branch.calls kj22 ((rd_T45 l0 a2).f0) ((rd_T45 l0 a2).f1) ((rd_T45 l0 a2).f2) ((rd_T45 l0 a2).f3) t261 _ A34.out).mono ?_); rintro e w39 ⟨rfl, hb⟩; refine ⟨_, rfl, ?_⟩; have n0_ := Aside0.mk (jB BK257 hb); have n1_ := Aside0.mk (jB BK258 hb); have n2_ := Aside0.mk (jB BK260 hb); have n3_ := Aside0.mk (zT (jH HB) hb); clear BK257; clear BK258; clear BK260; clear HB; have BK257 := n0_; have BK258 := n1_; have BK260 := n2_; have HB := n3_; clear n0_ n1_ n2_ n3_; (try clear hb); (try clear hb2); (try clear hk); (try clear hi)))
       (try simp only [Act.put, List.setIfInBounds_toArray, List.set_cons_zero, List.set_cons_succ])
       go_cut [11] (fun v11 wc => ∃ (kq : Nat) (x11_34 : Int), v11 = .int .i64 x11_34 ∧ Aside0 (r06_From.j1 kq l0 x11_34 a1_0 a1_1 a1_2 a3_0 a3_1 a3_2 a3_3 ((rd_T45 l0 a2).f0) ((rd_T45 l0 a2).f1) ((rd_T45 l0 a2).f2) ((rd_T45 l0 a2).f3) = some (r1, r2)) ∧ Aside0 (kq ≤ kj22) ∧ Aside0 (wc.heap[gb257]? = some (.cells (arC [.int .u32 a1_0, .int .u32 a1_1] .u32 16 a1_2) 59 (0, 0))) ∧ Aside0 (wc.heap[gb258]? = some (.cells (arC [.int .u32 a3_0, .int .u32 a3_1, .int .u64 a3_2] .u64 6 a3_3) 38 (0, 0))) ∧ Aside0 (wc.heap[gb260]? = some (.cells #[.int .i64 ((rd_T45 l0 a2).f0), .int .i64 ((rd_T45 l0 a2).f1), .int .i64 ((rd_T45 l0 a2).f2), .int .u32 ((rd_T45 l0 a2).f3)] 45 (0, 0))) ∧ Aside0 (Below w.heap.size w wc))
       case first =>
        have H := HC35.out
        clear HC35
        by_cases c40 : t261 = true
        ·subst c40
         rw [if_pos rfl] at H
         replace H := Option.bind_eq_some_iff.mp H
         obtain ⟨t262, A410, H⟩ := H
         try dsimp only at H
         have A41 := Aside0.mk A410
         clear A410
         by_cases c42 : t262 = true
         ·subst c42
          rw [if_pos rfl] at H
          have H' := Aside0.mk H
          clear H
          go_wp2_with (first | ((with_reducible refine gate_dst (N := 42) rfl ?_); refine wpList_load_row rfl 59 (.tmp 5) rfl gb257 rfl 59 (arC [.int .u32 a1_0, .int .u32 a1_1] .u32 16 a1_2) (0, 0) _ (jK BK257) Tryd.underlying59 rfl (by kernel_rfl) ?_; have hnb43 := NB260_257.out; have hnc43 := NB257_260.out; have hnb44 := NB260_258.out; have hnc44 := NB258_260.out; have hcz45_0 : w39.cell? ⟨gb260, 0, none⟩ = some (.int .i64 ((rd_T45 l0 a2).f0)) := (kC BK260.out 0).trans rfl; have hcz45_1 : w39.cell? ⟨gb260, 1, none⟩ = some (.int .i64 ((rd_T45 l0 a2).f1)) := (kC BK260.out 1).trans rfl; have hcz45_2 : w39.cell? ⟨gb260, 2, none⟩ = some (.int .i64 ((rd_T45 l0 a2).f2)) := (kC BK260.out 2).trans rfl; have hcz45_3 : w39.cell? ⟨gb260, 3, none⟩ = some (.int .u32 ((rd_T45 l0 a2).f3)) := (kC BK260.out 3).trans rfl; have hfz45_0 := kF BK260.out 0; have hfz45_1 := kF BK260.out 1; have hfz45_2 := kF BK260.out 2; have hfz45_3 := kF BK260.out 3) | ((with_reducible refine gate_callee (f := 37) rfl ?_); refine goesL_ (some 44) rfl rfl Tryd.func37 (by kernel_rfl) rfl #[.agg (arC [.int .u32 a1_0, .int .u32 a1_1] .u32 16 a1_2), .agg #[.int .i64 ((rd_T45 l0 a2).f0), .int .i64 ((rd_T45 l0 a2).f1), .int .i64 ((rd_T45 l0 a2).f2), .int .u32 ((rd_T45 l0 a2).f3)]] rfl jZ ?_; (with_reducible refine (r06_Takes.calls kj22 a1_0 a1_1 a1_2 ((rd_T45 l0 a2).f0) ((rd_T45 l0 a2).f1) ((rd_T45 l0 a2).f2) ((rd_T45 l0 a2).f3) true _ A41.out).mono ?_); rintro e w46 ⟨rfl, hb⟩; refine ⟨_, rfl, ?_⟩; have n0_ := Aside0.mk (jB BK257 hb); have n1_ := Aside0.mk (jB BK258 hb); have n2_ := Aside0.mk (jB BK260 hb); have n3_ := Aside0.mk (zT (jH HB) hb); clear BK257; clear BK258; clear BK260; clear HB; have BK257 := n0_; have BK258 := n1_; have BK260 := n2_; have HB := n3_; clear n0_ n1_ n2_ n3_; (try clear hb); (try clear hb2); (try clear hk); (try clear hi); have hcz47_0 : w46.cell? ⟨gb260, 0, none⟩ = some (.int .i64 ((rd_T45 l0 a2).f0)) := (kC BK260.out 0).trans rfl; have hcz47_1 : w46.cell? ⟨gb260, 1, none⟩ = some (.int .i64 ((rd_T45 l0 a2).f1)) := (kC BK260.out 1).trans rfl; have hcz47_2 : w46.cell? ⟨gb260, 2, none⟩ = some (.int .i64 ((rd_T45 l0 a2).f2)) := (kC BK260.out 2).trans rfl; have hcz47_3 : w46.cell? ⟨gb260, 3, none⟩ = some (.int .u32 ((rd_T45 l0 a2).f3)) := (kC BK260.out 3).trans rfl; have hfz47_0 := kF BK260.out 0; have hfz47_1 := kF BK260.out 1; have hfz47_2 := kF BK260.out 2; have hfz47_3 := kF BK260.out 3))
          go_meet
          case rel => exact ⟨_, (wrap64 (x11_22 + ((rd_T45 l0 a2).f1))), jS, H', ⟨by have := HJ22.out; first | omega | exact Nat.le_refl _⟩, ⟨jK BK257⟩, ⟨jK BK258⟩, ⟨jK BK260⟩, ⟨jH HB⟩⟩
         ·replace c42 := Bool.eq_false_iff.mpr c42
          subst c42
          rw [if_neg (show ¬ (false = true) by decide)] at H
          have H' := Aside0.mk H
          clear H
          go_wp2_with (first | ((with_reducible refine gate_dst (N := 42) rfl ?_); refine wpList_load_row rfl 59 (.tmp 5) rfl gb257 rfl 59 (arC [.int .u32 a1_0, .int .u32 a1_1] .u32 16 a1_2) (0, 0) _ (jK BK257) Tryd.underlying59 rfl (by kernel_rfl) ?_; have hnb48 := NB260_257.out; have hnc48 := NB257_260.out; have hnb49 := NB260_258.out; have hnc49 := NB258_260.out; have hcz50_0 : w39.cell? ⟨gb260, 0, none⟩ = some (.int .i64 ((rd_T45 l0 a2).f0)) := (kC BK260.out 0).trans rfl; have hcz50_1 : w39.cell? ⟨gb260, 1, none⟩ = some (.int .i64 ((rd_T45 l0 a2).f1)) := (kC BK260.out 1).trans rfl; have hcz50_2 : w39.cell? ⟨gb260, 2, none⟩ = some (.int .i64 ((rd_T45 l0 a2).f2)) := (kC BK260.out 2).trans rfl; have hcz50_3 : w39.cell? ⟨gb260, 3, none⟩ = some (.int .u32 ((rd_T45 l0 a2).f3)) := (kC BK260.out 3).trans rfl; have hfz50_0 := kF BK260.out 0; have hfz50_1 := kF BK260.out 1; have hfz50_2 := kF BK260.out 2; have hfz50_3 := kF BK260.out 3) | ((with_reducible refine gate_callee (f := 37) rfl ?_); refine goesL_ (some 44) rfl rfl Tryd.func37 (by kernel_rfl) rfl #[.agg (arC [.int .u32 a1_0, .int .u32 a1_1] .u32 16 a1_2), .agg #[.int .i64 ((rd_T45 l0 a2).f0), .int .i64 ((rd_T45 l0 a2).f1), .int .i64 ((rd_T45 l0 a2).f2), .int .u32 ((rd_T45 l0 a2).f3)]] rfl jZ ?_; (with_reducible refine (r06_Takes.calls kj22 a1_0 a1_1 a1_2 ((rd_T45 l0 a2).f0) ((rd_T45 l0 a2).f1) ((rd_T45 l0 a2).f2) ((rd_T45 l0 a2).f3) false _ A41.out).mono ?_); rintro e w51 ⟨rfl, hb⟩; refine ⟨_, rfl, ?_⟩; have n0_ := Aside0.mk (jB BK257 hb); have n1_ := Aside0.mk (jB BK258 hb); have n2_ := Aside0.mk (jB BK260 hb); have n3_ := Aside0.mk (zT (jH HB) hb); clear BK257; clear BK258; clear BK260; clear HB; have BK257 := n0_; have BK258 := n1_; have BK260 := n2_; have HB := n3_; clear n0_ n1_ n2_ n3_; (try clear hb); (try clear hb2); (try clear hk); (try clear hi); have hcz52_0 : w51.cell? ⟨gb260, 0, none⟩ = some (.int .i64 ((rd_T45 l0 a2).f0)) := (kC BK260.out 0).trans rfl; have hcz52_1 : w51.cell? ⟨gb260, 1, none⟩ = some (.int .i64 ((rd_T45 l0 a2).f1)) := (kC BK260.out 1).trans rfl; have hcz52_2 : w51.cell? ⟨gb260, 2, none⟩ = some (.int .i64 ((rd_T45 l0 a2).f2)) := (kC BK260.out 2).trans rfl; have hcz52_3 : w51.cell? ⟨gb260, 3, none⟩ = some (.int .u32 ((rd_T45 l0 a2).f3)) := (kC BK260.out 3).trans rfl; have hfz52_0 := kF BK260.out 0; have hfz52_1 := kF BK260.out 1; have hfz52_2 := kF BK260.out 2; have hfz52_3 := kF BK260.out 3))
          go_meet
          case rel => exact ⟨_, (wrap64 (x11_22 + ((rd_T45 l0 a2).f2))), jS, H', ⟨by have := HJ22.out; first | omega | exact Nat.le_refl _⟩, ⟨jK BK257⟩, ⟨jK BK258⟩, ⟨jK BK260⟩, ⟨jH HB⟩⟩
        ·replace c40 := Bool.eq_false_iff.mpr c40
         subst c40
         rw [if_neg (show ¬ (false = true) by decide)] at H
         have H' := Aside0.mk H
         clear H
         go_wp2
         go_meet
         case rel => exact ⟨_, (x11_22), jS, H', ⟨by have := HJ22.out; first | omega | exact Nat.le_refl _⟩, ⟨jK BK257⟩, ⟨jK BK258⟩, ⟨jK BK260⟩, ⟨jH HB⟩⟩
       case rest =>
        clear HC35
        obtain ⟨kq, x11_34, rfl, HA, HJ34, BK257, BK258, BK260, HB⟩ := hcut
        cases kq with
        | zero => exact absurd HA.out (by simp [r06_From.j1])
        | succ kj34 =>
         have H := HA.out
         clear HA
         simp only [r06_From.j1] at H
         replace H := Option.bind_eq_some_iff.mp H
         obtain ⟨⟨t263, t264, t265, t266⟩, A530, H⟩ := H
         try dsimp only at H
         have A53 := Aside0.mk A530
         clear A530
         by_cases c54 : t266 = true
         ·subst c54
          rw [if_pos rfl] at H
          replace H := Option.bind_eq_some_iff.mp H
          obtain ⟨⟨t268, t269⟩, A550, H⟩ := H
          try dsimp only at H
          have A55 := Aside0.mk A550
          clear A550
          simp only [Option.some.injEq, Prod.mk.injEq] at H
          obtain ⟨rfl, rfl⟩ := H
          go_wp2_with (first | ((with_reducible refine gate_dst (N := 54) rfl ?_); refine wpList_load_row rfl 59 (.tmp 5) rfl gb257 rfl 59 (arC [.int .u32 a1_0, .int .u32 a1_1] .u32 16 a1_2) (0, 0) _ (jK BK257) Tryd.underlying59 rfl (by kernel_rfl) ?_; have hnb56 := NB260_257.out; have hnc56 := NB257_260.out; have hnb57 := NB260_258.out; have hnc57 := NB258_260.out; have hcz58_0 : wc.cell? ⟨gb260, 0, none⟩ = some (.int .i64 ((rd_T45 l0 a2).f0)) := (kC BK260.out 0).trans rfl; have hcz58_1 : wc.cell? ⟨gb260, 1, none⟩ = some (.int .i64 ((rd_T45 l0 a2).f1)) := (kC BK260.out 1).trans rfl; have hcz58_2 : wc.cell? ⟨gb260, 2, none⟩ = some (.int .i64 ((rd_T45 l0 a2).f2)) := (kC BK260.out 2).trans rfl; have hcz58_3 : wc.cell? ⟨gb260, 3, none⟩ = some (.int .u32 ((rd_T45 l0 a2).f3)) := (kC BK260.out 3).trans rfl; have hfz58_0 := kF BK260.out 0; have hfz58_1 := kF BK260.out 1; have hfz58_2 := kF BK260.out 2; have hfz58_3 := kF BK260.out 3) | ((with_reducible refine gate_dst (N := 56) rfl ?_); refine wpList_load_row rfl 38 (.tmp 7) rfl gb258 rfl 38 (arC [.int .u32 a3_0, .int .u32 a3_1, .int .u64 a3_2] .u64 6 a3_3) (0, 0) _ (jK BK258) Tryd.underlying38 rfl (by kernel_rfl) ?_) | ((with_reducible refine gate_callee (f := 38) rfl ?_); refine goesL_ (some 57) rfl rfl Tryd.func38 (by kernel_rfl) rfl #[.agg (arC [.int .u32 a1_0, .int .u32 a1_1] .u32 16 a1_2), .agg #[.int .i64 ((rd_T45 l0 a2).f0), .int .i64 ((rd_T45 l0 a2).f1), .int .i64 ((rd_T45 l0 a2).f2), .int .u32 ((rd_T45 l0 a2).f3)], .agg (arC [.int .u32 a3_0, .int .u32 a3_1, .int .u64 a3_2] .u64 6 a3_3)] rfl jZ ?_; (with_reducible refine (r06_Step.calls kj34 a1_0 a1_1 a1_2 ((rd_T45 l0 a2).f0) ((rd_T45 l0 a2).f1) ((rd_T45 l0 a2).f2) ((rd_T45 l0 a2).f3) a3_0 a3_1 a3_2 a3_3 t263 t264 t265 true _ A53.out).mono ?_); rintro e w59 ⟨rfl, hb⟩; refine ⟨_, rfl, ?_⟩; have n0_ := Aside0.mk (jB BK257 hb); have n1_ := Aside0.mk (jB BK258 hb); have n2_ := Aside0.mk (jB BK260 hb); have n3_ := Aside0.mk (zT (jH HB) hb); clear BK257; clear BK258; clear BK260; clear HB; have BK257 := n0_; have BK258 := n1_; have BK260 := n2_; have HB := n3_; clear n0_ n1_ n2_ n3_; (try clear hb); (try clear hb2); (try clear hk); (try clear hi)) | ((with_reducible refine gate_dst (N := 12) rfl ?_); refine box_event rfl (N := 12) rfl (cs := (arC [.int .u32 0, .int .u32 0] .u32 16 ([] : List Int))) (t := 59) jW ?_; intro gb267 hg w60 hbox hb; have n0_ := Aside0.mk (jB BK257 hb); have n1_ := Aside0.mk (jB BK258 hb); have n2_ := Aside0.mk (jB BK260 hb); have n3_ := Aside0.mk (zT (jH HB) hb); have n4_ := Aside0.mk hbox; have n5_ := Aside0.mk (jG hg HB); have n6_ := Aside0.mk (jG hg HB); have n7_ := Aside0.mk (jN hg BK257); have n8_ := Aside0.mk (jM hg BK257); have n9_ := Aside0.mk (jN hg BK258); have n10_ := Aside0.mk (jM hg BK258); have n11_ := Aside0.mk (jN hg BK260); have n12_ := Aside0.mk (jM hg BK260); clear BK257; clear BK258; clear BK260; clear HB; have BK257 := n0_; have BK258 := n1_; have BK260 := n2_; have HB := n3_; have BK267 := n4_; have GW267 := n5_; have GE267 := n6_; have NB257_267 := n7_; have NB267_257 := n8_; have NB258_267 := n9_; have NB267_258 := n10_; have NB260_267 := n11_; have NB267_260 := n12_; clear n0_ n1_ n2_ n3_ n4_ n5_ n6_ n7_ n8_ n9_ n10_ n11_ n12_; clear hb hbox hg) | ((with_reducible refine gate_store (t := 59) (p := 12) rfl ?_); refine stw_event rfl 59 (.tmp 12) _ rfl rfl gb267 (arC [.int .u32 t263, .int .u32 t264] .u32 16 t265) rfl rfl 59 (arC [.int .u32 0, .int .u32 0] .u32 16 ([] : List Int)) (jK BK267) (by kernel_rfl) (by kernel_rfl) (arC_one rfl) ?_; intro w61 hw1_ hw2_ hw3_; have n0_ : Aside0 (w61.heap[gb257]? = some (.cells (arC [.int .u32 a1_0, .int .u32 a1_1] .u32 16 a1_2) 59 (0, 0))) := ⟨hw2_ _ _ NB257_267.out (jK BK257)⟩; have n1_ : Aside0 (w61.heap[gb258]? = some (.cells (arC [.int .u32 a3_0, .int .u32 a3_1, .int .u64 a3_2] .u64 6 a3_3) 38 (0, 0))) := ⟨hw2_ _ _ NB258_267.out (jK BK258)⟩; have n2_ : Aside0 (w61.heap[gb260]? = some (.cells #[.int .i64 ((rd_T45 l0 a2).f0), .int .i64 ((rd_T45 l0 a2).f1), .int .i64 ((rd_T45 l0 a2).f2), .int .u32 ((rd_T45 l0 a2).f3)] 45 (0, 0))) := ⟨hw2_ _ _ NB260_267.out (jK BK260)⟩; have n3_ : Aside0 (w61.heap[gb267]? = some (.cells (arC [.int .u32 t263, .int .u32 t264] .u32 16 t265) 59 (0, 0))) := ⟨hw1_⟩; have n4_ : Aside0 (Below w.heap.size w w61) := ⟨hw3_ _ _ (jH HB) GE267.out⟩; clear hw1_ hw2_ hw3_; clear BK257; clear BK258; clear BK260; clear BK267; clear HB; have BK257 := n0_; have BK258 := n1_; have BK260 := n2_; have BK267 := n3_; have HB := n4_; clear n0_ n1_ n2_ n3_ n4_) | ((with_reducible refine gate_dst (N := 64) rfl ?_); refine wpList_load_row rfl 59 (.tmp 12) rfl gb267 rfl 59 (arC [.int .u32 t263, .int .u32 t264] .u32 16 t265) (0, 0) _ (jK BK267) Tryd.underlying59 rfl (by kernel_rfl) ?_) | ((with_reducible refine gate_dst (N := 66) rfl ?_); refine wpList_load_row rfl 38 (.tmp 7) rfl gb258 rfl 38 (arC [.int .u32 a3_0, .int .u32 a3_1, .int .u64 a3_2] .u64 6 a3_3) (0, 0) _ (jK BK258) Tryd.underlying38 rfl (by kernel_rfl) ?_) | ((with_reducible refine gate_callee (f := 27) rfl ?_); refine goesL_ (some 67) rfl rfl Tryd.func27 (by kernel_rfl) rfl #[.slice (some ad259) l0.length c0, .agg (arC [.int .u32 t263, .int .u32 t264] .u32 16 t265), .int .i64 x11_34, .agg (arC [.int .u32 a3_0, .int .u32 a3_1, .int .u64 a3_2] .u64 6 a3_3)] rfl jZ ?_; (with_reducible refine (ih kj34 (by have := HJ22.out; have := HJ34.out; omega) _ _ l0 t263 t264 t265 x11_34 a3_0 a3_1 a3_2 a3_3 t268 t269 _ ?side1 ?side2 A55.out).mono ?_); (case side1 => exact jC (Kd.C_below HR0.out HB.out)); (case side2 => exact HC0.out); rintro e w62 ⟨rfl, hb⟩; refine ⟨_, rfl, ?_⟩; have n0_ := Aside0.mk (jB BK257 hb); have n1_ := Aside0.mk (jB BK258 hb); have n2_ := Aside0.mk (jB BK260 hb); have n3_ := Aside0.mk (jB BK267 hb); have n4_ := Aside0.mk (zT (jH HB) hb); clear BK257; clear BK258; clear BK260; clear BK267; clear HB; have BK257 := n0_; have BK258 := n1_; have BK260 := n2_; have BK267 := n3_; have HB := n4_; clear n0_ n1_ n2_ n3_ n4_; (try clear hb); (try clear hb2); (try clear hk); (try clear hi)))
          go_ret2
          exact ⟨jE, jH HB⟩
         ·replace c54 := Bool.eq_false_iff.mpr c54
          subst c54
          rw [if_neg (show ¬ (false = true) by decide)] at H
          simp only [Option.some.injEq, Prod.mk.injEq] at H
          obtain ⟨rfl, rfl⟩ := H
          go_wp2_with (first | ((with_reducible refine gate_dst (N := 54) rfl ?_); refine wpList_load_row rfl 59 (.tmp 5) rfl gb257 rfl 59 (arC [.int .u32 a1_0, .int .u32 a1_1] .u32 16 a1_2) (0, 0) _ (jK BK257) Tryd.underlying59 rfl (by kernel_rfl) ?_; have hnb63 := NB260_257.out; have hnc63 := NB257_260.out; have hnb64 := NB260_258.out; have hnc64 := NB258_260.out; have hcz65_0 : wc.cell? ⟨gb260, 0, none⟩ = some (.int .i64 ((rd_T45 l0 a2).f0)) := (kC BK260.out 0).trans rfl; have hcz65_1 : wc.cell? ⟨gb260, 1, none⟩ = some (.int .i64 ((rd_T45 l0 a2).f1)) := (kC BK260.out 1).trans rfl; have hcz65_2 : wc.cell? ⟨gb260, 2, none⟩ = some (.int .i64 ((rd_T45 l0 a2).f2)) := (kC BK260.out 2).trans rfl; have hcz65_3 : wc.cell? ⟨gb260, 3, none⟩ = some (.int .u32 ((rd_T45 l0 a2).f3)) := (kC BK260.out 3).trans rfl; have hfz65_0 := kF BK260.out 0; have hfz65_1 := kF BK260.out 1; have hfz65_2 := kF BK260.out 2; have hfz65_3 := kF BK260.out 3) | ((with_reducible refine gate_dst (N := 56) rfl ?_); refine wpList_load_row rfl 38 (.tmp 7) rfl gb258 rfl 38 (arC [.int .u32 a3_0, .int .u32 a3_1, .int .u64 a3_2] .u64 6 a3_3) (0, 0) _ (jK BK258) Tryd.underlying38 rfl (by kernel_rfl) ?_) | ((with_reducible refine gate_callee (f := 38) rfl ?_); refine goesL_ (some 57) rfl rfl Tryd.func38 (by kernel_rfl) rfl #[.agg (arC [.int .u32 a1_0, .int .u32 a1_1] .u32 16 a1_2), .agg #[.int .i64 ((rd_T45 l0 a2).f0), .int .i64 ((rd_T45 l0 a2).f1), .int .i64 ((rd_T45 l0 a2).f2), .int .u32 ((rd_T45 l0 a2).f3)], .agg (arC [.int .u32 a3_0, .int .u32 a3_1, .int .u64 a3_2] .u64 6 a3_3)] rfl jZ ?_; (with_reducible refine (r06_Step.calls kj34 a1_0 a1_1 a1_2 ((rd_T45 l0 a2).f0) ((rd_T45 l0 a2).f1) ((rd_T45 l0 a2).f2) ((rd_T45 l0 a2).f3) a3_0 a3_1 a3_2 a3_3 t263 t264 t265 false _ A53.out).mono ?_); rintro e w66 ⟨rfl, hb⟩; refine ⟨_, rfl, ?_⟩; have n0_ := Aside0.mk (jB BK257 hb); have n1_ := Aside0.mk (jB BK258 hb); have n2_ := Aside0.mk (jB BK260 hb); have n3_ := Aside0.mk (zT (jH HB) hb); clear BK257; clear BK258; clear BK260; clear HB; have BK257 := n0_; have BK258 := n1_; have BK260 := n2_; have HB := n3_; clear n0_ n1_ n2_ n3_; (try clear hb); (try clear hb2); (try clear hk); (try clear hi)) | ((with_reducible refine gate_dst (N := 12) rfl ?_); refine box_event rfl (N := 12) rfl (cs := (arC [.int .u32 0, .int .u32 0] .u32 16 ([] : List Int))) (t := 59) jW ?_; intro gb267 hg w67 hbox hb; have n0_ := Aside0.mk (jB BK257 hb); have n1_ := Aside0.mk (jB BK258 hb); have n2_ := Aside0.mk (jB BK260 hb); have n3_ := Aside0.mk (zT (jH HB) hb); have n4_ := Aside0.mk hbox; have n5_ := Aside0.mk (jG hg HB); have n6_ := Aside0.mk (jG hg HB); have n7_ := Aside0.mk (jN hg BK257); have n8_ := Aside0.mk (jM hg BK257); have n9_ := Aside0.mk (jN hg BK258); have n10_ := Aside0.mk (jM hg BK258); have n11_ := Aside0.mk (jN hg BK260); have n12_ := Aside0.mk (jM hg BK260); clear BK257; clear BK258; clear BK260; clear HB; have BK257 := n0_; have BK258 := n1_; have BK260 := n2_; have HB := n3_; have BK267 := n4_; have GW267 := n5_; have GE267 := n6_; have NB257_267 := n7_; have NB267_257 := n8_; have NB258_267 := n9_; have NB267_258 := n10_; have NB260_267 := n11_; have NB267_260 := n12_; clear n0_ n1_ n2_ n3_ n4_ n5_ n6_ n7_ n8_ n9_ n10_ n11_ n12_; clear hb hbox hg) | ((with_reducible refine gate_store (t := 59) (p := 12) rfl ?_); refine stw_event rfl 59 (.tmp 12) _ rfl rfl gb267 (arC [.int .u32 t263, .int .u32 t264] .u32 16 t265) rfl rfl 59 (arC [.int .u32 0, .int .u32 0] .u32 16 ([] : List Int)) (jK BK267) (by kernel_rfl) (by kernel_rfl) (arC_one rfl) ?_; intro w68 hw1_ hw2_ hw3_; have n0_ : Aside0 (w68.heap[gb257]? = some (.cells (arC [.int .u32 a1_0, .int .u32 a1_1] .u32 16 a1_2) 59 (0, 0))) := ⟨hw2_ _ _ NB257_267.out (jK BK257)⟩; have n1_ : Aside0 (w68.heap[gb258]? = some (.cells (arC [.int .u32 a3_0, .int .u32 a3_1, .int .u64 a3_2] .u64 6 a3_3) 38 (0, 0))) := ⟨hw2_ _ _ NB258_267.out (jK BK258)⟩; have n2_ : Aside0 (w68.heap[gb260]? = some (.cells #[.int .i64 ((rd_T45 l0 a2).f0), .int .i64 ((rd_T45 l0 a2).f1), .int .i64 ((rd_T45 l0 a2).f2), .int .u32 ((rd_T45 l0 a2).f3)] 45 (0, 0))) := ⟨hw2_ _ _ NB260_267.out (jK BK260)⟩; have n3_ : Aside0 (w68.heap[gb267]? = some (.cells (arC [.int .u32 t263, .int .u32 t264] .u32 16 t265) 59 (0, 0))) := ⟨hw1_⟩; have n4_ : Aside0 (Below w.heap.size w w68) := ⟨hw3_ _ _ (jH HB) GE267.out⟩; clear hw1_ hw2_ hw3_; clear BK257; clear BK258; clear BK260; clear BK267; clear HB; have BK257 := n0_; have BK258 := n1_; have BK260 := n2_; have BK267 := n3_; have HB := n4_; clear n0_ n1_ n2_ n3_ n4_))
          go_ret2
          exact ⟨jE, jH HB⟩
  ·rw [if_neg c6] at H
   exact absurd H (by simp)
 ·rw [if_neg c5] at H
  exact absurd H (by simp)
end Go.Proofs.YtohpbjnihmcelaaDoor.M
