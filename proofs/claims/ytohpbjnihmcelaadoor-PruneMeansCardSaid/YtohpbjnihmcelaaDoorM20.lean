/- What Go functions compute; their calls come to it. No condition. -/
import Derived.Test.YtohpbjnihmcelaaDoorM0
import Derived.Test.YtohpbjnihmcelaaDoorM13
import Derived.Test.YtohpbjnihmcelaaDoorM19
namespace Go.Proofs.YtohpbjnihmcelaaDoor.M
open Go.RowKit Go.Proofs.YtohpbjnihmcelaaDoorW.PrintWords Go.Proofs.YtohpbjnihmcelaaDoorW.PrintLast Go.Proofs.YtohpbjnihmcelaaDoorW.PrintMore
attribute [local go_sem] max2_int min2_int max_two min_two max_three min_three max_four min_four   -- for this text's walks alone
set_option linter.unusedVariables false
set_option linter.unusedSimpArgs false
def r06_Takes.j0 : Nat → Int → Int → Int → Int → List Int → Option (Bool)
 | 0, _, _, _, _, _ => none
 | k + 1, x5, x6, x200000, x200001, x200002 => if x6 = 21 then (some (x200000 == x5)) else (if x6 = 37 then (some (decide (x5 < x200000))) else (if x6 = 53 then (some (decide (x5 ≤ x200000))) else ((r01_Do.f k 84 x200000 x5).bind fun bt202 => (some (decide (bt202.1 > 0))))))
def r06_Takes.f (k : Nat) (a0_0 : Int) (a0_1 : Int) (a0_2 : List Int) (a1_0 : Int) (a1_1 : Int) (a1_2 : Int) (a1_3 : Int) : Option (Bool) := (r02_Branch.f k a1_0 a1_1 a1_2 a1_3).bind fun t201 => (if t201 = true then (if (Int.tmod a1_0 16) = 13 then (r06_Takes.j0 k a0_1 (wrap64 (a1_0 - 8)) a0_0 a0_1 a0_2) else (r06_Takes.j0 k a1_3 a1_0 a0_0 a0_1 a0_2)) else (some false))
theorem r06_Takes.mono_l : ∀ k, (∀ y0 y1 y2 y3 y4, LeO (r06_Takes.j0 k y0 y1 y2 y3 y4) (r06_Takes.j0 (k + 1) y0 y1 y2 y3 y4))
 | 0 => fun _ _ _ _ _ r h => by simp [r06_Takes.j0] at h
 | k + 1 => by
  have ih0 := r06_Takes.mono_l k
  ·intro y0 y1 y2 y3 y4
   unfold r06_Takes.j0
   repeat' first
   | (with_reducible apply ih0)
   | (with_reducible apply r01_Do.mono)
   | (with_reducible apply r02_Branch.mono)
   | (with_reducible exact LeO.refl _)
   | (with_reducible exact LeO.none _)
   | (with_reducible refine LeO.ite ?_ ?_)
   | (with_reducible refine LeO.bind ?_ (fun _ => ?_))
   | apply ih0
   | apply r01_Do.mono
   | apply r02_Branch.mono
   | exact LeO.none _
   | refine LeO.ite ?_ ?_
   | refine LeO.bind ?_ (fun _ => ?_)
theorem r06_Takes.mono : ∀ a0 a1 a2 a3 a4 a5 a6 k, LeO (r06_Takes.f k a0 a1 a2 a3 a4 a5 a6) (r06_Takes.f (k + 1) a0 a1 a2 a3 a4 a5 a6) := by
 intro a0 a1 a2 a3 a4 a5 a6 k
 have ih0 := r06_Takes.mono_l k
 unfold r06_Takes.f
 repeat' first
   | (with_reducible apply ih0)
   | (with_reducible apply r01_Do.mono)
   | (with_reducible apply r02_Branch.mono)
   | (with_reducible exact LeO.refl _)
   | (with_reducible exact LeO.none _)
   | (with_reducible refine LeO.ite ?_ ?_)
   | (with_reducible refine LeO.bind ?_ (fun _ => ?_))
   | apply ih0
   | apply r01_Do.mono
   | apply r02_Branch.mono
   | exact LeO.none _
   | refine LeO.ite ?_ ?_
   | refine LeO.bind ?_ (fun _ => ?_)
set_option maxHeartbeats 8000000 in
set_option maxRecDepth 100000 in
theorem r06_Takes.calls (k : Nat) (a0_0 : Int) (a0_1 : Int) (a0_2 : List Int) (a1_0 : Int) (a1_1 : Int) (a1_2 : Int) (a1_3 : Int) (r : Bool) (w : World) (h : r06_Takes.f k a0_0 a0_1 a0_2 a1_0 a1_1 a1_2 a1_3 = some r) :
  Calls Tryd.prog 37 #[.agg (arC [.int .u32 a0_0, .int .u32 a0_1] .u32 16 a0_2), .agg #[.int .i64 a1_0, .int .i64 a1_1, .int .i64 a1_2, .int .u32 a1_3]] w fun e w' => e = .returned (.bool r) ∧ Below w.heap.size w w' := by
 have hu59 := Tryd.underlying59
 have hu45 := Tryd.underlying45
 have HB := Aside0.mk (Below.refl w.heap.size w)
 have H : ((r02_Branch.f k a1_0 a1_1 a1_2 a1_3).bind fun t201 => (if t201 = true then (if (Int.tmod a1_0 16) = 13 then (r06_Takes.j0 k a0_1 (wrap64 (a1_0 - 8)) a0_0 a0_1 a0_2) else (r06_Takes.j0 k a1_3 a1_0 a0_0 a0_1 a0_2)) else (some false))) = some r := h
 clear h
 replace H := Option.bind_eq_some_iff.mp H
 obtain ⟨t201, A30, H⟩ := H
 try dsimp only at H
 have A3 := Aside0.mk A30
 clear A30
 by_cases c4 : t201 = true
 ·subst c4
  rw [if_pos rfl] at H
  have HC5 := Aside0.mk H
  clear H
  go_enter Tryd.func37, Tryd.ntmps37
  go_upto_if 18 with (first | ((with_reducible refine gate_dst (N := 2) rfl ?_); refine box_event rfl (N := 2) rfl (cs := (arC [.int .u32 a0_0, .int .u32 a0_1] .u32 16 a0_2)) (t := 59) jW ?_; intro gb199 hg w6 hbox hb; have n0_ := Aside0.mk (zT (jH HB) hb); have n1_ := Aside0.mk hbox; have n2_ := Aside0.mk (jG hg HB); have n3_ := Aside0.mk (jG hg HB); clear HB; have HB := n0_; have BK199 := n1_; have GW199 := n2_; have GE199 := n3_; clear n0_ n1_ n2_ n3_; clear hb hbox hg) | ((with_reducible refine gate_dst (N := 3) rfl ?_); refine box_event rfl (N := 3) rfl (cs := #[.int .i64 a1_0, .int .i64 a1_1, .int .i64 a1_2, .int .u32 a1_3]) (t := 45) jW ?_; intro gb200 hg w7 hbox hb; have n0_ := Aside0.mk (jB BK199 hb); have n1_ := Aside0.mk (zT (jH HB) hb); have n2_ := Aside0.mk hbox; have n3_ := Aside0.mk (jG hg HB); have n4_ := Aside0.mk (jG hg HB); have n5_ := Aside0.mk (jN hg BK199); have n6_ := Aside0.mk (jM hg BK199); clear BK199; clear HB; have BK199 := n0_; have HB := n1_; have BK200 := n2_; have GW200 := n3_; have GE200 := n4_; have NB199_200 := n5_; have NB200_199 := n6_; clear n0_ n1_ n2_ n3_ n4_ n5_ n6_; clear hb hbox hg; have hnb8 := NB200_199.out; have hnc8 := NB199_200.out; have hcz9_0 : w7.cell? ⟨gb200, 0, none⟩ = some (.int .i64 a1_0) := (kC BK200.out 0).trans rfl; have hcz9_1 : w7.cell? ⟨gb200, 1, none⟩ = some (.int .i64 a1_1) := (kC BK200.out 1).trans rfl; have hcz9_2 : w7.cell? ⟨gb200, 2, none⟩ = some (.int .i64 a1_2) := (kC BK200.out 2).trans rfl; have hcz9_3 : w7.cell? ⟨gb200, 3, none⟩ = some (.int .u32 a1_3) := (kC BK200.out 3).trans rfl; have hfz9_0 := kF BK200.out 0; have hfz9_1 := kF BK200.out 1; have hfz9_2 := kF BK200.out 2; have hfz9_3 := kF BK200.out 3) | ((with_reducible refine gate_callee (f := 25) rfl ?_); refine goesL_ (some 10) rfl rfl Tryd.func25 (by kernel_rfl) rfl #[.agg #[.int .i64 a1_0, .int .i64 a1_1, .int .i64 a1_2, .int .u32 a1_3]] rfl jZ ?_; (with_reducible refine (r02_Branch.calls k a1_0 a1_1 a1_2 a1_3 true _ A3.out).mono ?_); rintro e w10 ⟨rfl, hb⟩; refine ⟨_, rfl, ?_⟩; have n0_ := Aside0.mk (jB BK199 hb); have n1_ := Aside0.mk (jB BK200 hb); have n2_ := Aside0.mk (zT (jH HB) hb); clear BK199; clear BK200; clear HB; have BK199 := n0_; have BK200 := n1_; have HB := n2_; clear n0_ n1_ n2_; (try clear hb); (try clear hb2); (try clear hk); (try clear hi); have hcz11_0 : w10.cell? ⟨gb200, 0, none⟩ = some (.int .i64 a1_0) := (kC BK200.out 0).trans rfl; have hcz11_1 : w10.cell? ⟨gb200, 1, none⟩ = some (.int .i64 a1_1) := (kC BK200.out 1).trans rfl; have hcz11_2 : w10.cell? ⟨gb200, 2, none⟩ = some (.int .i64 a1_2) := (kC BK200.out 2).trans rfl; have hcz11_3 : w10.cell? ⟨gb200, 3, none⟩ = some (.int .u32 a1_3) := (kC BK200.out 3).trans rfl; have hfz11_0 := kF BK200.out 0; have hfz11_1 := kF BK200.out 1; have hfz11_2 := kF BK200.out 2; have hfz11_3 := kF BK200.out 3))
  (try simp only [Act.put, List.setIfInBounds_toArray, List.set_cons_zero, List.set_cons_succ])
  go_cut [5, 6] (fun v5 v6 wc => ∃ (kq : Nat) (x5_4 : Int) (x6_4 : Int), v5 = .int .u32 x5_4 ∧ v6 = .int .i64 x6_4 ∧ Aside0 (r06_Takes.j0 kq x5_4 x6_4 a0_0 a0_1 a0_2 = some r) ∧ Aside0 (kq ≤ k) ∧ Aside0 (wc.heap[gb199]? = some (.cells (arC [.int .u32 a0_0, .int .u32 a0_1] .u32 16 a0_2) 59 (0, 0))) ∧ Aside0 (wc.heap[gb200]? = some (.cells #[.int .i64 a1_0, .int .i64 a1_1, .int .i64 a1_2, .int .u32 a1_3] 45 (0, 0))) ∧ Aside0 (Below w.heap.size w wc))
  case first =>
   have H := HC5.out
   clear HC5
   by_cases c12 : (Int.tmod a1_0 16) = 13
   ·rw [if_pos c12] at H
    have c12b0 : ((Int.tmod a1_0 16) == 13) = true := bI.mpr c12
    have c12b1 : ((Int.tmod a1_0 16) != 13) = false := nF.mpr c12
    clear c12
    (first | rw [c12b0] | (simp only [i64_w, i32_w]; rw [c12b0]) | skip)
    have H' := Aside0.mk H
    clear H
    have hnb13 := NB199_200.out
    have hnc13 := NB200_199.out
    have hcz14_0 : w10.cell? ⟨gb199, 0, none⟩ = some (.int .u32 a0_0) := (kC BK199.out 0).trans rfl
    have hcz14_1 : w10.cell? ⟨gb199, 1, none⟩ = some (.int .u32 a0_1) := (kC BK199.out 1).trans rfl
    have hfz14_0 := kF BK199.out 0
    have hfz14_1 := kF BK199.out 1
    have hfz14_2 := kF BK199.out 2
    go_wp2
    go_meet
    case rel => exact ⟨_, (a0_1), (wrap64 (a1_0 - 8)), jS, jS, H', ⟨jO⟩, ⟨jK BK199⟩, ⟨jK BK200⟩, ⟨jH HB⟩⟩
   ·rw [if_neg c12] at H
    have c12b0 : ((Int.tmod a1_0 16) == 13) = false := bF.mpr c12
    have c12b1 : ((Int.tmod a1_0 16) != 13) = true := nI.mpr c12
    (first | rw [c12b0] | (simp only [i64_w, i32_w]; rw [c12b0]) | skip)
    have H' := Aside0.mk H
    clear H
    go_wp2
    go_meet
    case rel => exact ⟨_, (a1_3), (a1_0), jS, jS, H', ⟨jO⟩, ⟨jK BK199⟩, ⟨jK BK200⟩, ⟨jH HB⟩⟩
  case rest =>
   clear HC5
   obtain ⟨kq, x5_4, x6_4, rfl, rfl, HA, HJ4, BK199, BK200, HB⟩ := hcut
   cases kq with
   | zero => exact absurd HA.out (by simp [r06_Takes.j0])
   | succ kj4 =>
    have H := HA.out
    clear HA
    simp only [r06_Takes.j0] at H
    by_cases c15 : x6_4 = 21
    ·rw [if_pos c15] at H
     have c15b0 : (x6_4 == 21) = true := bI.mpr c15
     have c15b1 : (x6_4 != 21) = false := nF.mpr c15
     clear c15
     obtain rfl := Option.some.inj H
     have hnb16 := NB199_200.out
     have hnc16 := NB200_199.out
     have hcz17_0 : wc.cell? ⟨gb199, 0, none⟩ = some (.int .u32 a0_0) := (kC BK199.out 0).trans rfl
     have hcz17_1 : wc.cell? ⟨gb199, 1, none⟩ = some (.int .u32 a0_1) := (kC BK199.out 1).trans rfl
     have hfz17_0 := kF BK199.out 0
     have hfz17_1 := kF BK199.out 1
     have hfz17_2 := kF BK199.out 2
     go_wp2
     go_ret
     exact ⟨jE, jH HB⟩
    ·rw [if_neg c15] at H
     have c15b0 : (x6_4 == 21) = false := bF.mpr c15
     have c15b1 : (x6_4 != 21) = true := nI.mpr c15
     by_cases c18 : x6_4 = 37
     ·rw [if_pos c18] at H
      have c18b0 : (x6_4 == 37) = true := bI.mpr c18
      have c18b1 : (x6_4 != 37) = false := nF.mpr c18
      clear c18
      obtain rfl := Option.some.inj H
      have hnb19 := NB199_200.out
      have hnc19 := NB200_199.out
      have hcz20_0 : wc.cell? ⟨gb199, 0, none⟩ = some (.int .u32 a0_0) := (kC BK199.out 0).trans rfl
      have hcz20_1 : wc.cell? ⟨gb199, 1, none⟩ = some (.int .u32 a0_1) := (kC BK199.out 1).trans rfl
      have hfz20_0 := kF BK199.out 0
      have hfz20_1 := kF BK199.out 1
      have hfz20_2 := kF BK199.out 2
      go_wp2
      go_ret
      exact ⟨jE, jH HB⟩
     ·rw [if_neg c18] at H
      have c18b0 : (x6_4 == 37) = false := bF.mpr c18
      have c18b1 : (x6_4 != 37) = true := nI.mpr c18
      by_cases c21 : x6_4 = 53
      ·rw [if_pos c21] at H
       have c21b0 : (x6_4 == 53) = true := bI.mpr c21
       have c21b1 : (x6_4 != 53) = false := nF.mpr c21
       clear c21
       obtain rfl := Option.some.inj H
       have hnb22 := NB199_200.out
       have hnc22 := NB200_199.out
       have hcz23_0 : wc.cell? ⟨gb199, 0, none⟩ = some (.int .u32 a0_0) := (kC BK199.out 0).trans rfl
       have hcz23_1 : wc.cell? ⟨gb199, 1, none⟩ = some (.int .u32 a0_1) := (kC BK199.out 1).trans rfl
       have hfz23_0 := kF BK199.out 0
       have hfz23_1 := kF BK199.out 1
       have hfz23_2 := kF BK199.out 2
       go_wp2
       go_ret
       exact ⟨jE, jH HB⟩
      ·rw [if_neg c21] at H
       have c21b0 : (x6_4 == 53) = false := bF.mpr c21
       have c21b1 : (x6_4 != 53) = true := nI.mpr c21
       replace H := Option.bind_eq_some_iff.mp H
       obtain ⟨⟨t202, t203⟩, A240, H⟩ := H
       try dsimp only at H
       have A24 := Aside0.mk A240
       clear A240
       obtain rfl := Option.some.inj H
       have hnb25 := NB199_200.out
       have hnc25 := NB200_199.out
       have hcz26_0 : wc.cell? ⟨gb199, 0, none⟩ = some (.int .u32 a0_0) := (kC BK199.out 0).trans rfl
       have hcz26_1 : wc.cell? ⟨gb199, 1, none⟩ = some (.int .u32 a0_1) := (kC BK199.out 1).trans rfl
       have hfz26_0 := kF BK199.out 0
       have hfz26_1 := kF BK199.out 1
       have hfz26_2 := kF BK199.out 2
       go_wp2_with (first | ((with_reducible refine gate_callee (f := 49) rfl ?_); refine goesL_ (some 45) rfl rfl Tryd.func49 (by kernel_rfl) rfl #[.int .i64 84, .int .u32 a0_0, .int .u32 x5_4] rfl jZ ?_; (with_reducible refine (r01_Do.calls kj4 84 a0_0 x5_4 t202 t203 _ A24.out).mono ?_); rintro e w27 ⟨rfl, hb⟩; refine ⟨_, rfl, ?_⟩; have n0_ := Aside0.mk (jB BK199 hb); have n1_ := Aside0.mk (jB BK200 hb); have n2_ := Aside0.mk (zT (jH HB) hb); clear BK199; clear BK200; clear HB; have BK199 := n0_; have BK200 := n1_; have HB := n2_; clear n0_ n1_ n2_; (try clear hb); (try clear hb2); (try clear hk); (try clear hi)))
       go_ret
       exact ⟨jE, jH HB⟩
 ·replace c4 := Bool.eq_false_iff.mpr c4
  subst c4
  rw [if_neg (show ¬ (false = true) by decide)] at H
  obtain rfl := Option.some.inj H
  go_enter Tryd.func37, Tryd.ntmps37
  go_wp2_with (first | ((with_reducible refine gate_dst (N := 2) rfl ?_); refine box_event rfl (N := 2) rfl (cs := (arC [.int .u32 a0_0, .int .u32 a0_1] .u32 16 a0_2)) (t := 59) jW ?_; intro gb199 hg w28 hbox hb; have n0_ := Aside0.mk (zT (jH HB) hb); have n1_ := Aside0.mk hbox; have n2_ := Aside0.mk (jG hg HB); have n3_ := Aside0.mk (jG hg HB); clear HB; have HB := n0_; have BK199 := n1_; have GW199 := n2_; have GE199 := n3_; clear n0_ n1_ n2_ n3_; clear hb hbox hg) | ((with_reducible refine gate_dst (N := 3) rfl ?_); refine box_event rfl (N := 3) rfl (cs := #[.int .i64 a1_0, .int .i64 a1_1, .int .i64 a1_2, .int .u32 a1_3]) (t := 45) jW ?_; intro gb200 hg w29 hbox hb; have n0_ := Aside0.mk (jB BK199 hb); have n1_ := Aside0.mk (zT (jH HB) hb); have n2_ := Aside0.mk hbox; have n3_ := Aside0.mk (jG hg HB); have n4_ := Aside0.mk (jG hg HB); have n5_ := Aside0.mk (jN hg BK199); have n6_ := Aside0.mk (jM hg BK199); clear BK199; clear HB; have BK199 := n0_; have HB := n1_; have BK200 := n2_; have GW200 := n3_; have GE200 := n4_; have NB199_200 := n5_; have NB200_199 := n6_; clear n0_ n1_ n2_ n3_ n4_ n5_ n6_; clear hb hbox hg; have hnb30 := NB200_199.out; have hnc30 := NB199_200.out; have hcz31_0 : w29.cell? ⟨gb200, 0, none⟩ = some (.int .i64 a1_0) := (kC BK200.out 0).trans rfl; have hcz31_1 : w29.cell? ⟨gb200, 1, none⟩ = some (.int .i64 a1_1) := (kC BK200.out 1).trans rfl; have hcz31_2 : w29.cell? ⟨gb200, 2, none⟩ = some (.int .i64 a1_2) := (kC BK200.out 2).trans rfl; have hcz31_3 : w29.cell? ⟨gb200, 3, none⟩ = some (.int .u32 a1_3) := (kC BK200.out 3).trans rfl; have hfz31_0 := kF BK200.out 0; have hfz31_1 := kF BK200.out 1; have hfz31_2 := kF BK200.out 2; have hfz31_3 := kF BK200.out 3) | ((with_reducible refine gate_callee (f := 25) rfl ?_); refine goesL_ (some 10) rfl rfl Tryd.func25 (by kernel_rfl) rfl #[.agg #[.int .i64 a1_0, .int .i64 a1_1, .int .i64 a1_2, .int .u32 a1_3]] rfl jZ ?_; (with_reducible refine (r02_Branch.calls k a1_0 a1_1 a1_2 a1_3 false _ A3.out).mono ?_); rintro e w32 ⟨rfl, hb⟩; refine ⟨_, rfl, ?_⟩; have n0_ := Aside0.mk (jB BK199 hb); have n1_ := Aside0.mk (jB BK200 hb); have n2_ := Aside0.mk (zT (jH HB) hb); clear BK199; clear BK200; clear HB; have BK199 := n0_; have BK200 := n1_; have HB := n2_; clear n0_ n1_ n2_; (try clear hb); (try clear hb2); (try clear hk); (try clear hi)))
  go_ret
  exact ⟨jE, jH HB⟩
end Go.Proofs.YtohpbjnihmcelaaDoor.M
