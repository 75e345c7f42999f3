/- What Go functions compute; their calls come to it. No condition. -/
import Derived.Test.YtohpbjnihmcelaaDoorM0
import Derived.Test.YtohpbjnihmcelaaDoorM12
import Derived.Test.YtohpbjnihmcelaaDoorM13
namespace Go.Proofs.YtohpbjnihmcelaaDoor.M
open Go.RowKit Go.Proofs.YtohpbjnihmcelaaDoorW.PrintWords Go.Proofs.YtohpbjnihmcelaaDoorW.PrintLast Go.Proofs.YtohpbjnihmcelaaDoorW.PrintMore
attribute [local go_sem] max2_int min2_int max_two min_two max_three min_three max_four min_four   -- for this text's walks alone
set_option linter.unusedVariables false
set_option linter.unusedSimpArgs false
def r02_Right.j0 : Nat → Int → Bool → Int → Int → Int → Int → Option (Bool)
 | 0, _, _, _, _, _, _ => none
 | k + 1, x3, x17, x167000, x167001, x167002, x167003 => if x17 = true then (some false) else ((r02_branch.f x3).bind fun t169 => (if t169 = true then (if x167001 ≥ 0 then (if x167001 < 256 then (if x167002 ≥ 0 then (some (decide (x167002 < 256))) else (some false)) else (some false)) else (some false)) else (if x167001 = 0 then (some (x167002 == 0)) else (some false))))
def r02_Right.f (k : Nat) (a0_0 : Int) (a0_1 : Int) (a0_2 : Int) (a0_3 : Int) : Option (Bool) := (r02_place.f k a0_0).bind fun t167 => (if t167 < 0 then (r02_Right.j0 k t167 true a0_0 a0_1 a0_2 a0_3) else ((r02_plain.f t167).bind fun t168 => (if t168 = true then (r02_Right.j0 k t167 (a0_3 != 0) a0_0 a0_1 a0_2 a0_3) else (r02_Right.j0 k t167 false a0_0 a0_1 a0_2 a0_3))))
theorem r02_Right.mono_l : ∀ k, (∀ y0 y1 y2 y3 y4 y5, LeO (r02_Right.j0 k y0 y1 y2 y3 y4 y5) (r02_Right.j0 (k + 1) y0 y1 y2 y3 y4 y5))
 | 0 => fun _ _ _ _ _ _ r h => by simp [r02_Right.j0] at h
 | k + 1 => by
  have ih0 := r02_Right.mono_l k
  ·intro y0 y1 y2 y3 y4 y5
   unfold r02_Right.j0
   repeat' first
   | (with_reducible apply ih0)
   | (with_reducible apply r02_place.mono)
   | (with_reducible exact LeO.refl _)
   | (with_reducible exact LeO.none _)
   | (with_reducible refine LeO.ite ?_ ?_)
   | (with_reducible refine LeO.bind ?_ (fun _ => ?_))
   | apply ih0
   | apply r02_place.mono
   | exact LeO.none _
   | refine LeO.ite ?_ ?_
   | refine LeO.bind ?_ (fun _ => ?_)
theorem r02_Right.mono : ∀ a0 a1 a2 a3 k, LeO (r02_Right.f k a0 a1 a2 a3) (r02_Right.f (k + 1) a0 a1 a2 a3) := by
 intro a0 a1 a2 a3 k
 have ih0 := r02_Right.mono_l k
 unfold r02_Right.f
 repeat' first
   | (with_reducible apply ih0)
   | (with_reducible apply r02_place.mono)
   | (with_reducible exact LeO.refl _)
   | (with_reducible exact LeO.none _)
   | (with_reducible refine LeO.ite ?_ ?_)
   | (with_reducible refine LeO.bind ?_ (fun _ => ?_))
   | apply ih0
   | apply r02_place.mono
   | exact LeO.none _
   | refine LeO.ite ?_ ?_
   | refine LeO.bind ?_ (fun _ => ?_)
set_option maxHeartbeats 8000000 in
set_option maxRecDepth 100000 in
theorem r02_Right.calls (k : Nat) (a0_0 : Int) (a0_1 : Int) (a0_2 : Int) (a0_3 : Int) (r : Bool) (w : World) (h : r02_Right.f k a0_0 a0_1 a0_2 a0_3 = some r) :
  Calls Tryd.prog 42 #[.agg #[.int .i64 a0_0, .int .i64 a0_1, .int .i64 a0_2, .int .u32 a0_3]] w fun e w' => e = .returned (.bool r) ∧ Below w.heap.size w w' := by
 have hu45 := Tryd.underlying45
 have HB := Aside0.mk (Below.refl w.heap.size w)
 have H : ((r02_place.f k a0_0).bind fun t167 => (if t167 < 0 then (r02_Right.j0 k t167 true a0_0 a0_1 a0_2 a0_3) else ((r02_plain.f t167).bind fun t168 => (if t168 = true then (r02_Right.j0 k t167 (a0_3 != 0) a0_0 a0_1 a0_2 a0_3) else (r02_Right.j0 k t167 false a0_0 a0_1 a0_2 a0_3))))) = some r := h
 clear h
 replace H := Option.bind_eq_some_iff.mp H
 obtain ⟨t167, A20, H⟩ := H
 try dsimp only at H
 have A2 := Aside0.mk A20
 clear A20
 have HC3 := Aside0.mk H
 clear H
 go_enter Tryd.func42, Tryd.ntmps42
 go_upto_region 2 with (first | ((with_reducible refine gate_dst (N := 1) rfl ?_); refine box_event rfl (N := 1) rfl (cs := #[.int .i64 a0_0, .int .i64 a0_1, .int .i64 a0_2, .int .u32 a0_3]) (t := 45) jW ?_; intro gb166 hg w4 hbox hb; have n0_ := Aside0.mk (zT (jH HB) hb); have n1_ := Aside0.mk hbox; have n2_ := Aside0.mk (jG hg HB); have n3_ := Aside0.mk (jG hg HB); clear HB; have HB := n0_; have BK166 := n1_; have GW166 := n2_; have GE166 := n3_; clear n0_ n1_ n2_ n3_; clear hb hbox hg; have hcz5_0 : w4.cell? ⟨gb166, 0, none⟩ = some (.int .i64 a0_0) := (kC BK166.out 0).trans rfl; have hcz5_1 : w4.cell? ⟨gb166, 1, none⟩ = some (.int .i64 a0_1) := (kC BK166.out 1).trans rfl; have hcz5_2 : w4.cell? ⟨gb166, 2, none⟩ = some (.int .i64 a0_2) := (kC BK166.out 2).trans rfl; have hcz5_3 : w4.cell? ⟨gb166, 3, none⟩ = some (.int .u32 a0_3) := (kC BK166.out 3).trans rfl; have hfz5_0 := kF BK166.out 0; have hfz5_1 := kF BK166.out 1; have hfz5_2 := kF BK166.out 2; have hfz5_3 := kF BK166.out 3) | ((with_reducible refine gate_callee (f := 33) rfl ?_); refine goesL_ (some 6) rfl rfl Tryd.func33 (by kernel_rfl) rfl #[.int .i64 a0_0] rfl jZ ?_; (with_reducible refine (r02_place.calls k a0_0 t167 _ A2.out).mono ?_); rintro e w6 ⟨rfl, hb⟩; refine ⟨_, rfl, ?_⟩; have n0_ := Aside0.mk (jB BK166 hb); have n1_ := Aside0.mk (zT (jH HB) hb); clear BK166; clear HB; have BK166 := n0_; have HB := n1_; clear n0_ n1_; (try clear hb); (try clear hb2); (try clear hk); (try clear hi)))
 (try simp only [Act.put, List.setIfInBounds_toArray, List.set_cons_zero, List.set_cons_succ])
 go_cut [17] (fun v17 wc => ∃ (kq : Nat) (x17_2 : Bool), v17 = .bool x17_2 ∧ Aside0 (r02_Right.j0 kq t167 x17_2 a0_0 a0_1 a0_2 a0_3 = some r) ∧ Aside0 (kq ≤ k) ∧ Aside0 (wc.heap[gb166]? = some (.cells #[.int .i64 a0_0, .int .i64 a0_1, .int .i64 a0_2, .int .u32 a0_3] 45 (0, 0))) ∧ Aside0 (Below w.heap.size w wc))
 case first =>
  have H := HC3.out
  clear HC3
  by_cases c7 : t167 < 0
  ·rw [if_pos c7] at H
   have c7b0 : decide (t167 < 0) = true := dT c7
   clear c7
   (first | rw [c7b0] | (simp only [i64_w, i32_w]; rw [c7b0]) | skip)
   have H' := Aside0.mk H
   clear H
   go_wp2
   go_meet
   case rel => exact ⟨_, (true), jS, H', ⟨jO⟩, ⟨jK BK166⟩, ⟨jH HB⟩⟩
  ·rw [if_neg c7] at H
   have c7b0 : decide (t167 < 0) = false := dF c7
   clear c7
   (first | rw [c7b0] | (simp only [i64_w, i32_w]; rw [c7b0]) | skip)
   replace H := Option.bind_eq_some_iff.mp H
   obtain ⟨t168, A80, H⟩ := H
   try dsimp only at H
   have A8 := Aside0.mk A80
   clear A80
   by_cases c9 : t168 = true
   ·subst c9
    rw [if_pos rfl] at H
    have H' := Aside0.mk H
    clear H
    go_wp2_with (first | (go_at_call 53; (with_reducible refine (r02_plain.calls t167 true _ A8.out).mono ?_); rintro e w' ⟨rfl, ⟨nd, rfl⟩⟩; have hcz10_0 : w6.cell? ⟨gb166, 0, none⟩ = some (.int .i64 a0_0) := (kC BK166.out 0).trans rfl; have hcz10_1 : w6.cell? ⟨gb166, 1, none⟩ = some (.int .i64 a0_1) := (kC BK166.out 1).trans rfl; have hcz10_2 : w6.cell? ⟨gb166, 2, none⟩ = some (.int .i64 a0_2) := (kC BK166.out 2).trans rfl; have hcz10_3 : w6.cell? ⟨gb166, 3, none⟩ = some (.int .u32 a0_3) := (kC BK166.out 3).trans rfl; have hfz10_0 := kF BK166.out 0; have hfz10_1 := kF BK166.out 1; have hfz10_2 := kF BK166.out 2; have hfz10_3 := kF BK166.out 3))
    go_meet
    case rel => exact ⟨_, ((a0_3 != 0)), jS, H', ⟨jO⟩, ⟨jK BK166⟩, ⟨jH HB⟩⟩
   ·replace c9 := Bool.eq_false_iff.mpr c9
    subst c9
    rw [if_neg (show ¬ (false = true) by decide)] at H
    have H' := Aside0.mk H
    clear H
    go_wp2_with (first | (go_at_call 53; (with_reducible refine (r02_plain.calls t167 false _ A8.out).mono ?_); rintro e w' ⟨rfl, ⟨nd, rfl⟩⟩))
    go_meet
    case rel => exact ⟨_, (false), jS, H', ⟨jO⟩, ⟨jK BK166⟩, ⟨jH HB⟩⟩
 case rest =>
  clear HC3
  obtain ⟨kq, x17_2, rfl, HA, HJ2, BK166, HB⟩ := hcut
  cases kq with
  | zero => exact absurd HA.out (by simp [r02_Right.j0])
  | succ kj2 =>
   have H := HA.out
   clear HA
   simp only [r02_Right.j0] at H
   by_cases c11 : x17_2 = true
   ·subst c11
    rw [if_pos rfl] at H
    obtain rfl := Option.some.inj H
    go_wp2
    go_ret
    exact ⟨jE, jH HB⟩
   ·replace c11 := Bool.eq_false_iff.mpr c11
    subst c11
    rw [if_neg (show ¬ (false = true) by decide)] at H
    replace H := Option.bind_eq_some_iff.mp H
    obtain ⟨t169, A120, H⟩ := H
    try dsimp only at H
    have A12 := Aside0.mk A120
    clear A120
    by_cases c13 : t169 = true
    ·subst c13
     rw [if_pos rfl] at H
     by_cases c14 : a0_1 ≥ 0
     ·rw [if_pos c14] at H
      have c14b0 : decide (0 ≤ a0_1) = true := dT c14
      clear c14
      by_cases c15 : a0_1 < 256
      ·rw [if_pos c15] at H
       have c15b0 : decide (a0_1 < 256) = true := dT c15
       clear c15
       by_cases c16 : a0_2 ≥ 0
       ·rw [if_pos c16] at H
        have c16b0 : decide (0 ≤ a0_2) = true := dT c16
        clear c16
        obtain rfl := Option.some.inj H
        go_wp2_with (first | ((with_reducible refine gate_callee (f := 32) rfl ?_); refine goesL_ (some 19) rfl rfl Tryd.func32 (by kernel_rfl) rfl #[.int .i64 t167] rfl jZ ?_; (with_reducible refine (r02_branch.calls t167 true _ A12.out).mono ?_); rintro e w' ⟨rfl, ⟨nd, rfl⟩⟩; refine ⟨_, rfl, ?_⟩; have hcz17_0 : wc.cell? ⟨gb166, 0, none⟩ = some (.int .i64 a0_0) := (kC BK166.out 0).trans rfl; have hcz17_1 : wc.cell? ⟨gb166, 1, none⟩ = some (.int .i64 a0_1) := (kC BK166.out 1).trans rfl; have hcz17_2 : wc.cell? ⟨gb166, 2, none⟩ = some (.int .i64 a0_2) := (kC BK166.out 2).trans rfl; have hcz17_3 : wc.cell? ⟨gb166, 3, none⟩ = some (.int .u32 a0_3) := (kC BK166.out 3).trans rfl; have hfz17_0 := kF BK166.out 0; have hfz17_1 := kF BK166.out 1; have hfz17_2 := kF BK166.out 2; have hfz17_3 := kF BK166.out 3))
        go_ret
        exact ⟨jE, jH HB⟩
       ·rw [if_neg c16] at H
        have c16b0 : decide (0 ≤ a0_2) = false := dF c16
        clear c16
        obtain rfl := Option.some.inj H
        go_wp2_with (first | ((with_reducible refine gate_callee (f := 32) rfl ?_); refine goesL_ (some 19) rfl rfl Tryd.func32 (by kernel_rfl) rfl #[.int .i64 t167] rfl jZ ?_; (with_reducible refine (r02_branch.calls t167 true _ A12.out).mono ?_); rintro e w' ⟨rfl, ⟨nd, rfl⟩⟩; refine ⟨_, rfl, ?_⟩; have hcz18_0 : wc.cell? ⟨gb166, 0, none⟩ = some (.int .i64 a0_0) := (kC BK166.out 0).trans rfl; have hcz18_1 : wc.cell? ⟨gb166, 1, none⟩ = some (.int .i64 a0_1) := (kC BK166.out 1).trans rfl; have hcz18_2 : wc.cell? ⟨gb166, 2, none⟩ = some (.int .i64 a0_2) := (kC BK166.out 2).trans rfl; have hcz18_3 : wc.cell? ⟨gb166, 3, none⟩ = some (.int .u32 a0_3) := (kC BK166.out 3).trans rfl; have hfz18_0 := kF BK166.out 0; have hfz18_1 := kF BK166.out 1; have hfz18_2 := kF BK166.out 2; have hfz18_3 := kF BK166.out 3))
        go_ret
        exact ⟨jE, jH HB⟩
      ·rw [if_neg c15] at H
       have c15b0 : decide (a0_1 < 256) = false := dF c15
       clear c15
       obtain rfl := Option.some.inj H
       go_wp2_with (first | ((with_reducible refine gate_callee (f := 32) rfl ?_); refine goesL_ (some 19) rfl rfl Tryd.func32 (by kernel_rfl) rfl #[.int .i64 t167] rfl jZ ?_; (with_reducible refine (r02_branch.calls t167 true _ A12.out).mono ?_); rintro e w' ⟨rfl, ⟨nd, rfl⟩⟩; refine ⟨_, rfl, ?_⟩; have hcz19_0 : wc.cell? ⟨gb166, 0, none⟩ = some (.int .i64 a0_0) := (kC BK166.out 0).trans rfl; have hcz19_1 : wc.cell? ⟨gb166, 1, none⟩ = some (.int .i64 a0_1) := (kC BK166.out 1).trans rfl; have hcz19_2 : wc.cell? ⟨gb166, 2, none⟩ = some (.int .i64 a0_2) := (kC BK166.out 2).trans rfl; have hcz19_3 : wc.cell? ⟨gb166, 3, none⟩ = some (.int .u32 a0_3) := (kC BK166.out 3).trans rfl; have hfz19_0 := kF BK166.out 0; have hfz19_1 := kF BK166.out 1; have hfz19_2 := kF BK166.out 2; have hfz19_3 := kF BK166.out 3))
       go_ret
       exact ⟨jE, jH HB⟩
     ·rw [if_neg c14] at H
      have c14b0 : decide (0 ≤ a0_1) = false := dF c14
      clear c14
      obtain rfl := Option.some.inj H
      go_wp2_with (first | ((with_reducible refine gate_callee (f := 32) rfl ?_); refine goesL_ (some 19) rfl rfl Tryd.func32 (by kernel_rfl) rfl #[.int .i64 t167] rfl jZ ?_; (with_reducible refine (r02_branch.calls t167 true _ A12.out).mono ?_); rintro e w' ⟨rfl, ⟨nd, rfl⟩⟩; refine ⟨_, rfl, ?_⟩; have hcz20_0 : wc.cell? ⟨gb166, 0, none⟩ = some (.int .i64 a0_0) := (kC BK166.out 0).trans rfl; have hcz20_1 : wc.cell? ⟨gb166, 1, none⟩ = some (.int .i64 a0_1) := (kC BK166.out 1).trans rfl; have hcz20_2 : wc.cell? ⟨gb166, 2, none⟩ = some (.int .i64 a0_2) := (kC BK166.out 2).trans rfl; have hcz20_3 : wc.cell? ⟨gb166, 3, none⟩ = some (.int .u32 a0_3) := (kC BK166.out 3).trans rfl; have hfz20_0 := kF BK166.out 0; have hfz20_1 := kF BK166.out 1; have hfz20_2 := kF BK166.out 2; have hfz20_3 := kF BK166.out 3))
      go_ret
      exact ⟨jE, jH HB⟩
    ·replace c13 := Bool.eq_false_iff.mpr c13
     subst c13
     rw [if_neg (show ¬ (false = true) by decide)] at H
     by_cases c21 : a0_1 = 0
     ·rw [if_pos c21] at H
      have c21b0 : (a0_1 == 0) = true := bI.mpr c21
      have c21b1 : (a0_1 != 0) = false := nF.mpr c21
      clear c21
      obtain rfl := Option.some.inj H
      go_wp2_with (first | ((with_reducible refine gate_callee (f := 32) rfl ?_); refine goesL_ (some 19) rfl rfl Tryd.func32 (by kernel_rfl) rfl #[.int .i64 t167] rfl jZ ?_; (with_reducible refine (r02_branch.calls t167 false _ A12.out).mono ?_); rintro e w' ⟨rfl, ⟨nd, rfl⟩⟩; refine ⟨_, rfl, ?_⟩; have hcz22_0 : wc.cell? ⟨gb166, 0, none⟩ = some (.int .i64 a0_0) := (kC BK166.out 0).trans rfl; have hcz22_1 : wc.cell? ⟨gb166, 1, none⟩ = some (.int .i64 a0_1) := (kC BK166.out 1).trans rfl; have hcz22_2 : wc.cell? ⟨gb166, 2, none⟩ = some (.int .i64 a0_2) := (kC BK166.out 2).trans rfl; have hcz22_3 : wc.cell? ⟨gb166, 3, none⟩ = some (.int .u32 a0_3) := (kC BK166.out 3).trans rfl; have hfz22_0 := kF BK166.out 0; have hfz22_1 := kF BK166.out 1; have hfz22_2 := kF BK166.out 2; have hfz22_3 := kF BK166.out 3))
      go_ret
      exact ⟨jE, jH HB⟩
     ·rw [if_neg c21] at H
      have c21b0 : (a0_1 == 0) = false := bF.mpr c21
      have c21b1 : (a0_1 != 0) = true := nI.mpr c21
      obtain rfl := Option.some.inj H
      go_wp2_with (first | ((with_reducible refine gate_callee (f := 32) rfl ?_); refine goesL_ (some 19) rfl rfl Tryd.func32 (by kernel_rfl) rfl #[.int .i64 t167] rfl jZ ?_; (with_reducible refine (r02_branch.calls t167 false _ A12.out).mono ?_); rintro e w' ⟨rfl, ⟨nd, rfl⟩⟩; refine ⟨_, rfl, ?_⟩; have hcz23_0 : wc.cell? ⟨gb166, 0, none⟩ = some (.int .i64 a0_0) := (kC BK166.out 0).trans rfl; have hcz23_1 : wc.cell? ⟨gb166, 1, none⟩ = some (.int .i64 a0_1) := (kC BK166.out 1).trans rfl; have hcz23_2 : wc.cell? ⟨gb166, 2, none⟩ = some (.int .i64 a0_2) := (kC BK166.out 2).trans rfl; have hcz23_3 : wc.cell? ⟨gb166, 3, none⟩ = some (.int .u32 a0_3) := (kC BK166.out 3).trans rfl; have hfz23_0 := kF BK166.out 0; have hfz23_1 := kF BK166.out 1; have hfz23_2 := kF BK166.out 2; have hfz23_3 := kF BK166.out 3))
      go_ret
      exact ⟨jE, jH HB⟩
end Go.Proofs.YtohpbjnihmcelaaDoor.M
