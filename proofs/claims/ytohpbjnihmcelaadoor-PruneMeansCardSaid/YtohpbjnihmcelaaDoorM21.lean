/- What Go functions compute; their calls come to it. No condition. -/
import Derived.Test.YtohpbjnihmcelaaDoorM0
import Derived.Test.YtohpbjnihmcelaaDoorM13
namespace Go.Proofs.YtohpbjnihmcelaaDoor.M
open Go.RowKit Go.Proofs.YtohpbjnihmcelaaDoorW.PrintWords Go.Proofs.YtohpbjnihmcelaaDoorW.PrintLast Go.Proofs.YtohpbjnihmcelaaDoorW.PrintMore
attribute [local go_sem] max2_int min2_int max_two min_two max_three min_three max_four min_four   -- for this text's walks alone
set_option linter.unusedVariables false
set_option linter.unusedSimpArgs false
def r02_Alu.j0 : Nat → Int → Bool → Int → Int → Int → Int → Option (Int × Bool × Bool)
 | 0, _, _, _, _, _, _ => none
 | k + 1, x5, x14, x205000, x205001, x205002, x205003 => if x14 = true then (some (x205000, false, true)) else (if x5 ≥ 13 then (if x5 ≤ 21 then (some (wrap64 (x205000 - 8), true, true)) else (some (0, false, false))) else (some (0, false, false)))
def r02_Alu.f (k : Nat) (a0_0 : Int) (a0_1 : Int) (a0_2 : Int) (a0_3 : Int) : Option (Int × Bool × Bool) := (r02_place.f k a0_0).bind fun t205 => (if t205 ≥ 4 then (r02_Alu.j0 k t205 (decide (t205 ≤ 12)) a0_0 a0_1 a0_2 a0_3) else (r02_Alu.j0 k t205 false a0_0 a0_1 a0_2 a0_3))
theorem r02_Alu.mono_l : ∀ k, (∀ y0 y1 y2 y3 y4 y5, LeO (r02_Alu.j0 k y0 y1 y2 y3 y4 y5) (r02_Alu.j0 (k + 1) y0 y1 y2 y3 y4 y5))
 | 0 => fun _ _ _ _ _ _ r h => by simp [r02_Alu.j0] at h
 | k + 1 => by
  have ih0 := r02_Alu.mono_l k
  ·intro y0 y1 y2 y3 y4 y5
   unfold r02_Alu.j0
   repeat' first
   | (with_reducible apply ih0)
   | (with_reducible apply r02_place.mono)
   | (with_reducible exact LeO.refl _)
   | (with_reducible exact LeO.none _)
   | (with_reducible refine LeO.ite ?_ ?_)
   | (with_reducible refine LeO.bind ?_ (fun _ => ?_))
   | apply ih0
   | apply r02_place.mono
   | exact LeO.none _
   | refine LeO.ite ?_ ?_
   | refine LeO.bind ?_ (fun _ => ?_)
theorem r02_Alu.mono : ∀ a0 a1 a2 a3 k, LeO (r02_Alu.f k a0 a1 a2 a3) (r02_Alu.f (k + 1) a0 a1 a2 a3) := by
 intro a0 a1 a2 a3 k
 have ih0 := r02_Alu.mono_l k
 unfold r02_Alu.f
 repeat' first
   | (with_reducible apply ih0)
   | (with_reducible apply r02_place.mono)
   | (with_reducible exact LeO.refl _)
   | (with_reducible exact LeO.none _)
   | (with_reducible refine LeO.ite ?_ ?_)
   | (with_reducible refine LeO.bind ?_ (fun _ => ?_))
   | apply ih0
   | apply r02_place.mono
   | exact LeO.none _
   | refine LeO.ite ?_ ?_
   | refine LeO.bind ?_ (fun _ => ?_)
set_option maxHeartbeats 8000000 in
set_option maxRecDepth 100000 in
theorem r02_Alu.calls (k : Nat) (a0_0 : Int) (a0_1 : Int) (a0_2 : Int) (a0_3 : Int) (r1 : Int) (r2 : Bool) (r3 : Bool) (w : World) (h : r02_Alu.f k a0_0 a0_1 a0_2 a0_3 = some (r1, r2, r3)) :
  Calls Tryd.prog 50 #[.agg #[.int .i64 a0_0, .int .i64 a0_1, .int .i64 a0_2, .int .u32 a0_3]] w fun e w' => e = .returned (.tuple #[.int .i64 r1, .bool r2, .bool r3]) ∧ Below w.heap.size w w' := by
 have hu45 := Tryd.underlying45
 have HB := Aside0.mk (Below.refl w.heap.size w)
 have H : ((r02_place.f k a0_0).bind fun t205 => (if t205 ≥ 4 then (r02_Alu.j0 k t205 (decide (t205 ≤ 12)) a0_0 a0_1 a0_2 a0_3) else (r02_Alu.j0 k t205 false a0_0 a0_1 a0_2 a0_3))) = some (r1, r2, r3) := h
 clear h
 replace H := Option.bind_eq_some_iff.mp H
 obtain ⟨t205, A20, H⟩ := H
 try dsimp only at H
 have A2 := Aside0.mk A20
 clear A20
 have HC3 := Aside0.mk H
 clear H
 go_enter Tryd.func50, Tryd.ntmps50
 go_upto_region 2 with (first | ((with_reducible refine gate_dst (N := 1) rfl ?_); refine box_event rfl (N := 1) rfl (cs := #[.int .i64 a0_0, .int .i64 a0_1, .int .i64 a0_2, .int .u32 a0_3]) (t := 45) jW ?_; intro gb204 hg w4 hbox hb; have n0_ := Aside0.mk (zT (jH HB) hb); have n1_ := Aside0.mk hbox; have n2_ := Aside0.mk (jG hg HB); have n3_ := Aside0.mk (jG hg HB); clear HB; have HB := n0_; have BK204 := n1_; have GW204 := n2_; have GE204 := n3_; clear n0_ n1_ n2_ n3_; clear hb hbox hg; have hcz5_0 : w4.cell? ⟨gb204, 0, none⟩ = some (.int .i64 a0_0) := (kC BK204.out 0).trans rfl; have hcz5_1 : w4.cell? ⟨gb204, 1, none⟩ = some (.int .i64 a0_1) := (kC BK204.out 1).trans rfl; have hcz5_2 : w4.cell? ⟨gb204, 2, none⟩ = some (.int .i64 a0_2) := (kC BK204.out 2).trans rfl; have hcz5_3 : w4.cell? ⟨gb204, 3, none⟩ = some (.int .u32 a0_3) := (kC BK204.out 3).trans rfl; have hfz5_0 := kF BK204.out 0; have hfz5_1 := kF BK204.out 1; have hfz5_2 := kF BK204.out 2; have hfz5_3 := kF BK204.out 3) | ((with_reducible refine gate_callee (f := 33) rfl ?_); refine goesL_ (some 8) rfl rfl Tryd.func33 (by kernel_rfl) rfl #[.int .i64 a0_0] rfl jZ ?_; (with_reducible refine (r02_place.calls k a0_0 t205 _ A2.out).mono ?_); rintro e w6 ⟨rfl, hb⟩; refine ⟨_, rfl, ?_⟩; have n0_ := Aside0.mk (jB BK204 hb); have n1_ := Aside0.mk (zT (jH HB) hb); clear BK204; clear HB; have BK204 := n0_; have HB := n1_; clear n0_ n1_; (try clear hb); (try clear hb2); (try clear hk); (try clear hi)))
 (try simp only [Act.put, List.setIfInBounds_toArray, List.set_cons_zero, List.set_cons_succ])
 go_cut [14] (fun v14 wc => ∃ (kq : Nat) (x14_2 : Bool), v14 = .bool x14_2 ∧ Aside0 (r02_Alu.j0 kq t205 x14_2 a0_0 a0_1 a0_2 a0_3 = some (r1, r2, r3)) ∧ Aside0 (kq ≤ k) ∧ Aside0 (wc.heap[gb204]? = some (.cells #[.int .i64 a0_0, .int .i64 a0_1, .int .i64 a0_2, .int .u32 a0_3] 45 (0, 0))) ∧ Aside0 (Below w.heap.size w wc))
 case first =>
  have H := HC3.out
  clear HC3
  by_cases c7 : t205 ≥ 4
  ·rw [if_pos c7] at H
   have c7b0 : decide (4 ≤ t205) = true := dT c7
   clear c7
   (first | rw [c7b0] | (simp only [i64_w, i32_w]; rw [c7b0]) | skip)
   have H' := Aside0.mk H
   clear H
   go_wp2
   go_meet
   case rel => exact ⟨_, (decide (t205 ≤ 12)), jS, H', ⟨jO⟩, ⟨jK BK204⟩, ⟨jH HB⟩⟩
  ·rw [if_neg c7] at H
   have c7b0 : decide (4 ≤ t205) = false := dF c7
   clear c7
   (first | rw [c7b0] | (simp only [i64_w, i32_w]; rw [c7b0]) | skip)
   have H' := Aside0.mk H
   clear H
   go_wp2
   go_meet
   case rel => exact ⟨_, (false), jS, H', ⟨jO⟩, ⟨jK BK204⟩, ⟨jH HB⟩⟩
 case rest =>
  clear HC3
  obtain ⟨kq, x14_2, rfl, HA, HJ2, BK204, HB⟩ := hcut
  cases kq with
  | zero => exact absurd HA.out (by simp [r02_Alu.j0])
  | succ kj2 =>
   have H := HA.out
   clear HA
   simp only [r02_Alu.j0] at H
   by_cases c8 : x14_2 = true
   ·subst c8
    rw [if_pos rfl] at H
    simp only [Option.some.injEq, Prod.mk.injEq] at H
    obtain ⟨rfl, rfl, rfl⟩ := H
    have hcz9_0 : wc.cell? ⟨gb204, 0, none⟩ = some (.int .i64 a0_0) := (kC BK204.out 0).trans rfl
    have hcz9_1 : wc.cell? ⟨gb204, 1, none⟩ = some (.int .i64 a0_1) := (kC BK204.out 1).trans rfl
    have hcz9_2 : wc.cell? ⟨gb204, 2, none⟩ = some (.int .i64 a0_2) := (kC BK204.out 2).trans rfl
    have hcz9_3 : wc.cell? ⟨gb204, 3, none⟩ = some (.int .u32 a0_3) := (kC BK204.out 3).trans rfl
    have hfz9_0 := kF BK204.out 0
    have hfz9_1 := kF BK204.out 1
    have hfz9_2 := kF BK204.out 2
    have hfz9_3 := kF BK204.out 3
    go_wp2
    go_ret3
    exact ⟨jE, jH HB⟩
   ·replace c8 := Bool.eq_false_iff.mpr c8
    subst c8
    rw [if_neg (show ¬ (false = true) by decide)] at H
    by_cases c10 : t205 ≥ 13
    ·rw [if_pos c10] at H
     have c10b0 : decide (13 ≤ t205) = true := dT c10
     clear c10
     by_cases c11 : t205 ≤ 21
     ·rw [if_pos c11] at H
      have c11b0 : decide (t205 ≤ 21) = true := dT c11
      clear c11
      simp only [Option.some.injEq, Prod.mk.injEq] at H
      obtain ⟨rfl, rfl, rfl⟩ := H
      have hcz12_0 : wc.cell? ⟨gb204, 0, none⟩ = some (.int .i64 a0_0) := (kC BK204.out 0).trans rfl
      have hcz12_1 : wc.cell? ⟨gb204, 1, none⟩ = some (.int .i64 a0_1) := (kC BK204.out 1).trans rfl
      have hcz12_2 : wc.cell? ⟨gb204, 2, none⟩ = some (.int .i64 a0_2) := (kC BK204.out 2).trans rfl
      have hcz12_3 : wc.cell? ⟨gb204, 3, none⟩ = some (.int .u32 a0_3) := (kC BK204.out 3).trans rfl
      have hfz12_0 := kF BK204.out 0
      have hfz12_1 := kF BK204.out 1
      have hfz12_2 := kF BK204.out 2
      have hfz12_3 := kF BK204.out 3
      go_wp2
      go_ret3
      exact ⟨jE, jH HB⟩
     ·rw [if_neg c11] at H
      have c11b0 : decide (t205 ≤ 21) = false := dF c11
      clear c11
      simp only [Option.some.injEq, Prod.mk.injEq] at H
      obtain ⟨rfl, rfl, rfl⟩ := H
      go_wp2
      go_ret3
      exact ⟨jE, jH HB⟩
    ·rw [if_neg c10] at H
     have c10b0 : decide (13 ≤ t205) = false := dF c10
     clear c10
     simp only [Option.some.injEq, Prod.mk.injEq] at H
     obtain ⟨rfl, rfl, rfl⟩ := H
     go_wp2
     go_ret3
     exact ⟨jE, jH HB⟩
end Go.Proofs.YtohpbjnihmcelaaDoor.M
