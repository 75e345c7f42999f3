/- What Go functions compute; their calls come to it. No condition. -/
import Derived.Test.YtahacmdhhfmhiaaDoorM0
import Derived.Test.YtahacmdhhfmhiaaDoorME
namespace Go.Proofs.YtahacmdhhfmhiaaDoor.M
open Go.RowKit Go.Proofs.YtahacmdhhfmhiaaDoorW.PrintWords Go.Proofs.YtahacmdhhfmhiaaDoorW.PrintLast Go.Proofs.YtahacmdhhfmhiaaDoorW.PrintMore
attribute [local go_sem] max2_int min2_int max_two min_two max_three min_three max_four min_four   -- for this text's walks alone
set_option linter.unusedVariables false
set_option linter.unusedSimpArgs false
mutual
def r05_One.j0 : Nat → Int → Int → Bool → Int → Int → Int → Int → Option (Int)
 | 0, _, _, _, _, _, _, _ => none
 | k + 1, x1, x2, x24, x428000, x428001, x428002, x428003 => if x24 = true then (some 6) else (if x428000 = 2 then (r05_One.j1 k x1 x2 (decide (x428003 > 15)) x428000 x428001 x428002 x428003) else (if x428000 = 3 then (r05_One.j1 k x1 x2 (decide (x428003 > 15)) x428000 x428001 x428002 x428003) else (if x428000 = 96 then (r05_One.j1 k x1 x2 (decide (x428003 > 15)) x428000 x428001 x428002 x428003) else (if x428000 = 97 then (r05_One.j1 k x1 x2 (decide (x428003 > 15)) x428000 x428001 x428002 x428003) else (r05_One.j1 k x1 x2 false x428000 x428001 x428002 x428003)))))
def r05_One.j1 : Nat → Int → Int → Bool → Int → Int → Int → Int → Option (Int)
 | 0, _, _, _, _, _, _, _ => none
 | k + 1, x1, x2, x47, x428000, x428001, x428002, x428003 => if x47 = true then (some 7) else (if x428000 = 52 then (r05_One.j2 k x1 x2 (x428003 == 0) x428000 x428001 x428002 x428003) else (r05_One.j2 k x1 x2 false x428000 x428001 x428002 x428003))
def r05_One.j2 : Nat → Int → Int → Bool → Int → Int → Int → Int → Option (Int)
 | 0, _, _, _, _, _, _, _ => none
 | k + 1, x1, x2, x55, x428000, x428001, x428002, x428003 => if x55 = true then (some 8) else (if x428000 = 100 then (r05_One.j3 k x1 x2 (decide (x428003 > 31)) x428000 x428001 x428002 x428003) else (if x428000 = 116 then (r05_One.j3 k x1 x2 (decide (x428003 > 31)) x428000 x428001 x428002 x428003) else (r05_One.j3 k x1 x2 false x428000 x428001 x428002 x428003)))
def r05_One.j3 : Nat → Int → Int → Bool → Int → Int → Int → Int → Option (Int)
 | 0, _, _, _, _, _, _, _ => none
 | k + 1, x1, x2, x68, x428000, x428001, x428002, x428003 => if x68 = true then (some 1) else (if x428000 = 5 then (r05_One.j4 k (wrap64 ((wrap64 (x2 - 1)) - x1)) (decide ((IntKind.u64.wrap (x428003)) ≥ (IntKind.u64.wrap (wrap64 ((wrap64 (x2 - 1)) - x1))))) x428000 x428001 x428002 x428003) else (r05_One.j4 k (wrap64 ((wrap64 (x2 - 1)) - x1)) false x428000 x428001 x428002 x428003))
def r05_One.j4 : Nat → Int → Bool → Int → Int → Int → Int → Option (Int)
 | 0, _, _, _, _, _, _ => none
 | k + 1, x7, x83, x428000, x428001, x428002, x428003 => if x83 = true then (some 4) else ((r02_Branch.f k x428000 x428001 x428002 x428003).bind fun t429 => (if t429 = true then (if x428001 ≥ x7 then (some 4) else (if x428002 ≥ x7 then (some 4) else (some 0))) else (some 0)))
end
def r05_One.f (k : Nat) (a0_0 : Int) (a0_1 : Int) (a0_2 : Int) (a0_3 : Int) (a1 : Int) (a2 : Int) : Option (Int) := (r02_Right.f k a0_0 a0_1 a0_2 a0_3).bind fun t428 => (if t428 = true then (if a0_0 = 32 then (if (Int.tmod a0_3 4) = 0 then (r05_One.j0 k a1 a2 (decide (a0_3 > 60)) a0_0 a0_1 a0_2 a0_3) else (r05_One.j0 k a1 a2 true a0_0 a0_1 a0_2 a0_3)) else (r05_One.j0 k a1 a2 false a0_0 a0_1 a0_2 a0_3)) else (some 1))
theorem r05_One.mono_l : ∀ k, (∀ y0 y1 y2 y3 y4 y5 y6, LeO (r05_One.j0 k y0 y1 y2 y3 y4 y5 y6) (r05_One.j0 (k + 1) y0 y1 y2 y3 y4 y5 y6)) ∧ (∀ y0 y1 y2 y3 y4 y5 y6, LeO (r05_One.j1 k y0 y1 y2 y3 y4 y5 y6) (r05_One.j1 (k + 1) y0 y1 y2 y3 y4 y5 y6)) ∧ (∀ y0 y1 y2 y3 y4 y5 y6, LeO (r05_One.j2 k y0 y1 y2 y3 y4 y5 y6) (r05_One.j2 (k + 1) y0 y1 y2 y3 y4 y5 y6)) ∧ (∀ y0 y1 y2 y3 y4 y5 y6, LeO (r05_One.j3 k y0 y1 y2 y3 y4 y5 y6) (r05_One.j3 (k + 1) y0 y1 y2 y3 y4 y5 y6)) ∧ (∀ y0 y1 y2 y3 y4 y5, LeO (r05_One.j4 k y0 y1 y2 y3 y4 y5) (r05_One.j4 (k + 1) y0 y1 y2 y3 y4 y5))
 | 0 => ⟨fun _ _ _ _ _ _ _ r h => by simp [r05_One.j0] at h, fun _ _ _ _ _ _ _ r h => by simp [r05_One.j1] at h, fun _ _ _ _ _ _ _ r h => by simp [r05_One.j2] at h, fun _ _ _ _ _ _ _ r h => by simp [r05_One.j3] at h, fun _ _ _ _ _ _ r h => by simp [r05_One.j4] at h⟩
 | k + 1 => by
  obtain ⟨ih0, ih1, ih2, ih3, ih4⟩ := r05_One.mono_l k
  refine ⟨?_, ?_, ?_, ?_, ?_⟩
  all_goals intros
  all_goals first | unfold r05_One.j0 | unfold r05_One.j1 | unfold r05_One.j2 | unfold r05_One.j3 | unfold r05_One.j4
  all_goals repeat' first
   | (with_reducible apply ih0)
   | (with_reducible apply ih1)
   | (with_reducible apply ih2)
   | (with_reducible apply ih3)
   | (with_reducible apply ih4)
   | (with_reducible apply r02_Branch.mono)
   | (with_reducible apply r02_Right.mono)
   | (with_reducible exact LeO.refl _)
   | (with_reducible exact LeO.none _)
   | (with_reducible refine LeO.ite ?_ ?_)
   | (with_reducible refine LeO.bind ?_ (fun _ => ?_))
   | apply ih0
   | apply ih1
   | apply ih2
   | apply ih3
   | apply ih4
   | apply r02_Branch.mono
   | apply r02_Right.mono
   | exact LeO.none _
   | refine LeO.ite ?_ ?_
   | refine LeO.bind ?_ (fun _ => ?_)
theorem r05_One.mono : ∀ a0 a1 a2 a3 a4 a5 k, LeO (r05_One.f k a0 a1 a2 a3 a4 a5) (r05_One.f (k + 1) a0 a1 a2 a3 a4 a5) := by
 intro a0 a1 a2 a3 a4 a5 k
 obtain ⟨ih0, ih1, ih2, ih3, ih4⟩ := r05_One.mono_l k
 unfold r05_One.f
 repeat' first
   | (with_reducible apply ih0)
   | (with_reducible apply ih1)
   | (with_reducible apply ih2)
   | (with_reducible apply ih3)
   | (with_reducible apply ih4)
   | (with_reducible apply r02_Branch.mono)
   | (with_reducible apply r02_Right.mono)
   | (with_reducible exact LeO.refl _)
   | (with_reducible exact LeO.none _)
   | (with_reducible refine LeO.ite ?_ ?_)
   | (with_reducible refine LeO.bind ?_ (fun _ => ?_))
   | apply ih0
   | apply ih1
   | apply ih2
   | apply ih3
   | apply ih4
   | apply r02_Branch.mono
   | apply r02_Right.mono
   | exact LeO.none _
   | refine LeO.ite ?_ ?_
   | refine LeO.bind ?_ (fun _ => ?_)
set_option maxHeartbeats 8000000 in
set_option maxRecDepth 100000 in
theorem r05_One.calls (k : Nat) (a0_0 : Int) (a0_1 : Int) (a0_2 : Int) (a0_3 : Int) (a1 : Int) (a2 : Int) (r : Int) (w : World) (h : r05_One.f k a0_0 a0_1 a0_2 a0_3 a1 a2 = some r) :
  Calls Tryd.prog 50 #[.agg #[.int .i64 a0_0, .int .i64 a0_1, .int .i64 a0_2, .int .u32 a0_3], .int .i64 a1, .int .i64 a2] w fun e w' => e = .returned (.int .i64 r) ∧ Below w.heap.size w w' := by
 have hu59 := Tryd.underlying59
 have HB := Aside0.mk (Below.refl w.heap.size w)
 have H : ((r02_Right.f k a0_0 a0_1 a0_2 a0_3).bind fun t428 => (if t428 = true then (if a0_0 = 32 then (if (Int.tmod a0_3 4) = 0 then (r05_One.j0 k a1 a2 (decide (a0_3 > 60)) a0_0 a0_1 a0_2 a0_3) else (r05_One.j0 k a1 a2 true a0_0 a0_1 a0_2 a0_3)) else (r05_One.j0 k a1 a2 false a0_0 a0_1 a0_2 a0_3)) else (some 1))) = some r := h
 clear h
 replace H := Option.bind_eq_some_iff.mp H
 obtain ⟨t428, A40, H⟩ := H
 try dsimp only at H
 have A4 := Aside0.mk A40
 clear A40
 by_cases c5 : t428 = true
 ·subst c5
  rw [if_pos rfl] at H
  have HC6 := Aside0.mk H
  clear H
  go_enter Tryd.func50, Tryd.ntmps50
  go_upto_region 3 with (first | ((with_reducible refine gate_dst (N := 3) rfl ?_); refine box_event rfl (N := 3) rfl (cs := #[.int .i64 a0_0, .int .i64 a0_1, .int .i64 a0_2, .int .u32 a0_3]) (t := 59) jW ?_; intro gb427 hg w7 hbox hb; have n0_ := Aside0.mk (zT (jH HB) hb); have n1_ := Aside0.mk hbox; have n2_ := Aside0.mk (jG hg HB); have n3_ := Aside0.mk (jG hg HB); clear HB; have HB := n0_; have BK427 := n1_; have GW427 := n2_; have GE427 := n3_; clear n0_ n1_ n2_ n3_; clear hb hbox hg; have hcz8_0 : w7.cell? ⟨gb427, 0, none⟩ = some (.int .i64 a0_0) := (kC BK427.out 0).trans rfl; have hcz8_1 : w7.cell? ⟨gb427, 1, none⟩ = some (.int .i64 a0_1) := (kC BK427.out 1).trans rfl; have hcz8_2 : w7.cell? ⟨gb427, 2, none⟩ = some (.int .i64 a0_2) := (kC BK427.out 2).trans rfl; have hcz8_3 : w7.cell? ⟨gb427, 3, none⟩ = some (.int .u32 a0_3) := (kC BK427.out 3).trans rfl; have hfz8_0 := kF BK427.out 0; have hfz8_1 := kF BK427.out 1; have hfz8_2 := kF BK427.out 2; have hfz8_3 := kF BK427.out 3) | ((with_reducible refine gate_callee (f := 60) rfl ?_); refine goesL_ (some 9) rfl rfl Tryd.func60 (by kernel_rfl) rfl #[.agg #[.int .i64 a0_0, .int .i64 a0_1, .int .i64 a0_2, .int .u32 a0_3]] rfl jZ ?_; (with_reducible refine (r02_Right.calls k a0_0 a0_1 a0_2 a0_3 true _ A4.out).mono ?_); rintro e w9 ⟨rfl, hb⟩; refine ⟨_, rfl, ?_⟩; have n0_ := Aside0.mk (jB BK427 hb); have n1_ := Aside0.mk (zT (jH HB) hb); clear BK427; clear HB; have BK427 := n0_; have HB := n1_; clear n0_ n1_; (try clear hb); (try clear hb2); (try clear hk); (try clear hi)))
  (try simp only [Act.put, List.setIfInBounds_toArray, List.set_cons_zero, List.set_cons_succ])
  go_cut [24] (fun v24 wc => ∃ (kq : Nat) (x24_5 : Bool), v24 = .bool x24_5 ∧ Aside0 (r05_One.j0 kq a1 a2 x24_5 a0_0 a0_1 a0_2 a0_3 = some r) ∧ Aside0 (kq ≤ k) ∧ Aside0 (wc.heap[gb427]? = some (.cells #[.int .i64 a0_0, .int .i64 a0_1, .int .i64 a0_2, .int .u32 a0_3] 59 (0, 0))) ∧ Aside0 (Below w.heap.size w wc))
  case first =>
   have H := HC6.out
   clear HC6
   by_cases c10 : a0_0 = 32
   ·rw [if_pos c10] at H
    have c10b0 : (a0_0 == 32) = true := bI.mpr c10
    have c10b1 : (a0_0 != 32) = false := nF.mpr c10
    clear c10
    (first | rw [c10b0] | (simp only [i64_w, i32_w]; rw [c10b0]) | skip)
    by_cases c11 : (Int.tmod a0_3 4) = 0
    ·rw [if_pos c11] at H
     have c11b0 : ((Int.tmod a0_3 4) == 0) = true := bI.mpr c11
     have c11b1 : ((Int.tmod a0_3 4) != 0) = false := nF.mpr c11
     clear c11
     have H' := Aside0.mk H
     clear H
     have hcz12_0 : w9.cell? ⟨gb427, 0, none⟩ = some (.int .i64 a0_0) := (kC BK427.out 0).trans rfl
     have hcz12_1 : w9.cell? ⟨gb427, 1, none⟩ = some (.int .i64 a0_1) := (kC BK427.out 1).trans rfl
     have hcz12_2 : w9.cell? ⟨gb427, 2, none⟩ = some (.int .i64 a0_2) := (kC BK427.out 2).trans rfl
     have hcz12_3 : w9.cell? ⟨gb427, 3, none⟩ = some (.int .u32 a0_3) := (kC BK427.out 3).trans rfl
     have hfz12_0 := kF BK427.out 0
     have hfz12_1 := kF BK427.out 1
     have hfz12_2 := kF BK427.out 2
     have hfz12_3 := kF BK427.out 3
     go_wp2
     go_meet
     case rel => exact ⟨_, (decide (a0_3 > 60)), jS, H', ⟨jO⟩, ⟨jK BK427⟩, ⟨jH HB⟩⟩
    ·rw [if_neg c11] at H
     have c11b0 : ((Int.tmod a0_3 4) == 0) = false := bF.mpr c11
     have c11b1 : ((Int.tmod a0_3 4) != 0) = true := nI.mpr c11
     have H' := Aside0.mk H
     clear H
     have hcz13_0 : w9.cell? ⟨gb427, 0, none⟩ = some (.int .i64 a0_0) := (kC BK427.out 0).trans rfl
     have hcz13_1 : w9.cell? ⟨gb427, 1, none⟩ = some (.int .i64 a0_1) := (kC BK427.out 1).trans rfl
     have hcz13_2 : w9.cell? ⟨gb427, 2, none⟩ = some (.int .i64 a0_2) := (kC BK427.out 2).trans rfl
     have hcz13_3 : w9.cell? ⟨gb427, 3, none⟩ = some (.int .u32 a0_3) := (kC BK427.out 3).trans rfl
     have hfz13_0 := kF BK427.out 0
     have hfz13_1 := kF BK427.out 1
     have hfz13_2 := kF BK427.out 2
     have hfz13_3 := kF BK427.out 3
     go_wp2
     go_meet
     case rel => exact ⟨_, (true), jS, H', ⟨jO⟩, ⟨jK BK427⟩, ⟨jH HB⟩⟩
   ·rw [if_neg c10] at H
    have c10b0 : (a0_0 == 32) = false := bF.mpr c10
    have c10b1 : (a0_0 != 32) = true := nI.mpr c10
    (first | rw [c10b0] | (simp only [i64_w, i32_w]; rw [c10b0]) | skip)
    have H' := Aside0.mk H
    clear H
    have hcz14_0 : w9.cell? ⟨gb427, 0, none⟩ = some (.int .i64 a0_0) := (kC BK427.out 0).trans rfl
    have hcz14_1 : w9.cell? ⟨gb427, 1, none⟩ = some (.int .i64 a0_1) := (kC BK427.out 1).trans rfl
    have hcz14_2 : w9.cell? ⟨gb427, 2, none⟩ = some (.int .i64 a0_2) := (kC BK427.out 2).trans rfl
    have hcz14_3 : w9.cell? ⟨gb427, 3, none⟩ = some (.int .u32 a0_3) := (kC BK427.out 3).trans rfl
    have hfz14_0 := kF BK427.out 0
    have hfz14_1 := kF BK427.out 1
    have hfz14_2 := kF BK427.out 2
    have hfz14_3 := kF BK427.out 3
    go_wp2
    go_meet
    case rel => exact ⟨_, (false), jS, H', ⟨jO⟩, ⟨jK BK427⟩, ⟨jH HB⟩⟩
  case rest =>
   clear HC6
   obtain ⟨kq, x24_5, rfl, HA, HJ5, BK427, HB⟩ := hcut
   cases kq with
   | zero => exact absurd HA.out (by simp [r05_One.j0])
   | succ kj5 =>
    have H := HA.out
    clear HA
    simp only [r05_One.j0] at H
    by_cases c15 : x24_5 = true
    ·subst c15
     rw [if_pos rfl] at H
     obtain rfl := Option.some.inj H
     go_wp2
     go_ret
     exact ⟨jE, jH HB⟩
    ·replace c15 := Bool.eq_false_iff.mpr c15
     subst c15
     rw [if_neg (show ¬ (false = true) by decide)] at H
     have HC16 := Aside0.mk H
     clear H
     go_upto_region 5 with (fail)
     go_cut [47] (fun v47 wc => ∃ (kq : Nat) (x47_15 : Bool), v47 = .bool x47_15 ∧ Aside0 (r05_One.j1 kq a1 a2 x47_15 a0_0 a0_1 a0_2 a0_3 = some r) ∧ Aside0 (kq ≤ kj5) ∧ Aside0 (wc.heap[gb427]? = some (.cells #[.int .i64 a0_0, .int .i64 a0_1, .int .i64 a0_2, .int .u32 a0_3] 59 (0, 0))) ∧ Aside0 (Below w.heap.size w wc))
     case first =>
      have H := HC16.out
      clear HC16
      by_cases c17 : a0_0 = 2
      ·rw [if_pos c17] at H
       have c17b0 : (a0_0 == 2) = true := bI.mpr c17
       have c17b1 : (a0_0 != 2) = false := nF.mpr c17
       clear c17
       (first | rw [c17b0] | (simp only [i64_w, i32_w]; rw [c17b0]) | skip)
       have H' := Aside0.mk H
       clear H
       have hcz18_0 : wc.cell? ⟨gb427, 0, none⟩ = some (.int .i64 a0_0) := (kC BK427.out 0).trans rfl
       have hcz18_1 : wc.cell? ⟨gb427, 1, none⟩ = some (.int .i64 a0_1) := (kC BK427.out 1).trans rfl
       have hcz18_2 : wc.cell? ⟨gb427, 2, none⟩ = some (.int .i64 a0_2) := (kC BK427.out 2).trans rfl
       have hcz18_3 : wc.cell? ⟨gb427, 3, none⟩ = some (.int .u32 a0_3) := (kC BK427.out 3).trans rfl
       have hfz18_0 := kF BK427.out 0
       have hfz18_1 := kF BK427.out 1
       have hfz18_2 := kF BK427.out 2
       have hfz18_3 := kF BK427.out 3
       go_wp2
       go_meet
       case rel => exact ⟨_, (decide (a0_3 > 15)), jS, H', ⟨by have := HJ5.out; first | omega | exact Nat.le_refl _⟩, ⟨jK BK427⟩, ⟨jH HB⟩⟩
      ·rw [if_neg c17] at H
       have c17b0 : (a0_0 == 2) = false := bF.mpr c17
       have c17b1 : (a0_0 != 2) = true := nI.mpr c17
       (first | rw [c17b0] | (simp only [i64_w, i32_w]; rw [c17b0]) | skip)
       by_cases c19 : a0_0 = 3
       ·rw [if_pos c19] at H
        have c19b0 : (a0_0 == 3) = true := bI.mpr c19
        have c19b1 : (a0_0 != 3) = false := nF.mpr c19
        clear c19
        have H' := Aside0.mk H
        clear H
        have hcz20_0 : wc.cell? ⟨gb427, 0, none⟩ = some (.int .i64 a0_0) := (kC BK427.out 0).trans rfl
        have hcz20_1 : wc.cell? ⟨gb427, 1, none⟩ = some (.int .i64 a0_1) := (kC BK427.out 1).trans rfl
        have hcz20_2 : wc.cell? ⟨gb427, 2, none⟩ = some (.int .i64 a0_2) := (kC BK427.out 2).trans rfl
        have hcz20_3 : wc.cell? ⟨gb427, 3, none⟩ = some (.int .u32 a0_3) := (kC BK427.out 3).trans rfl
        have hfz20_0 := kF BK427.out 0
        have hfz20_1 := kF BK427.out 1
        have hfz20_2 := kF BK427.out 2
        have hfz20_3 := kF BK427.out 3
        go_wp2
        go_meet
        case rel => exact ⟨_, (decide (a0_3 > 15)), jS, H', ⟨by have := HJ5.out; first | omega | exact Nat.le_refl _⟩, ⟨jK BK427⟩, ⟨jH HB⟩⟩
       ·rw [if_neg c19] at H
        have c19b0 : (a0_0 == 3) = false := bF.mpr c19
        have c19b1 : (a0_0 != 3) = true := nI.mpr c19
        by_cases c21 : a0_0 = 96
        ·rw [if_pos c21] at H
         have c21b0 : (a0_0 == 96) = true := bI.mpr c21
         have c21b1 : (a0_0 != 96) = false := nF.mpr c21
         clear c21
         have H' := Aside0.mk H
         clear H
         have hcz22_0 : wc.cell? ⟨gb427, 0, none⟩ = some (.int .i64 a0_0) := (kC BK427.out 0).trans rfl
         have hcz22_1 : wc.cell? ⟨gb427, 1, none⟩ = some (.int .i64 a0_1) := (kC BK427.out 1).trans rfl
         have hcz22_2 : wc.cell? ⟨gb427, 2, none⟩ = some (.int .i64 a0_2) := (kC BK427.out 2).trans rfl
         have hcz22_3 : wc.cell? ⟨gb427, 3, none⟩ = some (.int .u32 a0_3) := (kC BK427.out 3).trans rfl
         have hfz22_0 := kF BK427.out 0
         have hfz22_1 := kF BK427.out 1
         have hfz22_2 := kF BK427.out 2
         have hfz22_3 := kF BK427.out 3
         go_wp2
         go_meet
         case rel => exact ⟨_, (decide (a0_3 > 15)), jS, H', ⟨by have := HJ5.out; first | omega | exact Nat.le_refl _⟩, ⟨jK BK427⟩, ⟨jH HB⟩⟩
        ·rw [if_neg c21] at H
         have c21b0 : (a0_0 == 96) = false := bF.mpr c21
         have c21b1 : (a0_0 != 96) = true := nI.mpr c21
         by_cases c23 : a0_0 = 97
         ·rw [if_pos c23] at H
          have c23b0 : (a0_0 == 97) = true := bI.mpr c23
          have c23b1 : (a0_0 != 97) = false := nF.mpr c23
          clear c23
          have H' := Aside0.mk H
          clear H
          have hcz24_0 : wc.cell? ⟨gb427, 0, none⟩ = some (.int .i64 a0_0) := (kC BK427.out 0).trans rfl
          have hcz24_1 : wc.cell? ⟨gb427, 1, none⟩ = some (.int .i64 a0_1) := (kC BK427.out 1).trans rfl
          have hcz24_2 : wc.cell? ⟨gb427, 2, none⟩ = some (.int .i64 a0_2) := (kC BK427.out 2).trans rfl
          have hcz24_3 : wc.cell? ⟨gb427, 3, none⟩ = some (.int .u32 a0_3) := (kC BK427.out 3).trans rfl
          have hfz24_0 := kF BK427.out 0
          have hfz24_1 := kF BK427.out 1
          have hfz24_2 := kF BK427.out 2
          have hfz24_3 := kF BK427.out 3
          go_wp2
          go_meet
          case rel => exact ⟨_, (decide (a0_3 > 15)), jS, H', ⟨by have := HJ5.out; first | omega | exact Nat.le_refl _⟩, ⟨jK BK427⟩, ⟨jH HB⟩⟩
         ·rw [if_neg c23] at H
          have c23b0 : (a0_0 == 97) = false := bF.mpr c23
          have c23b1 : (a0_0 != 97) = true := nI.mpr c23
          have H' := Aside0.mk H
          clear H
          have hcz25_0 : wc.cell? ⟨gb427, 0, none⟩ = some (.int .i64 a0_0) := (kC BK427.out 0).trans rfl
          have hcz25_1 : wc.cell? ⟨gb427, 1, none⟩ = some (.int .i64 a0_1) := (kC BK427.out 1).trans rfl
          have hcz25_2 : wc.cell? ⟨gb427, 2, none⟩ = some (.int .i64 a0_2) := (kC BK427.out 2).trans rfl
          have hcz25_3 : wc.cell? ⟨gb427, 3, none⟩ = some (.int .u32 a0_3) := (kC BK427.out 3).trans rfl
          have hfz25_0 := kF BK427.out 0
          have hfz25_1 := kF BK427.out 1
          have hfz25_2 := kF BK427.out 2
          have hfz25_3 := kF BK427.out 3
          go_wp2
          go_meet
          case rel => exact ⟨_, (false), jS, H', ⟨by have := HJ5.out; first | omega | exact Nat.le_refl _⟩, ⟨jK BK427⟩, ⟨jH HB⟩⟩
     case rest =>
      clear HC16
      obtain ⟨kq, x47_15, rfl, HA, HJ15, BK427, HB⟩ := hcut
      cases kq with
      | zero => exact absurd HA.out (by simp [r05_One.j1])
      | succ kj15 =>
       have H := HA.out
       clear HA
       simp only [r05_One.j1] at H
       by_cases c26 : x47_15 = true
       ·subst c26
        rw [if_pos rfl] at H
        obtain rfl := Option.some.inj H
        go_wp2
        go_ret
        exact ⟨jE, jH HB⟩
       ·replace c26 := Bool.eq_false_iff.mpr c26
        subst c26
        rw [if_neg (show ¬ (false = true) by decide)] at H
        have HC27 := Aside0.mk H
        clear H
        go_upto_region 7 with (fail)
        go_cut [55] (fun v55 wc => ∃ (kq : Nat) (x55_26 : Bool), v55 = .bool x55_26 ∧ Aside0 (r05_One.j2 kq a1 a2 x55_26 a0_0 a0_1 a0_2 a0_3 = some r) ∧ Aside0 (kq ≤ kj15) ∧ Aside0 (wc.heap[gb427]? = some (.cells #[.int .i64 a0_0, .int .i64 a0_1, .int .i64 a0_2, .int .u32 a0_3] 59 (0, 0))) ∧ Aside0 (Below w.heap.size w wc))
        case first =>
         have H := HC27.out
         clear HC27
         by_cases c28 : a0_0 = 52
         ·rw [if_pos c28] at H
          have c28b0 : (a0_0 == 52) = true := bI.mpr c28
          have c28b1 : (a0_0 != 52) = false := nF.mpr c28
          clear c28
          (first | rw [c28b0] | (simp only [i64_w, i32_w]; rw [c28b0]) | skip)
          have H' := Aside0.mk H
          clear H
          have hcz29_0 : wc.cell? ⟨gb427, 0, none⟩ = some (.int .i64 a0_0) := (kC BK427.out 0).trans rfl
          have hcz29_1 : wc.cell? ⟨gb427, 1, none⟩ = some (.int .i64 a0_1) := (kC BK427.out 1).trans rfl
          have hcz29_2 : wc.cell? ⟨gb427, 2, none⟩ = some (.int .i64 a0_2) := (kC BK427.out 2).trans rfl
          have hcz29_3 : wc.cell? ⟨gb427, 3, none⟩ = some (.int .u32 a0_3) := (kC BK427.out 3).trans rfl
          have hfz29_0 := kF BK427.out 0
          have hfz29_1 := kF BK427.out 1
          have hfz29_2 := kF BK427.out 2
          have hfz29_3 := kF BK427.out 3
          go_wp2
          go_meet
          case rel => exact ⟨_, ((a0_3 == 0)), jS, H', ⟨by have := HJ5.out; have := HJ15.out; first | omega | exact Nat.le_refl _⟩, ⟨jK BK427⟩, ⟨jH HB⟩⟩
         ·rw [if_neg c28] at H
          have c28b0 : (a0_0 == 52) = false := bF.mpr c28
          have c28b1 : (a0_0 != 52) = true := nI.mpr c28
          (first | rw [c28b0] | (simp only [i64_w, i32_w]; rw [c28b0]) | skip)
          have H' := Aside0.mk H
          clear H
          have hcz30_0 : wc.cell? ⟨gb427, 0, none⟩ = some (.int .i64 a0_0) := (kC BK427.out 0).trans rfl
          have hcz30_1 : wc.cell? ⟨gb427, 1, none⟩ = some (.int .i64 a0_1) := (kC BK427.out 1).trans rfl
          have hcz30_2 : wc.cell? ⟨gb427, 2, none⟩ = some (.int .i64 a0_2) := (kC BK427.out 2).trans rfl
          have hcz30_3 : wc.cell? ⟨gb427, 3, none⟩ = some (.int .u32 a0_3) := (kC BK427.out 3).trans rfl
          have hfz30_0 := kF BK427.out 0
          have hfz30_1 := kF BK427.out 1
          have hfz30_2 := kF BK427.out 2
          have hfz30_3 := kF BK427.out 3
          go_wp2
          go_meet
          case rel => exact ⟨_, (false), jS, H', ⟨by have := HJ5.out; have := HJ15.out; first | omega | exact Nat.le_refl _⟩, ⟨jK BK427⟩, ⟨jH HB⟩⟩
        case rest =>
         clear HC27
         obtain ⟨kq, x55_26, rfl, HA, HJ26, BK427, HB⟩ := hcut
         cases kq with
         | zero => exact absurd HA.out (by simp [r05_One.j2])
         | succ kj26 =>
          have H := HA.out
          clear HA
          simp only [r05_One.j2] at H
          by_cases c31 : x55_26 = true
          ·subst c31
           rw [if_pos rfl] at H
           obtain rfl := Option.some.inj H
           go_wp2
           go_ret
           exact ⟨jE, jH HB⟩
          ·replace c31 := Bool.eq_false_iff.mpr c31
           subst c31
           rw [if_neg (show ¬ (false = true) by decide)] at H
           have HC32 := Aside0.mk H
           clear H
           go_upto_region 9 with (fail)
           go_cut [68] (fun v68 wc => ∃ (kq : Nat) (x68_31 : Bool), v68 = .bool x68_31 ∧ Aside0 (r05_One.j3 kq a1 a2 x68_31 a0_0 a0_1 a0_2 a0_3 = some r) ∧ Aside0 (kq ≤ kj26) ∧ Aside0 (wc.heap[gb427]? = some (.cells #[.int .i64 a0_0, .int .i64 a0_1, .int .i64 a0_2, .int .u32 a0_3] 59 (0, 0))) ∧ Aside0 (Below w.heap.size w wc))
           case first =>
            have H := HC32.out
            clear HC32
            by_cases c33 : a0_0 = 100
            ·rw [if_pos c33] at H
             have c33b0 : (a0_0 == 100) = true := bI.mpr c33
             have c33b1 : (a0_0 != 100) = false := nF.mpr c33
             clear c33
             (first | rw [c33b0] | (simp only [i64_w, i32_w]; rw [c33b0]) | skip)
             have H' := Aside0.mk H
             clear H
             have hcz34_0 : wc.cell? ⟨gb427, 0, none⟩ = some (.int .i64 a0_0) := (kC BK427.out 0).trans rfl
             have hcz34_1 : wc.cell? ⟨gb427, 1, none⟩ = some (.int .i64 a0_1) := (kC BK427.out 1).trans rfl
             have hcz34_2 : wc.cell? ⟨gb427, 2, none⟩ = some (.int .i64 a0_2) := (kC BK427.out 2).trans rfl
             have hcz34_3 : wc.cell? ⟨gb427, 3, none⟩ = some (.int .u32 a0_3) := (kC BK427.out 3).trans rfl
             have hfz34_0 := kF BK427.out 0
             have hfz34_1 := kF BK427.out 1
             have hfz34_2 := kF BK427.out 2
             have hfz34_3 := kF BK427.out 3
             go_wp2
             go_meet
             case rel => exact ⟨_, (decide (a0_3 > 31)), jS, H', ⟨by have := HJ5.out; have := HJ15.out; have := HJ26.out; first | omega | exact Nat.le_refl _⟩, ⟨jK BK427⟩, ⟨jH HB⟩⟩
            ·rw [if_neg c33] at H
             have c33b0 : (a0_0 == 100) = false := bF.mpr c33
             have c33b1 : (a0_0 != 100) = true := nI.mpr c33
             (first | rw [c33b0] | (simp only [i64_w, i32_w]; rw [c33b0]) | skip)
             by_cases c35 : a0_0 = 116
             ·rw [if_pos c35] at H
              have c35b0 : (a0_0 == 116) = true := bI.mpr c35
              have c35b1 : (a0_0 != 116) = false := nF.mpr c35
              clear c35
              have H' := Aside0.mk H
              clear H
              have hcz36_0 : wc.cell? ⟨gb427, 0, none⟩ = some (.int .i64 a0_0) := (kC BK427.out 0).trans rfl
              have hcz36_1 : wc.cell? ⟨gb427, 1, none⟩ = some (.int .i64 a0_1) := (kC BK427.out 1).trans rfl
              have hcz36_2 : wc.cell? ⟨gb427, 2, none⟩ = some (.int .i64 a0_2) := (kC BK427.out 2).trans rfl
              have hcz36_3 : wc.cell? ⟨gb427, 3, none⟩ = some (.int .u32 a0_3) := (kC BK427.out 3).trans rfl
              have hfz36_0 := kF BK427.out 0
              have hfz36_1 := kF BK427.out 1
              have hfz36_2 := kF BK427.out 2
              have hfz36_3 := kF BK427.out 3
              go_wp2
              go_meet
              case rel => exact ⟨_, (decide (a0_3 > 31)), jS, H', ⟨by have := HJ5.out; have := HJ15.out; have := HJ26.out; first | omega | exact Nat.le_refl _⟩, ⟨jK BK427⟩, ⟨jH HB⟩⟩
             ·rw [if_neg c35] at H
              have c35b0 : (a0_0 == 116) = false := bF.mpr c35
              have c35b1 : (a0_0 != 116) = true := nI.mpr c35
              have H' := Aside0.mk H
              clear H
              have hcz37_0 : wc.cell? ⟨gb427, 0, none⟩ = some (.int .i64 a0_0) := (kC BK427.out 0).trans rfl
              have hcz37_1 : wc.cell? ⟨gb427, 1, none⟩ = some (.int .i64 a0_1) := (kC BK427.out 1).trans rfl
              have hcz37_2 : wc.cell? ⟨gb427, 2, none⟩ = some (.int .i64 a0_2) := (kC BK427.out 2).trans rfl
              have hcz37_3 : wc.cell? ⟨gb427, 3, none⟩ = some (.int .u32 a0_3) := (kC BK427.out 3).trans rfl
              have hfz37_0 := kF BK427.out 0
              have hfz37_1 := kF BK427.out 1
              have hfz37_2 := kF BK427.out 2
              have hfz37_3 := kF BK427.out 3
              go_wp2
              go_meet
              case rel => exact ⟨_, (false), jS, H', ⟨by have := HJ5.out; have := HJ15.out; have := HJ26.out; first | omega | exact Nat.le_refl _⟩, ⟨jK BK427⟩, ⟨jH HB⟩⟩
           case rest =>
            clear HC32
            obtain ⟨kq, x68_31, rfl, HA, HJ31, BK427, HB⟩ := hcut
            cases kq with
            | zero => exact absurd HA.out (by simp [r05_One.j3])
            | succ kj31 =>
             have H := HA.out
             clear HA
             simp only [r05_One.j3] at H
             by_cases c38 : x68_31 = true
             ·subst c38
              rw [if_pos rfl] at H
              obtain rfl := Option.some.inj H
              go_wp2
              go_ret
              exact ⟨jE, jH HB⟩
             ·replace c38 := Bool.eq_false_iff.mpr c38
              subst c38
              rw [if_neg (show ¬ (false = true) by decide)] at H
              have HC39 := Aside0.mk H
              clear H
              go_upto_region 12 with (fail)
              go_cut [83] (fun v83 wc => ∃ (kq : Nat) (x83_38 : Bool), v83 = .bool x83_38 ∧ Aside0 (r05_One.j4 kq (wrap64 ((wrap64 (a2 - 1)) - a1)) x83_38 a0_0 a0_1 a0_2 a0_3 = some r) ∧ Aside0 (kq ≤ kj31) ∧ Aside0 (wc.heap[gb427]? = some (.cells #[.int .i64 a0_0, .int .i64 a0_1, .int .i64 a0_2, .int .u32 a0_3] 59 (0, 0))) ∧ Aside0 (Below w.heap.size w wc))
              case first =>
               have H := HC39.out
               clear HC39
               by_cases c40 : a0_0 = 5
               ·rw [if_pos c40] at H
                have c40b0 : (a0_0 == 5) = true := bI.mpr c40
                have c40b1 : (a0_0 != 5) = false := nF.mpr c40
                clear c40
                (first | rw [c40b0] | (simp only [i64_w, i32_w]; rw [c40b0]) | skip)
                have H' := Aside0.mk H
                clear H
                have hcz41_0 : wc.cell? ⟨gb427, 0, none⟩ = some (.int .i64 a0_0) := (kC BK427.out 0).trans rfl
                have hcz41_1 : wc.cell? ⟨gb427, 1, none⟩ = some (.int .i64 a0_1) := (kC BK427.out 1).trans rfl
                have hcz41_2 : wc.cell? ⟨gb427, 2, none⟩ = some (.int .i64 a0_2) := (kC BK427.out 2).trans rfl
                have hcz41_3 : wc.cell? ⟨gb427, 3, none⟩ = some (.int .u32 a0_3) := (kC BK427.out 3).trans rfl
                have hfz41_0 := kF BK427.out 0
                have hfz41_1 := kF BK427.out 1
                have hfz41_2 := kF BK427.out 2
                have hfz41_3 := kF BK427.out 3
                go_wp2
                go_meet
                case rel => exact ⟨_, (decide ((IntKind.u64.wrap (a0_3)) ≥ (IntKind.u64.wrap (wrap64 ((wrap64 (a2 - 1)) - a1))))), jS, H', ⟨by have := HJ5.out; have := HJ15.out; have := HJ26.out; have := HJ31.out; first | omega | exact Nat.le_refl _⟩, ⟨jK BK427⟩, ⟨jH HB⟩⟩
               ·rw [if_neg c40] at H
                have c40b0 : (a0_0 == 5) = false := bF.mpr c40
                have c40b1 : (a0_0 != 5) = true := nI.mpr c40
                (first | rw [c40b0] | (simp only [i64_w, i32_w]; rw [c40b0]) | skip)
                have H' := Aside0.mk H
                clear H
                have hcz42_0 : wc.cell? ⟨gb427, 0, none⟩ = some (.int .i64 a0_0) := (kC BK427.out 0).trans rfl
                have hcz42_1 : wc.cell? ⟨gb427, 1, none⟩ = some (.int .i64 a0_1) := (kC BK427.out 1).trans rfl
                have hcz42_2 : wc.cell? ⟨gb427, 2, none⟩ = some (.int .i64 a0_2) := (kC BK427.out 2).trans rfl
                have hcz42_3 : wc.cell? ⟨gb427, 3, none⟩ = some (.int .u32 a0_3) := (kC BK427.out 3).trans rfl
                have hfz42_0 := kF BK427.out 0
                have hfz42_1 := kF BK427.out 1
                have hfz42_2 := kF BK427.out 2
                have hfz42_3 := kF BK427.out 3
                go_wp2
                go_meet
                case rel => exact ⟨_, (false), jS, H', ⟨by have := HJ5.out; have := HJ15.out; have := HJ26.out; have := HJ31.out; first | omega | exact Nat.le_refl _⟩, ⟨jK BK427⟩, ⟨jH HB⟩⟩
              case rest =>
               clear HC39
               obtain ⟨kq, x83_38, rfl, HA, HJ38, BK427, HB⟩ := hcut
               cases kq with
               | zero => exact absurd HA.out (by simp [r05_One.j4])
               | succ kj38 =>
                have H := HA.out
                clear HA
                simp only [r05_One.j4] at H
                by_cases c43 : x83_38 = true
                ·subst c43
                 rw [if_pos rfl] at H
                 obtain rfl := Option.some.inj H
                 go_wp2
                 go_ret
                 exact ⟨jE, jH HB⟩
                ·replace c43 := Bool.eq_false_iff.mpr c43
                 subst c43
                 rw [if_neg (show ¬ (false = true) by decide)] at H
                 replace H := Option.bind_eq_some_iff.mp H
                 obtain ⟨t429, A440, H⟩ := H
                 try dsimp only at H
                 have A44 := Aside0.mk A440
                 clear A440
                 by_cases c45 : t429 = true
                 ·subst c45
                  rw [if_pos rfl] at H
                  by_cases c46 : a0_1 ≥ (wrap64 ((wrap64 (a2 - 1)) - a1))
                  ·rw [if_pos c46] at H
                   have c46b0 : decide ((wrap64 ((wrap64 (a2 - 1)) - a1)) ≤ a0_1) = true := dT c46
                   clear c46
                   obtain rfl := Option.some.inj H
                   have hcz47_0 : wc.cell? ⟨gb427, 0, none⟩ = some (.int .i64 a0_0) := (kC BK427.out 0).trans rfl
                   have hcz47_1 : wc.cell? ⟨gb427, 1, none⟩ = some (.int .i64 a0_1) := (kC BK427.out 1).trans rfl
                   have hcz47_2 : wc.cell? ⟨gb427, 2, none⟩ = some (.int .i64 a0_2) := (kC BK427.out 2).trans rfl
                   have hcz47_3 : wc.cell? ⟨gb427, 3, none⟩ = some (.int .u32 a0_3) := (kC BK427.out 3).trans rfl
                   have hfz47_0 := kF BK427.out 0
                   have hfz47_1 := kF BK427.out 1
                   have hfz47_2 := kF BK427.out 2
                   have hfz47_3 := kF BK427.out 3
                   go_wp2_with (first | ((with_reducible refine gate_callee (f := 48) rfl ?_); refine goesL_ (some 85) rfl rfl Tryd.func48 (by kernel_rfl) rfl #[.agg #[.int .i64 a0_0, .int .i64 a0_1, .int .i64 a0_2, .int .u32 a0_3]] rfl jZ ?_; (with_reducible refine (r02_Branch.calls kj38 a0_0 a0_1 a0_2 a0_3 true _ A44.out).mono ?_); rintro e w48 ⟨rfl, hb⟩; refine ⟨_, rfl, ?_⟩; have n0_ := Aside0.mk (jB BK427 hb); have n1_ := Aside0.mk (zT (jH HB) hb); clear BK427; clear HB; have BK427 := n0_; have HB := n1_; clear n0_ n1_; (try clear hb); (try clear hb2); (try clear hk); (try clear hi); have hcz49_0 : w48.cell? ⟨gb427, 0, none⟩ = some (.int .i64 a0_0) := (kC BK427.out 0).trans rfl; have hcz49_1 : w48.cell? ⟨gb427, 1, none⟩ = some (.int .i64 a0_1) := (kC BK427.out 1).trans rfl; have hcz49_2 : w48.cell? ⟨gb427, 2, none⟩ = some (.int .i64 a0_2) := (kC BK427.out 2).trans rfl; have hcz49_3 : w48.cell? ⟨gb427, 3, none⟩ = some (.int .u32 a0_3) := (kC BK427.out 3).trans rfl; have hfz49_0 := kF BK427.out 0; have hfz49_1 := kF BK427.out 1; have hfz49_2 := kF BK427.out 2; have hfz49_3 := kF BK427.out 3))
                   go_ret
                   exact ⟨jE, jH HB⟩
                  ·rw [if_neg c46] at H
                   have c46b0 : decide ((wrap64 ((wrap64 (a2 - 1)) - a1)) ≤ a0_1) = false := dF c46
                   clear c46
                   by_cases c50 : a0_2 ≥ (wrap64 ((wrap64 (a2 - 1)) - a1))
                   ·rw [if_pos c50] at H
                    have c50b0 : decide ((wrap64 ((wrap64 (a2 - 1)) - a1)) ≤ a0_2) = true := dT c50
                    clear c50
                    obtain rfl := Option.some.inj H
                    have hcz51_0 : wc.cell? ⟨gb427, 0, none⟩ = some (.int .i64 a0_0) := (kC BK427.out 0).trans rfl
                    have hcz51_1 : wc.cell? ⟨gb427, 1, none⟩ = some (.int .i64 a0_1) := (kC BK427.out 1).trans rfl
                    have hcz51_2 : wc.cell? ⟨gb427, 2, none⟩ = some (.int .i64 a0_2) := (kC BK427.out 2).trans rfl
                    have hcz51_3 : wc.cell? ⟨gb427, 3, none⟩ = some (.int .u32 a0_3) := (kC BK427.out 3).trans rfl
                    have hfz51_0 := kF BK427.out 0
                    have hfz51_1 := kF BK427.out 1
                    have hfz51_2 := kF BK427.out 2
                    have hfz51_3 := kF BK427.out 3
                    go_wp2_with (first | ((with_reducible refine gate_callee (f := 48) rfl ?_); refine goesL_ (some 85) rfl rfl Tryd.func48 (by kernel_rfl) rfl #[.agg #[.int .i64 a0_0, .int .i64 a0_1, .int .i64 a0_2, .int .u32 a0_3]] rfl jZ ?_; (with_reducible refine (r02_Branch.calls kj38 a0_0 a0_1 a0_2 a0_3 true _ A44.out).mono ?_); rintro e w52 ⟨rfl, hb⟩; refine ⟨_, rfl, ?_⟩; have n0_ := Aside0.mk (jB BK427 hb); have n1_ := Aside0.mk (zT (jH HB) hb); clear BK427; clear HB; have BK427 := n0_; have HB := n1_; clear n0_ n1_; (try clear hb); (try clear hb2); (try clear hk); (try clear hi); have hcz53_0 : w52.cell? ⟨gb427, 0, none⟩ = some (.int .i64 a0_0) := (kC BK427.out 0).trans rfl; have hcz53_1 : w52.cell? ⟨gb427, 1, none⟩ = some (.int .i64 a0_1) := (kC BK427.out 1).trans rfl; have hcz53_2 : w52.cell? ⟨gb427, 2, none⟩ = some (.int .i64 a0_2) := (kC BK427.out 2).trans rfl; have hcz53_3 : w52.cell? ⟨gb427, 3, none⟩ = some (.int .u32 a0_3) := (kC BK427.out 3).trans rfl; have hfz53_0 := kF BK427.out 0; have hfz53_1 := kF BK427.out 1; have hfz53_2 := kF BK427.out 2; have hfz53_3 := kF BK427.out 3))
                    go_ret
                    exact ⟨jE, jH HB⟩
                   ·rw [if_neg c50] at H
                    have c50b0 : decide ((wrap64 ((wrap64 (a2 - 1)) - a1)) ≤ a0_2) = false := dF c50
                    clear c50
                    obtain rfl := Option.some.inj H
                    have hcz54_0 : wc.cell? ⟨gb427, 0, none⟩ = some (.int .i64 a0_0) := (kC BK427.out 0).trans rfl
                    have hcz54_1 : wc.cell? ⟨gb427, 1, none⟩ = some (.int .i64 a0_1) := (kC BK427.out 1).trans rfl
                    have hcz54_2 : wc.cell? ⟨gb427, 2, none⟩ = some (.int .i64 a0_2) := (kC BK427.out 2).trans rfl
                    have hcz54_3 : wc.cell? ⟨gb427, 3, none⟩ = some (.int .u32 a0_3) := (kC BK427.out 3).trans rfl
                    have hfz54_0 := kF BK427.out 0
                    have hfz54_1 := kF BK427.out 1
                    have hfz54_2 := kF BK427.out 2
                    have hfz54_3 := kF BK427.out 3
                    go_wp2_with (first | ((with_reducible refine gate_callee (f := 48) rfl ?_); refine goesL_ (some 85) rfl rfl Tryd.func48 (by kernel_rfl) rfl #[.agg #[.int .i64 a0_0, .int .i64 a0_1, .int .i64 a0_2, .int .u32 a0_3]] rfl jZ ?_; (with_reducible refine (r02_Branch.calls kj38 a0_0 a0_1 a0_2 a0_3 true _ A44.out).mono ?_); rintro e w55 ⟨rfl, hb⟩; refine ⟨_, rfl, ?_⟩; have n0_ := Aside0.mk (jB BK427 hb); have n1_ := Aside0.mk (zT (jH HB) hb); clear BK427; clear HB; have BK427 := n0_; have HB := n1_; clear n0_ n1_; (try clear hb); (try clear hb2); (try clear hk); (try clear hi); have hcz56_0 : w55.cell? ⟨gb427, 0, none⟩ = some (.int .i64 a0_0) := (kC BK427.out 0).trans rfl; have hcz56_1 : w55.cell? ⟨gb427, 1, none⟩ = some (.int .i64 a0_1) := (kC BK427.out 1).trans rfl; have hcz56_2 : w55.cell? ⟨gb427, 2, none⟩ = some (.int .i64 a0_2) := (kC BK427.out 2).trans rfl; have hcz56_3 : w55.cell? ⟨gb427, 3, none⟩ = some (.int .u32 a0_3) := (kC BK427.out 3).trans rfl; have hfz56_0 := kF BK427.out 0; have hfz56_1 := kF BK427.out 1; have hfz56_2 := kF BK427.out 2; have hfz56_3 := kF BK427.out 3))
                    go_ret
                    exact ⟨jE, jH HB⟩
                 ·replace c45 := Bool.eq_false_iff.mpr c45
                  subst c45
                  rw [if_neg (show ¬ (false = true) by decide)] at H
                  obtain rfl := Option.some.inj H
                  have hcz57_0 : wc.cell? ⟨gb427, 0, none⟩ = some (.int .i64 a0_0) := (kC BK427.out 0).trans rfl
                  have hcz57_1 : wc.cell? ⟨gb427, 1, none⟩ = some (.int .i64 a0_1) := (kC BK427.out 1).trans rfl
                  have hcz57_2 : wc.cell? ⟨gb427, 2, none⟩ = some (.int .i64 a0_2) := (kC BK427.out 2).trans rfl
                  have hcz57_3 : wc.cell? ⟨gb427, 3, none⟩ = some (.int .u32 a0_3) := (kC BK427.out 3).trans rfl
                  have hfz57_0 := kF BK427.out 0
                  have hfz57_1 := kF BK427.out 1
                  have hfz57_2 := kF BK427.out 2
                  have hfz57_3 := kF BK427.out 3
                  go_wp2_with (first | ((with_reducible refine gate_callee (f := 48) rfl ?_); refine goesL_ (some 85) rfl rfl Tryd.func48 (by kernel_rfl) rfl #[.agg #[.int .i64 a0_0, .int .i64 a0_1, .int .i64 a0_2, .int .u32 a0_3]] rfl jZ ?_; (with_reducible refine (r02_Branch.calls kj38 a0_0 a0_1 a0_2 a0_3 false _ A44.out).mono ?_); rintro e w58 ⟨rfl, hb⟩; refine ⟨_, rfl, ?_⟩; have n0_ := Aside0.mk (jB BK427 hb); have n1_ := Aside0.mk (zT (jH HB) hb); clear BK427; clear HB; have BK427 := n0_; have HB := n1_; clear n0_ n1_; (try clear hb); (try clear hb2); (try clear hk); (try clear hi)))
                  go_ret
                  exact ⟨jE, jH HB⟩
 ·replace c5 := Bool.eq_false_iff.mpr c5
  subst c5
  rw [if_neg (show ¬ (false = true) by decide)] at H
  obtain rfl := Option.some.inj H
  go_enter Tryd.func50, Tryd.ntmps50
  go_wp2_with (first | ((with_reducible refine gate_dst (N := 3) rfl ?_); refine box_event rfl (N := 3) rfl (cs := #[.int .i64 a0_0, .int .i64 a0_1, .int .i64 a0_2, .int .u32 a0_3]) (t := 59) jW ?_; intro gb427 hg w59 hbox hb; have n0_ := Aside0.mk (zT (jH HB) hb); have n1_ := Aside0.mk hbox; have n2_ := Aside0.mk (jG hg HB); have n3_ := Aside0.mk (jG hg HB); clear HB; have HB := n0_; have BK427 := n1_; have GW427 := n2_; have GE427 := n3_; clear n0_ n1_ n2_ n3_; clear hb hbox hg; have hcz60_0 : w59.cell? ⟨gb427, 0, none⟩ = some (.int .i64 a0_0) := (kC BK427.out 0).trans rfl; have hcz60_1 : w59.cell? ⟨gb427, 1, none⟩ = some (.int .i64 a0_1) := (kC BK427.out 1).trans rfl; have hcz60_2 : w59.cell? ⟨gb427, 2, none⟩ = some (.int .i64 a0_2) := (kC BK427.out 2).trans rfl; have hcz60_3 : w59.cell? ⟨gb427, 3, none⟩ = some (.int .u32 a0_3) := (kC BK427.out 3).trans rfl; have hfz60_0 := kF BK427.out 0; have hfz60_1 := kF BK427.out 1; have hfz60_2 := kF BK427.out 2; have hfz60_3 := kF BK427.out 3) | ((with_reducible refine gate_callee (f := 60) rfl ?_); refine goesL_ (some 9) rfl rfl Tryd.func60 (by kernel_rfl) rfl #[.agg #[.int .i64 a0_0, .int .i64 a0_1, .int .i64 a0_2, .int .u32 a0_3]] rfl jZ ?_; (with_reducible refine (r02_Right.calls k a0_0 a0_1 a0_2 a0_3 false _ A4.out).mono ?_); rintro e w61 ⟨rfl, hb⟩; refine ⟨_, rfl, ?_⟩; have n0_ := Aside0.mk (jB BK427 hb); have n1_ := Aside0.mk (zT (jH HB) hb); clear BK427; clear HB; have BK427 := n0_; have HB := n1_; clear n0_ n1_; (try clear hb); (try clear hb2); (try clear hk); (try clear hi)))
  go_ret
  exact ⟨jE, jH HB⟩
end Go.Proofs.YtahacmdhhfmhiaaDoor.M
