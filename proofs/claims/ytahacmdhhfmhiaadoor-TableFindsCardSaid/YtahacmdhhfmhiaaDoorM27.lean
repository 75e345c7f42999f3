/- What Go functions compute; their calls come to it. No condition. -/
import Derived.Test.YtahacmdhhfmhiaaDoorM0
import Derived.Test.YtahacmdhhfmhiaaDoorME
namespace Go.Proofs.YtahacmdhhfmhiaaDoor.M
open Go.RowKit Go.Proofs.YtahacmdhhfmhiaaDoorW.PrintWords Go.Proofs.YtahacmdhhfmhiaaDoorW.PrintLast Go.Proofs.YtahacmdhhfmhiaaDoorW.PrintMore
attribute [local go_sem] max2_int min2_int max_two min_two max_three min_three max_four min_four   -- for this text's walks alone
set_option linter.unusedVariables false
set_option linter.unusedSimpArgs false
mutual
def r05_One.j0 : Nat → Int → Int → Bool → Int → Int → Int → Int → Option (Int)
 | 0, _, _, _, _, _, _, _ => none
 | k + 1, x1, x2, x24, x428000, x428001, x428002, x428003 => if x24 = true then (some 6) else (if x428000 = 2 then (r05_One.j1 k x1 x2 (decide (x428003 > 15)) x428000 x428001 x428002 x428003) else (if x428000 = 3 then (r05_One.j1 k x1 x2 (decide (x428003 > 15)) x428000 x428001 x428002 x428003) else (if x428000 = 96 then (r05_One.j1 k x1 x2 (decide (x428003 > 15)) x428000 x428001 x428002 x428003) else (if x428000 = 97 then (r05_One.j1 k x1 x2 (decide (x428003 > 15)) x428000 x428001 x428002 x428003) else (r05_One.j1 k x1 x2 false x428000 x428001 x428002 x428003)))))
def r05_One.j1 : Nat → Int → Int → Bool → Int → Int → Int → Int → Option (Int)
 | 0, _, _, _, _, _, _, _ => none
 | k + 1, x1, x2, x47, x428000, x428001, x428002, x428003 => if x47 = true then (some 7) else (if x428000 = 52 then (r05_One.j2 k x1 x2 (x428003 == 0) x428000 x428001 x428002 x428003) else (r05_One.j2 k x1 x2 false x428000 x428001 x428002 x428003))
def r05_One.j2 : Nat → Int → Int → Bool → Int → Int → Int → Int → Option (Int)
 | 0, _, _, _, _, _, _, _ => none
 | k + 1, x1, x2, x55, x428000, x428001, x428002, x428003 => if x55 = true then (some 8) else (if x428000 = 100 then (r05_One.j3 k x1 x2 (decide (x428003 > 31)) x428000 x428001 x428002 x428003) else (if x428000 = 116 then (r05_One.j3 k x1 x2 (decide (x428003 > 31)) x428000 x428001 x428002 x428003) else (r05_One.j3 k x1 x2 false x428000 x428001 x428002 x428003)))
def r05_One.j3 : Nat → Int → Int → Bool → Int → Int → Int → Int → Option (Int)
 | 0, _, _, _, _, _, _, _ => none
 | k + 1, x1, x2, x68, x428000, x428001, x428002, x428003 => if x68 = true then (some 1) else (if x428000 = 5 then (r05_One.j4 k (wrap64 ((wrap64 (x2 - 1)) - x1)) (decide ((IntKind.u64.wrap (x428003)) ≥ (IntKind.u64.wrap (wrap64 ((wrap64 (x2 - 1)) - x1))))) x428000 x428001 x428002 x428003) else (r05_One.j4 k (wrap64 ((wrap64 (x2 - 1)) - x1)) false x428000 x428001 x428002 x428003))
def r05_One.j4 : Nat → Int → Bool → Int → Int → Int → Int → Option (Int)
 | 0, _, _, _, _, _, _ => none
 | k + 1, x7, x83, x428000, x428001, x428002, x428003 => if x83 = true then (some 4) else ((r02_Branch.f k x428000 x428001 x428002 x428003).bind fun t429 => (if t429 = true then (if x428001 ≥ x7 then (some 4) else (if x428002 ≥ x7 then (some 4) else (some 0))) else (some 0)))
end
def r05_One.f (k : Nat) (a0_0 : Int) (a0_1 : Int) (a0_2 : Int) (a0_3 : Int) (a1 : Int) (a2 : Int) : Option (Int) := (r02_Right.f k a0_0 a0_1 a0_2 a0_3).bind fun t428 => (if t428 = true then (if a0_0 = 32 then (if (Int.tmod a0_3 4) = 0 then (r05_One.j0 k a1 a2 (decide (a0_3 > 60)) a0_0 a0_1 a0_2 a0_3) else (r05_One.j0 k a1 a2 true a0_0 a0_1 a0_2 a0_3)) else (r05_One.j0 k a1 a2 false a0_0 a0_1 a0_2 a0_3)) else (some 1))
theorem r05_One.mono_l : ∀ k, (∀ y0 y1 y2 y3 y4 y5 y6, LeO (r05_One.j0 k y0 y1 y2 y3 y4 y5 y6) (r05_One.j0 (k + 1) y0 y1 y2 y3 y4 y5 y6)) ∧ (∀ y0 y1 y2 y3 y4 y5 y6, LeO (r05_One.j1 k y0 y1 y2 y3 y4 y5 y6) (r05_One.j1 (k + 1) y0 y1 y2 y3 y4 y5 y6)) ∧ (∀ y0 y1 y2 y3 y4 y5 y6, LeO (r05_One.j2 k y0 y1 y2 y3 y4 y5 y6) (r05_One.j2 (k + 1) y0 y1 y2 y3 y4 y5 y6)) ∧ (∀ y0 y1 y2 y3 y4 y5 y6, LeO (r05_One.j3 k y0 y1 y2 y3 y4 y5 y6) (r05_One.j3 (k + 1) y0 y1 y2 y3 y4 y5 y6)) ∧ (∀ y0 y1 y2 y3 y4 y5, LeO (r05_One.j4 k y0 y1 y2 y3 y4 y5) (r05_One.j4 (k + 1) y0 y1 y2 y3 y4 y5))
 | 0 => ⟨fun _ _ _ _ _ _ _ r h => by simp [r05_One.j0] at h, fun _ _ _ _ _ _ _ r h => by simp [r05_One.j1] at h, fun _ _ _ _ _ _ _ r h => by simp [r05_One.j2] at h, fun _ _ _ _ _ _ _ r h => by simp [r05_One.j3] at h, fun _ _ _ _ _ _ r h => by simp [r05_One.j4] at h⟩
 | k + 1 => by
  obtain ⟨ih0, ih1, ih2, ih3, ih4⟩ := r05_One.mono_l k
  refine ⟨?_, ?_, ?_, ?_, ?_⟩
  all_goals intros
  all_goals first | unfold r05_One.j0 | unfold r05_One.j1 | unfold r05_One.j2 | unfold r05_One.j3 | unfold r05_One.j4
  all_goals repeat' first
   | (with_reducible apply ih0)
   | (with_reducible apply ih1)
   | (with_reducible apply ih2)
   | (with_reducible apply ih3)
   | (with_reducible apply ih4)
   | (with_reducible apply r02_Branch.mono)
   | (with_reducible apply r02_Right.mono)
   | (with_reducible exact LeO.refl _)
   | (with_reducible exact LeO.none _)
   | (with_reducible refine LeO.ite ?_ ?_)
   | (with_reducible refine LeO.bind ?_ (fun _ => ?_))
   | apply ih0
   | apply ih1
   | apply ih2
   | apply ih3
   | apply ih4
   | apply r02_Branch.mono
   | apply r02_Right.mono
   | exact LeO.none _
   | refine LeO.ite ?_ ?_
   | refine LeO.bind ?_ (fun _ => ?_)
theorem r05_One.mono : ∀ a0 a1 a2 a3 a4 a5 k, LeO (r05_One.f k a0 a1 a2 a3 a4 a5) (r05_One.f (k + 1) a0 a1 a2 a3 a4 a5) := by
 intro a0 a1 a2 a3 a4 a5 k
 obtain ⟨ih0, ih1, ih2, ih3, ih4⟩ := r05_One.mono_l k
 unfold r05_One.f
 repeat' first
   | (with_reducible apply ih0)
   | (with_reducible apply ih1)
   | (with_reducible apply ih2)
   | (with_reducible apply ih3)
   | (with_reducible apply ih4)
   | (with_reducible apply r02_Branch.mono)
   | (with_reducible apply r02_Right.mono)
   | (with_reducible exact LeO.refl _)
   | (with_reducible exact LeO.none _)
   | (with_reducible refine LeO.ite ?_ ?_)
   | (with_reducible refine LeO.bind ?_ (fun _ => ?_))
   | apply ih0
   | apply ih1
   | apply ih2
   | apply ih3
   | apply ih4
   | apply r02_Branch.mono
   | apply r02_Right.mono
   | exact LeO.none _
   | refine LeO.ite ?_ ?_
   | refine LeO.bind ?_ (fun _ => ?_)
set_option maxHeartbeats 8000000 in
set_option maxRecDepth 100000 in
theorem r05_One.calls (k : Nat) (a0_0 : Int) (a0_1 : Int) (a0_2 : Int) (a0_3 : Int) (a1 : Int) (a2 : Int) (r : Int) (w : World) (h : r05_One.f k a0_0 a0_1 a0_2 a0_3 a1 a2 = some r) :
  Calls Tryd.prog 50 #[.agg #[.int .i64 a0_0, .int .i64 a0_1, .int .i64 a0_2, .int .u32 a0_3], .int .i64 a1, .int .i64 a2] w fun e w' => e = .returned (.int .i64 r) ∧ Below w.heap.size w w' := by
 have hu59 := Tryd.underlying59
 have HB := Aside0.mk (Below.refl w.heap.size w)
 have H : ((r02_Right.f k a0_0 a0_1 a0_2 a0_3).bind fun t428 => (if t428 = true then (if a0_0 = 32 then (if (Int.tmod a0_3 4) = 0 then (r05_One.j0 k a1 a2 (decide (a0_3 > 60)) a0_0 a0_1 a0_2 a0_3) else (r05_One.j0 k a1 a2 true a0_0 a0_1 a0_2 a0_3)) else (r05_One.j0 k a1 a2 false a0_0 a0_1 a0_2 a0_3)) else (some 1))) = some r := h
 clear h
 replace H := Option.bind_eq_some_iff.mp H
 obtain ⟨t428, A40, H⟩ := H
 try dsimp only at H
 have A4 := Aside0.mk A40
 clear A40
 by_cases c5 : t428 = true
 ·subst c5
  rw [if_pos rfl] at H
  have HC6 := Aside0.mk H
  clear H
  go_enter Tryd.func50, Tryd.ntmps50
  go_upto_region 3 with (first | ((with_reducible refine gate_dst (N := 3) rfl ?_); refine box_event rfl (N := 3) rfl (cs := #[.int .i64 a0_0, .int .i64 a0_1, .int .i64 a0_2, .int .u32 a0_3]) (t := 59) jW ?_; intro gb427 hg w7 hbox hb; have BK427 := Aside0.mk hbox; have GW427 := Aside0.mk (jG hg HB); have GE427 := Aside0.mk (jG hg HB); replace HB := Aside0.mk (zT (jH HB) hb); clear hb hbox hg; obtain ⟨hcz8_0, hcz8_1, hcz8_2, hcz8_3, hfz8_0, hfz8_1, hfz8_2, hfz8_3⟩ := kQ4 BK427.out) | ((with_reducible refine gate_callee (f := 60) rfl ?_); refine goesL_ (some 9) rfl rfl Tryd.func60 (by kernel_rfl) rfl #[.agg #[.int .i64 a0_0, .int .i64 a0_1, .int .i64 a0_2, .int .u32 a0_3]] rfl jZ ?_; (with_reducible refine (r02_Right.calls k a0_0 a0_1 a0_2 a0_3 true _ A4.out).mono ?_); rintro e w9 ⟨rfl, hb⟩; refine ⟨_, rfl, ?_⟩; replace BK427 := Aside0.mk (jB BK427 hb); replace HB := Aside0.mk (zT (jH HB) hb); (try clear hb); (try clear hb2); (try clear hk); (try clear hi)))
  (try simp only [Act.put, List.setIfInBounds_toArray, List.set_cons_zero, List.set_cons_succ])
  go_cut [24] (fun v24 wc => ∃ (kq : Nat) (x24_5 : Bool), v24 = .bool x24_5 ∧ Aside0 (r05_One.j0 kq a1 a2 x24_5 a0_0 a0_1 a0_2 a0_3 = some r) ∧ Aside0 (kq ≤ k) ∧ Aside0 (wc.heap[gb427]? = some (.cells #[.int .i64 a0_0, .int .i64 a0_1, .int .i64 a0_2, .int .u32 a0_3] 59 (0, 0))) ∧ Aside0 (Below w.heap.size w wc))
  case first =>
   have H := HC6.out
   clear HC6
   by_cases c10 : a0_0 = 32
   ·rw [if_pos c10] at H
    have c10b0 : (a0_0 == 32) = true := bI.mpr c10
    have c10b1 : (a0_0 != 32) = false := nF.mpr c10
    clear c10
    (first | rw [c10b0] | (simp only [i64_w, i32_w]; rw [c10b0]) | skip)
    by_cases c11 : (Int.tmod a0_3 4) = 0
    ·rw [if_pos c11] at H
     have c11b0 : ((Int.tmod a0_3 4) == 0) = true := bI.mpr c11
     have c11b1 : ((Int.tmod a0_3 4) != 0) = false := nF.mpr c11
     clear c11
     have H' := Aside0.mk H
     clear H
     obtain ⟨hcz12_0, hcz12_1, hcz12_2, hcz12_3, hfz12_0, hfz12_1, hfz12_2, hfz12_3⟩ := kQ4 BK427.out
     go_wp2
     go_meet
     case rel => exact ⟨_, (decide (a0_3 > 60)), jS, H', ⟨jO⟩, ⟨jK BK427⟩, ⟨jH HB⟩⟩
    ·rw [if_neg c11] at H
     have c11b0 : ((Int.tmod a0_3 4) == 0) = false := bF.mpr c11
     have c11b1 : ((Int.tmod a0_3 4) != 0) = true := nI.mpr c11
     have H' := Aside0.mk H
     clear H
     obtain ⟨hcz13_0, hcz13_1, hcz13_2, hcz13_3, hfz13_0, hfz13_1, hfz13_2, hfz13_3⟩ := kQ4 BK427.out
     go_wp2
     go_meet
     case rel => exact ⟨_, (true), jS, H', ⟨jO⟩, ⟨jK BK427⟩, ⟨jH HB⟩⟩
   ·rw [if_neg c10] at H
    have c10b0 : (a0_0 == 32) = false := bF.mpr c10
    have c10b1 : (a0_0 != 32) = true := nI.mpr c10
    (first | rw [c10b0] | (simp only [i64_w, i32_w]; rw [c10b0]) | skip)
    have H' := Aside0.mk H
    clear H
    obtain ⟨hcz14_0, hcz14_1, hcz14_2, hcz14_3, hfz14_0, hfz14_1, hfz14_2, hfz14_3⟩ := kQ4 BK427.out
    go_wp2
    go_meet
    case rel => exact ⟨_, (false), jS, H', ⟨jO⟩, ⟨jK BK427⟩, ⟨jH HB⟩⟩
  case rest =>
   clear HC6
   obtain ⟨kq, x24_5, rfl, HA, HJ5, BK427, HB⟩ := hcut
   cases kq with
   | zero => exact absurd HA.out (by simp [r05_One.j0])
   | succ kj5 =>
    have H := HA.out
    clear HA
    simp only [r05_One.j0] at H
    by_cases c15 : x24_5 = true
    ·subst c15
     rw [if_pos rfl] at H
     obtain rfl := Option.some.inj H
     go_wp2
     go_ret
     exact ⟨jE, jH HB⟩
    ·replace c15 := Bool.eq_false_iff.mpr c15
     subst c15
     rw [if_neg (show ¬ (false = true) by decide)] at H
     have HC16 := Aside0.mk H
     clear H
     go_upto_region 5 with (fail)
     go_cut [47] (fun v47 wc => ∃ (kq : Nat) (x47_15 : Bool), v47 = .bool x47_15 ∧ Aside0 (r05_One.j1 kq a1 a2 x47_15 a0_0 a0_1 a0_2 a0_3 = some r) ∧ Aside0 (kq ≤ kj5) ∧ Aside0 (wc.heap[gb427]? = some (.cells #[.int .i64 a0_0, .int .i64 a0_1, .int .i64 a0_2, .int .u32 a0_3] 59 (0, 0))) ∧ Aside0 (Below w.heap.size w wc))
     case first =>
      have H := HC16.out
      clear HC16
      by_cases c17 : a0_0 = 2
      ·rw [if_pos c17] at H
       have c17b0 : (a0_0 == 2) = true := bI.mpr c17
       have c17b1 : (a0_0 != 2) = false := nF.mpr c17
       clear c17
       (first | rw [c17b0] | (simp only [i64_w, i32_w]; rw [c17b0]) | skip)
       have H' := Aside0.mk H
       clear H
       obtain ⟨hcz18_0, hcz18_1, hcz18_2, hcz18_3, hfz18_0, hfz18_1, hfz18_2, hfz18_3⟩ := kQ4 BK427.out
       go_wp2
       go_meet
       case rel => exact ⟨_, (decide (a0_3 > 15)), jS, H', ⟨by have := HJ5.out; first | omega | exact Nat.le_refl _⟩, ⟨jK BK427⟩, ⟨jH HB⟩⟩
      ·rw [if_neg c17] at H
       have c17b0 : (a0_0 == 2) = false := bF.mpr c17
       have c17b1 : (a0_0 != 2) = true := nI.mpr c17
       (first | rw [c17b0] | (simp only [i64_w, i32_w]; rw [c17b0]) | skip)
       by_cases c19 : a0_0 = 3
       ·rw [if_pos c19] at H
        have c19b0 : (a0_0 == 3) = true := bI.mpr c19
        have c19b1 : (a0_0 != 3) = false := nF.mpr c19
        clear c19
        have H' := Aside0.mk H
        clear H
        obtain ⟨hcz20_0, hcz20_1, hcz20_2, hcz20_3, hfz20_0, hfz20_1, hfz20_2, hfz20_3⟩ := kQ4 BK427.out
        go_wp2
        go_meet
        case rel => exact ⟨_, (decide (a0_3 > 15)), jS, H', ⟨by have := HJ5.out; first | omega | exact Nat.le_refl _⟩, ⟨jK BK427⟩, ⟨jH HB⟩⟩
       ·rw [if_neg c19] at H
        have c19b0 : (a0_0 == 3) = false := bF.mpr c19
        have c19b1 : (a0_0 != 3) = true := nI.mpr c19
        by_cases c21 : a0_0 = 96
        ·rw [if_pos c21] at H
         have c21b0 : (a0_0 == 96) = true := bI.mpr c21
         have c21b1 : (a0_0 != 96) = false := nF.mpr c21
         clear c21
         have H' := Aside0.mk H
         clear H
         obtain ⟨hcz22_0, hcz22_1, hcz22_2, hcz22_3, hfz22_0, hfz22_1, hfz22_2, hfz22_3⟩ := kQ4 BK427.out
         go_wp2
         go_meet
         case rel => exact ⟨_, (decide (a0_3 > 15)), jS, H', ⟨by have := HJ5.out; first | omega | exact Nat.le_refl _⟩, ⟨jK BK427⟩, ⟨jH HB⟩⟩
        ·rw [if_neg c21] at H
         have c21b0 : (a0_0 == 96) = false := bF.mpr c21
         have c21b1 : (a0_0 != 96) = true := nI.mpr c21
         by_cases c23 : a0_0 = 97
         ·rw [if_pos c23] at H
          have c23b0 : (a0_0 == 97) = true := bI.mpr c23
          have c23b1 : (a0_0 != 97) = false := nF.mpr c23
          clear c23
          have H' := Aside0.mk H
          clear H
          obtain ⟨hcz24_0, hcz24_1, hcz24_2, hcz24_3, hfz24_0, hfz24_1, hfz24_2, hfz24_3⟩ := kQ4 BK427.out
          go_wp2
          go_meet
          case rel => exact ⟨_, (decide (a0_3 > 15)), jS, H', ⟨by have := HJ5.out; first | omega | exact Nat.le_refl _⟩, ⟨jK BK427⟩, ⟨jH HB⟩⟩
         ·rw [if_neg c23] at H
          have c23b0 : (a0_0 == 97) = false := bF.mpr c23
          have c23b1 : (a0_0 != 97) = true := nI.mpr c23
          have H' := Aside0.mk H
          clear H
          obtain ⟨hcz25_0, hcz25_1, hcz25_2, hcz25_3, hfz25_0, hfz25_1, hfz25_2, hfz25_3⟩ := kQ4 BK427.out
          go_wp2
          go_meet
          case rel => exact ⟨_, (false), jS, H', ⟨by have := HJ5.out; first | omega | exact Nat.le_refl _⟩, ⟨jK BK427⟩, ⟨jH HB⟩⟩
     case rest =>
      clear HC16
      obtain ⟨kq, x47_15, rfl, HA, HJ15, BK427, HB⟩ := hcut
      cases kq with
      | zero => exact absurd HA.out (by simp [r05_One.j1])
      | succ kj15 =>
       have H := HA.out
       clear HA
       simp only [r05_One.j1] at H
       by_cases c26 : x47_15 = true
       ·subst c26
        rw [if_pos rfl] at H
        obtain rfl := Option.some.inj H
        go_wp2
        go_ret
        exact ⟨jE, jH HB⟩
       ·replace c26 := Bool.eq_false_iff.mpr c26
        subst c26
        rw [if_neg (show ¬ (false = true) by decide)] at H
        have HC27 := Aside0.mk H
        clear H
        go_upto_region 7 with (fail)
        go_cut [55] (fun v55 wc => ∃ (kq : Nat) (x55_26 : Bool), v55 = .bool x55_26 ∧ Aside0 (r05_One.j2 kq a1 a2 x55_26 a0_0 a0_1 a0_2 a0_3 = some r) ∧ Aside0 (kq ≤ kj15) ∧ Aside0 (wc.heap[gb427]? = some (.cells #[.int .i64 a0_0, .int .i64 a0_1, .int .i64 a0_2, .int .u32 a0_3] 59 (0, 0))) ∧ Aside0 (Below w.heap.size w wc))
        case first =>
         have H := HC27.out
         clear HC27
         by_cases c28 : a0_0 = 52
         ·rw [if_pos c28] at H
          have c28b0 : (a0_0 == 52) = true := bI.mpr c28
          have c28b1 : (a0_0 != 52) = false := nF.mpr c28
          clear c28
          (first | rw [c28b0] | (simp only [i64_w, i32_w]; rw [c28b0]) | skip)
          have H' := Aside0.mk H
          clear H
          obtain ⟨hcz29_0, hcz29_1, hcz29_2, hcz29_3, hfz29_0, hfz29_1, hfz29_2, hfz29_3⟩ := kQ4 BK427.out
          go_wp2
          go_meet
          case rel => exact ⟨_, ((a0_3 == 0)), jS, H', ⟨by have := HJ5.out; have := HJ15.out; first | omega | exact Nat.le_refl _⟩, ⟨jK BK427⟩, ⟨jH HB⟩⟩
         ·rw [if_neg c28] at H
          have c28b0 : (a0_0 == 52) = false := bF.mpr c28
          have c28b1 : (a0_0 != 52) = true := nI.mpr c28
          (first | rw [c28b0] | (simp only [i64_w, i32_w]; rw [c28b0]) | skip)
          have H' := Aside0.mk H
          clear H
          obtain ⟨hcz30_0, hcz30_1, hcz30_2, hcz30_3, hfz30_0, hfz30_1, hfz30_2, hfz30_3⟩ := kQ4 BK427.out
          go_wp2
          go_meet
          case rel => exact ⟨_, (false), jS, H', ⟨by have := HJ5.out; have := HJ15.out; first | omega | exact Nat.le_refl _⟩, ⟨jK BK427⟩, ⟨jH HB⟩⟩
        case rest =>
         clear HC27
         obtain ⟨kq, x55_26, rfl, HA, HJ26, BK427, HB⟩ := hcut
         cases kq with
         | zero => exact absurd HA.out (by simp [r05_One.j2])
         | succ kj26 =>
          have H := HA.out
          clear HA
          simp only [r05_One.j2] at H
          by_cases c31 : x55_26 = true
          ·subst c31
           rw [if_pos rfl] at H
           obtain rfl := Option.some.inj H
           go_wp2
           go_ret
           exact ⟨jE, jH HB⟩
          ·replace c31 := Bool.eq_false_iff.mpr c31
           subst c31
           rw [if_neg (show ¬ (false = true) by decide)] at H
           have HC32 := Aside0.mk H
           clear H
           go_upto_region 9 with (fail)
           go_cut [68] (fun v68 wc => ∃ (kq : Nat) (x68_31 : Bool), v68 = .bool x68_31 ∧ Aside0 (r05_One.j3 kq a1 a2 x68_31 a0_0 a0_1 a0_2 a0_3 = some r) ∧ Aside0 (kq ≤ kj26) ∧ Aside0 (wc.heap[gb427]? = some (.cells #[.int .i64 a0_0, .int .i64 a0_1, .int .i64 a0_2, .int .u32 a0_3] 59 (0, 0))) ∧ Aside0 (Below w.heap.size w wc))
           case first =>
            have H := HC32.out
            clear HC32
            by_cases c33 : a0_0 = 100
            ·rw [if_pos c33] at H
             have c33b0 : (a0_0 == 100) = true := bI.mpr c33
             have c33b1 : (a0_0 != 100) = false := nF.mpr c33
             clear c33
             (first | rw [c33b0] | (simp only [i64_w, i32_w]; rw [c33b0]) | skip)
             have H' := Aside0.mk H
             clear H
             obtain ⟨hcz34_0, hcz34_1, hcz34_2, hcz34_3, hfz34_0, hfz34_1, hfz34_2, hfz34_3⟩ := kQ4 BK427.out
             go_wp2
             go_meet
             case rel => exact ⟨_, (decide (a0_3 > 31)), jS, H', ⟨by have := HJ5.out; have := HJ15.out; have := HJ26.out; first | omega | exact Nat.le_refl _⟩, ⟨jK BK427⟩, ⟨jH HB⟩⟩
            ·rw [if_neg c33] at H
             have c33b0 : (a0_0 == 100) = false := bF.mpr c33
             have c33b1 : (a0_0 != 100) = true := nI.mpr c33
             (first | rw [c33b0] | (simp only [i64_w, i32_w]; rw [c33b0]) | skip)
             by_cases c35 : a0_0 = 116
             ·rw [if_pos c35] at H
              have c35b0 : (a0_0 == 116) = true := bI.mpr c35
              have c35b1 : (a0_0 != 116) = false := nF.mpr c35
              clear c35
              have H' := Aside0.mk H
              clear H
              obtain ⟨hcz36_0, hcz36_1, hcz36_2, hcz36_3, hfz36_0, hfz36_1, hfz36_2, hfz36_3⟩ := kQ4 BK427.out
              go_wp2
              go_meet
              case rel => exact ⟨_, (decide (a0_3 > 31)), jS, H', ⟨by have := HJ5.out; have := HJ15.out; have := HJ26.out; first | omega | exact Nat.le_refl _⟩, ⟨jK BK427⟩, ⟨jH HB⟩⟩
             ·rw [if_neg c35] at H
              have c35b0 : (a0_0 == 116) = false := bF.mpr c35
              have c35b1 : (a0_0 != 116) = true := nI.mpr c35
              have H' := Aside0.mk H
              clear H
              obtain ⟨hcz37_0, hcz37_1, hcz37_2, hcz37_3, hfz37_0, hfz37_1, hfz37_2, hfz37_3⟩ := kQ4 BK427.out
              go_wp2
              go_meet
              case rel => exact ⟨_, (false), jS, H', ⟨by have := HJ5.out; have := HJ15.out; have := HJ26.out; first | omega | exact Nat.le_refl _⟩, ⟨jK BK427⟩, ⟨jH HB⟩⟩
           case rest =>
            clear HC32
            obtain ⟨kq, x68_31, rfl, HA, HJ31, BK427, HB⟩ := hcut
            cases kq with
            | zero => exact absurd HA.out (by simp [r05_One.j3])
            | succ kj31 =>
             have H := HA.out
             clear HA
             simp only [r05_One.j3] at H
             by_cases c38 : x68_31 = true
             ·subst c38
              rw [if_pos rfl] at H
              obtain rfl := Option.some.inj H
              go_wp2
              go_ret
              exact ⟨jE, jH HB⟩
             ·replace c38 := Bool.eq_false_iff.mpr c38
              subst c38
              rw [if_neg (show ¬ (false = true) by decide)] at H
              have HC39 := Aside0.mk H
              clear H
              go_upto_region 12 with (fail)
              go_cut [83] (fun v83 wc => ∃ (kq : Nat) (x83_38 : Bool), v83 = .bool x83_38 ∧ Aside0 (r05_One.j4 kq (wrap64 ((wrap64 (a2 - 1)) - a1)) x83_38 a0_0 a0_1 a0_2 a0_3 = some r) ∧ Aside0 (kq ≤ kj31) ∧ Aside0 (wc.heap[gb427]? = some (.cells #[.int .i64 a0_0, .int .i64 a0_1, .int .i64 a0_2, .int .u32 a0_3] 59 (0, 0))) ∧ Aside0 (Below w.heap.size w wc))
              case first =>
               have H := HC39.out
               clear HC39
               by_cases c40 : a0_0 = 5
               ·rw [if_pos c40] at H
                have c40b0 : (a0_0 == 5) = true := bI.mpr c40
                have c40b1 : (a0_0 != 5) = false := nF.mpr c40
                clear c40
                (first | rw [c40b0] | (simp only [i64_w, i32_w]; rw [c40b0]) | skip)
                have H' := Aside0.mk H
                clear H
                obtain ⟨hcz41_0, hcz41_1, hcz41_2, hcz41_3, hfz41_0, hfz41_1, hfz41_2, hfz41_3⟩ := kQ4 BK427.out
                go_wp2
                go_meet
                case rel => exact ⟨_, (decide ((IntKind.u64.wrap (a0_3)) ≥ (IntKind.u64.wrap (wrap64 ((wrap64 (a2 - 1)) - a1))))), jS, H', ⟨by have := HJ5.out; have := HJ15.out; have := HJ26.out; have := HJ31.out; first | omega | exact Nat.le_refl _⟩, ⟨jK BK427⟩, ⟨jH HB⟩⟩
               ·rw [if_neg c40] at H
                have c40b0 : (a0_0 == 5) = false := bF.mpr c40
                have c40b1 : (a0_0 != 5) = true := nI.mpr c40
                (first | rw [c40b0] | (simp only [i64_w, i32_w]; rw [c40b0]) | skip)
                have H' := Aside0.mk H
                clear H
                obtain ⟨hcz42_0, hcz42_1, hcz42_2, hcz42_3, hfz42_0, hfz42_1, hfz42_2, hfz42_3⟩ := kQ4 BK427.out
                go_wp2
                go_meet
                case rel => exact ⟨_, (false), jS, H', ⟨by have := HJ5.out; have := HJ15.out; have := HJ26.out; have := HJ31.out; first | omega | exact Nat.le_refl _⟩, ⟨jK BK427⟩, ⟨jH HB⟩⟩
              case rest =>
               clear HC39
               obtain ⟨kq, x83_38, rfl, HA, HJ38, BK427, HB⟩ := hcut
               cases kq with
               | zero => exact absurd HA.out (by simp [r05_One.j4])
               | succ kj38 =>
                have H := HA.out
                clear HA
                simp only [r05_One.j4] at H
                by_cases c43 : x83_38 = true
                ·subst c43
                 rw [if_pos rfl] at H
                 obtain rfl := Option.some.inj H
                 go_wp2
                 go_ret
                 exact ⟨jE, jH HB⟩
                ·replace c43 := Bool.eq_false_iff.mpr c43
                 subst c43
                 rw [if_neg (show ¬ (false = true) by decide)] at H
                 replace H := Option.bind_eq_some_iff.mp H
                 obtain ⟨t429, A440, H⟩ := H
                 try dsimp only at H
                 have A44 := Aside0.mk A440
                 clear A440
                 by_cases c45 : t429 = true
                 ·subst c45
                  rw [if_pos rfl] at H
                  by_cases c46 : a0_1 ≥ (wrap64 ((wrap64 (a2 - 1)) - a1))
                  ·rw [if_pos c46] at H
                   have c46b0 : decide ((wrap64 ((wrap64 (a2 - 1)) - a1)) ≤ a0_1) = true := dT c46
                   clear c46
                   obtain rfl := Option.some.inj H
                   obtain ⟨hcz47_0, hcz47_1, hcz47_2, hcz47_3, hfz47_0, hfz47_1, hfz47_2, hfz47_3⟩ := kQ4 BK427.out
                   go_wp2_with (first | ((with_reducible refine gate_callee (f := 48) rfl ?_); refine goesL_ (some 85) rfl rfl Tryd.func48 (by kernel_rfl) rfl #[.agg #[.int .i64 a0_0, .int .i64 a0_1, .int .i64 a0_2, .int .u32 a0_3]] rfl jZ ?_; (with_reducible refine (r02_Branch.calls kj38 a0_0 a0_1 a0_2 a0_3 true _ A44.out).mono ?_); rintro e w48 ⟨rfl, hb⟩; refine ⟨_, rfl, ?_⟩; replace BK427 := Aside0.mk (jB BK427 hb); replace HB := Aside0.mk (zT (jH HB) hb); (try clear hb); (try clear hb2); (try clear hk); (try clear hi); obtain ⟨hcz49_0, hcz49_1, hcz49_2, hcz49_3, hfz49_0, hfz49_1, hfz49_2, hfz49_3⟩ := kQ4 BK427.out))
                   go_ret
                   exact ⟨jE, jH HB⟩
                  ·rw [if_neg c46] at H
                   have c46b0 : decide ((wrap64 ((wrap64 (a2 - 1)) - a1)) ≤ a0_1) = false := dF c46
                   clear c46
                   by_cases c50 : a0_2 ≥ (wrap64 ((wrap64 (a2 - 1)) - a1))
                   ·rw [if_pos c50] at H
                    have c50b0 : decide ((wrap64 ((wrap64 (a2 - 1)) - a1)) ≤ a0_2) = true := dT c50
                    clear c50
                    obtain rfl := Option.some.inj H
                    obtain ⟨hcz51_0, hcz51_1, hcz51_2, hcz51_3, hfz51_0, hfz51_1, hfz51_2, hfz51_3⟩ := kQ4 BK427.out
                    go_wp2_with (first | ((with_reducible refine gate_callee (f := 48) rfl ?_); refine goesL_ (some 85) rfl rfl Tryd.func48 (by kernel_rfl) rfl #[.agg #[.int .i64 a0_0, .int .i64 a0_1, .int .i64 a0_2, .int .u32 a0_3]] rfl jZ ?_; (with_reducible refine (r02_Branch.calls kj38 a0_0 a0_1 a0_2 a0_3 true _ A44.out).mono ?_); rintro e w52 ⟨rfl, hb⟩; refine ⟨_, rfl, ?_⟩; replace BK427 := Aside0.mk (jB BK427 hb); replace HB := Aside0.mk (zT (jH HB) hb); (try clear hb); (try clear hb2); (try clear hk); (try clear hi); obtain ⟨hcz53_0, hcz53_1, hcz53_2, hcz53_3, hfz53_0, hfz53_1, hfz53_2, hfz53_3⟩ := kQ4 BK427.out))
                    go_ret
                    exact ⟨jE, jH HB⟩
                   ·rw [if_neg c50] at H
                    have c50b0 : decide ((wrap64 ((wrap64 (a2 - 1)) - a1)) ≤ a0_2) = false := dF c50
                    clear c50
                    obtain rfl := Option.some.inj H
                    obtain ⟨hcz54_0, hcz54_1, hcz54_2, hcz54_3, hfz54_0, hfz54_1, hfz54_2, hfz54_3⟩ := kQ4 BK427.out
                    go_wp2_with (first | ((with_reducible refine gate_callee (f := 48) rfl ?_); refine goesL_ (some 85) rfl rfl Tryd.func48 (by kernel_rfl) rfl #[.agg #[.int .i64 a0_0, .int .i64 a0_1, .int .i64 a0_2, .int .u32 a0_3]] rfl jZ ?_; (with_reducible refine (r02_Branch.calls kj38 a0_0 a0_1 a0_2 a0_3 true _ A44.out).mono ?_); rintro e w55 ⟨rfl, hb⟩; refine ⟨_, rfl, ?_⟩; replace BK427 := Aside0.mk (jB BK427 hb); replace HB := Aside0.mk (zT (jH HB) hb); (try clear hb); (try clear hb2); (try clear hk); (try clear hi); obtain ⟨hcz56_0, hcz56_1, hcz56_2, hcz56_3, hfz56_0, hfz56_1, hfz56_2, hfz56_3⟩ := kQ4 BK427.out))
                    go_ret
                    exact ⟨jE, jH HB⟩
                 ·replace c45 := Bool.eq_false_iff.mpr c45
                  subst c45
                  rw [if_neg (show ¬ (false = true) by decide)] at H
                  obtain rfl := Option.some.inj H
                  obtain ⟨hcz57_0, hcz57_1, hcz57_2, hcz57_3, hfz57_0, hfz57_1, hfz57_2, hfz57_3⟩ := kQ4 BK427.out
                  go_wp2_with (first | ((with_reducible refine gate_callee (f := 48) rfl ?_); refine goesL_ (some 85) rfl rfl Tryd.func48 (by kernel_rfl) rfl #[.agg #[.int .i64 a0_0, .int .i64 a0_1, .int .i64 a0_2, .int .u32 a0_3]] rfl jZ ?_; (with_reducible refine (r02_Branch.calls kj38 a0_0 a0_1 a0_2 a0_3 false _ A44.out).mono ?_); rintro e w58 ⟨rfl, hb⟩; refine ⟨_, rfl, ?_⟩; replace BK427 := Aside0.mk (jB BK427 hb); replace HB := Aside0.mk (zT (jH HB) hb); (try clear hb); (try clear hb2); (try clear hk); (try clear hi)))
                  go_ret
                  exact ⟨jE, jH HB⟩
 ·replace c5 := Bool.eq_false_iff.mpr c5
  subst c5
  rw [if_neg (show ¬ (false = true) by decide)] at H
  obtain rfl := Option.some.inj H
  go_enter Tryd.func50, Tryd.ntmps50
  go_wp2_with (first | ((with_reducible refine gate_dst (N := 3) rfl ?_); refine box_event rfl (N := 3) rfl (cs := #[.int .i64 a0_0, .int .i64 a0_1, .int .i64 a0_2, .int .u32 a0_3]) (t := 59) jW ?_; intro gb427 hg w59 hbox hb; have BK427 := Aside0.mk hbox; have GW427 := Aside0.mk (jG hg HB); have GE427 := Aside0.mk (jG hg HB); replace HB := Aside0.mk (zT (jH HB) hb); clear hb hbox hg; obtain ⟨hcz60_0, hcz60_1, hcz60_2, hcz60_3, hfz60_0, hfz60_1, hfz60_2, hfz60_3⟩ := kQ4 BK427.out) | ((with_reducible refine gate_callee (f := 60) rfl ?_); refine goesL_ (some 9) rfl rfl Tryd.func60 (by kernel_rfl) rfl #[.agg #[.int .i64 a0_0, .int .i64 a0_1, .int .i64 a0_2, .int .u32 a0_3]] rfl jZ ?_; (with_reducible refine (r02_Right.calls k a0_0 a0_1 a0_2 a0_3 false _ A4.out).mono ?_); rintro e w61 ⟨rfl, hb⟩; refine ⟨_, rfl, ?_⟩; replace BK427 := Aside0.mk (jB BK427 hb); replace HB := Aside0.mk (zT (jH HB) hb); (try clear hb); (try clear hb2); (try clear hk); (try clear hi)))
  go_ret
  exact ⟨jE, jH HB⟩
end Go.Proofs.YtahacmdhhfmhiaaDoor.M
