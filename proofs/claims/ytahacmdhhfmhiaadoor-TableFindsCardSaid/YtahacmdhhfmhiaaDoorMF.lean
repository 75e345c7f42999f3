/- What Go functions compute; their calls come to it. No condition. -/
import Derived.Test.YtahacmdhhfmhiaaDoorM0
import Derived.Test.YtahacmdhhfmhiaaDoorME
import Derived.Test.YtahacmdhhfmhiaaDoorM27
namespace Go.Proofs.YtahacmdhhfmhiaaDoor.M
open Go.RowKit Go.Proofs.YtahacmdhhfmhiaaDoorW.PrintWords Go.Proofs.YtahacmdhhfmhiaaDoorW.PrintLast Go.Proofs.YtahacmdhhfmhiaaDoorW.PrintMore
attribute [local go_sem] max2_int min2_int max_two min_two max_three min_three max_four min_four   -- for this text's walks alone
set_option linter.unusedVariables false
set_option linter.unusedSimpArgs false
def r17_Right.l0 : Nat → List (S59) → Int → Option (Bool)
 | 0, _, _ => none
 | k + 1, x0, x3 => if x3 < (x0.length : Int) then (if 0 ≤ x3 then (if ((rd_T59 x0 x3).f0) = 5 then (some false) else ((r02_Branch.f k ((rd_T59 x0 x3).f0) ((rd_T59 x0 x3).f1) ((rd_T59 x0 x3).f2) ((rd_T59 x0 x3).f3)).bind fun t432 => (if t432 = true then (some false) else ((r02_Ends.f ((rd_T59 x0 x3).f0) ((rd_T59 x0 x3).f1) ((rd_T59 x0 x3).f2) ((rd_T59 x0 x3).f3)).bind fun t434 => (if t434 = true then (some false) else ((r05_One.f k ((rd_T59 x0 x3).f0) ((rd_T59 x0 x3).f1) ((rd_T59 x0 x3).f2) ((rd_T59 x0 x3).f3) 0 2).bind fun t436 => (if t436 = 0 then (r17_Right.l0 k x0 (wrap64 (x3 + 1))) else (some false)))))))) else (none)) else (some (decide ((x0.length : Int) ≤ 32)))
def r17_Right.f (k : Nat) (l0 : List (S59)) : Option (Bool) := r17_Right.l0 k l0 0
theorem r17_Right.mono_l : ∀ k, (∀ y0 y1, LeO (r17_Right.l0 k y0 y1) (r17_Right.l0 (k + 1) y0 y1))
 | 0 => fun _ _ r h => by simp [r17_Right.l0] at h
 | k + 1 => by
  have ih0 := r17_Right.mono_l k
  ·intro y0 y1
   unfold r17_Right.l0
   repeat' first
   | (with_reducible apply ih0)
   | (with_reducible apply r02_Branch.mono)
   | (with_reducible apply r05_One.mono)
   | (with_reducible exact LeO.refl _)
   | (with_reducible exact LeO.none _)
   | (with_reducible refine LeO.ite ?_ ?_)
   | (with_reducible refine LeO.bind ?_ (fun _ => ?_))
   | apply ih0
   | apply r02_Branch.mono
   | apply r05_One.mono
   | exact LeO.none _
   | refine LeO.ite ?_ ?_
   | refine LeO.bind ?_ (fun _ => ?_)
theorem r17_Right.mono : ∀ a0 k, LeO (r17_Right.f k a0) (r17_Right.f (k + 1) a0) := by
 intro a0 k
 have ih0 := r17_Right.mono_l k
 unfold r17_Right.f
 repeat' first
   | (with_reducible apply ih0)
   | (with_reducible apply r02_Branch.mono)
   | (with_reducible apply r05_One.mono)
   | (with_reducible exact LeO.refl _)
   | (with_reducible exact LeO.none _)
   | (with_reducible refine LeO.ite ?_ ?_)
   | (with_reducible refine LeO.bind ?_ (fun _ => ?_))
   | apply ih0
   | apply r02_Branch.mono
   | apply r05_One.mono
   | exact LeO.none _
   | refine LeO.ite ?_ ?_
   | refine LeO.bind ?_ (fun _ => ?_)
set_option maxHeartbeats 8000000 in
set_option maxRecDepth 100000 in
theorem r17_Right.calls (k : Nat) (A0 : Option Addr) (c0 : Nat) (l0 : List (S59)) (r : Bool) (w : World) (hr0 : Kd.C k59 w A0 l0.length l0) (hc0 : l0.length ≤ c0) (h : r17_Right.f k l0 = some r) :
  Calls Tryd.prog 40 #[.slice A0 l0.length c0] w fun e w' => e = .returned (.bool r) ∧ Below w.heap.size w w' := by
 have hu59 := Tryd.underlying59
 have HR0 := Aside0.mk hr0
 have HC0 := Aside0.mk hc0
 clear hr0 hc0
 have HB := Aside0.mk (Below.refl w.heap.size w)
 have H : (r17_Right.l0 k l0 0) = some r := h
 clear h
 have H' := Aside0.mk H
 clear H
 go_enter Tryd.func40, Tryd.ntmps40
 go_wp2
 go_loopg [3] k (fun kq v3 w' => ∃ (x3_1 : Int), v3 = .int .i64 x3_1 ∧ Aside0 (r17_Right.l0 kq l0 x3_1 = some r) ∧ Aside0 (kq ≤ k) ∧ Aside0 (Below w.heap.size w w'))
 case atStart => exact ⟨(0), jS, H', ⟨Nat.le_refl _⟩, ⟨jH HB⟩⟩
 case round =>
  clear H'
  obtain ⟨x3_1, rfl, HA, HK1, HB⟩ := hrel
  cases gk with
  | zero => exact absurd HA.out (by simp [r17_Right.l0])
  | succ k1 =>
   have H := HA.out
   clear HA
   simp only [r17_Right.l0] at H
   by_cases c2 : x3_1 < (l0.length : Int)
   ·rw [if_pos c2] at H
    have c2b0 : decide (x3_1 < (l0.length : Int)) = true := dT c2
    clear c2
    by_cases c3 : 0 ≤ x3_1
    ·rw [if_pos c3] at H
     have c3b0 : decide (0 ≤ x3_1) = true := dT c3
     clear c3
     by_cases c4 : ((rd_T59 l0 x3_1).f0) = 5
     ·rw [if_pos c4] at H
      have c4b0 : (((rd_T59 l0 x3_1).f0) == 5) = true := bI.mpr c4
      have c4b1 : (((rd_T59 l0 x3_1).f0) != 5) = false := nF.mpr c4
      clear c4
      obtain rfl := Option.some.inj H
      have p430 : 0 ≤ (x3_1 : Int) := oD (jA)
      have q430 : x3_1 < (l0.length : Int) := oD (jA)
      obtain ⟨ad430, e430, hx430_0, hx430_1, hx430_2, hx430_3⟩ := at_T59 HR0.out x3_1 p430 q430
      cases e430
      replace hx430_0 := (HB.out.cell (bL w _ hx430_0)).trans hx430_0
      replace hx430_1 := (HB.out.cell (bL w _ hx430_1)).trans hx430_1
      replace hx430_2 := (HB.out.cell (bL w _ hx430_2)).trans hx430_2
      replace hx430_3 := (HB.out.cell (bL w _ hx430_3)).trans hx430_3
      replace p430 := eq_true p430
      replace q430 := eq_true q430
      go_wp2
      go_ret
      exact ⟨jE, jH HB⟩
     ·rw [if_neg c4] at H
      have c4b0 : (((rd_T59 l0 x3_1).f0) == 5) = false := bF.mpr c4
      have c4b1 : (((rd_T59 l0 x3_1).f0) != 5) = true := nI.mpr c4
      replace H := Option.bind_eq_some_iff.mp H
      obtain ⟨t432, A50, H⟩ := H
      try dsimp only at H
      have A5 := Aside0.mk A50
      clear A50
      by_cases c6 : t432 = true
      ·subst c6
       rw [if_pos rfl] at H
       obtain rfl := Option.some.inj H
       have p430 : 0 ≤ (x3_1 : Int) := oD (jA)
       have q430 : x3_1 < (l0.length : Int) := oD (jA)
       obtain ⟨ad430, e430, hx430_0, hx430_1, hx430_2, hx430_3⟩ := at_T59 HR0.out x3_1 p430 q430
       cases e430
       replace hx430_0 := (HB.out.cell (bL w _ hx430_0)).trans hx430_0
       replace hx430_1 := (HB.out.cell (bL w _ hx430_1)).trans hx430_1
       replace hx430_2 := (HB.out.cell (bL w _ hx430_2)).trans hx430_2
       replace hx430_3 := (HB.out.cell (bL w _ hx430_3)).trans hx430_3
       replace p430 := eq_true p430
       replace q430 := eq_true q430
       have p431 : 0 ≤ (x3_1 : Int) := oD (jA)
       have q431 : x3_1 < (l0.length : Int) := oD (jA)
       obtain ⟨ad431, e431, hx431_0, hx431_1, hx431_2, hx431_3⟩ := at_T59 HR0.out x3_1 p431 q431
       obtain rfl : ad430 = ad431 := (by injection e431)
       replace hx431_0 := (HB.out.cell (bL w _ hx431_0)).trans hx431_0
       replace hx431_1 := (HB.out.cell (bL w _ hx431_1)).trans hx431_1
       replace hx431_2 := (HB.out.cell (bL w _ hx431_2)).trans hx431_2
       replace hx431_3 := (HB.out.cell (bL w _ hx431_3)).trans hx431_3
       replace p431 := eq_true p431
       replace q431 := eq_true q431
       go_wp2_with (first | (go_at_call 48; (with_reducible refine (r02_Branch.calls k1 ((rd_T59 l0 x3_1).f0) ((rd_T59 l0 x3_1).f1) ((rd_T59 l0 x3_1).f2) ((rd_T59 l0 x3_1).f3) true _ A5.out).mono ?_); rintro e w7 ⟨rfl, hb⟩; replace HB := Aside0.mk (zT (jH HB) hb); (try clear hb); (try clear hb2); (try clear hk); (try clear hi)))
       go_ret
       exact ⟨jE, jH HB⟩
      ·replace c6 := Bool.eq_false_iff.mpr c6
       subst c6
       rw [if_neg (show ¬ (false = true) by decide)] at H
       replace H := Option.bind_eq_some_iff.mp H
       obtain ⟨t434, A80, H⟩ := H
       try dsimp only at H
       have A8 := Aside0.mk A80
       clear A80
       by_cases c9 : t434 = true
       ·subst c9
        rw [if_pos rfl] at H
        obtain rfl := Option.some.inj H
        have p430 : 0 ≤ (x3_1 : Int) := oD (jA)
        have q430 : x3_1 < (l0.length : Int) := oD (jA)
        obtain ⟨ad430, e430, hx430_0, hx430_1, hx430_2, hx430_3⟩ := at_T59 HR0.out x3_1 p430 q430
        cases e430
        replace hx430_0 := (HB.out.cell (bL w _ hx430_0)).trans hx430_0
        replace hx430_1 := (HB.out.cell (bL w _ hx430_1)).trans hx430_1
        replace hx430_2 := (HB.out.cell (bL w _ hx430_2)).trans hx430_2
        replace hx430_3 := (HB.out.cell (bL w _ hx430_3)).trans hx430_3
        replace p430 := eq_true p430
        replace q430 := eq_true q430
        have p431 : 0 ≤ (x3_1 : Int) := oD (jA)
        have q431 : x3_1 < (l0.length : Int) := oD (jA)
        obtain ⟨ad431, e431, hx431_0, hx431_1, hx431_2, hx431_3⟩ := at_T59 HR0.out x3_1 p431 q431
        obtain rfl : ad430 = ad431 := (by injection e431)
        replace hx431_0 := (HB.out.cell (bL w _ hx431_0)).trans hx431_0
        replace hx431_1 := (HB.out.cell (bL w _ hx431_1)).trans hx431_1
        replace hx431_2 := (HB.out.cell (bL w _ hx431_2)).trans hx431_2
        replace hx431_3 := (HB.out.cell (bL w _ hx431_3)).trans hx431_3
        replace p431 := eq_true p431
        replace q431 := eq_true q431
        go_wp2_with (first | (go_at_call 48; (with_reducible refine (r02_Branch.calls k1 ((rd_T59 l0 x3_1).f0) ((rd_T59 l0 x3_1).f1) ((rd_T59 l0 x3_1).f2) ((rd_T59 l0 x3_1).f3) false _ A5.out).mono ?_); rintro e w10 ⟨rfl, hb⟩; replace HB := Aside0.mk (zT (jH HB) hb); (try clear hb); (try clear hb2); (try clear hk); (try clear hi); have p433 : 0 ≤ (x3_1 : Int) := oD (jA); have q433 : x3_1 < (l0.length : Int) := oD (jA); obtain ⟨ad433, e433, hx433_0, hx433_1, hx433_2, hx433_3⟩ := at_T59 HR0.out x3_1 p433 q433; obtain rfl : ad430 = ad433 := (by injection e433); replace hx433_0 := (HB.out.cell (bL w _ hx433_0)).trans hx433_0; replace hx433_1 := (HB.out.cell (bL w _ hx433_1)).trans hx433_1; replace hx433_2 := (HB.out.cell (bL w _ hx433_2)).trans hx433_2; replace hx433_3 := (HB.out.cell (bL w _ hx433_3)).trans hx433_3; replace p433 := eq_true p433; replace q433 := eq_true q433) | (go_at_call 49; (with_reducible refine (r02_Ends.calls ((rd_T59 l0 x3_1).f0) ((rd_T59 l0 x3_1).f1) ((rd_T59 l0 x3_1).f2) ((rd_T59 l0 x3_1).f3) true _ A8.out).mono ?_); rintro e w11 ⟨rfl, hb⟩; replace HB := Aside0.mk (zT (jH HB) hb); (try clear hb); (try clear hb2); (try clear hk); (try clear hi)))
        go_ret
        exact ⟨jE, jH HB⟩
       ·replace c9 := Bool.eq_false_iff.mpr c9
        subst c9
        rw [if_neg (show ¬ (false = true) by decide)] at H
        replace H := Option.bind_eq_some_iff.mp H
        obtain ⟨t436, A120, H⟩ := H
        try dsimp only at H
        have A12 := Aside0.mk A120
        clear A120
        by_cases c13 : t436 = 0
        ·rw [if_pos c13] at H
         have c13b0 : (t436 == 0) = true := bI.mpr c13
         have c13b1 : (t436 != 0) = false := nF.mpr c13
         clear c13
         have H' := Aside0.mk H
         clear H
         have p430 : 0 ≤ (x3_1 : Int) := oD (jA)
         have q430 : x3_1 < (l0.length : Int) := oD (jA)
         obtain ⟨ad430, e430, hx430_0, hx430_1, hx430_2, hx430_3⟩ := at_T59 HR0.out x3_1 p430 q430
         cases e430
         replace hx430_0 := (HB.out.cell (bL w _ hx430_0)).trans hx430_0
         replace hx430_1 := (HB.out.cell (bL w _ hx430_1)).trans hx430_1
         replace hx430_2 := (HB.out.cell (bL w _ hx430_2)).trans hx430_2
         replace hx430_3 := (HB.out.cell (bL w _ hx430_3)).trans hx430_3
         replace p430 := eq_true p430
         replace q430 := eq_true q430
         have p431 : 0 ≤ (x3_1 : Int) := oD (jA)
         have q431 : x3_1 < (l0.length : Int) := oD (jA)
         obtain ⟨ad431, e431, hx431_0, hx431_1, hx431_2, hx431_3⟩ := at_T59 HR0.out x3_1 p431 q431
         obtain rfl : ad430 = ad431 := (by injection e431)
         replace hx431_0 := (HB.out.cell (bL w _ hx431_0)).trans hx431_0
         replace hx431_1 := (HB.out.cell (bL w _ hx431_1)).trans hx431_1
         replace hx431_2 := (HB.out.cell (bL w _ hx431_2)).trans hx431_2
         replace hx431_3 := (HB.out.cell (bL w _ hx431_3)).trans hx431_3
         replace p431 := eq_true p431
         replace q431 := eq_true q431
         go_wp2_with (first | (go_at_call 48; (with_reducible refine (r02_Branch.calls k1 ((rd_T59 l0 x3_1).f0) ((rd_T59 l0 x3_1).f1) ((rd_T59 l0 x3_1).f2) ((rd_T59 l0 x3_1).f3) false _ A5.out).mono ?_); rintro e w14 ⟨rfl, hb⟩; replace HB := Aside0.mk (zT (jH HB) hb); (try clear hb); (try clear hb2); (try clear hk); (try clear hi); have p433 : 0 ≤ (x3_1 : Int) := oD (jA); have q433 : x3_1 < (l0.length : Int) := oD (jA); obtain ⟨ad433, e433, hx433_0, hx433_1, hx433_2, hx433_3⟩ := at_T59 HR0.out x3_1 p433 q433; obtain rfl : ad430 = ad433 := (by injection e433); replace hx433_0 := (HB.out.cell (bL w _ hx433_0)).trans hx433_0; replace hx433_1 := (HB.out.cell (bL w _ hx433_1)).trans hx433_1; replace hx433_2 := (HB.out.cell (bL w _ hx433_2)).trans hx433_2; replace hx433_3 := (HB.out.cell (bL w _ hx433_3)).trans hx433_3; replace p433 := eq_true p433; replace q433 := eq_true q433) | (go_at_call 49; (with_reducible refine (r02_Ends.calls ((rd_T59 l0 x3_1).f0) ((rd_T59 l0 x3_1).f1) ((rd_T59 l0 x3_1).f2) ((rd_T59 l0 x3_1).f3) false _ A8.out).mono ?_); rintro e w15 ⟨rfl, hb⟩; replace HB := Aside0.mk (zT (jH HB) hb); (try clear hb); (try clear hb2); (try clear hk); (try clear hi); have p435 : 0 ≤ (x3_1 : Int) := oD (jA); have q435 : x3_1 < (l0.length : Int) := oD (jA); obtain ⟨ad435, e435, hx435_0, hx435_1, hx435_2, hx435_3⟩ := at_T59 HR0.out x3_1 p435 q435; obtain rfl : ad430 = ad435 := (by injection e435); replace hx435_0 := (HB.out.cell (bL w _ hx435_0)).trans hx435_0; replace hx435_1 := (HB.out.cell (bL w _ hx435_1)).trans hx435_1; replace hx435_2 := (HB.out.cell (bL w _ hx435_2)).trans hx435_2; replace hx435_3 := (HB.out.cell (bL w _ hx435_3)).trans hx435_3; replace p435 := eq_true p435; replace q435 := eq_true q435) | (go_at_call 50; (with_reducible refine (r05_One.calls k1 ((rd_T59 l0 x3_1).f0) ((rd_T59 l0 x3_1).f1) ((rd_T59 l0 x3_1).f2) ((rd_T59 l0 x3_1).f3) 0 2 t436 _ A12.out).mono ?_); rintro e w16 ⟨rfl, hb⟩; replace HB := Aside0.mk (zT (jH HB) hb); (try clear hb); (try clear hb2); (try clear hk); (try clear hi)))
         go_roundg k1
         case measure => have := HK1.out; omega
         case rel => exact ⟨(wrap64 (x3_1 + 1)), jS, H', ⟨by have := HK1.out; omega⟩, ⟨jH HB⟩⟩
        ·rw [if_neg c13] at H
         have c13b0 : (t436 == 0) = false := bF.mpr c13
         have c13b1 : (t436 != 0) = true := nI.mpr c13
         obtain rfl := Option.some.inj H
         have p430 : 0 ≤ (x3_1 : Int) := oD (jA)
         have q430 : x3_1 < (l0.length : Int) := oD (jA)
         obtain ⟨ad430, e430, hx430_0, hx430_1, hx430_2, hx430_3⟩ := at_T59 HR0.out x3_1 p430 q430
         cases e430
         replace hx430_0 := (HB.out.cell (bL w _ hx430_0)).trans hx430_0
         replace hx430_1 := (HB.out.cell (bL w _ hx430_1)).trans hx430_1
         replace hx430_2 := (HB.out.cell (bL w _ hx430_2)).trans hx430_2
         replace hx430_3 := (HB.out.cell (bL w _ hx430_3)).trans hx430_3
         replace p430 := eq_true p430
         replace q430 := eq_true q430
         have p431 : 0 ≤ (x3_1 : Int) := oD (jA)
         have q431 : x3_1 < (l0.length : Int) := oD (jA)
         obtain ⟨ad431, e431, hx431_0, hx431_1, hx431_2, hx431_3⟩ := at_T59 HR0.out x3_1 p431 q431
         obtain rfl : ad430 = ad431 := (by injection e431)
         replace hx431_0 := (HB.out.cell (bL w _ hx431_0)).trans hx431_0
         replace hx431_1 := (HB.out.cell (bL w _ hx431_1)).trans hx431_1
         replace hx431_2 := (HB.out.cell (bL w _ hx431_2)).trans hx431_2
         replace hx431_3 := (HB.out.cell (bL w _ hx431_3)).trans hx431_3
         replace p431 := eq_true p431
         replace q431 := eq_true q431
         go_wp2_with (first | (go_at_call 48; (with_reducible refine (r02_Branch.calls k1 ((rd_T59 l0 x3_1).f0) ((rd_T59 l0 x3_1).f1) ((rd_T59 l0 x3_1).f2) ((rd_T59 l0 x3_1).f3) false _ A5.out).mono ?_); rintro e w17 ⟨rfl, hb⟩; replace HB := Aside0.mk (zT (jH HB) hb); (try clear hb); (try clear hb2); (try clear hk); (try clear hi); have p433 : 0 ≤ (x3_1 : Int) := oD (jA); have q433 : x3_1 < (l0.length : Int) := oD (jA); obtain ⟨ad433, e433, hx433_0, hx433_1, hx433_2, hx433_3⟩ := at_T59 HR0.out x3_1 p433 q433; obtain rfl : ad430 = ad433 := (by injection e433); replace hx433_0 := (HB.out.cell (bL w _ hx433_0)).trans hx433_0; replace hx433_1 := (HB.out.cell (bL w _ hx433_1)).trans hx433_1; replace hx433_2 := (HB.out.cell (bL w _ hx433_2)).trans hx433_2; replace hx433_3 := (HB.out.cell (bL w _ hx433_3)).trans hx433_3; replace p433 := eq_true p433; replace q433 := eq_true q433) | (go_at_call 49; (with_reducible refine (r02_Ends.calls ((rd_T59 l0 x3_1).f0) ((rd_T59 l0 x3_1).f1) ((rd_T59 l0 x3_1).f2) ((rd_T59 l0 x3_1).f3) false _ A8.out).mono ?_); rintro e w18 ⟨rfl, hb⟩; replace HB := Aside0.mk (zT (jH HB) hb); (try clear hb); (try clear hb2); (try clear hk); (try clear hi); have p435 : 0 ≤ (x3_1 : Int) := oD (jA); have q435 : x3_1 < (l0.length : Int) := oD (jA); obtain ⟨ad435, e435, hx435_0, hx435_1, hx435_2, hx435_3⟩ := at_T59 HR0.out x3_1 p435 q435; obtain rfl : ad430 = ad435 := (by injection e435); replace hx435_0 := (HB.out.cell (bL w _ hx435_0)).trans hx435_0; replace hx435_1 := (HB.out.cell (bL w _ hx435_1)).trans hx435_1; replace hx435_2 := (HB.out.cell (bL w _ hx435_2)).trans hx435_2; replace hx435_3 := (HB.out.cell (bL w _ hx435_3)).trans hx435_3; replace p435 := eq_true p435; replace q435 := eq_true q435) | (go_at_call 50; (with_reducible refine (r05_One.calls k1 ((rd_T59 l0 x3_1).f0) ((rd_T59 l0 x3_1).f1) ((rd_T59 l0 x3_1).f2) ((rd_T59 l0 x3_1).f3) 0 2 t436 _ A12.out).mono ?_); rintro e w19 ⟨rfl, hb⟩; replace HB := Aside0.mk (zT (jH HB) hb); (try clear hb); (try clear hb2); (try clear hk); (try clear hi)))
         go_ret
         exact ⟨jE, jH HB⟩
    ·rw [if_neg c3] at H
     exact absurd H (by simp)
   ·rw [if_neg c2] at H
    have c2b0 : decide (x3_1 < (l0.length : Int)) = false := dF c2
    clear c2
    obtain rfl := Option.some.inj H
    go_wp2
    go_ret
    exact ⟨jE, jH HB⟩
end Go.Proofs.YtahacmdhhfmhiaaDoor.M

/- What Go functions compute; their calls come to it. No condition. -/
namespace Go.Proofs.YtahacmdhhfmhiaaDoor.M
open Go.RowKit Go.Proofs.YtahacmdhhfmhiaaDoorW.PrintWords Go.Proofs.YtahacmdhhfmhiaaDoorW.PrintLast Go.Proofs.YtahacmdhhfmhiaaDoorW.PrintMore
attribute [local go_sem] max2_int min2_int max_two min_two max_three min_three max_four min_four   -- for this text's walks alone
set_option linter.unusedVariables false
set_option linter.unusedSimpArgs false
def r21_May.f (k : Nat) (l0_0 : List (S59)) (l0_1 : List (S59)) (a0_2 : Int) : Option (Bool) := (r17_Right.f k l0_0).bind fun t438 => (if t438 = true then ((r17_Right.f k l0_1).bind fun t439 => (if t439 = true then (if (l0_1.length : Int) < (l0_0.length : Int) then (some (decide (a0_2 < 262144))) else (some false)) else (some false))) else (some false))
theorem r21_May.mono : ∀ a0 a1 a2 k, LeO (r21_May.f k a0 a1 a2) (r21_May.f (k + 1) a0 a1 a2) := by
 intro a0 a1 a2 k
 unfold r21_May.f
 repeat' first
   | (with_reducible apply r17_Right.mono)
   | (with_reducible exact LeO.refl _)
   | (with_reducible exact LeO.none _)
   | (with_reducible refine LeO.ite ?_ ?_)
   | (with_reducible refine LeO.bind ?_ (fun _ => ?_))
   | apply r17_Right.mono
   | exact LeO.none _
   | refine LeO.ite ?_ ?_
   | refine LeO.bind ?_ (fun _ => ?_)
set_option maxHeartbeats 8000000 in
set_option maxRecDepth 100000 in
theorem r21_May.calls (k : Nat) (A0_0 : Option Addr) (c0_0 : Nat) (l0_0 : List (S59)) (A0_1 : Option Addr) (c0_1 : Nat) (l0_1 : List (S59)) (a0_2 : Int) (r : Bool) (w : World) (hr0_0 : Kd.C k59 w A0_0 l0_0.length l0_0) (hc0_0 : l0_0.length ≤ c0_0) (hr0_1 : Kd.C k59 w A0_1 l0_1.length l0_1) (hc0_1 : l0_1.length ≤ c0_1) (h : r21_May.f k l0_0 l0_1 a0_2 = some r) :
  Calls Tryd.prog 27 #[.agg #[.slice A0_0 l0_0.length c0_0, .slice A0_1 l0_1.length c0_1, .int .u32 a0_2]] w fun e w' => e = .returned (.bool r) ∧ Below w.heap.size w w' := by
 have hu45 := Tryd.underlying45
 have HR0_0 := Aside0.mk hr0_0
 have HC0_0 := Aside0.mk hc0_0
 clear hr0_0 hc0_0
 have HR0_1 := Aside0.mk hr0_1
 have HC0_1 := Aside0.mk hc0_1
 clear hr0_1 hc0_1
 have HB := Aside0.mk (Below.refl w.heap.size w)
 have H : ((r17_Right.f k l0_0).bind fun t438 => (if t438 = true then ((r17_Right.f k l0_1).bind fun t439 => (if t439 = true then (if (l0_1.length : Int) < (l0_0.length : Int) then (some (decide (a0_2 < 262144))) else (some false)) else (some false))) else (some false))) = some r := h
 clear h
 replace H := Option.bind_eq_some_iff.mp H
 obtain ⟨t438, A20, H⟩ := H
 try dsimp only at H
 have A2 := Aside0.mk A20
 clear A20
 by_cases c3 : t438 = true
 ·subst c3
  rw [if_pos rfl] at H
  replace H := Option.bind_eq_some_iff.mp H
  obtain ⟨t439, A40, H⟩ := H
  try dsimp only at H
  have A4 := Aside0.mk A40
  clear A40
  by_cases c5 : t439 = true
  ·subst c5
   rw [if_pos rfl] at H
   by_cases c6 : (l0_1.length : Int) < (l0_0.length : Int)
   ·rw [if_pos c6] at H
    have c6b0 : decide ((l0_1.length : Int) < (l0_0.length : Int)) = true := dT c6
    have c6b1 : decide (l0_1.length < l0_0.length) = true := dT (Int.ofNat_lt.mp c6)
    clear c6
    obtain rfl := Option.some.inj H
    go_enter Tryd.func27, Tryd.ntmps27
    go_wp2_with (first | ((with_reducible refine gate_dst (N := 1) rfl ?_); (try (refine gate_guard (by rfl) ?_; dsimp only)); refine box_event rfl (N := 1) rfl (cs := #[.slice A0_0 l0_0.length c0_0, .slice A0_1 l0_1.length c0_1, .int .u32 a0_2]) (t := 45) jW ?_; intro gb437 hg w7 hbox hb; have BK437 := Aside0.mk hbox; have GW437 := Aside0.mk (jG hg HB); have GE437 := Aside0.mk (jG hg HB); replace HB := Aside0.mk (zT (jH HB) hb); clear hb hbox hg; obtain ⟨hcz8_0, hcz8_1, hcz8_2, hfz8_0, hfz8_1, hfz8_2⟩ := kQ3 BK437.out) | ((with_reducible refine gate_callee (f := 40) rfl ?_); refine goesL_ (some 5) rfl rfl Tryd.func40 (by kernel_rfl) rfl #[.slice A0_0 l0_0.length c0_0] rfl jZ ?_; (with_reducible refine (r17_Right.calls k _ _ l0_0 true _ ?side1 ?side2 A2.out).mono ?_); (case side1 => exact jC (Kd.C_below HR0_0.out HB.out)); (case side2 => exact HC0_0.out); rintro e w9 ⟨rfl, hb⟩; refine ⟨_, rfl, ?_⟩; replace BK437 := Aside0.mk (jB BK437 hb); replace HB := Aside0.mk (zT (jH HB) hb); (try clear hb); (try clear hb2); (try clear hk); (try clear hi); obtain ⟨hcz10_0, hcz10_1, hcz10_2, hfz10_0, hfz10_1, hfz10_2⟩ := kQ3 BK437.out) | (go_at_call 40; (with_reducible refine (r17_Right.calls k _ _ l0_1 true _ ?side1 ?side2 A4.out).mono ?_); (case side1 => exact jC (Kd.C_below HR0_1.out HB.out)); (case side2 => exact HC0_1.out); rintro e w11 ⟨rfl, hb⟩; replace BK437 := Aside0.mk (jB BK437 hb); replace HB := Aside0.mk (zT (jH HB) hb); (try clear hb); (try clear hb2); (try clear hk); (try clear hi); obtain ⟨hcz12_0, hcz12_1, hcz12_2, hfz12_0, hfz12_1, hfz12_2⟩ := kQ3 BK437.out))
    go_ret
    exact ⟨jE, jH HB⟩
   ·rw [if_neg c6] at H
    have c6b0 : decide ((l0_1.length : Int) < (l0_0.length : Int)) = false := dF c6
    have c6b1 : decide (l0_1.length < l0_0.length) = false := dF (fun h => c6 (Int.ofNat_lt.mpr h))
    clear c6
    obtain rfl := Option.some.inj H
    go_enter Tryd.func27, Tryd.ntmps27
    go_wp2_with (first | ((with_reducible refine gate_dst (N := 1) rfl ?_); (try (refine gate_guard (by rfl) ?_; dsimp only)); refine box_event rfl (N := 1) rfl (cs := #[.slice A0_0 l0_0.length c0_0, .slice A0_1 l0_1.length c0_1, .int .u32 a0_2]) (t := 45) jW ?_; intro gb437 hg w13 hbox hb; have BK437 := Aside0.mk hbox; have GW437 := Aside0.mk (jG hg HB); have GE437 := Aside0.mk (jG hg HB); replace HB := Aside0.mk (zT (jH HB) hb); clear hb hbox hg; obtain ⟨hcz14_0, hcz14_1, hcz14_2, hfz14_0, hfz14_1, hfz14_2⟩ := kQ3 BK437.out) | ((with_reducible refine gate_callee (f := 40) rfl ?_); refine goesL_ (some 5) rfl rfl Tryd.func40 (by kernel_rfl) rfl #[.slice A0_0 l0_0.length c0_0] rfl jZ ?_; (with_reducible refine (r17_Right.calls k _ _ l0_0 true _ ?side1 ?side2 A2.out).mono ?_); (case side1 => exact jC (Kd.C_below HR0_0.out HB.out)); (case side2 => exact HC0_0.out); rintro e w15 ⟨rfl, hb⟩; refine ⟨_, rfl, ?_⟩; replace BK437 := Aside0.mk (jB BK437 hb); replace HB := Aside0.mk (zT (jH HB) hb); (try clear hb); (try clear hb2); (try clear hk); (try clear hi); obtain ⟨hcz16_0, hcz16_1, hcz16_2, hfz16_0, hfz16_1, hfz16_2⟩ := kQ3 BK437.out) | (go_at_call 40; (with_reducible refine (r17_Right.calls k _ _ l0_1 true _ ?side1 ?side2 A4.out).mono ?_); (case side1 => exact jC (Kd.C_below HR0_1.out HB.out)); (case side2 => exact HC0_1.out); rintro e w17 ⟨rfl, hb⟩; replace BK437 := Aside0.mk (jB BK437 hb); replace HB := Aside0.mk (zT (jH HB) hb); (try clear hb); (try clear hb2); (try clear hk); (try clear hi); obtain ⟨hcz18_0, hcz18_1, hcz18_2, hfz18_0, hfz18_1, hfz18_2⟩ := kQ3 BK437.out))
    go_ret
    exact ⟨jE, jH HB⟩
  ·replace c5 := Bool.eq_false_iff.mpr c5
   subst c5
   rw [if_neg (show ¬ (false = true) by decide)] at H
   obtain rfl := Option.some.inj H
   go_enter Tryd.func27, Tryd.ntmps27
   go_wp2_with (first | ((with_reducible refine gate_dst (N := 1) rfl ?_); (try (refine gate_guard (by rfl) ?_; dsimp only)); refine box_event rfl (N := 1) rfl (cs := #[.slice A0_0 l0_0.length c0_0, .slice A0_1 l0_1.length c0_1, .int .u32 a0_2]) (t := 45) jW ?_; intro gb437 hg w19 hbox hb; have BK437 := Aside0.mk hbox; have GW437 := Aside0.mk (jG hg HB); have GE437 := Aside0.mk (jG hg HB); replace HB := Aside0.mk (zT (jH HB) hb); clear hb hbox hg; obtain ⟨hcz20_0, hcz20_1, hcz20_2, hfz20_0, hfz20_1, hfz20_2⟩ := kQ3 BK437.out) | ((with_reducible refine gate_callee (f := 40) rfl ?_); refine goesL_ (some 5) rfl rfl Tryd.func40 (by kernel_rfl) rfl #[.slice A0_0 l0_0.length c0_0] rfl jZ ?_; (with_reducible refine (r17_Right.calls k _ _ l0_0 true _ ?side1 ?side2 A2.out).mono ?_); (case side1 => exact jC (Kd.C_below HR0_0.out HB.out)); (case side2 => exact HC0_0.out); rintro e w21 ⟨rfl, hb⟩; refine ⟨_, rfl, ?_⟩; replace BK437 := Aside0.mk (jB BK437 hb); replace HB := Aside0.mk (zT (jH HB) hb); (try clear hb); (try clear hb2); (try clear hk); (try clear hi); obtain ⟨hcz22_0, hcz22_1, hcz22_2, hfz22_0, hfz22_1, hfz22_2⟩ := kQ3 BK437.out) | (go_at_call 40; (with_reducible refine (r17_Right.calls k _ _ l0_1 false _ ?side1 ?side2 A4.out).mono ?_); (case side1 => exact jC (Kd.C_below HR0_1.out HB.out)); (case side2 => exact HC0_1.out); rintro e w23 ⟨rfl, hb⟩; replace BK437 := Aside0.mk (jB BK437 hb); replace HB := Aside0.mk (zT (jH HB) hb); (try clear hb); (try clear hb2); (try clear hk); (try clear hi)))
   go_ret
   exact ⟨jE, jH HB⟩
 ·replace c3 := Bool.eq_false_iff.mpr c3
  subst c3
  rw [if_neg (show ¬ (false = true) by decide)] at H
  obtain rfl := Option.some.inj H
  go_enter Tryd.func27, Tryd.ntmps27
  go_wp2_with (first | ((with_reducible refine gate_dst (N := 1) rfl ?_); (try (refine gate_guard (by rfl) ?_; dsimp only)); refine box_event rfl (N := 1) rfl (cs := #[.slice A0_0 l0_0.length c0_0, .slice A0_1 l0_1.length c0_1, .int .u32 a0_2]) (t := 45) jW ?_; intro gb437 hg w24 hbox hb; have BK437 := Aside0.mk hbox; have GW437 := Aside0.mk (jG hg HB); have GE437 := Aside0.mk (jG hg HB); replace HB := Aside0.mk (zT (jH HB) hb); clear hb hbox hg; obtain ⟨hcz25_0, hcz25_1, hcz25_2, hfz25_0, hfz25_1, hfz25_2⟩ := kQ3 BK437.out) | ((with_reducible refine gate_callee (f := 40) rfl ?_); refine goesL_ (some 5) rfl rfl Tryd.func40 (by kernel_rfl) rfl #[.slice A0_0 l0_0.length c0_0] rfl jZ ?_; (with_reducible refine (r17_Right.calls k _ _ l0_0 false _ ?side1 ?side2 A2.out).mono ?_); (case side1 => exact jC (Kd.C_below HR0_0.out HB.out)); (case side2 => exact HC0_0.out); rintro e w26 ⟨rfl, hb⟩; refine ⟨_, rfl, ?_⟩; replace BK437 := Aside0.mk (jB BK437 hb); replace HB := Aside0.mk (zT (jH HB) hb); (try clear hb); (try clear hb2); (try clear hk); (try clear hi)))
  go_ret
  exact ⟨jE, jH HB⟩
end Go.Proofs.YtahacmdhhfmhiaaDoor.M

/- What Go functions compute; their calls come to it. No condition. -/
namespace Go.Proofs.YtahacmdhhfmhiaaDoor.M
open Go.RowKit Go.Proofs.YtahacmdhhfmhiaaDoorW.PrintWords Go.Proofs.YtahacmdhhfmhiaaDoorW.PrintLast Go.Proofs.YtahacmdhhfmhiaaDoorW.PrintMore
attribute [local go_sem] max2_int min2_int max_two min_two max_three min_three max_four min_four   -- for this text's walks alone
set_option linter.unusedVariables false
set_option linter.unusedSimpArgs false
mutual
def r21_less.l0 : Nat → List Int → List Int → Int → Option (Bool)
 | 0, _, _, _ => none
 | k + 1, x0, x1, x5 => if x5 < (x0.length : Int) then (r21_less.j1 k x0 x1 x5 (decide (x5 < (x1.length : Int)))) else (r21_less.j1 k x0 x1 x5 false)
def r21_less.j1 : Nat → List Int → List Int → Int → Bool → Option (Bool)
 | 0, _, _, _, _ => none
 | k + 1, x0, x1, x5, x15 => if x15 = true then (if 0 ≤ x5 then (if x5 < (x0.length : Int) then (if x5 < (x1.length : Int) then (if (rd x0 x5) = (rd x1 x5) then (r21_less.l0 k x0 x1 (wrap64 (x5 + 1))) else (some (decide ((rd x0 x5) < (rd x1 x5))))) else (none)) else (none)) else (none)) else (some (decide ((x0.length : Int) < (x1.length : Int))))
end
def r21_less.f (k : Nat) (l0 : List Int) (l1 : List Int) : Option (Bool) := r21_less.l0 k l0 l1 0
theorem r21_less.mono_l : ∀ k, (∀ y0 y1 y2, LeO (r21_less.l0 k y0 y1 y2) (r21_less.l0 (k + 1) y0 y1 y2)) ∧ (∀ y0 y1 y2 y3, LeO (r21_less.j1 k y0 y1 y2 y3) (r21_less.j1 (k + 1) y0 y1 y2 y3))
 | 0 => ⟨fun _ _ _ r h => by simp [r21_less.l0] at h, fun _ _ _ _ r h => by simp [r21_less.j1] at h⟩
 | k + 1 => by
  obtain ⟨ih0, ih1⟩ := r21_less.mono_l k
  refine ⟨?_, ?_⟩
  all_goals intros
  all_goals first | unfold r21_less.l0 | unfold r21_less.j1
  all_goals repeat' first
   | (with_reducible apply ih0)
   | (with_reducible apply ih1)
   | (with_reducible exact LeO.refl _)
   | (with_reducible exact LeO.none _)
   | (with_reducible refine LeO.ite ?_ ?_)
   | (with_reducible refine LeO.bind ?_ (fun _ => ?_))
   | apply ih0
   | apply ih1
   | exact LeO.none _
   | refine LeO.ite ?_ ?_
   | refine LeO.bind ?_ (fun _ => ?_)
theorem r21_less.mono : ∀ a0 a1 k, LeO (r21_less.f k a0 a1) (r21_less.f (k + 1) a0 a1) := by
 intro a0 a1 k
 obtain ⟨ih0, ih1⟩ := r21_less.mono_l k
 unfold r21_less.f
 repeat' first
   | (with_reducible apply ih0)
   | (with_reducible apply ih1)
   | (with_reducible exact LeO.refl _)
   | (with_reducible exact LeO.none _)
   | (with_reducible refine LeO.ite ?_ ?_)
   | (with_reducible refine LeO.bind ?_ (fun _ => ?_))
   | apply ih0
   | apply ih1
   | exact LeO.none _
   | refine LeO.ite ?_ ?_
   | refine LeO.bind ?_ (fun _ => ?_)
set_option maxHeartbeats 8000000 in
set_option maxRecDepth 100000 in
theorem r21_less.calls (k : Nat) (A0 : Option Addr) (c0 : Nat) (l0 : List Int) (A1 : Option Addr) (c1 : Nat) (l1 : List Int) (r : Bool) (w : World) (hr0 : Kd.C (Kd.int .u8) w A0 l0.length l0) (hc0 : l0.length ≤ c0) (hr1 : Kd.C (Kd.int .u8) w A1 l1.length l1) (hc1 : l1.length ≤ c1) (h : r21_less.f k l0 l1 = some r) :
  Calls Tryd.prog 30 #[.slice A0 l0.length c0, .slice A1 l1.length c1] w fun e w' => e = .returned (.bool r) ∧ Drawn0 w w' := by
 have HR0 := Aside0.mk hr0
 have HC0 := Aside0.mk hc0
 clear hr0 hc0
 have HR1 := Aside0.mk hr1
 have HC1 := Aside0.mk hc1
 clear hr1 hc1
 have H : (r21_less.l0 k l0 l1 0) = some r := h
 clear h
 have H' := Aside0.mk H
 clear H
 go_enter Tryd.func30, Tryd.ntmps30
 go_wp2
 repeat (go_quiet (fail); try go_wp2)
 go_loopg [5] k (fun kq v5 w' => ∃ (x5_1 : Int), v5 = .int .i64 x5_1 ∧ Aside0 (r21_less.l0 kq l0 l1 x5_1 = some r) ∧ Aside0 (kq ≤ k) ∧ Drawn0 w w')
 case atStart => exact ⟨(0), jS, H', ⟨Nat.le_refl _⟩, by repeat (first | exact Drawn0.refl _ | apply Drawn0.step)⟩
 case round =>
  clear H'
  obtain ⟨x5_1, rfl, HA, HK1, ⟨m1, rfl⟩⟩ := hrel
  cases gk with
  | zero => exact absurd HA.out (by simp [r21_less.l0])
  | succ k1 =>
   have H := HA.out
   clear HA
   simp only [r21_less.l0] at H
   have HC3 := Aside0.mk H
   clear H
   go_upto_region 2 with (fail)
   repeat (go_quiet (fail); go_upto_region 2 with (fail))
   go_cut [15] (fun v15 wc => ∃ (kq : Nat) (x15_2 : Bool), v15 = .bool x15_2 ∧ Aside0 (r21_less.j1 kq l0 l1 x5_1 x15_2 = some r) ∧ Aside0 (kq ≤ k1) ∧ Drawn0 w wc)
   case first =>
    have H := HC3.out
    clear HC3
    by_cases c4 : x5_1 < (l0.length : Int)
    ·rw [if_pos c4] at H
     have c4b0 : decide (x5_1 < (l0.length : Int)) = true := dT c4
     clear c4
     (first | rw [c4b0] | (simp only [i64_w, i32_w]; rw [c4b0]) | skip)
     have H' := Aside0.mk H
     clear H
     go_wp2
     repeat (go_quiet (fail); try go_wp2)
     go_meet
     case rel => exact ⟨_, (decide (x5_1 < (l1.length : Int))), jS, H', ⟨by have := HK1.out; first | omega | exact Nat.le_refl _⟩, by repeat (first | exact Drawn0.refl _ | apply Drawn0.step)⟩
    ·rw [if_neg c4] at H
     have c4b0 : decide (x5_1 < (l0.length : Int)) = false := dF c4
     clear c4
     (first | rw [c4b0] | (simp only [i64_w, i32_w]; rw [c4b0]) | skip)
     have H' := Aside0.mk H
     clear H
     go_wp2
     repeat (go_quiet (fail); try go_wp2)
     go_meet
     case rel => exact ⟨_, (false), jS, H', ⟨by have := HK1.out; first | omega | exact Nat.le_refl _⟩, by repeat (first | exact Drawn0.refl _ | apply Drawn0.step)⟩
   case rest =>
    clear HC3
    obtain ⟨kq, x15_2, rfl, HA, HJ2, ⟨mc2, rfl⟩⟩ := hcut
    cases kq with
    | zero => exact absurd HA.out (by simp [r21_less.j1])
    | succ kj2 =>
     have H := HA.out
     clear HA
     simp only [r21_less.j1] at H
     by_cases c5 : x15_2 = true
     ·subst c5
      rw [if_pos rfl] at H
      by_cases c6 : 0 ≤ x5_1
      ·rw [if_pos c6] at H
       have c6b0 : decide (0 ≤ x5_1) = true := dT c6
       clear c6
       by_cases c7 : x5_1 < (l0.length : Int)
       ·rw [if_pos c7] at H
        have c7b0 : decide (x5_1 < (l0.length : Int)) = true := dT c7
        clear c7
        by_cases c8 : x5_1 < (l1.length : Int)
        ·rw [if_pos c8] at H
         have c8b0 : decide (x5_1 < (l1.length : Int)) = true := dT c8
         clear c8
         by_cases c9 : (rd l0 x5_1) = (rd l1 x5_1)
         ·rw [if_pos c9] at H
          have c9b0 : ((rd l0 x5_1) == (rd l1 x5_1)) = true := bI.mpr c9
          have c9b1 : ((rd l0 x5_1) != (rd l1 x5_1)) = false := nF.mpr c9
          clear c9
          have H' := Aside0.mk H
          clear H
          have p440 : 0 ≤ (x5_1 : Int) := oD (jA)
          have q440 : x5_1 < (l0.length : Int) := oD (jA)
          obtain ⟨ad440, e440, hx440_0⟩ := Kd.at_int HR0.out x5_1 p440 q440
          cases e440
          replace p440 := eq_true p440
          replace q440 := eq_true q440
          have p441 : 0 ≤ (x5_1 : Int) := oD (jA)
          have q441 : x5_1 < (l1.length : Int) := oD (jA)
          obtain ⟨ad441, e441, hx441_0⟩ := Kd.at_int HR1.out x5_1 p441 q441
          cases e441
          replace p441 := eq_true p441
          replace q441 := eq_true q441
          go_wp2
          repeat (go_quiet (fail); try go_wp2)
          go_roundg kj2
          case measure => have := HK1.out; have := HJ2.out; omega
          case rel => exact ⟨(wrap64 (x5_1 + 1)), jS, H', ⟨by have := HK1.out; have := HJ2.out; omega⟩, by repeat (first | exact Drawn0.refl _ | apply Drawn0.step)⟩
         ·rw [if_neg c9] at H
          have c9b0 : ((rd l0 x5_1) == (rd l1 x5_1)) = false := bF.mpr c9
          have c9b1 : ((rd l0 x5_1) != (rd l1 x5_1)) = true := nI.mpr c9
          obtain rfl := Option.some.inj H
          have p440 : 0 ≤ (x5_1 : Int) := oD (jA)
          have q440 : x5_1 < (l0.length : Int) := oD (jA)
          obtain ⟨ad440, e440, hx440_0⟩ := Kd.at_int HR0.out x5_1 p440 q440
          cases e440
          replace p440 := eq_true p440
          replace q440 := eq_true q440
          have p441 : 0 ≤ (x5_1 : Int) := oD (jA)
          have q441 : x5_1 < (l1.length : Int) := oD (jA)
          obtain ⟨ad441, e441, hx441_0⟩ := Kd.at_int HR1.out x5_1 p441 q441
          cases e441
          replace p441 := eq_true p441
          replace q441 := eq_true q441
          have p442 : 0 ≤ (x5_1 : Int) := oD (jA)
          have q442 : x5_1 < (l0.length : Int) := oD (jA)
          obtain ⟨ad442, e442, hx442_0⟩ := Kd.at_int HR0.out x5_1 p442 q442
          obtain rfl : ad440 = ad442 := (by injection e442)
          replace p442 := eq_true p442
          replace q442 := eq_true q442
          have p443 : 0 ≤ (x5_1 : Int) := oD (jA)
          have q443 : x5_1 < (l1.length : Int) := oD (jA)
          obtain ⟨ad443, e443, hx443_0⟩ := Kd.at_int HR1.out x5_1 p443 q443
          obtain rfl : ad441 = ad443 := (by injection e443)
          replace p443 := eq_true p443
          replace q443 := eq_true q443
          go_wp2
          repeat (go_quiet (fail); try go_wp2)
          go_ret
          exact ⟨by first | rfl | (simp; done) | (simp [*]; done), by repeat (first | exact Drawn0.refl _ | apply Drawn0.step)⟩
        ·rw [if_neg c8] at H
         exact absurd H (by simp)
       ·rw [if_neg c7] at H
        exact absurd H (by simp)
      ·rw [if_neg c6] at H
       exact absurd H (by simp)
     ·replace c5 := Bool.eq_false_iff.mpr c5
      subst c5
      rw [if_neg (show ¬ (false = true) by decide)] at H
      obtain rfl := Option.some.inj H
      go_wp2
      repeat (go_quiet (fail); try go_wp2)
      go_ret
      exact ⟨by first | rfl | (simp; done) | (simp [*]; done), by repeat (first | exact Drawn0.refl _ | apply Drawn0.step)⟩
def r03_One.f (a0_0 : Int) (a0_1 : Int) (a0_2 : Int) (a0_3 : Int) : Option (List Int) := some (([(Int.tmod a0_0 256) % 256, 0, (a0_1) % 256, (a0_2) % 256, (Int.tmod a0_3 256) % 256, ((Int.tdiv a0_3 256) % 4294967296) % 256, ((Int.tdiv a0_3 65536) % 4294967296) % 256, ((Int.tdiv a0_3 16777216) % 4294967296) % 256] : List Int))
set_option maxHeartbeats 8000000 in
set_option maxRecDepth 100000 in
theorem r03_One.calls (a0_0 : Int) (a0_1 : Int) (a0_2 : Int) (a0_3 : Int) (r : List Int) (w : World) (h : r03_One.f a0_0 a0_1 a0_2 a0_3 = some r) :
  Calls Tryd.prog 52 #[.agg #[.int .i64 a0_0, .int .i64 a0_1, .int .i64 a0_2, .int .u32 a0_3]] w fun e w' => ∃ v0_ : Value, e = .returned (v0_) ∧ Kd.R (Kd.int .u8) 5 w' w.heap.size (fun _ => True) v0_ r ∧ Below w.heap.size w w' := by
 have hu59 := Tryd.underlying59
 have HB := Aside0.mk (Below.refl w.heap.size w)
 have H : (some (([(Int.tmod a0_0 256) % 256, 0, (a0_1) % 256, (a0_2) % 256, (Int.tmod a0_3 256) % 256, ((Int.tdiv a0_3 256) % 4294967296) % 256, ((Int.tdiv a0_3 65536) % 4294967296) % 256, ((Int.tdiv a0_3 16777216) % 4294967296) % 256] : List Int))) = some r := h
 clear h
 obtain ⟨y445, hy445⟩ : ∃ y_ : List Int, y_ = (([(Int.tmod a0_0 256) % 256, 0, (a0_1) % 256, (a0_2) % 256, (Int.tmod a0_3 256) % 256, ((Int.tdiv a0_3 256) % 4294967296) % 256, ((Int.tdiv a0_3 65536) % 4294967296) % 256, ((Int.tdiv a0_3 16777216) % 4294967296) % 256] : List Int)) := ⟨_, rfl⟩
 simp only [Option.bind_some, ← hy445] at H
 have Ny445 := Aside0.mk hy445
 clear hy445
 obtain rfl := Option.some.inj H
 go_enter Tryd.func52, Tryd.ntmps52
 go_wp2_with (first | ((with_reducible refine gate_dst (N := 1) rfl ?_); refine box_event rfl (N := 1) rfl (cs := #[.int .i64 a0_0, .int .i64 a0_1, .int .i64 a0_2, .int .u32 a0_3]) (t := 59) jW ?_; intro gb444 hg w2 hbox hb; have BK444 := Aside0.mk hbox; have GW444 := Aside0.mk (jG hg HB); have GE444 := Aside0.mk (jG hg HB); replace HB := Aside0.mk (zT (jH HB) hb); clear hb hbox hg; obtain ⟨hcz3_0, hcz3_1, hcz3_2, hcz3_3, hfz3_0, hfz3_1, hfz3_2, hfz3_3⟩ := kQ4 BK444.out) | ((with_reducible refine gate_dst (N := 30) rfl ?_); refine Kd.R_lit (Kd.int .u8) _ 5 ?hg (N := 30) ?hd (xs := ([(Int.tmod a0_0 256) % 256, 0, (a0_1) % 256, (a0_2) % 256, (Int.tmod a0_3 256) % 256, ((Int.tdiv a0_3 256) % 4294967296) % 256, ((Int.tdiv a0_3 65536) % 4294967296) % 256, ((Int.tdiv a0_3 16777216) % 4294967296) % 256] : List Int)) (inner := [.int .u8 ((Int.tmod a0_0 256) % 256), .int .u8 0, .int .u8 ((a0_1) % 256), .int .u8 ((a0_2) % 256), .int .u8 ((Int.tmod a0_3 256) % 256), .int .u8 (((Int.tdiv a0_3 256) % 4294967296) % 256), .int .u8 (((Int.tdiv a0_3 65536) % 4294967296) % 256), .int .u8 (((Int.tdiv a0_3 16777216) % 4294967296) % 256)]) (ok := fun _ => True) (okp := fun _ => True) ?hr ?hp (fun _ hk => hk) trivial (Below.refl _ _) (Nat.le_refl _) (by simp) ?_; (case hd => rfl); (case hg => rfl); (case hr => first | (go_simp; done) | (go_simp; rfl)); (case hp => exact (Reps.one (show Kd.M (Kd.int .u8) _ _ _ ((Int.tmod a0_0 256) % 256) [.int .u8 ((Int.tmod a0_0 256) % 256)] from rfl) (Reps.one (show Kd.M (Kd.int .u8) _ _ _ 0 [.int .u8 0] from rfl) (Reps.one (show Kd.M (Kd.int .u8) _ _ _ ((a0_1) % 256) [.int .u8 ((a0_1) % 256)] from rfl) (Reps.one (show Kd.M (Kd.int .u8) _ _ _ ((a0_2) % 256) [.int .u8 ((a0_2) % 256)] from rfl) (Reps.one (show Kd.M (Kd.int .u8) _ _ _ ((Int.tmod a0_3 256) % 256) [.int .u8 ((Int.tmod a0_3 256) % 256)] from rfl) (Reps.one (show Kd.M (Kd.int .u8) _ _ _ (((Int.tdiv a0_3 256) % 4294967296) % 256) [.int .u8 (((Int.tdiv a0_3 256) % 4294967296) % 256)] from rfl) (Reps.one (show Kd.M (Kd.int .u8) _ _ _ (((Int.tdiv a0_3 65536) % 4294967296) % 256) [.int .u8 (((Int.tdiv a0_3 65536) % 4294967296) % 256)] from rfl) (Reps.one (show Kd.M (Kd.int .u8) _ _ _ (((Int.tdiv a0_3 16777216) % 4294967296) % 256) [.int .u8 (((Int.tdiv a0_3 16777216) % 4294967296) % 256)] from rfl) (Reps.none _ _)))))))))); intro v446 w4 ho5 hb hg_ hnew_; clear hg_ hnew_; (first | rw [← Ny445.out] at ho5 | (simp only [Int.reduceToNat] at ho5; rw [← Ny445.out] at ho5)); have HO447 := Aside0.mk (Kd.R_lower ho5 (zZ (jH HB))); replace BK444 := Aside0.mk (jB BK444 hb); replace HB := Aside0.mk (zT (jH HB) hb); clear hb ho5))
 go_ret
 exact ⟨_, jE, by (with_reducible repeat (first | apply Kd.R_alloc | apply Kd.R_drewN | apply Kd.R_drew)); exact HO447.out, jH HB⟩
end Go.Proofs.YtahacmdhhfmhiaaDoor.M

/- What Go functions compute; their calls come to it. No condition. -/
namespace Go.Proofs.YtahacmdhhfmhiaaDoor.M
open Go.RowKit Go.Proofs.YtahacmdhhfmhiaaDoorW.PrintWords Go.Proofs.YtahacmdhhfmhiaaDoorW.PrintLast Go.Proofs.YtahacmdhhfmhiaaDoorW.PrintMore
attribute [local go_sem] max2_int min2_int max_two min_two max_three min_three max_four min_four   -- for this text's walks alone
set_option linter.unusedVariables false
set_option linter.unusedSimpArgs false
def r03_Encode.l0 : Nat → List (S59) → List Int → Int → Option (List Int)
 | 0, _, _, _ => none
 | k + 1, x0, x3, x4 => if x4 < (x0.length : Int) then (if 0 ≤ x4 then ((r03_One.f ((rd_T59 x0 x4).f0) ((rd_T59 x0 x4).f1) ((rd_T59 x0 x4).f2) ((rd_T59 x0 x4).f3)).bind fun t449 => (if x3.length + t449.length < 140737488355328 then (r03_Encode.l0 k x0 (x3 ++ t449) (wrap64 (x4 + 1))) else (none))) else (none)) else (some x3)
def r03_Encode.f (k : Nat) (l0 : List (S59)) : Option (List Int) := r03_Encode.l0 k l0 ([] : List Int) 0
theorem r03_Encode.mono_l : ∀ k, (∀ y0 y1 y2, LeO (r03_Encode.l0 k y0 y1 y2) (r03_Encode.l0 (k + 1) y0 y1 y2))
 | 0 => fun _ _ _ r h => by simp [r03_Encode.l0] at h
 | k + 1 => by
  have ih0 := r03_Encode.mono_l k
  ·intro y0 y1 y2
   unfold r03_Encode.l0
   repeat' first
   | (with_reducible apply ih0)
   | (with_reducible exact LeO.refl _)
   | (with_reducible exact LeO.none _)
   | (with_reducible refine LeO.ite ?_ ?_)
   | (with_reducible refine LeO.bind ?_ (fun _ => ?_))
   | apply ih0
   | exact LeO.none _
   | refine LeO.ite ?_ ?_
   | refine LeO.bind ?_ (fun _ => ?_)
theorem r03_Encode.mono : ∀ a0 k, LeO (r03_Encode.f k a0) (r03_Encode.f (k + 1) a0) := by
 intro a0 k
 have ih0 := r03_Encode.mono_l k
 unfold r03_Encode.f
 repeat' first
   | (with_reducible apply ih0)
   | (with_reducible exact LeO.refl _)
   | (with_reducible exact LeO.none _)
   | (with_reducible refine LeO.ite ?_ ?_)
   | (with_reducible refine LeO.bind ?_ (fun _ => ?_))
   | apply ih0
   | exact LeO.none _
   | refine LeO.ite ?_ ?_
   | refine LeO.bind ?_ (fun _ => ?_)
set_option maxHeartbeats 8000000 in
set_option maxRecDepth 100000 in
theorem r03_Encode.calls (k : Nat) (A0 : Option Addr) (c0 : Nat) (l0 : List (S59)) (r : List Int) (w : World) (hr0 : Kd.C k59 w A0 l0.length l0) (hc0 : l0.length ≤ c0) (h : r03_Encode.f k l0 = some r) :
  Calls Tryd.prog 43 #[.slice A0 l0.length c0] w fun e w' => ∃ v0_ : Value, e = .returned (v0_) ∧ Kd.R (Kd.int .u8) 5 w' w.heap.size (fun _ => True) v0_ r ∧ Below w.heap.size w w' := by
 have hu59 := Tryd.underlying59
 have HR0 := Aside0.mk hr0
 have HC0 := Aside0.mk hc0
 clear hr0 hc0
 have HB := Aside0.mk (Below.refl w.heap.size w)
 have H : (r03_Encode.l0 k l0 ([] : List Int) 0) = some r := h
 clear h
 have H' := Aside0.mk H
 clear H
 go_enter Tryd.func43, Tryd.ntmps43
 go_wp2
 go_loopg [3, 4] k (fun kq v3 v4 w' => ∃ (x3_1 : List Int) (x4_1 : Int), v4 = .int .i64 x4_1 ∧ Aside0 (r03_Encode.l0 kq l0 x3_1 x4_1 = some r) ∧ Aside0 (kq ≤ k) ∧ Aside0 (Kd.R (Kd.int .u8) 5 w' w.heap.size (fun _ => True) v3 x3_1) ∧ Aside0 (Below w.heap.size w w'))
 case atStart => exact ⟨(([] : List Int)), (0), jS, H', ⟨Nat.le_refl _⟩, ⟨by first | exact Kd.R_nil _ _ _ _ _ | exact Kd.N_nil _ _ _ _ _ | exact Kd.V_nil _ _ _ _ _ | exact Kd.Q_nil _ _ _ _ _ | exact Kd.S_nil _ _ _ _ _⟩, ⟨jH HB⟩⟩
 case round =>
  clear H'
  obtain ⟨x3_1, x4_1, rfl, HA, HK1, HO_3, HB⟩ := hrel
  cases gk with
  | zero => exact absurd HA.out (by simp [r03_Encode.l0])
  | succ k1 =>
   have H := HA.out
   clear HA
   simp only [r03_Encode.l0] at H
   by_cases c2 : x4_1 < (l0.length : Int)
   ·rw [if_pos c2] at H
    have c2b0 : decide (x4_1 < (l0.length : Int)) = true := dT c2
    clear c2
    by_cases c3 : 0 ≤ x4_1
    ·rw [if_pos c3] at H
     have c3b0 : decide (0 ≤ x4_1) = true := dT c3
     clear c3
     replace H := Option.bind_eq_some_iff.mp H
     obtain ⟨t449, A40, H⟩ := H
     try dsimp only at H
     have A4 := Aside0.mk A40
     clear A40
     by_cases c5 : x3_1.length + t449.length < 140737488355328
     ·rw [if_pos c5] at H
      have LMc5 := Aside0.mk c5
      clear c5
      obtain ⟨y452, hy452⟩ : ∃ y_ : List Int, y_ = (x3_1 ++ t449) := ⟨_, rfl⟩
      simp only [Option.bind_some, ← hy452] at H
      have Ny452 := Aside0.mk hy452
      clear hy452
      have H' := Aside0.mk H
      clear H
      have p448 : 0 ≤ (x4_1 : Int) := oD (jA)
      have q448 : x4_1 < (l0.length : Int) := oD (jA)
      obtain ⟨ad448, e448, hx448_0, hx448_1, hx448_2, hx448_3⟩ := at_T59 HR0.out x4_1 p448 q448
      cases e448
      replace hx448_0 := (HB.out.cell (bL w _ hx448_0)).trans hx448_0
      replace hx448_1 := (HB.out.cell (bL w _ hx448_1)).trans hx448_1
      replace hx448_2 := (HB.out.cell (bL w _ hx448_2)).trans hx448_2
      replace hx448_3 := (HB.out.cell (bL w _ hx448_3)).trans hx448_3
      replace p448 := eq_true p448
      replace q448 := eq_true q448
      go_wp2_with (first | ((with_reducible refine gate_callee (f := 52) rfl ?_); refine goesL_ (some 16) rfl rfl Tryd.func52 (by kernel_rfl) rfl #[.agg #[.int .i64 ((rd_T59 l0 x4_1).f0), .int .i64 ((rd_T59 l0 x4_1).f1), .int .i64 ((rd_T59 l0 x4_1).f2), .int .u32 ((rd_T59 l0 x4_1).f3)]] rfl jZ ?_; (with_reducible refine (r03_One.calls ((rd_T59 l0 x4_1).f0) ((rd_T59 l0 x4_1).f1) ((rd_T59 l0 x4_1).f2) ((rd_T59 l0 x4_1).f3) t449 _ A4.out).mono ?_); rintro e w6 ⟨v450, rfl, ho0, hb⟩; refine ⟨_, rfl, ?_⟩; have HO451 := Aside0.mk (Kd.R_lower (Kd.R_new' ho0 (Kd.R_lt (jR HO_3))) (zZ (jH HB))); replace HO_3 := Aside0.mk (Kd.R_elder' (jR HO_3) (Kd.R_base ho0) hb); replace HB := Aside0.mk (zT (jH HB) hb); (try clear hb); (try clear hb2); (try clear hk); (try clear hi); (try clear ho0); obtain ⟨Ao8, co8, eo8⟩ := Kd.R_slice HO451.out; subst eo8) | ((with_reducible refine gate_builtin (b := .append) (xs := #[.tmp 11, .tmp 16]) rfl ?_); at_builtin; refine Kd.R_append_rows (Kd.int .u8) (w0 := w) w.heap.size rfl (.tmp 11) (.tmp 16) 25 5 (.int .u8 0) 1 rfl Tryd.underlying25 info5 rfl (by decide) (by omega) u3 x3_1 t449 _ _ _ (fun k_ => some k_ ≠ (.slice Ao8 t449.length co8 : Value).ownBlock) (fun _ => False) rfl rfl ?aO ?aR (fun _ _ h => h) (fun _ h => h.elim) ?aF ?aB ?aS ?aL ?_; (case aR => repeat (first | exact (Kd.R_reads' HO451.out).2.2 | (with_reducible refine Kd.C_alloc ?_ _) | (with_reducible refine Kd.C_drewN ?_ _) | (with_reducible refine Kd.C_drew ?_))); (case aB => exact (jH HB)); (case aF => exact (fun k_ hk => Kd.fresh' (Kd.R_lt (jR HO451)) k_ hk)); (case aO => exact (by (with_reducible repeat (first | apply Kd.R_alloc | apply Kd.R_drewN | apply Kd.R_drew)); exact Kd.R_mono HO_3.out (fun _ hk => hk.2))); (case aS => exact (zZ (jH HB))); (case aL => have := LMc5.out; omega); intro v453 w7 ho hb hg hat; rw [← Ny452.out] at ho; have HO454 := Aside0.mk (ho); replace HO451 := Aside0.mk (Kd.R_after (ok := (fun _ => True)) (jR HO451) hg hat); replace HB := Aside0.mk (hb); clear HO_3; clear ho hb hg hat))
      go_roundg k1
      case measure => have := HK1.out; omega
      case rel => exact ⟨(y452), (wrap64 (x4_1 + 1)), jS, H', ⟨by have := HK1.out; omega⟩, ⟨by (with_reducible repeat (first | apply Kd.R_alloc | apply Kd.R_drewN | apply Kd.R_drew)); exact Kd.R_mono HO454.out (fun _ hk => trivial)⟩, ⟨jH HB⟩⟩
     ·rw [if_neg c5] at H
      exact absurd H (by simp)
    ·rw [if_neg c3] at H
     exact absurd H (by simp)
   ·rw [if_neg c2] at H
    have c2b0 : decide (x4_1 < (l0.length : Int)) = false := dF c2
    clear c2
    obtain rfl := Option.some.inj H
    go_wp2
    go_ret
    exact ⟨_, jE, by (with_reducible repeat (first | apply Kd.R_alloc | apply Kd.R_drewN | apply Kd.R_drew)); exact HO_3.out, jH HB⟩
end Go.Proofs.YtahacmdhhfmhiaaDoor.M

/- What Go functions compute; their calls come to it. No condition. -/
namespace Go.Proofs.YtahacmdhhfmhiaaDoor.M
open Go.RowKit Go.Proofs.YtahacmdhhfmhiaaDoorW.PrintWords Go.Proofs.YtahacmdhhfmhiaaDoorW.PrintLast Go.Proofs.YtahacmdhhfmhiaaDoorW.PrintMore
attribute [local go_sem] max2_int min2_int max_two min_two max_three min_three max_four min_four   -- for this text's walks alone
set_option linter.unusedVariables false
set_option linter.unusedSimpArgs false
def r21_Bytes.f (k : Nat) (l0_0 : List (S59)) (l0_1 : List (S59)) (a0_2 : Int) : Option (List Int) := (some (([(Int.tmod a0_2 256) % 256, ((Int.tdiv a0_2 256) % 4294967296) % 256, ((Int.tdiv a0_2 65536) % 4294967296) % 256, ((Int.tdiv a0_2 16777216) % 4294967296) % 256, ((l0_0.length : Int)) % 256, ((l0_1.length : Int)) % 256] : List Int) : List Int)).bind fun y456 => ((r03_Encode.f k l0_0).bind fun t459 => (if y456.length + t459.length < 140737488355328 then ((some (y456 ++ t459 : List Int)).bind fun y462 => ((r03_Encode.f k l0_1).bind fun t465 => (if y462.length + t465.length < 140737488355328 then (some (y462 ++ t465)) else (none)))) else (none)))
theorem r21_Bytes.mono : ∀ a0 a1 a2 k, LeO (r21_Bytes.f k a0 a1 a2) (r21_Bytes.f (k + 1) a0 a1 a2) := by
 intro a0 a1 a2 k
 unfold r21_Bytes.f
 repeat' first
   | (with_reducible apply r03_Encode.mono)
   | (with_reducible exact LeO.refl _)
   | (with_reducible exact LeO.none _)
   | (with_reducible refine LeO.ite ?_ ?_)
   | (with_reducible refine LeO.bind ?_ (fun _ => ?_))
   | apply r03_Encode.mono
   | exact LeO.none _
   | refine LeO.ite ?_ ?_
   | refine LeO.bind ?_ (fun _ => ?_)
def r21_Bytes.T3 : Bool × List (List Nat × List Nat) := (true, [([], []), ([], []), ([1], [1]), ([2], [2]), ([0, 3, 3], [0, 3]), ([], []), ([5], [5]), ([6, 4], [6]), ([4, 7, 7], [4, 7]), ([8, 8, 0, 1, 2, 3, 4, 5, 6, 7, 8], [8])])
def r21_Bytes.B3 : List Nat := [0, 0, 2, 6, 15, 0, 32, 127, 255, 511]
theorem r21_Bytes.tab3 : rtab .any (opsOf Tryd.f31 3) = r21_Bytes.T3 := by kernel_rfl
theorem r21_Bytes.bits3 : waitsOk r21_Bytes.T3.2 r21_Bytes.B3 = true := by kernel_rfl
set_option maxHeartbeats 8000000 in
set_option maxRecDepth 100000 in
theorem r21_Bytes.calls (k : Nat) (A0_0 : Option Addr) (c0_0 : Nat) (l0_0 : List (S59)) (A0_1 : Option Addr) (c0_1 : Nat) (l0_1 : List (S59)) (a0_2 : Int) (r : List Int) (w : World) (hr0_0 : Kd.C k59 w A0_0 l0_0.length l0_0) (hc0_0 : l0_0.length ≤ c0_0) (hr0_1 : Kd.C k59 w A0_1 l0_1.length l0_1) (hc0_1 : l0_1.length ≤ c0_1) (h : r21_Bytes.f k l0_0 l0_1 a0_2 = some r) :
  Calls Tryd.prog 31 #[.agg #[.slice A0_0 l0_0.length c0_0, .slice A0_1 l0_1.length c0_1, .int .u32 a0_2]] w fun e w' => ∃ v0_ : Value, e = .returned (v0_) ∧ Kd.R (Kd.int .u8) 5 w' w.heap.size (fun _ => True) v0_ r ∧ Below w.heap.size w w' := by
 have hu45 := Tryd.underlying45
 have HR0_0 := Aside0.mk hr0_0
 have HC0_0 := Aside0.mk hc0_0
 clear hr0_0 hc0_0
 have HR0_1 := Aside0.mk hr0_1
 have HC0_1 := Aside0.mk hc0_1
 clear hr0_1 hc0_1
 have HB := Aside0.mk (Below.refl w.heap.size w)
 have H : ((some (([(Int.tmod a0_2 256) % 256, ((Int.tdiv a0_2 256) % 4294967296) % 256, ((Int.tdiv a0_2 65536) % 4294967296) % 256, ((Int.tdiv a0_2 16777216) % 4294967296) % 256, ((l0_0.length : Int)) % 256, ((l0_1.length : Int)) % 256] : List Int) : List Int)).bind fun y456 => ((r03_Encode.f k l0_0).bind fun t459 => (if y456.length + t459.length < 140737488355328 then ((some (y456 ++ t459 : List Int)).bind fun y462 => ((r03_Encode.f k l0_1).bind fun t465 => (if y462.length + t465.length < 140737488355328 then (some (y462 ++ t465)) else (none)))) else (none)))) = some r := h
 clear h
 obtain ⟨y456, hy456⟩ : ∃ y_ : List Int, y_ = (([(Int.tmod a0_2 256) % 256, ((Int.tdiv a0_2 256) % 4294967296) % 256, ((Int.tdiv a0_2 65536) % 4294967296) % 256, ((Int.tdiv a0_2 16777216) % 4294967296) % 256, ((l0_0.length : Int)) % 256, ((l0_1.length : Int)) % 256] : List Int)) := ⟨_, rfl⟩
 simp only [Option.bind_some, ← hy456] at H
 have Ny456 := Aside0.mk hy456
 clear hy456
 replace H := Option.bind_eq_some_iff.mp H
 obtain ⟨t459, A20, H⟩ := H
 try dsimp only at H
 have A2 := Aside0.mk A20
 clear A20
 by_cases c3 : y456.length + t459.length < 140737488355328
 ·rw [if_pos c3] at H
  have LMc3 := Aside0.mk c3
  clear c3
  obtain ⟨y462, hy462⟩ : ∃ y_ : List Int, y_ = (y456 ++ t459) := ⟨_, rfl⟩
  simp only [Option.bind_some, ← hy462] at H
  have Ny462 := Aside0.mk hy462
  clear hy462
  replace H := Option.bind_eq_some_iff.mp H
  obtain ⟨t465, A40, H⟩ := H
  try dsimp only at H
  have A4 := Aside0.mk A40
  clear A40
  by_cases c5 : y462.length + t465.length < 140737488355328
  ·rw [if_pos c5] at H
   have LMc5 := Aside0.mk c5
   clear c5
   obtain ⟨y468, hy468⟩ : ∃ y_ : List Int, y_ = (y462 ++ t465) := ⟨_, rfl⟩
   simp only [Option.bind_some, ← hy468] at H
   have Ny468 := Aside0.mk hy468
   clear hy468
   obtain rfl := Option.some.inj H
   go_enter Tryd.func31, Tryd.ntmps31
   try go_wp2_with (first | ((with_reducible refine gate_dst (N := 1) rfl ?_); refine box_event rfl (N := 1) rfl (cs := #[.slice A0_0 l0_0.length c0_0, .slice A0_1 l0_1.length c0_1, .int .u32 a0_2]) (t := 45) jW ?_; intro gb455 hg w6 hbox hb; have BK455 := Aside0.mk hbox; have GW455 := Aside0.mk (jG hg HB); have GE455 := Aside0.mk (jG hg HB); replace HB := Aside0.mk (zT (jH HB) hb); clear hb hbox hg; obtain ⟨hcz7_0, hcz7_1, hcz7_2, hfz7_0, hfz7_1, hfz7_2⟩ := kQ3 BK455.out) | ((with_reducible refine gate_dst (N := 29) rfl ?_); refine Kd.R_lit (Kd.int .u8) _ 5 ?hg (N := 29) ?hd (xs := ([(Int.tmod a0_2 256) % 256, ((Int.tdiv a0_2 256) % 4294967296) % 256, ((Int.tdiv a0_2 65536) % 4294967296) % 256, ((Int.tdiv a0_2 16777216) % 4294967296) % 256, ((l0_0.length : Int)) % 256, ((l0_1.length : Int)) % 256] : List Int)) (inner := [.int .u8 ((Int.tmod a0_2 256) % 256), .int .u8 (((Int.tdiv a0_2 256) % 4294967296) % 256), .int .u8 (((Int.tdiv a0_2 65536) % 4294967296) % 256), .int .u8 (((Int.tdiv a0_2 16777216) % 4294967296) % 256), .int .u8 (((l0_0.length : Int)) % 256), .int .u8 (((l0_1.length : Int)) % 256)]) (ok := fun _ => True) (okp := fun _ => True) ?hr ?hp (fun _ hk => hk) trivial (Below.refl _ _) (Nat.le_refl _) (by simp) ?_; (case hd => rfl); (case hg => rfl); (case hr => first | (go_simp; done) | (go_simp; rfl)); (case hp => exact (Reps.one (show Kd.M (Kd.int .u8) _ _ _ ((Int.tmod a0_2 256) % 256) [.int .u8 ((Int.tmod a0_2 256) % 256)] from rfl) (Reps.one (show Kd.M (Kd.int .u8) _ _ _ (((Int.tdiv a0_2 256) % 4294967296) % 256) [.int .u8 (((Int.tdiv a0_2 256) % 4294967296) % 256)] from rfl) (Reps.one (show Kd.M (Kd.int .u8) _ _ _ (((Int.tdiv a0_2 65536) % 4294967296) % 256) [.int .u8 (((Int.tdiv a0_2 65536) % 4294967296) % 256)] from rfl) (Reps.one (show Kd.M (Kd.int .u8) _ _ _ (((Int.tdiv a0_2 16777216) % 4294967296) % 256) [.int .u8 (((Int.tdiv a0_2 16777216) % 4294967296) % 256)] from rfl) (Reps.one (show Kd.M (Kd.int .u8) _ _ _ (((l0_0.length : Int)) % 256) [.int .u8 (((l0_0.length : Int)) % 256)] from rfl) (Reps.one (show Kd.M (Kd.int .u8) _ _ _ (((l0_1.length : Int)) % 256) [.int .u8 (((l0_1.length : Int)) % 256)] from rfl) (Reps.none _ _)))))))); intro v457 w8 ho9 hb hg_ hnew_; clear hg_ hnew_; (first | rw [← Ny456.out] at ho9 | (simp only [Int.reduceToNat] at ho9; rw [← Ny456.out] at ho9)); have HO458 := Aside0.mk (Kd.R_lower ho9 (zZ (jH HB))); replace BK455 := Aside0.mk (jB BK455 hb); replace HB := Aside0.mk (zT (jH HB) hb); clear hb ho9))
   replace HO458 := Aside0.mk (Kd.R_drew HO458.out)
   replace BK455 := Aside0.mk (kD BK455.out)
   replace HB := Aside0.mk (zD HB.out)
   refine start_ (n := 10) (S := fun w' => w'.cell? ⟨gb455, 0, none⟩ = some (.slice A0_0 l0_0.length c0_0) ∧ w'.cell? ⟨gb455, 1, none⟩ = some (.slice A0_1 l0_1.length c0_1) ∧ w'.cell? ⟨gb455, 2, none⟩ = some (.int .u32 a0_2)) (ds := []) #[false, false, false, false, false, false, false, false, false, false] (by kernel_rfl) rfl rfl ⟨(kC BK455.out 0).trans rfl, (kC BK455.out 1).trans rfl, (kC BK455.out 2).trans rfl⟩ (fun hHeld => ?_); refine with_tabW r21_Bytes.tab3 r21_Bytes.bits3 (fun HT_ HW_ => ?_)
   generalize w8.drew = w10 at HO458 BK455 HB hHeld ⊢
   refine qP 0 30 (tB 10 1) ?_
   refine qP 1 31 (tB 10 3) ?_
   refine qP 5 35 (tB 10 35) ?_
   refine qT 2 32 (tB 10 39) hHeld ?_ (hv := by rintro w' ⟨s0, s1, s2⟩; go_simp; with_reducible rfl)
   refine qT 6 36 (tB 10 103) hHeld ?_ (hv := by rintro w' ⟨s0, s1, s2⟩; go_simp; with_reducible rfl)
   refine one_ (i := 3) (N := some 33) (tB 10 111) rfl rfl (one_of HT_.out (by kernel_rfl)) (by decide) (fun K hK => ?_)
   refine goes_ Tryd.func43 (by kernel_rfl) rfl #[.slice A0_0 l0_0.length c0_0] (by rfl) rfl rfl jZ ?_
   with_reducible refine (r03_Encode.calls k _ _ l0_0 t459 _ ?side1 ?side2 A2.out).mono ?_
   (case side1 => exact jC (Kd.C_below HR0_0.out HB.out))
   (case side2 => exact HC0_0.out)
   rintro e w11 ⟨v460, rfl, ho0, hb⟩
   refine ⟨_, rfl, ?_⟩
   have HO461 := Aside0.mk (Kd.R_lower (Kd.R_new' ho0 (Kd.R_lt (jR HO458))) (zZ (jH HB)))
   replace HO458 := Aside0.mk (Kd.R_elder' (jR HO458) (Kd.R_base ho0) hb)
   replace BK455 := Aside0.mk (jB BK455 hb)
   replace HB := Aside0.mk (zT (jH HB) hb)
   (try clear hb)
   (try clear hb2)
   (try clear hk)
   (try clear hi)
   (try clear ho0)
   obtain ⟨Ao13, co13, eo13⟩ := Kd.R_slice HO461.out
   (first | subst eo13 | (injection eo13 with f1_ f2_ f3_; have f4_ := f1_.symm; have f5_ := f3_.symm; clear f1_ f2_ f3_; subst f4_; subst f5_))
   refine hK.out _ _ ⟨(kC BK455.out 0).trans rfl, (kC BK455.out 1).trans rfl, (kC BK455.out 2).trans rfl⟩ (fun hHeld => ?_)
   clear hK K
   refine qN 33 ?_
   refine one_ (i := 4) (N := some 34) (tB 10 127) rfl rfl (one_of HT_.out (by kernel_rfl)) (by decide) (fun K hK => ?_)
   refine Kd.R_append_rows_step (Kd.int .u8) (w0 := w) w.heap.size (by rfl) (.tmp 30) (.tmp 33) 25 5 (.int .u8 0) 1 rfl Tryd.underlying25 info5 rfl (by decide) (by omega) v457 y456 t459 _ _ _ (fun k_ => some k_ ≠ (.slice Ao13 t459.length co13 : Value).ownBlock) (fun _ => False) rfl rfl ?aO ?aR (fun _ _ h => h) (fun _ h => h.elim) ?aF ?aB ?aS ?aL ?_
   (case aR => repeat (first | exact (Kd.R_reads' HO461.out).2.2 | (with_reducible refine Kd.C_alloc ?_ _) | (with_reducible refine Kd.C_drewN ?_ _) | (with_reducible refine Kd.C_drew ?_)))
   (case aB => exact (jH HB))
   (case aF => exact (fun k_ hk => Kd.fresh' (Kd.R_lt (jR HO461)) k_ hk))
   (case aO => exact (by (with_reducible repeat (first | apply Kd.R_alloc | apply Kd.R_drewN | apply Kd.R_drew)); exact Kd.R_mono HO458.out (fun _ hk => hk.2)))
   (case aS => exact (zZ (jH HB)))
   (case aL => have := LMc3.out; omega)
   intro v463 w12 ho hb hg hat
   rw [← Ny462.out] at ho
   have HO464 := Aside0.mk (ho)
   replace BK455 := Aside0.mk (kG (g := gb455) (o := .cells #[.slice A0_0 l0_0.length c0_0, .slice A0_1 l0_1.length c0_1, .int .u32 a0_2] 45 (0, 0)) (jK BK455) hg (Kd.R_ne HO458.out BK455.out (by decide)))
   replace HO461 := Aside0.mk (Kd.R_after (ok := (fun _ => True)) (jR HO461) hg hat)
   replace HB := Aside0.mk (hb)
   clear HO458
   clear ho hb hg hat
   refine hK.out _ _ ⟨(kC BK455.out 0).trans rfl, (kC BK455.out 1).trans rfl, (kC BK455.out 2).trans rfl⟩ (fun hHeld => ?_)
   clear hK K
   refine qN 34 ?_
   refine one_ (i := 7) (N := some 37) (tB 10 255) rfl rfl (one_of HT_.out (by kernel_rfl)) (by decide) (fun K hK => ?_)
   refine goes_ Tryd.func43 (by kernel_rfl) rfl #[.slice A0_1 l0_1.length c0_1] (by rfl) rfl rfl jZ ?_
   with_reducible refine (r03_Encode.calls k _ _ l0_1 t465 _ ?side1 ?side2 A4.out).mono ?_
   (case side1 => exact jC (Kd.C_below HR0_1.out HB.out))
   (case side2 => exact HC0_1.out)
   rintro e w14 ⟨v466, rfl, ho0, hb⟩
   refine ⟨_, rfl, ?_⟩
   have HO467 := Aside0.mk (Kd.R_lower (Kd.R_new' (Kd.R_new' ho0 (Kd.R_lt (jR HO461))) (Kd.R_lt (jR HO464))) (zZ (jH HB)))
   replace HO461 := Aside0.mk (Kd.R_elder' (jR HO461) (Kd.R_base ho0) hb)
   replace HO464 := Aside0.mk (Kd.R_elder' (jR HO464) (Kd.R_base ho0) hb)
   replace BK455 := Aside0.mk (jB BK455 hb)
   replace HB := Aside0.mk (zT (jH HB) hb)
   (try clear hb)
   (try clear hb2)
   (try clear hk)
   (try clear hi)
   (try clear ho0)
   obtain ⟨Ao16, co16, eo16⟩ := Kd.R_slice HO467.out
   (first | subst eo16 | (injection eo16 with f1_ f2_ f3_; have f4_ := f1_.symm; have f5_ := f3_.symm; clear f1_ f2_ f3_; subst f4_; subst f5_))
   refine hK.out _ _ ⟨(kC BK455.out 0).trans rfl, (kC BK455.out 1).trans rfl, (kC BK455.out 2).trans rfl⟩ (fun hHeld => ?_)
   clear hK K
   refine qN 37 ?_
   refine one_ (i := 8) (N := some 38) (tB 10 511) rfl rfl (one_of HT_.out (by kernel_rfl)) (by decide) (fun K hK => ?_)
   refine Kd.R_append_rows_step (Kd.int .u8) (w0 := w) w.heap.size (by rfl) (.tmp 34) (.tmp 37) 25 5 (.int .u8 0) 1 rfl Tryd.underlying25 info5 rfl (by decide) (by omega) v463 y462 t465 _ _ _ (fun k_ => some k_ ≠ (.slice Ao13 t459.length co13 : Value).ownBlock ∧ some k_ ≠ (.slice Ao16 t465.length co16 : Value).ownBlock) (fun _ => False) rfl rfl ?aO ?aR (fun _ _ h => h) (fun _ h => h.elim) ?aF ?aB ?aS ?aL ?_
   (case aR => repeat (first | exact (Kd.R_reads' HO467.out).2.2 | (with_reducible refine Kd.C_alloc ?_ _) | (with_reducible refine Kd.C_drewN ?_ _) | (with_reducible refine Kd.C_drew ?_)))
   (case aB => exact (jH HB))
   (case aF => exact (fun k_ hk => ⟨Kd.fresh' (Kd.R_lt (jR HO461)) k_ hk, Kd.fresh' (Kd.R_lt (jR HO467)) k_ hk⟩))
   (case aO => exact (jR HO464))
   (case aS => exact (zZ (jH HB)))
   (case aL => have := LMc5.out; omega)
   intro v469 w15 ho hb hg hat
   rw [← Ny468.out] at ho
   have HO470 := Aside0.mk (ho)
   replace BK455 := Aside0.mk (kG (g := gb455) (o := .cells #[.slice A0_0 l0_0.length c0_0, .slice A0_1 l0_1.length c0_1, .int .u32 a0_2] 45 (0, 0)) (jK BK455) hg (Kd.R_ne HO464.out BK455.out (by decide)))
   replace HO461 := Aside0.mk (Kd.R_after (ok := (fun k_ => some k_ ≠ (.slice Ao16 t465.length co16 : Value).ownBlock)) (by (with_reducible repeat (first | apply Kd.R_alloc | apply Kd.R_drewN | apply Kd.R_drew)); exact Kd.R_mono HO461.out (fun _ hk => ⟨hk.2, hk.1.2⟩)) hg hat)
   replace HO467 := Aside0.mk (Kd.R_after (ok := (fun k_ => some k_ ≠ (.slice Ao13 t459.length co13 : Value).ownBlock)) (by (with_reducible repeat (first | apply Kd.R_alloc | apply Kd.R_drewN | apply Kd.R_drew)); exact Kd.R_mono HO467.out (fun _ hk => ⟨hk.1.2, hk.2⟩)) hg hat)
   replace HB := Aside0.mk (hb)
   clear HO464
   clear ho hb hg hat
   refine hK.out _ _ ⟨(kC BK455.out 0).trans rfl, (kC BK455.out 1).trans rfl, (kC BK455.out 2).trans rfl⟩ (fun hHeld => ?_)
   clear hK K
   refine qN 38 ?_
   refine qP 9 2 (tB 10 1023) ?_
   refine done_ (done_of HT_.out (by kernel_rfl)) ?_
   try go_wp2
   go_ret
   exact ⟨_, jE, by (with_reducible repeat (first | apply Kd.R_alloc | apply Kd.R_drewN | apply Kd.R_drew)); exact Kd.R_mono HO470.out (fun _ hk => trivial), jH HB⟩
  ·rw [if_neg c5] at H
   exact absurd H (by simp)
 ·rw [if_neg c3] at H
  exact absurd H (by simp)
end Go.Proofs.YtahacmdhhfmhiaaDoor.M
