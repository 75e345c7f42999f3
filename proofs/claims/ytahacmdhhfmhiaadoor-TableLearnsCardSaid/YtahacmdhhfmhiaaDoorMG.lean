/- What Go functions compute; their calls come to it. No condition. -/
import Derived.Test.YtahacmdhhfmhiaaDoorM0
import Derived.Test.YtahacmdhhfmhiaaDoorMF
namespace Go.Proofs.YtahacmdhhfmhiaaDoor.M
open Go.RowKit Go.Proofs.YtahacmdhhfmhiaaDoorW.PrintWords Go.Proofs.YtahacmdhhfmhiaaDoorW.PrintLast Go.Proofs.YtahacmdhhfmhiaaDoorW.PrintMore
attribute [local go_sem] max2_int min2_int max_two min_two max_three min_three max_four min_four   -- for this text's walks alone
set_option linter.unusedVariables false
set_option linter.unusedSimpArgs false
def r21_May.f (k : Nat) (l0_0 : List (S59)) (l0_1 : List (S59)) (a0_2 : Int) : Option (Bool) := (r17_Right.f k l0_0).bind fun t438 => (if t438 = true then ((r17_Right.f k l0_1).bind fun t439 => (if t439 = true then (if (l0_1.length : Int) < (l0_0.length : Int) then (some (decide (a0_2 < 262144))) else (some false)) else (some false))) else (some false))
set_option maxHeartbeats 8000000 in
set_option maxRecDepth 100000 in
theorem r21_May.calls (k : Nat) (A0_0 : Option Addr) (c0_0 : Nat) (l0_0 : List (S59)) (A0_1 : Option Addr) (c0_1 : Nat) (l0_1 : List (S59)) (a0_2 : Int) (r : Bool) (w : World) (hr0_0 : Kd.C k59 w A0_0 l0_0.length l0_0) (hc0_0 : l0_0.length ≤ c0_0) (hr0_1 : Kd.C k59 w A0_1 l0_1.length l0_1) (hc0_1 : l0_1.length ≤ c0_1) (h : r21_May.f k l0_0 l0_1 a0_2 = some r) :
  Calls Tryd.prog 27 #[.agg #[.slice A0_0 l0_0.length c0_0, .slice A0_1 l0_1.length c0_1, .int .u32 a0_2]] w fun e w' => e = .returned (.bool r) ∧ Below w.heap.size w w' := by
 have hu45 := Tryd.underlying45
 have HR0_0 := Aside0.mk hr0_0
 have HC0_0 := Aside0.mk hc0_0
 clear hr0_0 hc0_0
 have HR0_1 := Aside0.mk hr0_1
 have HC0_1 := Aside0.mk hc0_1
 clear hr0_1 hc0_1
 have HB := Aside0.mk (Below.refl w.heap.size w)
 have H : ((r17_Right.f k l0_0).bind fun t438 => (if t438 = true then ((r17_Right.f k l0_1).bind fun t439 => (if t439 = true then (if (l0_1.length : Int) < (l0_0.length : Int) then (some (decide (a0_2 < 262144))) else (some false)) else (some false))) else (some false))) = some r := h
 clear h
 replace H := Option.bind_eq_some_iff.mp H
 obtain ⟨t438, A20, H⟩ := H
 try dsimp only at H
 have A2 := Aside0.mk A20
 clear A20
 by_cases c3 : t438 = true
 ·subst c3
  rw [if_pos rfl] at H
  replace H := Option.bind_eq_some_iff.mp H
  obtain ⟨t439, A40, H⟩ := H
  try dsimp only at H
  have A4 := Aside0.mk A40
  clear A40
  by_cases c5 : t439 = true
  ·subst c5
   rw [if_pos rfl] at H
   by_cases c6 : (l0_1.length : Int) < (l0_0.length : Int)
   ·rw [if_pos c6] at H
    have c6b0 := dT c6
    have c6b1 : decide (l0_1.length < l0_0.length) = true := dT (Int.ofNat_lt.mp c6)
    clear c6
    obtain rfl := Option.some.inj H
    go_enter Tryd.func27, Tryd.ntmps27
    go_wp2_with (first | ((with_reducible refine gate_dst (N := 1) rfl ?_); (try (refine gate_guard (by rfl) ?_; dsimp only)); refine box_event rfl (N := 1) rfl (cs := #[.slice A0_0 l0_0.length c0_0, .slice A0_1 l0_1.length c0_1, .int .u32 a0_2]) (t := 45) jW ?_; intro gb437 hg w7 hbox hb; have BK437 := Aside0.mk hbox; have GW437 := Aside0.mk (jG hg HB); have GE437 := Aside0.mk (jG hg HB); replace HB := Aside0.mk (zT (jH HB) hb); clear hb hbox hg; obtain ⟨hcz8_0, hcz8_1, hcz8_2, hfz8_0, hfz8_1, hfz8_2⟩ := kQ3 BK437.out) | ((with_reducible refine gate_callee (f := 40) rfl ?_); refine goesL_ (some 5) rfl rfl Tryd.func40 (by kernel_rfl) rfl #[.slice A0_0 l0_0.length c0_0] rfl jZ ?_; (with_reducible refine (r17_Right.calls k _ _ l0_0 true _ ?side1 ?side2 A2.out).mono ?_); (case side1 => exact jC (Kd.C_below HR0_0.out HB.out)); (case side2 => exact HC0_0.out); rintro e w9 ⟨rfl, hb⟩; refine ⟨_, rfl, ?_⟩; replace BK437 := Aside0.mk (jB BK437 hb); replace HB := Aside0.mk (zT (jH HB) hb); (try clear hb); (try clear hb2); (try clear hk); (try clear hi); obtain ⟨hcz10_0, hcz10_1, hcz10_2, hfz10_0, hfz10_1, hfz10_2⟩ := kQ3 BK437.out) | (go_at_call 40; (with_reducible refine (r17_Right.calls k _ _ l0_1 true _ ?side1 ?side2 A4.out).mono ?_); (case side1 => exact jC (Kd.C_below HR0_1.out HB.out)); (case side2 => exact HC0_1.out); rintro e w11 ⟨rfl, hb⟩; replace BK437 := Aside0.mk (jB BK437 hb); replace HB := Aside0.mk (zT (jH HB) hb); (try clear hb); (try clear hb2); (try clear hk); (try clear hi); obtain ⟨hcz12_0, hcz12_1, hcz12_2, hfz12_0, hfz12_1, hfz12_2⟩ := kQ3 BK437.out))
    go_ret
    exact ⟨jE, jH HB⟩
   ·rw [if_neg c6] at H
    have c6b0 := dF c6
    have c6b1 : decide (l0_1.length < l0_0.length) = false := dF (fun h => c6 (Int.ofNat_lt.mpr h))
    clear c6
    obtain rfl := Option.some.inj H
    go_enter Tryd.func27, Tryd.ntmps27
    go_wp2_with (first | ((with_reducible refine gate_dst (N := 1) rfl ?_); (try (refine gate_guard (by rfl) ?_; dsimp only)); refine box_event rfl (N := 1) rfl (cs := #[.slice A0_0 l0_0.length c0_0, .slice A0_1 l0_1.length c0_1, .int .u32 a0_2]) (t := 45) jW ?_; intro gb437 hg w13 hbox hb; have BK437 := Aside0.mk hbox; have GW437 := Aside0.mk (jG hg HB); have GE437 := Aside0.mk (jG hg HB); replace HB := Aside0.mk (zT (jH HB) hb); clear hb hbox hg; obtain ⟨hcz14_0, hcz14_1, hcz14_2, hfz14_0, hfz14_1, hfz14_2⟩ := kQ3 BK437.out) | ((with_reducible refine gate_callee (f := 40) rfl ?_); refine goesL_ (some 5) rfl rfl Tryd.func40 (by kernel_rfl) rfl #[.slice A0_0 l0_0.length c0_0] rfl jZ ?_; (with_reducible refine (r17_Right.calls k _ _ l0_0 true _ ?side1 ?side2 A2.out).mono ?_); (case side1 => exact jC (Kd.C_below HR0_0.out HB.out)); (case side2 => exact HC0_0.out); rintro e w15 ⟨rfl, hb⟩; refine ⟨_, rfl, ?_⟩; replace BK437 := Aside0.mk (jB BK437 hb); replace HB := Aside0.mk (zT (jH HB) hb); (try clear hb); (try clear hb2); (try clear hk); (try clear hi); obtain ⟨hcz16_0, hcz16_1, hcz16_2, hfz16_0, hfz16_1, hfz16_2⟩ := kQ3 BK437.out) | (go_at_call 40; (with_reducible refine (r17_Right.calls k _ _ l0_1 true _ ?side1 ?side2 A4.out).mono ?_); (case side1 => exact jC (Kd.C_below HR0_1.out HB.out)); (case side2 => exact HC0_1.out); rintro e w17 ⟨rfl, hb⟩; replace BK437 := Aside0.mk (jB BK437 hb); replace HB := Aside0.mk (zT (jH HB) hb); (try clear hb); (try clear hb2); (try clear hk); (try clear hi); obtain ⟨hcz18_0, hcz18_1, hcz18_2, hfz18_0, hfz18_1, hfz18_2⟩ := kQ3 BK437.out))
    go_ret
    exact ⟨jE, jH HB⟩
  ·replace c5 := Bool.eq_false_iff.mpr c5
   subst c5
   rw [if_neg (show ¬ (false = true) by decide)] at H
   obtain rfl := Option.some.inj H
   go_enter Tryd.func27, Tryd.ntmps27
   go_wp2_with (first | ((with_reducible refine gate_dst (N := 1) rfl ?_); (try (refine gate_guard (by rfl) ?_; dsimp only)); refine box_event rfl (N := 1) rfl (cs := #[.slice A0_0 l0_0.length c0_0, .slice A0_1 l0_1.length c0_1, .int .u32 a0_2]) (t := 45) jW ?_; intro gb437 hg w19 hbox hb; have BK437 := Aside0.mk hbox; have GW437 := Aside0.mk (jG hg HB); have GE437 := Aside0.mk (jG hg HB); replace HB := Aside0.mk (zT (jH HB) hb); clear hb hbox hg; obtain ⟨hcz20_0, hcz20_1, hcz20_2, hfz20_0, hfz20_1, hfz20_2⟩ := kQ3 BK437.out) | ((with_reducible refine gate_callee (f := 40) rfl ?_); refine goesL_ (some 5) rfl rfl Tryd.func40 (by kernel_rfl) rfl #[.slice A0_0 l0_0.length c0_0] rfl jZ ?_; (with_reducible refine (r17_Right.calls k _ _ l0_0 true _ ?side1 ?side2 A2.out).mono ?_); (case side1 => exact jC (Kd.C_below HR0_0.out HB.out)); (case side2 => exact HC0_0.out); rintro e w21 ⟨rfl, hb⟩; refine ⟨_, rfl, ?_⟩; replace BK437 := Aside0.mk (jB BK437 hb); replace HB := Aside0.mk (zT (jH HB) hb); (try clear hb); (try clear hb2); (try clear hk); (try clear hi); obtain ⟨hcz22_0, hcz22_1, hcz22_2, hfz22_0, hfz22_1, hfz22_2⟩ := kQ3 BK437.out) | (go_at_call 40; (with_reducible refine (r17_Right.calls k _ _ l0_1 false _ ?side1 ?side2 A4.out).mono ?_); (case side1 => exact jC (Kd.C_below HR0_1.out HB.out)); (case side2 => exact HC0_1.out); rintro e w23 ⟨rfl, hb⟩; replace BK437 := Aside0.mk (jB BK437 hb); replace HB := Aside0.mk (zT (jH HB) hb); (try clear hb); (try clear hb2); (try clear hk); (try clear hi)))
   go_ret
   exact ⟨jE, jH HB⟩
 ·replace c3 := Bool.eq_false_iff.mpr c3
  subst c3
  rw [if_neg (show ¬ (false = true) by decide)] at H
  obtain rfl := Option.some.inj H
  go_enter Tryd.func27, Tryd.ntmps27
  go_wp2_with (first | ((with_reducible refine gate_dst (N := 1) rfl ?_); (try (refine gate_guard (by rfl) ?_; dsimp only)); refine box_event rfl (N := 1) rfl (cs := #[.slice A0_0 l0_0.length c0_0, .slice A0_1 l0_1.length c0_1, .int .u32 a0_2]) (t := 45) jW ?_; intro gb437 hg w24 hbox hb; have BK437 := Aside0.mk hbox; have GW437 := Aside0.mk (jG hg HB); have GE437 := Aside0.mk (jG hg HB); replace HB := Aside0.mk (zT (jH HB) hb); clear hb hbox hg; obtain ⟨hcz25_0, hcz25_1, hcz25_2, hfz25_0, hfz25_1, hfz25_2⟩ := kQ3 BK437.out) | ((with_reducible refine gate_callee (f := 40) rfl ?_); refine goesL_ (some 5) rfl rfl Tryd.func40 (by kernel_rfl) rfl #[.slice A0_0 l0_0.length c0_0] rfl jZ ?_; (with_reducible refine (r17_Right.calls k _ _ l0_0 false _ ?side1 ?side2 A2.out).mono ?_); (case side1 => exact jC (Kd.C_below HR0_0.out HB.out)); (case side2 => exact HC0_0.out); rintro e w26 ⟨rfl, hb⟩; refine ⟨_, rfl, ?_⟩; replace BK437 := Aside0.mk (jB BK437 hb); replace HB := Aside0.mk (zT (jH HB) hb); (try clear hb); (try clear hb2); (try clear hk); (try clear hi)))
  go_ret
  exact ⟨jE, jH HB⟩
mutual
def r21_less.l0 : Nat → List Int → List Int → Int → Option (Bool)
 | 0, _, _, _ => none
 | k + 1, x0, x1, x5 => if x5 < (x0.length : Int) then (r21_less.j1 k x0 x1 x5 (decide (x5 < (x1.length : Int)))) else (r21_less.j1 k x0 x1 x5 false)
def r21_less.j1 : Nat → List Int → List Int → Int → Bool → Option (Bool)
 | 0, _, _, _, _ => none
 | k + 1, x0, x1, x5, x15 => if x15 = true then (if 0 ≤ x5 then (if x5 < (x0.length : Int) then (if x5 < (x1.length : Int) then (if (rd x0 x5) = (rd x1 x5) then (r21_less.l0 k x0 x1 (wrap64 (x5 + 1))) else (some (decide ((rd x0 x5) < (rd x1 x5))))) else (none)) else (none)) else (none)) else (some (decide ((x0.length : Int) < (x1.length : Int))))
end
def r21_less.f (k : Nat) (l0 : List Int) (l1 : List Int) : Option (Bool) := r21_less.l0 k l0 l1 0
set_option maxHeartbeats 8000000 in
set_option maxRecDepth 100000 in
theorem r21_less.calls (k : Nat) (A0 : Option Addr) (c0 : Nat) (l0 : List Int) (A1 : Option Addr) (c1 : Nat) (l1 : List Int) (r : Bool) (w : World) (hr0 : Kd.C (Kd.int .u8) w A0 l0.length l0) (hc0 : l0.length ≤ c0) (hr1 : Kd.C (Kd.int .u8) w A1 l1.length l1) (hc1 : l1.length ≤ c1) (h : r21_less.f k l0 l1 = some r) :
  Calls Tryd.prog 30 #[.slice A0 l0.length c0, .slice A1 l1.length c1] w fun e w' => e = .returned (.bool r) ∧ Drawn0 w w' := by
 have HR0 := Aside0.mk hr0
 have HC0 := Aside0.mk hc0
 clear hr0 hc0
 have HR1 := Aside0.mk hr1
 have HC1 := Aside0.mk hc1
 clear hr1 hc1
 have H : (r21_less.l0 k l0 l1 0) = some r := h
 clear h
 have H' := Aside0.mk H
 clear H
 go_enter Tryd.func30, Tryd.ntmps30
 go_wp2
 repeat (go_quiet (fail); try go_wp2)
 go_loopg [5] k (fun kq v5 w' => ∃ (x5_1 : Int), v5 = .int .i64 x5_1 ∧ Aside0 (r21_less.l0 kq l0 l1 x5_1 = some r) ∧ Aside0 (kq ≤ k) ∧ Drawn0 w w')
 case atStart => exact ⟨(0), jS, H', ⟨Nat.le_refl _⟩, by repeat (first | exact Drawn0.refl _ | apply Drawn0.step)⟩
 case round =>
  clear H'
  obtain ⟨x5_1, rfl, HA, HK1, ⟨m1, rfl⟩⟩ := hrel
  cases gk with
  | zero => exact absurd HA.out (by simp [r21_less.l0])
  | succ k1 =>
   have H := HA.out
   clear HA
   simp only [r21_less.l0] at H
   have HC3 := Aside0.mk H
   clear H
   go_upto_region 2 with (fail)
   repeat (go_quiet (fail); go_upto_region 2 with (fail))
   go_cut [15] (fun v15 wc => ∃ (kq : Nat) (x15_2 : Bool), v15 = .bool x15_2 ∧ Aside0 (r21_less.j1 kq l0 l1 x5_1 x15_2 = some r) ∧ Aside0 (kq ≤ k1) ∧ Drawn0 w wc)
   case first =>
    have H := HC3.out
    clear HC3
    by_cases c4 : x5_1 < (l0.length : Int)
    ·rw [if_pos c4] at H
     have c4b0 := dT c4
     clear c4
     (first | rw [c4b0] | (simp only [i64_w, i32_w]; rw [c4b0]) | skip)
     have H' := Aside0.mk H
     clear H
     go_wp2
     repeat (go_quiet (fail); try go_wp2)
     go_meet
     case rel => exact ⟨_, (decide (x5_1 < (l1.length : Int))), jS, H', ⟨by have := HK1.out; first | omega | exact Nat.le_refl _⟩, by repeat (first | exact Drawn0.refl _ | apply Drawn0.step)⟩
    ·rw [if_neg c4] at H
     have c4b0 := dF c4
     clear c4
     (first | rw [c4b0] | (simp only [i64_w, i32_w]; rw [c4b0]) | skip)
     have H' := Aside0.mk H
     clear H
     go_wp2
     repeat (go_quiet (fail); try go_wp2)
     go_meet
     case rel => exact ⟨_, (false), jS, H', ⟨by have := HK1.out; first | omega | exact Nat.le_refl _⟩, by repeat (first | exact Drawn0.refl _ | apply Drawn0.step)⟩
   case rest =>
    clear HC3
    obtain ⟨kq, x15_2, rfl, HA, HJ2, ⟨mc2, rfl⟩⟩ := hcut
    cases kq with
    | zero => exact absurd HA.out (by simp [r21_less.j1])
    | succ kj2 =>
     have H := HA.out
     clear HA
     simp only [r21_less.j1] at H
     by_cases c5 : x15_2 = true
     ·subst c5
      rw [if_pos rfl] at H
      by_cases c6 : 0 ≤ x5_1
      ·rw [if_pos c6] at H
       have c6b0 := dT c6
       clear c6
       by_cases c7 : x5_1 < (l0.length : Int)
       ·rw [if_pos c7] at H
        have c7b0 := dT c7
        clear c7
        by_cases c8 : x5_1 < (l1.length : Int)
        ·rw [if_pos c8] at H
         have c8b0 := dT c8
         clear c8
         by_cases c9 : (rd l0 x5_1) = (rd l1 x5_1)
         ·rw [if_pos c9] at H
          have c9b0 : ((rd l0 x5_1) == (rd l1 x5_1)) = true := bI.mpr c9
          have c9b1 : ((rd l0 x5_1) != (rd l1 x5_1)) = false := nF.mpr c9
          clear c9
          have H' := Aside0.mk H
          clear H
          have p440 : 0 ≤ (x5_1 : Int) := oD (jA)
          have q440 : x5_1 < (l0.length : Int) := oD (jA)
          obtain ⟨ad440, e440, hx440_0⟩ := Kd.at_int HR0.out x5_1 p440 q440
          cases e440
          replace p440 := eq_true p440
          replace q440 := eq_true q440
          have p441 : 0 ≤ (x5_1 : Int) := oD (jA)
          have q441 : x5_1 < (l1.length : Int) := oD (jA)
          obtain ⟨ad441, e441, hx441_0⟩ := Kd.at_int HR1.out x5_1 p441 q441
          cases e441
          replace p441 := eq_true p441
          replace q441 := eq_true q441
          go_wp2
          repeat (go_quiet (fail); try go_wp2)
          go_roundg kj2
          case measure => have := HK1.out; have := HJ2.out; omega
          case rel => exact ⟨(wrap64 (x5_1 + 1)), jS, H', ⟨by have := HK1.out; have := HJ2.out; omega⟩, by repeat (first | exact Drawn0.refl _ | apply Drawn0.step)⟩
         ·rw [if_neg c9] at H
          have c9b0 : ((rd l0 x5_1) == (rd l1 x5_1)) = false := bF.mpr c9
          have c9b1 : ((rd l0 x5_1) != (rd l1 x5_1)) = true := nI.mpr c9
          obtain rfl := Option.some.inj H
          have p440 : 0 ≤ (x5_1 : Int) := oD (jA)
          have q440 : x5_1 < (l0.length : Int) := oD (jA)
          obtain ⟨ad440, e440, hx440_0⟩ := Kd.at_int HR0.out x5_1 p440 q440
          cases e440
          replace p440 := eq_true p440
          replace q440 := eq_true q440
          have p441 : 0 ≤ (x5_1 : Int) := oD (jA)
          have q441 : x5_1 < (l1.length : Int) := oD (jA)
          obtain ⟨ad441, e441, hx441_0⟩ := Kd.at_int HR1.out x5_1 p441 q441
          cases e441
          replace p441 := eq_true p441
          replace q441 := eq_true q441
          have p442 : 0 ≤ (x5_1 : Int) := oD (jA)
          have q442 : x5_1 < (l0.length : Int) := oD (jA)
          obtain ⟨ad442, e442, hx442_0⟩ := Kd.at_int HR0.out x5_1 p442 q442
          obtain rfl : ad440 = ad442 := (by injection e442)
          replace p442 := eq_true p442
          replace q442 := eq_true q442
          have p443 : 0 ≤ (x5_1 : Int) := oD (jA)
          have q443 : x5_1 < (l1.length : Int) := oD (jA)
          obtain ⟨ad443, e443, hx443_0⟩ := Kd.at_int HR1.out x5_1 p443 q443
          obtain rfl : ad441 = ad443 := (by injection e443)
          replace p443 := eq_true p443
          replace q443 := eq_true q443
          go_wp2
          repeat (go_quiet (fail); try go_wp2)
          go_ret
          exact ⟨by first | rfl | (simp; done) | (simp [*]; done), by repeat (first | exact Drawn0.refl _ | apply Drawn0.step)⟩
        ·rw [if_neg c8] at H
         exact absurd H (by simp)
       ·rw [if_neg c7] at H
        exact absurd H (by simp)
      ·rw [if_neg c6] at H
       exact absurd H (by simp)
     ·replace c5 := Bool.eq_false_iff.mpr c5
      subst c5
      rw [if_neg (show ¬ (false = true) by decide)] at H
      obtain rfl := Option.some.inj H
      go_wp2
      repeat (go_quiet (fail); try go_wp2)
      go_ret
      exact ⟨by first | rfl | (simp; done) | (simp [*]; done), by repeat (first | exact Drawn0.refl _ | apply Drawn0.step)⟩
def r03_One.f (a0_0 : Int) (a0_1 : Int) (a0_2 : Int) (a0_3 : Int) : Option (List Int) := some (([(Int.tmod a0_0 256) % 256, 0, (a0_1) % 256, (a0_2) % 256, (Int.tmod a0_3 256) % 256, ((Int.tdiv a0_3 256) % 4294967296) % 256, ((Int.tdiv a0_3 65536) % 4294967296) % 256, ((Int.tdiv a0_3 16777216) % 4294967296) % 256] : List Int))
set_option maxHeartbeats 8000000 in
set_option maxRecDepth 100000 in
theorem r03_One.calls (a0_0 : Int) (a0_1 : Int) (a0_2 : Int) (a0_3 : Int) (r : List Int) (w : World) (h : r03_One.f a0_0 a0_1 a0_2 a0_3 = some r) :
  Calls Tryd.prog 52 #[.agg #[.int .i64 a0_0, .int .i64 a0_1, .int .i64 a0_2, .int .u32 a0_3]] w fun e w' => ∃ v0_ : Value, e = .returned (v0_) ∧ Kd.R (Kd.int .u8) 5 w' w.heap.size (fun _ => True) v0_ r ∧ Below w.heap.size w w' := by
 have hu59 := Tryd.underlying59
 have HB := Aside0.mk (Below.refl w.heap.size w)
 have H : (some (([(Int.tmod a0_0 256) % 256, 0, (a0_1) % 256, (a0_2) % 256, (Int.tmod a0_3 256) % 256, ((Int.tdiv a0_3 256) % 4294967296) % 256, ((Int.tdiv a0_3 65536) % 4294967296) % 256, ((Int.tdiv a0_3 16777216) % 4294967296) % 256] : List Int))) = some r := h
 clear h
 obtain ⟨y445, hy445⟩ : ∃ y_ : List Int, y_ = (([(Int.tmod a0_0 256) % 256, 0, (a0_1) % 256, (a0_2) % 256, (Int.tmod a0_3 256) % 256, ((Int.tdiv a0_3 256) % 4294967296) % 256, ((Int.tdiv a0_3 65536) % 4294967296) % 256, ((Int.tdiv a0_3 16777216) % 4294967296) % 256] : List Int)) := ⟨_, rfl⟩
 simp only [Option.bind_some, ← hy445] at H
 have Ny445 := Aside0.mk hy445
 clear hy445
 obtain rfl := Option.some.inj H
 go_enter Tryd.func52, Tryd.ntmps52
 go_wp2_with (first | ((with_reducible refine gate_dst (N := 1) rfl ?_); refine box_event rfl (N := 1) rfl (cs := #[.int .i64 a0_0, .int .i64 a0_1, .int .i64 a0_2, .int .u32 a0_3]) (t := 59) jW ?_; intro gb444 hg w2 hbox hb; have BK444 := Aside0.mk hbox; have GW444 := Aside0.mk (jG hg HB); have GE444 := Aside0.mk (jG hg HB); replace HB := Aside0.mk (zT (jH HB) hb); clear hb hbox hg; obtain ⟨hcz3_0, hcz3_1, hcz3_2, hcz3_3, hfz3_0, hfz3_1, hfz3_2, hfz3_3⟩ := kQ4 BK444.out) | ((with_reducible refine gate_dst (N := 30) rfl ?_); refine Kd.R_lit (Kd.int .u8) _ 5 ?hg (N := 30) ?hd (xs := ([(Int.tmod a0_0 256) % 256, 0, (a0_1) % 256, (a0_2) % 256, (Int.tmod a0_3 256) % 256, ((Int.tdiv a0_3 256) % 4294967296) % 256, ((Int.tdiv a0_3 65536) % 4294967296) % 256, ((Int.tdiv a0_3 16777216) % 4294967296) % 256] : List Int)) (inner := [.int .u8 ((Int.tmod a0_0 256) % 256), .int .u8 0, .int .u8 ((a0_1) % 256), .int .u8 ((a0_2) % 256), .int .u8 ((Int.tmod a0_3 256) % 256), .int .u8 (((Int.tdiv a0_3 256) % 4294967296) % 256), .int .u8 (((Int.tdiv a0_3 65536) % 4294967296) % 256), .int .u8 (((Int.tdiv a0_3 16777216) % 4294967296) % 256)]) (ok := fun _ => True) (okp := fun _ => True) ?hr ?hp (fun _ hk => hk) trivial (Below.refl _ _) (Nat.le_refl _) (by simp) ?_; (case hd => rfl); (case hg => rfl); (case hr => first | (go_simp; done) | (go_simp; rfl)); (case hp => exact (Reps.one (show Kd.M (Kd.int .u8) _ _ _ ((Int.tmod a0_0 256) % 256) [.int .u8 ((Int.tmod a0_0 256) % 256)] from rfl) (Reps.one (show Kd.M (Kd.int .u8) _ _ _ 0 [.int .u8 0] from rfl) (Reps.one (show Kd.M (Kd.int .u8) _ _ _ ((a0_1) % 256) [.int .u8 ((a0_1) % 256)] from rfl) (Reps.one (show Kd.M (Kd.int .u8) _ _ _ ((a0_2) % 256) [.int .u8 ((a0_2) % 256)] from rfl) (Reps.one (show Kd.M (Kd.int .u8) _ _ _ ((Int.tmod a0_3 256) % 256) [.int .u8 ((Int.tmod a0_3 256) % 256)] from rfl) (Reps.one (show Kd.M (Kd.int .u8) _ _ _ (((Int.tdiv a0_3 256) % 4294967296) % 256) [.int .u8 (((Int.tdiv a0_3 256) % 4294967296) % 256)] from rfl) (Reps.one (show Kd.M (Kd.int .u8) _ _ _ (((Int.tdiv a0_3 65536) % 4294967296) % 256) [.int .u8 (((Int.tdiv a0_3 65536) % 4294967296) % 256)] from rfl) (Reps.one (show Kd.M (Kd.int .u8) _ _ _ (((Int.tdiv a0_3 16777216) % 4294967296) % 256) [.int .u8 (((Int.tdiv a0_3 16777216) % 4294967296) % 256)] from rfl) (Reps.none _ _)))))))))); intro v446 w4 ho5 hb hg_ hnew_; clear hg_ hnew_; (first | rw [← Ny445.out] at ho5 | (simp only [Int.reduceToNat] at ho5; rw [← Ny445.out] at ho5)); have HO447 := Aside0.mk (Kd.R_lower ho5 (zZ (jH HB))); replace BK444 := Aside0.mk (jB BK444 hb); replace HB := Aside0.mk (zT (jH HB) hb); clear hb ho5))
 go_ret
 exact ⟨_, jE, by (with_reducible repeat (first | apply Kd.R_alloc | apply Kd.R_drewN | apply Kd.R_drew)); exact HO447.out, jH HB⟩
def r03_Encode.l0 : Nat → List (S59) → List Int → Int → Option (List Int)
 | 0, _, _, _ => none
 | k + 1, x0, x3, x4 => if x4 < (x0.length : Int) then (if 0 ≤ x4 then ((r03_One.f ((rd_T59 x0 x4).f0) ((rd_T59 x0 x4).f1) ((rd_T59 x0 x4).f2) ((rd_T59 x0 x4).f3)).bind fun t449 => (if x3.length + t449.length < 140737488355328 then (r03_Encode.l0 k x0 (x3 ++ t449) (wrap64 (x4 + 1))) else (none))) else (none)) else (some x3)
def r03_Encode.f (k : Nat) (l0 : List (S59)) : Option (List Int) := r03_Encode.l0 k l0 ([] : List Int) 0
set_option maxHeartbeats 8000000 in
set_option maxRecDepth 100000 in
theorem r03_Encode.calls (k : Nat) (A0 : Option Addr) (c0 : Nat) (l0 : List (S59)) (r : List Int) (w : World) (hr0 : Kd.C k59 w A0 l0.length l0) (hc0 : l0.length ≤ c0) (h : r03_Encode.f k l0 = some r) :
  Calls Tryd.prog 43 #[.slice A0 l0.length c0] w fun e w' => ∃ v0_ : Value, e = .returned (v0_) ∧ Kd.R (Kd.int .u8) 5 w' w.heap.size (fun _ => True) v0_ r ∧ Below w.heap.size w w' := by
 have hu59 := Tryd.underlying59
 have HR0 := Aside0.mk hr0
 have HC0 := Aside0.mk hc0
 clear hr0 hc0
 have HB := Aside0.mk (Below.refl w.heap.size w)
 have H : (r03_Encode.l0 k l0 ([] : List Int) 0) = some r := h
 clear h
 have H' := Aside0.mk H
 clear H
 go_enter Tryd.func43, Tryd.ntmps43
 go_wp2
 go_loopg [3, 4] k (fun kq v3 v4 w' => ∃ (x3_1 : List Int) (x4_1 : Int), v4 = .int .i64 x4_1 ∧ Aside0 (r03_Encode.l0 kq l0 x3_1 x4_1 = some r) ∧ Aside0 (kq ≤ k) ∧ Aside0 (Kd.R (Kd.int .u8) 5 w' w.heap.size (fun _ => True) v3 x3_1) ∧ Aside0 (Below w.heap.size w w'))
 case atStart => exact ⟨(([] : List Int)), (0), jS, H', ⟨Nat.le_refl _⟩, ⟨by first | exact Kd.R_nil _ _ _ _ _ | exact Kd.N_nil _ _ _ _ _ | exact Kd.V_nil _ _ _ _ _ | exact Kd.Q_nil _ _ _ _ _ | exact Kd.S_nil _ _ _ _ _⟩, ⟨jH HB⟩⟩
 case round =>
  clear H'
  obtain ⟨x3_1, x4_1, rfl, HA, HK1, HO_3, HB⟩ := hrel
  cases gk with
  | zero => exact absurd HA.out (by simp [r03_Encode.l0])
  | succ k1 =>
   have H := HA.out
   clear HA
   simp only [r03_Encode.l0] at H
   by_cases c2 : x4_1 < (l0.length : Int)
   ·rw [if_pos c2] at H
    have c2b0 := dT c2
    clear c2
    by_cases c3 : 0 ≤ x4_1
    ·rw [if_pos c3] at H
     have c3b0 := dT c3
     clear c3
     replace H := Option.bind_eq_some_iff.mp H
     obtain ⟨t449, A40, H⟩ := H
     try dsimp only at H
     have A4 := Aside0.mk A40
     clear A40
     by_cases c5 : x3_1.length + t449.length < 140737488355328
     ·rw [if_pos c5] at H
      have LMc5 := Aside0.mk c5
      clear c5
      obtain ⟨y452, hy452⟩ : ∃ y_ : List Int, y_ = (x3_1 ++ t449) := ⟨_, rfl⟩
      simp only [Option.bind_some, ← hy452] at H
      have Ny452 := Aside0.mk hy452
      clear hy452
      have H' := Aside0.mk H
      clear H
      have p448 : 0 ≤ (x4_1 : Int) := oD (jA)
      have q448 : x4_1 < (l0.length : Int) := oD (jA)
      obtain ⟨ad448, e448, hx448_0, hx448_1, hx448_2, hx448_3⟩ := at_T59 HR0.out x4_1 p448 q448
      cases e448
      replace hx448_0 := (HB.out.cell (bL w _ hx448_0)).trans hx448_0
      replace hx448_1 := (HB.out.cell (bL w _ hx448_1)).trans hx448_1
      replace hx448_2 := (HB.out.cell (bL w _ hx448_2)).trans hx448_2
      replace hx448_3 := (HB.out.cell (bL w _ hx448_3)).trans hx448_3
      replace p448 := eq_true p448
      replace q448 := eq_true q448
      go_wp2_with (first | ((with_reducible refine gate_callee (f := 52) rfl ?_); refine goesL_ (some 16) rfl rfl Tryd.func52 (by kernel_rfl) rfl #[.agg #[.int .i64 ((rd_T59 l0 x4_1).f0), .int .i64 ((rd_T59 l0 x4_1).f1), .int .i64 ((rd_T59 l0 x4_1).f2), .int .u32 ((rd_T59 l0 x4_1).f3)]] rfl jZ ?_; (with_reducible refine (r03_One.calls ((rd_T59 l0 x4_1).f0) ((rd_T59 l0 x4_1).f1) ((rd_T59 l0 x4_1).f2) ((rd_T59 l0 x4_1).f3) t449 _ A4.out).mono ?_); rintro e w6 ⟨v450, rfl, ho0, hb⟩; refine ⟨_, rfl, ?_⟩; have HO451 := Aside0.mk (Kd.R_lower (Kd.R_new' ho0 (Kd.R_lt (jR HO_3))) (zZ (jH HB))); replace HO_3 := Aside0.mk (Kd.R_elder' (jR HO_3) (Kd.R_base ho0) hb); replace HB := Aside0.mk (zT (jH HB) hb); (try clear hb); (try clear hb2); (try clear hk); (try clear hi); (try clear ho0); obtain ⟨Ao8, co8, eo8⟩ := Kd.R_slice HO451.out; subst eo8) | ((with_reducible refine gate_builtin (b := .append) (xs := #[.tmp 11, .tmp 16]) rfl ?_); at_builtin; refine Kd.R_append_rows (Kd.int .u8) (w0 := w) w.heap.size rfl (.tmp 11) (.tmp 16) 25 5 (.int .u8 0) 1 rfl Tryd.underlying25 info5 rfl (by decide) (by omega) u3 x3_1 t449 _ _ _ (fun k_ => some k_ ≠ (.slice Ao8 t449.length co8 : Value).ownBlock) (fun _ => False) rfl rfl ?aO ?aR (fun _ _ h => h) (fun _ h => h.elim) ?aF ?aB ?aS ?aL ?_; (case aR => repeat (first | exact (Kd.R_reads' HO451.out).2.2 | (with_reducible refine Kd.C_alloc ?_ _) | (with_reducible refine Kd.C_drewN ?_ _) | (with_reducible refine Kd.C_drew ?_))); (case aB => exact (jH HB)); (case aF => exact (fun k_ hk => Kd.fresh' (Kd.R_lt (jR HO451)) k_ hk)); (case aO => exact (by (with_reducible repeat (first | apply Kd.R_alloc | apply Kd.R_drewN | apply Kd.R_drew)); exact Kd.R_mono HO_3.out (fun _ hk => hk.2))); (case aS => exact (zZ (jH HB))); (case aL => have := LMc5.out; omega); intro v453 w7 ho hb hg hat; rw [← Ny452.out] at ho; have HO454 := Aside0.mk (ho); replace HO451 := Aside0.mk (Kd.R_after (ok := (fun _ => True)) (jR HO451) hg hat); replace HB := Aside0.mk (hb); clear HO_3; clear ho hb hg hat))
      go_roundg k1
      case measure => have := HK1.out; omega
      case rel => exact ⟨(y452), (wrap64 (x4_1 + 1)), jS, H', ⟨by have := HK1.out; omega⟩, ⟨by (with_reducible repeat (first | apply Kd.R_alloc | apply Kd.R_drewN | apply Kd.R_drew)); exact Kd.R_mono HO454.out (fun _ hk => trivial)⟩, ⟨jH HB⟩⟩
     ·rw [if_neg c5] at H
      exact absurd H (by simp)
    ·rw [if_neg c3] at H
     exact absurd H (by simp)
   ·rw [if_neg c2] at H
    have c2b0 := dF c2
    clear c2
    obtain rfl := Option.some.inj H
    go_wp2
    go_ret
    exact ⟨_, jE, by (with_reducible repeat (first | apply Kd.R_alloc | apply Kd.R_drewN | apply Kd.R_drew)); exact HO_3.out, jH HB⟩
def r21_Bytes.f (k : Nat) (l0_0 : List (S59)) (l0_1 : List (S59)) (a0_2 : Int) : Option (List Int) := (some (([(Int.tmod a0_2 256) % 256, ((Int.tdiv a0_2 256) % 4294967296) % 256, ((Int.tdiv a0_2 65536) % 4294967296) % 256, ((Int.tdiv a0_2 16777216) % 4294967296) % 256, ((l0_0.length : Int)) % 256, ((l0_1.length : Int)) % 256] : List Int) : List Int)).bind fun y456 => ((r03_Encode.f k l0_0).bind fun t459 => (if y456.length + t459.length < 140737488355328 then ((some (y456 ++ t459 : List Int)).bind fun y462 => ((r03_Encode.f k l0_1).bind fun t465 => (if y462.length + t465.length < 140737488355328 then (some (y462 ++ t465)) else (none)))) else (none)))
def r21_Bytes.T3 : Bool × List (List Nat × List Nat) := (true, [([], []), ([], []), ([1], [1]), ([2], [2]), ([0, 3, 3], [0, 3]), ([], []), ([5], [5]), ([6, 4], [6]), ([4, 7, 7], [4, 7]), ([8, 8, 0, 1, 2, 3, 4, 5, 6, 7, 8], [8])])
def r21_Bytes.B3 : List Nat := [0, 0, 2, 6, 15, 0, 32, 127, 255, 511]
theorem r21_Bytes.tab3 : rtab .any (opsOf Tryd.f31 3) = r21_Bytes.T3 := by kernel_rfl
theorem r21_Bytes.bits3 : waitsOk r21_Bytes.T3.2 r21_Bytes.B3 = true := by kernel_rfl
set_option maxHeartbeats 8000000 in
set_option maxRecDepth 100000 in
theorem r21_Bytes.calls (k : Nat) (A0_0 : Option Addr) (c0_0 : Nat) (l0_0 : List (S59)) (A0_1 : Option Addr) (c0_1 : Nat) (l0_1 : List (S59)) (a0_2 : Int) (r : List Int) (w : World) (hr0_0 : Kd.C k59 w A0_0 l0_0.length l0_0) (hc0_0 : l0_0.length ≤ c0_0) (hr0_1 : Kd.C k59 w A0_1 l0_1.length l0_1) (hc0_1 : l0_1.length ≤ c0_1) (h : r21_Bytes.f k l0_0 l0_1 a0_2 = some r) :
  Calls Tryd.prog 31 #[.agg #[.slice A0_0 l0_0.length c0_0, .slice A0_1 l0_1.length c0_1, .int .u32 a0_2]] w fun e w' => ∃ v0_ : Value, e = .returned (v0_) ∧ Kd.R (Kd.int .u8) 5 w' w.heap.size (fun _ => True) v0_ r ∧ Below w.heap.size w w' := by
 have hu45 := Tryd.underlying45
 have HR0_0 := Aside0.mk hr0_0
 have HC0_0 := Aside0.mk hc0_0
 clear hr0_0 hc0_0
 have HR0_1 := Aside0.mk hr0_1
 have HC0_1 := Aside0.mk hc0_1
 clear hr0_1 hc0_1
 have HB := Aside0.mk (Below.refl w.heap.size w)
 have H : ((some (([(Int.tmod a0_2 256) % 256, ((Int.tdiv a0_2 256) % 4294967296) % 256, ((Int.tdiv a0_2 65536) % 4294967296) % 256, ((Int.tdiv a0_2 16777216) % 4294967296) % 256, ((l0_0.length : Int)) % 256, ((l0_1.length : Int)) % 256] : List Int) : List Int)).bind fun y456 => ((r03_Encode.f k l0_0).bind fun t459 => (if y456.length + t459.length < 140737488355328 then ((some (y456 ++ t459 : List Int)).bind fun y462 => ((r03_Encode.f k l0_1).bind fun t465 => (if y462.length + t465.length < 140737488355328 then (some (y462 ++ t465)) else (none)))) else (none)))) = some r := h
 clear h
 obtain ⟨y456, hy456⟩ : ∃ y_ : List Int, y_ = (([(Int.tmod a0_2 256) % 256, ((Int.tdiv a0_2 256) % 4294967296) % 256, ((Int.tdiv a0_2 65536) % 4294967296) % 256, ((Int.tdiv a0_2 16777216) % 4294967296) % 256, ((l0_0.length : Int)) % 256, ((l0_1.length : Int)) % 256] : List Int)) := ⟨_, rfl⟩
 simp only [Option.bind_some, ← hy456] at H
 have Ny456 := Aside0.mk hy456
 clear hy456
 replace H := Option.bind_eq_some_iff.mp H
 obtain ⟨t459, A20, H⟩ := H
 try dsimp only at H
 have A2 := Aside0.mk A20
 clear A20
 by_cases c3 : y456.length + t459.length < 140737488355328
 ·rw [if_pos c3] at H
  have LMc3 := Aside0.mk c3
  clear c3
  obtain ⟨y462, hy462⟩ : ∃ y_ : List Int, y_ = (y456 ++ t459) := ⟨_, rfl⟩
  simp only [Option.bind_some, ← hy462] at H
  have Ny462 := Aside0.mk hy462
  clear hy462
  replace H := Option.bind_eq_some_iff.mp H
  obtain ⟨t465, A40, H⟩ := H
  try dsimp only at H
  have A4 := Aside0.mk A40
  clear A40
  by_cases c5 : y462.length + t465.length < 140737488355328
  ·rw [if_pos c5] at H
   have LMc5 := Aside0.mk c5
   clear c5
   obtain ⟨y468, hy468⟩ : ∃ y_ : List Int, y_ = (y462 ++ t465) := ⟨_, rfl⟩
   simp only [Option.bind_some, ← hy468] at H
   have Ny468 := Aside0.mk hy468
   clear hy468
   obtain rfl := Option.some.inj H
   go_enter Tryd.func31, Tryd.ntmps31
   try go_wp2_with (first | ((with_reducible refine gate_dst (N := 1) rfl ?_); refine box_event rfl (N := 1) rfl (cs := #[.slice A0_0 l0_0.length c0_0, .slice A0_1 l0_1.length c0_1, .int .u32 a0_2]) (t := 45) jW ?_; intro gb455 hg w6 hbox hb; have BK455 := Aside0.mk hbox; have GW455 := Aside0.mk (jG hg HB); have GE455 := Aside0.mk (jG hg HB); replace HB := Aside0.mk (zT (jH HB) hb); clear hb hbox hg; obtain ⟨hcz7_0, hcz7_1, hcz7_2, hfz7_0, hfz7_1, hfz7_2⟩ := kQ3 BK455.out) | ((with_reducible refine gate_dst (N := 29) rfl ?_); refine Kd.R_lit (Kd.int .u8) _ 5 ?hg (N := 29) ?hd (xs := ([(Int.tmod a0_2 256) % 256, ((Int.tdiv a0_2 256) % 4294967296) % 256, ((Int.tdiv a0_2 65536) % 4294967296) % 256, ((Int.tdiv a0_2 16777216) % 4294967296) % 256, ((l0_0.length : Int)) % 256, ((l0_1.length : Int)) % 256] : List Int)) (inner := [.int .u8 ((Int.tmod a0_2 256) % 256), .int .u8 (((Int.tdiv a0_2 256) % 4294967296) % 256), .int .u8 (((Int.tdiv a0_2 65536) % 4294967296) % 256), .int .u8 (((Int.tdiv a0_2 16777216) % 4294967296) % 256), .int .u8 (((l0_0.length : Int)) % 256), .int .u8 (((l0_1.length : Int)) % 256)]) (ok := fun _ => True) (okp := fun _ => True) ?hr ?hp (fun _ hk => hk) trivial (Below.refl _ _) (Nat.le_refl _) (by simp) ?_; (case hd => rfl); (case hg => rfl); (case hr => first | (go_simp; done) | (go_simp; rfl)); (case hp => exact (Reps.one (show Kd.M (Kd.int .u8) _ _ _ ((Int.tmod a0_2 256) % 256) [.int .u8 ((Int.tmod a0_2 256) % 256)] from rfl) (Reps.one (show Kd.M (Kd.int .u8) _ _ _ (((Int.tdiv a0_2 256) % 4294967296) % 256) [.int .u8 (((Int.tdiv a0_2 256) % 4294967296) % 256)] from rfl) (Reps.one (show Kd.M (Kd.int .u8) _ _ _ (((Int.tdiv a0_2 65536) % 4294967296) % 256) [.int .u8 (((Int.tdiv a0_2 65536) % 4294967296) % 256)] from rfl) (Reps.one (show Kd.M (Kd.int .u8) _ _ _ (((Int.tdiv a0_2 16777216) % 4294967296) % 256) [.int .u8 (((Int.tdiv a0_2 16777216) % 4294967296) % 256)] from rfl) (Reps.one (show Kd.M (Kd.int .u8) _ _ _ (((l0_0.length : Int)) % 256) [.int .u8 (((l0_0.length : Int)) % 256)] from rfl) (Reps.one (show Kd.M (Kd.int .u8) _ _ _ (((l0_1.length : Int)) % 256) [.int .u8 (((l0_1.length : Int)) % 256)] from rfl) (Reps.none _ _)))))))); intro v457 w8 ho9 hb hg_ hnew_; clear hg_ hnew_; (first | rw [← Ny456.out] at ho9 | (simp only [Int.reduceToNat] at ho9; rw [← Ny456.out] at ho9)); have HO458 := Aside0.mk (Kd.R_lower ho9 (zZ (jH HB))); replace BK455 := Aside0.mk (jB BK455 hb); replace HB := Aside0.mk (zT (jH HB) hb); clear hb ho9))
   replace HO458 := Aside0.mk (Kd.R_drew HO458.out)
   replace BK455 := Aside0.mk (kD BK455.out)
   replace HB := Aside0.mk (zD HB.out)
   refine start_ (n := 10) (S := fun w' => w'.cell? ⟨gb455, 0, none⟩ = some (.slice A0_0 l0_0.length c0_0) ∧ w'.cell? ⟨gb455, 1, none⟩ = some (.slice A0_1 l0_1.length c0_1) ∧ w'.cell? ⟨gb455, 2, none⟩ = some (.int .u32 a0_2)) (ds := []) #[false, false, false, false, false, false, false, false, false, false] (by kernel_rfl) rfl rfl ⟨(kC BK455.out 0).trans rfl, (kC BK455.out 1).trans rfl, (kC BK455.out 2).trans rfl⟩ (fun hHeld => ?_); refine with_tabW r21_Bytes.tab3 r21_Bytes.bits3 (fun HT_ HW_ => ?_)
   generalize w8.drew = w10 at HO458 BK455 HB hHeld ⊢
   refine qP 0 30 (tB 10 1) ?_
   refine qP 1 31 (tB 10 3) ?_
   refine qP 5 35 (tB 10 35) ?_
   refine qT 2 32 (tB 10 39) hHeld ?_ (hv := by rintro w' ⟨s0, s1, s2⟩; go_simp; with_reducible rfl)
   refine qT 6 36 (tB 10 103) hHeld ?_ (hv := by rintro w' ⟨s0, s1, s2⟩; go_simp; with_reducible rfl)
   refine one_ (i := 3) (N := some 33) (tB 10 111) rfl rfl (one_of HT_.out (by kernel_rfl)) (by decide) (fun K hK => ?_)
   refine goes_ Tryd.func43 (by kernel_rfl) rfl #[.slice A0_0 l0_0.length c0_0] (by rfl) rfl rfl jZ ?_
   with_reducible refine (r03_Encode.calls k _ _ l0_0 t459 _ ?side1 ?side2 A2.out).mono ?_
   (case side1 => exact jC (Kd.C_below HR0_0.out HB.out))
   (case side2 => exact HC0_0.out)
   rintro e w11 ⟨v460, rfl, ho0, hb⟩
   refine ⟨_, rfl, ?_⟩
   have HO461 := Aside0.mk (Kd.R_lower (Kd.R_new' ho0 (Kd.R_lt (jR HO458))) (zZ (jH HB)))
   replace HO458 := Aside0.mk (Kd.R_elder' (jR HO458) (Kd.R_base ho0) hb)
   replace BK455 := Aside0.mk (jB BK455 hb)
   replace HB := Aside0.mk (zT (jH HB) hb)
   (try clear hb)
   (try clear hb2)
   (try clear hk)
   (try clear hi)
   (try clear ho0)
   obtain ⟨Ao13, co13, eo13⟩ := Kd.R_slice HO461.out
   (first | subst eo13 | (injection eo13 with f1_ f2_ f3_; have f4_ := f1_.symm; have f5_ := f3_.symm; clear f1_ f2_ f3_; subst f4_; subst f5_))
   refine hK.out _ _ ⟨(kC BK455.out 0).trans rfl, (kC BK455.out 1).trans rfl, (kC BK455.out 2).trans rfl⟩ (fun hHeld => ?_)
   clear hK K
   refine qN 33 ?_
   refine one_ (i := 4) (N := some 34) (tB 10 127) rfl rfl (one_of HT_.out (by kernel_rfl)) (by decide) (fun K hK => ?_)
   refine Kd.R_append_rows_step (Kd.int .u8) (w0 := w) w.heap.size (by rfl) (.tmp 30) (.tmp 33) 25 5 (.int .u8 0) 1 rfl Tryd.underlying25 info5 rfl (by decide) (by omega) v457 y456 t459 _ _ _ (fun k_ => some k_ ≠ (.slice Ao13 t459.length co13 : Value).ownBlock) (fun _ => False) rfl rfl ?aO ?aR (fun _ _ h => h) (fun _ h => h.elim) ?aF ?aB ?aS ?aL ?_
   (case aR => repeat (first | exact (Kd.R_reads' HO461.out).2.2 | (with_reducible refine Kd.C_alloc ?_ _) | (with_reducible refine Kd.C_drewN ?_ _) | (with_reducible refine Kd.C_drew ?_)))
   (case aB => exact (jH HB))
   (case aF => exact (fun k_ hk => Kd.fresh' (Kd.R_lt (jR HO461)) k_ hk))
   (case aO => exact (by (with_reducible repeat (first | apply Kd.R_alloc | apply Kd.R_drewN | apply Kd.R_drew)); exact Kd.R_mono HO458.out (fun _ hk => hk.2)))
   (case aS => exact (zZ (jH HB)))
   (case aL => have := LMc3.out; omega)
   intro v463 w12 ho hb hg hat
   rw [← Ny462.out] at ho
   have HO464 := Aside0.mk (ho)
   replace BK455 := Aside0.mk (kG (g := gb455) (o := .cells #[.slice A0_0 l0_0.length c0_0, .slice A0_1 l0_1.length c0_1, .int .u32 a0_2] 45 (0, 0)) (jK BK455) hg (Kd.R_ne HO458.out BK455.out (by decide)))
   replace HO461 := Aside0.mk (Kd.R_after (ok := (fun _ => True)) (jR HO461) hg hat)
   replace HB := Aside0.mk (hb)
   clear HO458
   clear ho hb hg hat
   refine hK.out _ _ ⟨(kC BK455.out 0).trans rfl, (kC BK455.out 1).trans rfl, (kC BK455.out 2).trans rfl⟩ (fun hHeld => ?_)
   clear hK K
   refine qN 34 ?_
   refine one_ (i := 7) (N := some 37) (tB 10 255) rfl rfl (one_of HT_.out (by kernel_rfl)) (by decide) (fun K hK => ?_)
   refine goes_ Tryd.func43 (by kernel_rfl) rfl #[.slice A0_1 l0_1.length c0_1] (by rfl) rfl rfl jZ ?_
   with_reducible refine (r03_Encode.calls k _ _ l0_1 t465 _ ?side1 ?side2 A4.out).mono ?_
   (case side1 => exact jC (Kd.C_below HR0_1.out HB.out))
   (case side2 => exact HC0_1.out)
   rintro e w14 ⟨v466, rfl, ho0, hb⟩
   refine ⟨_, rfl, ?_⟩
   have HO467 := Aside0.mk (Kd.R_lower (Kd.R_new' (Kd.R_new' ho0 (Kd.R_lt (jR HO461))) (Kd.R_lt (jR HO464))) (zZ (jH HB)))
   replace HO461 := Aside0.mk (Kd.R_elder' (jR HO461) (Kd.R_base ho0) hb)
   replace HO464 := Aside0.mk (Kd.R_elder' (jR HO464) (Kd.R_base ho0) hb)
   replace BK455 := Aside0.mk (jB BK455 hb)
   replace HB := Aside0.mk (zT (jH HB) hb)
   (try clear hb)
   (try clear hb2)
   (try clear hk)
   (try clear hi)
   (try clear ho0)
   obtain ⟨Ao16, co16, eo16⟩ := Kd.R_slice HO467.out
   (first | subst eo16 | (injection eo16 with f1_ f2_ f3_; have f4_ := f1_.symm; have f5_ := f3_.symm; clear f1_ f2_ f3_; subst f4_; subst f5_))
   refine hK.out _ _ ⟨(kC BK455.out 0).trans rfl, (kC BK455.out 1).trans rfl, (kC BK455.out 2).trans rfl⟩ (fun hHeld => ?_)
   clear hK K
   refine qN 37 ?_
   refine one_ (i := 8) (N := some 38) (tB 10 511) rfl rfl (one_of HT_.out (by kernel_rfl)) (by decide) (fun K hK => ?_)
   refine Kd.R_append_rows_step (Kd.int .u8) (w0 := w) w.heap.size (by rfl) (.tmp 34) (.tmp 37) 25 5 (.int .u8 0) 1 rfl Tryd.underlying25 info5 rfl (by decide) (by omega) v463 y462 t465 _ _ _ (fun k_ => some k_ ≠ (.slice Ao13 t459.length co13 : Value).ownBlock ∧ some k_ ≠ (.slice Ao16 t465.length co16 : Value).ownBlock) (fun _ => False) rfl rfl ?aO ?aR (fun _ _ h => h) (fun _ h => h.elim) ?aF ?aB ?aS ?aL ?_
   (case aR => repeat (first | exact (Kd.R_reads' HO467.out).2.2 | (with_reducible refine Kd.C_alloc ?_ _) | (with_reducible refine Kd.C_drewN ?_ _) | (with_reducible refine Kd.C_drew ?_)))
   (case aB => exact (jH HB))
   (case aF => exact (fun k_ hk => ⟨Kd.fresh' (Kd.R_lt (jR HO461)) k_ hk, Kd.fresh' (Kd.R_lt (jR HO467)) k_ hk⟩))
   (case aO => exact (jR HO464))
   (case aS => exact (zZ (jH HB)))
   (case aL => have := LMc5.out; omega)
   intro v469 w15 ho hb hg hat
   rw [← Ny468.out] at ho
   have HO470 := Aside0.mk (ho)
   replace BK455 := Aside0.mk (kG (g := gb455) (o := .cells #[.slice A0_0 l0_0.length c0_0, .slice A0_1 l0_1.length c0_1, .int .u32 a0_2] 45 (0, 0)) (jK BK455) hg (Kd.R_ne HO464.out BK455.out (by decide)))
   replace HO461 := Aside0.mk (Kd.R_after (ok := (fun k_ => some k_ ≠ (.slice Ao16 t465.length co16 : Value).ownBlock)) (by (with_reducible repeat (first | apply Kd.R_alloc | apply Kd.R_drewN | apply Kd.R_drew)); exact Kd.R_mono HO461.out (fun _ hk => ⟨hk.2, hk.1.2⟩)) hg hat)
   replace HO467 := Aside0.mk (Kd.R_after (ok := (fun k_ => some k_ ≠ (.slice Ao13 t459.length co13 : Value).ownBlock)) (by (with_reducible repeat (first | apply Kd.R_alloc | apply Kd.R_drewN | apply Kd.R_drew)); exact Kd.R_mono HO467.out (fun _ hk => ⟨hk.1.2, hk.2⟩)) hg hat)
   replace HB := Aside0.mk (hb)
   clear HO464
   clear ho hb hg hat
   refine hK.out _ _ ⟨(kC BK455.out 0).trans rfl, (kC BK455.out 1).trans rfl, (kC BK455.out 2).trans rfl⟩ (fun hHeld => ?_)
   clear hK K
   refine qN 38 ?_
   refine qP 9 2 (tB 10 1023) ?_
   refine done_ (done_of HT_.out (by kernel_rfl)) ?_
   try go_wp2
   go_ret
   exact ⟨_, jE, by (with_reducible repeat (first | apply Kd.R_alloc | apply Kd.R_drewN | apply Kd.R_drew)); exact Kd.R_mono HO470.out (fun _ hk => trivial), jH HB⟩
  ·rw [if_neg c5] at H
   exact absurd H (by simp)
 ·rw [if_neg c3] at H
  exact absurd H (by simp)
def r21_Right.l0 : Nat → List (S45) → Int → Option (Bool)
 | 0, _, _ => none
 | k + 1, x0, x3 => if x3 < (x0.length : Int) then (if 0 ≤ x3 then ((r21_May.f k ((rd_T45 x0 x3).f0) ((rd_T45 x0 x3).f1) ((rd_T45 x0 x3).f2)).bind fun t472 => (if t472 = true then (if x3 > 0 then (if 0 ≤ (wrap64 (x3 - 1)) then (if (wrap64 (x3 - 1)) < (x0.length : Int) then ((r21_Bytes.f k ((rd_T45 x0 (wrap64 (x3 - 1))).f0) ((rd_T45 x0 (wrap64 (x3 - 1))).f1) ((rd_T45 x0 (wrap64 (x3 - 1))).f2)).bind fun t474 => ((r21_Bytes.f k ((rd_T45 x0 x3).f0) ((rd_T45 x0 x3).f1) ((rd_T45 x0 x3).f2)).bind fun t478 => ((r21_less.f k t474 t478).bind fun t481 => (if t481 = true then (r21_Right.l0 k x0 (wrap64 (x3 + 1))) else (some false))))) else (none)) else (none)) else (r21_Right.l0 k x0 (wrap64 (x3 + 1)))) else (some false))) else (none)) else (some (decide ((x0.length : Int) ≤ 64)))
def r21_Right.f (k : Nat) (l0 : List (S45)) : Option (Bool) := r21_Right.l0 k l0 0
def r21_Right.T4 : Bool × List (List Nat × List Nat) := (true, [([], []), ([], []), ([0, 1], [0, 1]), ([2], [2]), ([3], [3]), ([4], [4]), ([5, 4], [5]), ([6], [6]), ([7, 6], [6, 7]), ([8, 6, 6], [6, 8]), ([9], [9]), ([9], [9]), ([11, 9], [9, 11]), ([10, 12, 9], [9, 10, 12]), ([13, 9], [9, 13]), ([14, 9, 9], [9, 14]), ([9], [9]), ([9], [9]), ([16, 17, 9], [9, 16, 17]), ([18, 9], [9, 18]), ([19, 15, 9], [9, 19]), ([15, 20, 20, 9], [9, 15, 20]), ([21, 9], [9, 21]), ([9, 22, 6], [6, 9, 22]), ([6, 23], [6, 23])])
def r21_Right.B4 : List Nat := [0, 0, 3, 7, 15, 31, 63, 127, 255, 511, 1023, 1023, 3071, 8191, 16383, 32767, 1023, 1023, 197631, 459775, 1048575, 2097151, 4194303, 8388607, 16777215]
theorem r21_Right.tab4 : rtab .any (opsOf Tryd.f13 4) = r21_Right.T4 := by kernel_rfl
theorem r21_Right.bits4 : waitsOk r21_Right.T4.2 r21_Right.B4 = true := by kernel_rfl
set_option maxHeartbeats 8000000 in
set_option maxRecDepth 100000 in
theorem r21_Right.calls (k : Nat) (A0 : Option Addr) (c0 : Nat) (l0 : List (S45)) (r : Bool) (w : World) (hr0 : Kd.C k45 w A0 l0.length l0) (hc0 : l0.length ≤ c0) (h : r21_Right.f k l0 = some r) :
  Calls Tryd.prog 13 #[.slice A0 l0.length c0] w fun e w' => e = .returned (.bool r) ∧ Below w.heap.size w w' := by
 have hu45 := Tryd.underlying45
 have HR0 := Aside0.mk hr0
 have HC0 := Aside0.mk hc0
 clear hr0 hc0
 have HB := Aside0.mk (Below.refl w.heap.size w)
 have H : (r21_Right.l0 k l0 0) = some r := h
 clear h
 have H' := Aside0.mk H
 clear H
 go_enter Tryd.func13, Tryd.ntmps13
 go_wp2
 go_loopg [3] k (fun kq v3 w' => ∃ (x3_1 : Int), v3 = .int .i64 x3_1 ∧ Aside0 (r21_Right.l0 kq l0 x3_1 = some r) ∧ Aside0 (kq ≤ k) ∧ Aside0 (Below w.heap.size w w'))
 case atStart => exact ⟨(0), jS, H', ⟨Nat.le_refl _⟩, ⟨jH HB⟩⟩
 case round =>
  clear H'
  obtain ⟨x3_1, rfl, HA, HK1, HB⟩ := hrel
  cases gk with
  | zero => exact absurd HA.out (by simp [r21_Right.l0])
  | succ k1 =>
   have H := HA.out
   clear HA
   simp only [r21_Right.l0] at H
   by_cases c2 : x3_1 < (l0.length : Int)
   ·rw [if_pos c2] at H
    have c2b0 := dT c2
    clear c2
    by_cases c3 : 0 ≤ x3_1
    ·rw [if_pos c3] at H
     have c3b0 := dT c3
     clear c3
     replace H := Option.bind_eq_some_iff.mp H
     obtain ⟨t472, A40, H⟩ := H
     try dsimp only at H
     have A4 := Aside0.mk A40
     clear A40
     by_cases c5 : t472 = true
     ·subst c5
      rw [if_pos rfl] at H
      by_cases c6 : x3_1 > 0
      ·rw [if_pos c6] at H
       have c6b0 : decide (0 < x3_1) = true := dT c6
       clear c6
       obtain ⟨ji7, hji7⟩ : ∃ j_ : Int, (wrap64 (x3_1 - 1)) = j_ := ⟨_, rfl⟩
       first | rw [hji7] at H | simp only [hji7] at H
       (try rw [hji7] at A4)
       have hji7w : (IntKind.i64.wrap (x3_1 - 1)) = ji7 := (i64_w _).trans hji7
       by_cases c8 : 0 ≤ (ji7)
       ·rw [if_pos c8] at H
        have c8b0 := dT c8
        clear c8
        by_cases c9 : (ji7) < (l0.length : Int)
        ·rw [if_pos c9] at H
         have c9b0 := dT c9
         clear c9
         replace H := Option.bind_eq_some_iff.mp H
         obtain ⟨t474, A100, H⟩ := H
         try dsimp only at H
         have A10 := Aside0.mk A100
         clear A100
         replace H := Option.bind_eq_some_iff.mp H
         obtain ⟨t478, A110, H⟩ := H
         try dsimp only at H
         have A11 := Aside0.mk A110
         clear A110
         replace H := Option.bind_eq_some_iff.mp H
         obtain ⟨t481, A120, H⟩ := H
         try dsimp only at H
         have A12 := Aside0.mk A120
         clear A120
         by_cases c13 : t481 = true
         ·subst c13
          rw [if_pos rfl] at H
          have H' := Aside0.mk H
          clear H
          try go_wp2
          replace HB := Aside0.mk (zD HB.out)
          have p471 : 0 ≤ (x3_1 : Int) := oD (jA)
          have q471 : x3_1 < (l0.length : Int) := oD (jA)
          obtain ⟨ad471, A471_0, c471_0, A471_1, c471_1, e471, hx471_0, hx471_1, hx471_2, hl471_0, hi471_0, hl471_1, hi471_1⟩ := at_T45 HR0.out x3_1 p471 q471
          have hw471_2 := hx471_2
          have hw471_1 := hx471_1
          have hw471_0 := hx471_0
          cases e471
          replace hx471_0 := (HB.out.cell (bL w _ hx471_0)).trans hx471_0
          replace hx471_1 := (HB.out.cell (bL w _ hx471_1)).trans hx471_1
          replace hx471_2 := (HB.out.cell (bL w _ hx471_2)).trans hx471_2
          have HR471_0 := Aside0.mk hi471_0
          have HC471_0 := Aside0.mk hl471_0
          clear hi471_0 hl471_0
          have HR471_1 := Aside0.mk hi471_1
          have HC471_1 := Aside0.mk hl471_1
          clear hi471_1 hl471_1
          replace p471 := eq_true p471
          replace q471 := eq_true q471
          have p473 : 0 ≤ ((ji7) : Int) := oD (jA)
          have q473 : (ji7) < (l0.length : Int) := oD (jA)
          obtain ⟨ad473, A473_0, c473_0, A473_1, c473_1, e473, hx473_0, hx473_1, hx473_2, hl473_0, hi473_0, hl473_1, hi473_1⟩ := at_T45 HR0.out (ji7) p473 q473
          have hw473_2 := hx473_2
          have hw473_1 := hx473_1
          have hw473_0 := hx473_0
          obtain rfl : ad471 = ad473 := (by injection e473)
          replace hx473_0 := (HB.out.cell (bL w _ hx473_0)).trans hx473_0
          replace hx473_1 := (HB.out.cell (bL w _ hx473_1)).trans hx473_1
          replace hx473_2 := (HB.out.cell (bL w _ hx473_2)).trans hx473_2
          have HR473_0 := Aside0.mk hi473_0
          have HC473_0 := Aside0.mk hl473_0
          clear hi473_0 hl473_0
          have HR473_1 := Aside0.mk hi473_1
          have HC473_1 := Aside0.mk hl473_1
          clear hi473_1 hl473_1
          replace p473 := eq_true p473
          replace q473 := eq_true q473
          have p477 : 0 ≤ (x3_1 : Int) := oD (jA)
          have q477 : x3_1 < (l0.length : Int) := oD (jA)
          obtain ⟨ad477, A477_0, c477_0, A477_1, c477_1, e477, hx477_0, hx477_1, hx477_2, hl477_0, hi477_0, hl477_1, hi477_1⟩ := at_T45 HR0.out x3_1 p477 q477
          have hw477_2 := hx477_2
          have hw477_1 := hx477_1
          have hw477_0 := hx477_0
          obtain rfl : ad471 = ad477 := (by injection e477)
          replace hx477_0 := (HB.out.cell (bL w _ hx477_0)).trans hx477_0
          replace hx477_1 := (HB.out.cell (bL w _ hx477_1)).trans hx477_1
          replace hx477_2 := (HB.out.cell (bL w _ hx477_2)).trans hx477_2
          have HR477_0 := Aside0.mk hi477_0
          have HC477_0 := Aside0.mk hl477_0
          clear hi477_0 hl477_0
          have HR477_1 := Aside0.mk hi477_1
          have HC477_1 := Aside0.mk hl477_1
          clear hi477_1 hl477_1
          replace p477 := eq_true p477
          replace q477 := eq_true q477
          refine start_ (n := 25) (S := fun w' => w'.cell? (ad471.add ((x3_1).toNat * 3)) = some (.slice A471_0 ((rd_T45 l0 x3_1).f0).length c471_0) ∧ w'.cell? ⟨(ad471.add ((x3_1).toNat * 3)).block, (ad471.add ((x3_1).toNat * 3)).off + 1, none⟩ = some (.slice A471_1 ((rd_T45 l0 x3_1).f1).length c471_1) ∧ w'.cell? ⟨(ad471.add ((x3_1).toNat * 3)).block, (ad471.add ((x3_1).toNat * 3)).off + 2, none⟩ = some (.int .u32 ((rd_T45 l0 x3_1).f2)) ∧ w'.cell? (ad471.add (((ji7)).toNat * 3)) = some (.slice A473_0 ((rd_T45 l0 (ji7)).f0).length c473_0) ∧ w'.cell? ⟨(ad471.add (((ji7)).toNat * 3)).block, (ad471.add (((ji7)).toNat * 3)).off + 1, none⟩ = some (.slice A473_1 ((rd_T45 l0 (ji7)).f1).length c473_1) ∧ w'.cell? ⟨(ad471.add (((ji7)).toNat * 3)).block, (ad471.add (((ji7)).toNat * 3)).off + 2, none⟩ = some (.int .u32 ((rd_T45 l0 (ji7)).f2)) ∧ w'.cell? (ad471.add ((x3_1).toNat * 3)) = some (.slice A477_0 ((rd_T45 l0 x3_1).f0).length c477_0) ∧ w'.cell? ⟨(ad471.add ((x3_1).toNat * 3)).block, (ad471.add ((x3_1).toNat * 3)).off + 1, none⟩ = some (.slice A477_1 ((rd_T45 l0 x3_1).f1).length c477_1) ∧ w'.cell? ⟨(ad471.add ((x3_1).toNat * 3)).block, (ad471.add ((x3_1).toNat * 3)).off + 2, none⟩ = some (.int .u32 ((rd_T45 l0 x3_1).f2))) (ds := []) #[false, false, false, false, false, false, false, false, false, false, false, false, false, false, false, false, false, false, false, false, false, false, false, false, false] (by kernel_rfl) rfl rfl ⟨((HB.out.cell (bL w _ hw471_0)).trans hw471_0), ((HB.out.cell (bL w _ hw471_1)).trans hw471_1), ((HB.out.cell (bL w _ hw471_2)).trans hw471_2), ((HB.out.cell (bL w _ hw473_0)).trans hw473_0), ((HB.out.cell (bL w _ hw473_1)).trans hw473_1), ((HB.out.cell (bL w _ hw473_2)).trans hw473_2), ((HB.out.cell (bL w _ hw477_0)).trans hw477_0), ((HB.out.cell (bL w _ hw477_1)).trans hw477_1), ((HB.out.cell (bL w _ hw477_2)).trans hw477_2)⟩ (fun hHeld => ?_); refine with_tabW r21_Right.tab4 r21_Right.bits4 (fun HT_ HW_ => ?_)
          generalize wr.drew = w14 at HB HR471_0 HR471_1 HR473_0 HR473_1 HR477_0 HR477_1 hx471_0 hx471_1 hx471_2 hx473_0 hx473_1 hx473_2 hx477_0 hx477_1 hx477_2 hHeld ⊢
          refine qP 0 10 (tB 25 1) ?_
          refine qP 1 11 (tB 25 3) ?_
          refine qP 2 12 (tB 25 7) ?_
          refine qT 3 13 (tB 25 15) hHeld ?_ (hv := by rintro w' ⟨s0, s1, s2, s3, s4, s5, s6, s7, s8⟩; go_simp; with_reducible rfl)
          refine one_ (i := 4) (N := some 14) (tB 25 31) rfl rfl (one_of HT_.out (by kernel_rfl)) (by decide) (fun K hK => ?_)
          refine goes_ Tryd.func27 (by kernel_rfl) rfl #[.agg #[.slice A471_0 ((rd_T45 l0 x3_1).f0).length c471_0, .slice A471_1 ((rd_T45 l0 x3_1).f1).length c471_1, .int .u32 ((rd_T45 l0 x3_1).f2)]] (by rfl) rfl rfl jZ ?_
          with_reducible refine (r21_May.calls k1 _ _ ((rd_T45 l0 x3_1).f0) _ _ ((rd_T45 l0 x3_1).f1) ((rd_T45 l0 x3_1).f2) true _ ?side1 ?side2 ?side3 ?side4 A4.out).mono ?_
          (case side1 => exact jC (Kd.C_below HR471_0.out HB.out))
          (case side2 => exact HC471_0.out)
          (case side3 => exact jC (Kd.C_below HR471_1.out HB.out))
          (case side4 => exact HC471_1.out)
          rintro e w15 ⟨rfl, hb⟩
          refine ⟨_, rfl, ?_⟩
          replace HB := Aside0.mk (zT (jH HB) hb)
          (try clear hb)
          (try clear hb2)
          (try clear hk)
          (try clear hi)
          refine hK.out _ _ ⟨((HB.out.cell (bL w _ hw471_0)).trans hw471_0), ((HB.out.cell (bL w _ hw471_1)).trans hw471_1), ((HB.out.cell (bL w _ hw471_2)).trans hw471_2), ((HB.out.cell (bL w _ hw473_0)).trans hw473_0), ((HB.out.cell (bL w _ hw473_1)).trans hw473_1), ((HB.out.cell (bL w _ hw473_2)).trans hw473_2), ((HB.out.cell (bL w _ hw477_0)).trans hw477_0), ((HB.out.cell (bL w _ hw477_1)).trans hw477_1), ((HB.out.cell (bL w _ hw477_2)).trans hw477_2)⟩ (fun hHeld => ?_)
          clear hK K
          refine qN 14 ?_
          refine qP 5 15 (tB 25 63) ?_
          refine qP 6 16 (tB 25 127) ?_
          refine qP 7 17 (tB 25 255) ?_
          refine qP 8 18 (tB 25 511) ?_
          refine qP 9 19 (tB 25 1023) ?_
          refine qP 10 20 (tB 25 2047) ?_
          refine qP 11 21 (tB 25 4095) ?_
          refine qP 12 22 (tB 25 8191) ?_
          refine qP 13 23 (tB 25 16383) ?_
          refine qP 16 26 (tB 25 81919) ?_
          refine qP 17 27 (tB 25 212991) ?_
          refine qP 18 28 (tB 25 475135) ?_
          refine qT 14 24 (tB 25 491519) hHeld ?_ (hv := by rintro w' ⟨s0, s1, s2, s3, s4, s5, s6, s7, s8⟩; go_simp; with_reducible rfl)
          refine qT 19 29 (tB 25 1015807) hHeld ?_ (hv := by rintro w' ⟨s0, s1, s2, s3, s4, s5, s6, s7, s8⟩; go_simp; with_reducible rfl)
          refine one_ (i := 15) (N := some 25) (tB 25 1048575) rfl rfl (one_of HT_.out (by kernel_rfl)) (by decide) (fun K hK => ?_)
          refine goes_ Tryd.func31 (by kernel_rfl) rfl #[.agg #[.slice A473_0 ((rd_T45 l0 (ji7)).f0).length c473_0, .slice A473_1 ((rd_T45 l0 (ji7)).f1).length c473_1, .int .u32 ((rd_T45 l0 (ji7)).f2)]] (by rfl) rfl rfl (by (try simp only [List.map_toArray, List.map_cons, List.map_nil]); first | done | (simp only [hji7]; rfl) | rfl | (simp only [List.length_drop, List.length_take]; rfl)) ?_
          with_reducible refine (r21_Bytes.calls k1 _ _ ((rd_T45 l0 (ji7)).f0) _ _ ((rd_T45 l0 (ji7)).f1) ((rd_T45 l0 (ji7)).f2) t474 _ ?side1 ?side2 ?side3 ?side4 A10.out).mono ?_
          (case side1 => exact jC (Kd.C_below HR473_0.out HB.out))
          (case side2 => exact HC473_0.out)
          (case side3 => exact jC (Kd.C_below HR473_1.out HB.out))
          (case side4 => exact HC473_1.out)
          rintro e w16 ⟨v475, rfl, ho0, hb⟩
          refine ⟨_, rfl, ?_⟩
          have HO476 := Aside0.mk (Kd.R_lower ho0 (zZ (jH HB)))
          replace HB := Aside0.mk (zT (jH HB) hb)
          (try clear hb)
          (try clear hb2)
          (try clear hk)
          (try clear hi)
          (try clear ho0)
          refine hK.out _ _ ⟨((HB.out.cell (bL w _ hw471_0)).trans hw471_0), ((HB.out.cell (bL w _ hw471_1)).trans hw471_1), ((HB.out.cell (bL w _ hw471_2)).trans hw471_2), ((HB.out.cell (bL w _ hw473_0)).trans hw473_0), ((HB.out.cell (bL w _ hw473_1)).trans hw473_1), ((HB.out.cell (bL w _ hw473_2)).trans hw473_2), ((HB.out.cell (bL w _ hw477_0)).trans hw477_0), ((HB.out.cell (bL w _ hw477_1)).trans hw477_1), ((HB.out.cell (bL w _ hw477_2)).trans hw477_2)⟩ (fun hHeld => ?_)
          clear hK K
          refine qN 25 ?_
          refine one_ (i := 20) (N := some 30) (tB 25 2097151) rfl rfl (one_of HT_.out (by kernel_rfl)) (by decide) (fun K hK => ?_)
          refine goes_ Tryd.func31 (by kernel_rfl) rfl #[.agg #[.slice A471_0 ((rd_T45 l0 x3_1).f0).length c471_0, .slice A471_1 ((rd_T45 l0 x3_1).f1).length c471_1, .int .u32 ((rd_T45 l0 x3_1).f2)]] (by rfl) rfl rfl jZ ?_
          with_reducible refine (r21_Bytes.calls k1 _ _ ((rd_T45 l0 x3_1).f0) _ _ ((rd_T45 l0 x3_1).f1) ((rd_T45 l0 x3_1).f2) t478 _ ?side1 ?side2 ?side3 ?side4 A11.out).mono ?_
          (case side1 => exact jC (Kd.C_below HR471_0.out HB.out))
          (case side2 => exact HC471_0.out)
          (case side3 => exact jC (Kd.C_below HR471_1.out HB.out))
          (case side4 => exact HC471_1.out)
          rintro e w17 ⟨v479, rfl, ho0, hb⟩
          refine ⟨_, rfl, ?_⟩
          have HO480 := Aside0.mk (Kd.R_lower (Kd.R_new' ho0 (Kd.R_lt (jR HO476))) (zZ (jH HB)))
          replace HO476 := Aside0.mk (Kd.R_elder' (jR HO476) (Kd.R_base ho0) hb)
          replace HB := Aside0.mk (zT (jH HB) hb)
          (try clear hb)
          (try clear hb2)
          (try clear hk)
          (try clear hi)
          (try clear ho0)
          obtain ⟨Ao18, co18, eo18⟩ := Kd.R_slice HO476.out
          (first | subst eo18 | (injection eo18 with f1_ f2_ f3_; have f4_ := f1_.symm; have f5_ := f3_.symm; clear f1_ f2_ f3_; subst f4_; subst f5_))
          obtain ⟨Ao19, co19, eo19⟩ := Kd.R_slice HO480.out
          (first | subst eo19 | (injection eo19 with f1_ f2_ f3_; have f4_ := f1_.symm; have f5_ := f3_.symm; clear f1_ f2_ f3_; subst f4_; subst f5_))
          refine hK.out _ _ ⟨((HB.out.cell (bL w _ hw471_0)).trans hw471_0), ((HB.out.cell (bL w _ hw471_1)).trans hw471_1), ((HB.out.cell (bL w _ hw471_2)).trans hw471_2), ((HB.out.cell (bL w _ hw473_0)).trans hw473_0), ((HB.out.cell (bL w _ hw473_1)).trans hw473_1), ((HB.out.cell (bL w _ hw473_2)).trans hw473_2), ((HB.out.cell (bL w _ hw477_0)).trans hw477_0), ((HB.out.cell (bL w _ hw477_1)).trans hw477_1), ((HB.out.cell (bL w _ hw477_2)).trans hw477_2)⟩ (fun hHeld => ?_)
          clear hK K
          refine qN 30 ?_
          refine one_ (i := 21) (N := some 31) (tB 25 4194303) rfl rfl (one_of HT_.out (by kernel_rfl)) (by decide) (fun K hK => ?_)
          refine goes_ Tryd.func30 (by kernel_rfl) rfl #[.slice Ao18 t474.length co18, .slice Ao19 t478.length co19] (by rfl) rfl rfl jZ ?_
          with_reducible refine (r21_less.calls k1 _ _ t474 _ _ t478 true _ ?side1 ?side2 ?side3 ?side4 A12.out).mono ?_
          (case side1 => exact jC (Kd.R_reads' HO476.out).2.2)
          (case side2 => exact (Kd.R_reads' HO476.out).2.1)
          (case side3 => exact jC (Kd.R_reads' HO480.out).2.2)
          (case side4 => exact (Kd.R_reads' HO480.out).2.1)
          rintro e w' ⟨rfl, ⟨nd, rfl⟩⟩
          refine ⟨_, rfl, ?_⟩
          refine hK.out _ _ ⟨((HB.out.cell (bL w _ hw471_0)).trans hw471_0), ((HB.out.cell (bL w _ hw471_1)).trans hw471_1), ((HB.out.cell (bL w _ hw471_2)).trans hw471_2), ((HB.out.cell (bL w _ hw473_0)).trans hw473_0), ((HB.out.cell (bL w _ hw473_1)).trans hw473_1), ((HB.out.cell (bL w _ hw473_2)).trans hw473_2), ((HB.out.cell (bL w _ hw477_0)).trans hw477_0), ((HB.out.cell (bL w _ hw477_1)).trans hw477_1), ((HB.out.cell (bL w _ hw477_2)).trans hw477_2)⟩ (fun hHeld => ?_)
          clear hK K
          refine qN 31 ?_
          refine qP 22 32 (tB 25 8388607) ?_
          refine qP 23 33 (tB 25 16777215) ?_
          refine qP 24 34 (tB 25 33554431) ?_
          refine done_ (done_of HT_.out (by kernel_rfl)) ?_
          try go_wp2
          go_roundg k1
          case measure => have := HK1.out; omega
          case rel => exact ⟨(wrap64 (x3_1 + 1)), jS, H', ⟨by have := HK1.out; omega⟩, ⟨jH HB⟩⟩
         ·replace c13 := Bool.eq_false_iff.mpr c13
          subst c13
          rw [if_neg (show ¬ (false = true) by decide)] at H
          obtain rfl := Option.some.inj H
          try go_wp2
          replace HB := Aside0.mk (zD HB.out)
          have p471 : 0 ≤ (x3_1 : Int) := oD (jA)
          have q471 : x3_1 < (l0.length : Int) := oD (jA)
          obtain ⟨ad471, A471_0, c471_0, A471_1, c471_1, e471, hx471_0, hx471_1, hx471_2, hl471_0, hi471_0, hl471_1, hi471_1⟩ := at_T45 HR0.out x3_1 p471 q471
          have hw471_2 := hx471_2
          have hw471_1 := hx471_1
          have hw471_0 := hx471_0
          cases e471
          replace hx471_0 := (HB.out.cell (bL w _ hx471_0)).trans hx471_0
          replace hx471_1 := (HB.out.cell (bL w _ hx471_1)).trans hx471_1
          replace hx471_2 := (HB.out.cell (bL w _ hx471_2)).trans hx471_2
          have HR471_0 := Aside0.mk hi471_0
          have HC471_0 := Aside0.mk hl471_0
          clear hi471_0 hl471_0
          have HR471_1 := Aside0.mk hi471_1
          have HC471_1 := Aside0.mk hl471_1
          clear hi471_1 hl471_1
          replace p471 := eq_true p471
          replace q471 := eq_true q471
          have p473 : 0 ≤ ((ji7) : Int) := oD (jA)
          have q473 : (ji7) < (l0.length : Int) := oD (jA)
          obtain ⟨ad473, A473_0, c473_0, A473_1, c473_1, e473, hx473_0, hx473_1, hx473_2, hl473_0, hi473_0, hl473_1, hi473_1⟩ := at_T45 HR0.out (ji7) p473 q473
          have hw473_2 := hx473_2
          have hw473_1 := hx473_1
          have hw473_0 := hx473_0
          obtain rfl : ad471 = ad473 := (by injection e473)
          replace hx473_0 := (HB.out.cell (bL w _ hx473_0)).trans hx473_0
          replace hx473_1 := (HB.out.cell (bL w _ hx473_1)).trans hx473_1
          replace hx473_2 := (HB.out.cell (bL w _ hx473_2)).trans hx473_2
          have HR473_0 := Aside0.mk hi473_0
          have HC473_0 := Aside0.mk hl473_0
          clear hi473_0 hl473_0
          have HR473_1 := Aside0.mk hi473_1
          have HC473_1 := Aside0.mk hl473_1
          clear hi473_1 hl473_1
          replace p473 := eq_true p473
          replace q473 := eq_true q473
          have p477 : 0 ≤ (x3_1 : Int) := oD (jA)
          have q477 : x3_1 < (l0.length : Int) := oD (jA)
          obtain ⟨ad477, A477_0, c477_0, A477_1, c477_1, e477, hx477_0, hx477_1, hx477_2, hl477_0, hi477_0, hl477_1, hi477_1⟩ := at_T45 HR0.out x3_1 p477 q477
          have hw477_2 := hx477_2
          have hw477_1 := hx477_1
          have hw477_0 := hx477_0
          obtain rfl : ad471 = ad477 := (by injection e477)
          replace hx477_0 := (HB.out.cell (bL w _ hx477_0)).trans hx477_0
          replace hx477_1 := (HB.out.cell (bL w _ hx477_1)).trans hx477_1
          replace hx477_2 := (HB.out.cell (bL w _ hx477_2)).trans hx477_2
          have HR477_0 := Aside0.mk hi477_0
          have HC477_0 := Aside0.mk hl477_0
          clear hi477_0 hl477_0
          have HR477_1 := Aside0.mk hi477_1
          have HC477_1 := Aside0.mk hl477_1
          clear hi477_1 hl477_1
          replace p477 := eq_true p477
          replace q477 := eq_true q477
          refine start_ (n := 25) (S := fun w' => w'.cell? (ad471.add ((x3_1).toNat * 3)) = some (.slice A471_0 ((rd_T45 l0 x3_1).f0).length c471_0) ∧ w'.cell? ⟨(ad471.add ((x3_1).toNat * 3)).block, (ad471.add ((x3_1).toNat * 3)).off + 1, none⟩ = some (.slice A471_1 ((rd_T45 l0 x3_1).f1).length c471_1) ∧ w'.cell? ⟨(ad471.add ((x3_1).toNat * 3)).block, (ad471.add ((x3_1).toNat * 3)).off + 2, none⟩ = some (.int .u32 ((rd_T45 l0 x3_1).f2)) ∧ w'.cell? (ad471.add (((ji7)).toNat * 3)) = some (.slice A473_0 ((rd_T45 l0 (ji7)).f0).length c473_0) ∧ w'.cell? ⟨(ad471.add (((ji7)).toNat * 3)).block, (ad471.add (((ji7)).toNat * 3)).off + 1, none⟩ = some (.slice A473_1 ((rd_T45 l0 (ji7)).f1).length c473_1) ∧ w'.cell? ⟨(ad471.add (((ji7)).toNat * 3)).block, (ad471.add (((ji7)).toNat * 3)).off + 2, none⟩ = some (.int .u32 ((rd_T45 l0 (ji7)).f2)) ∧ w'.cell? (ad471.add ((x3_1).toNat * 3)) = some (.slice A477_0 ((rd_T45 l0 x3_1).f0).length c477_0) ∧ w'.cell? ⟨(ad471.add ((x3_1).toNat * 3)).block, (ad471.add ((x3_1).toNat * 3)).off + 1, none⟩ = some (.slice A477_1 ((rd_T45 l0 x3_1).f1).length c477_1) ∧ w'.cell? ⟨(ad471.add ((x3_1).toNat * 3)).block, (ad471.add ((x3_1).toNat * 3)).off + 2, none⟩ = some (.int .u32 ((rd_T45 l0 x3_1).f2))) (ds := []) #[false, false, false, false, false, false, false, false, false, false, false, false, false, false, false, false, false, false, false, false, false, false, false, false, false] (by kernel_rfl) rfl rfl ⟨((HB.out.cell (bL w _ hw471_0)).trans hw471_0), ((HB.out.cell (bL w _ hw471_1)).trans hw471_1), ((HB.out.cell (bL w _ hw471_2)).trans hw471_2), ((HB.out.cell (bL w _ hw473_0)).trans hw473_0), ((HB.out.cell (bL w _ hw473_1)).trans hw473_1), ((HB.out.cell (bL w _ hw473_2)).trans hw473_2), ((HB.out.cell (bL w _ hw477_0)).trans hw477_0), ((HB.out.cell (bL w _ hw477_1)).trans hw477_1), ((HB.out.cell (bL w _ hw477_2)).trans hw477_2)⟩ (fun hHeld => ?_); refine with_tabW r21_Right.tab4 r21_Right.bits4 (fun HT_ HW_ => ?_)
          generalize wr.drew = w20 at HB HR471_0 HR471_1 HR473_0 HR473_1 HR477_0 HR477_1 hx471_0 hx471_1 hx471_2 hx473_0 hx473_1 hx473_2 hx477_0 hx477_1 hx477_2 hHeld ⊢
          refine qP 0 10 (tB 25 1) ?_
          refine qP 1 11 (tB 25 3) ?_
          refine qP 2 12 (tB 25 7) ?_
          refine qT 3 13 (tB 25 15) hHeld ?_ (hv := by rintro w' ⟨s0, s1, s2, s3, s4, s5, s6, s7, s8⟩; go_simp; with_reducible rfl)
          refine one_ (i := 4) (N := some 14) (tB 25 31) rfl rfl (one_of HT_.out (by kernel_rfl)) (by decide) (fun K hK => ?_)
          refine goes_ Tryd.func27 (by kernel_rfl) rfl #[.agg #[.slice A471_0 ((rd_T45 l0 x3_1).f0).length c471_0, .slice A471_1 ((rd_T45 l0 x3_1).f1).length c471_1, .int .u32 ((rd_T45 l0 x3_1).f2)]] (by rfl) rfl rfl jZ ?_
          with_reducible refine (r21_May.calls k1 _ _ ((rd_T45 l0 x3_1).f0) _ _ ((rd_T45 l0 x3_1).f1) ((rd_T45 l0 x3_1).f2) true _ ?side1 ?side2 ?side3 ?side4 A4.out).mono ?_
          (case side1 => exact jC (Kd.C_below HR471_0.out HB.out))
          (case side2 => exact HC471_0.out)
          (case side3 => exact jC (Kd.C_below HR471_1.out HB.out))
          (case side4 => exact HC471_1.out)
          rintro e w21 ⟨rfl, hb⟩
          refine ⟨_, rfl, ?_⟩
          replace HB := Aside0.mk (zT (jH HB) hb)
          (try clear hb)
          (try clear hb2)
          (try clear hk)
          (try clear hi)
          refine hK.out _ _ ⟨((HB.out.cell (bL w _ hw471_0)).trans hw471_0), ((HB.out.cell (bL w _ hw471_1)).trans hw471_1), ((HB.out.cell (bL w _ hw471_2)).trans hw471_2), ((HB.out.cell (bL w _ hw473_0)).trans hw473_0), ((HB.out.cell (bL w _ hw473_1)).trans hw473_1), ((HB.out.cell (bL w _ hw473_2)).trans hw473_2), ((HB.out.cell (bL w _ hw477_0)).trans hw477_0), ((HB.out.cell (bL w _ hw477_1)).trans hw477_1), ((HB.out.cell (bL w _ hw477_2)).trans hw477_2)⟩ (fun hHeld => ?_)
          clear hK K
          refine qN 14 ?_
          refine qP 5 15 (tB 25 63) ?_
          refine qP 6 16 (tB 25 127) ?_
          refine qP 7 17 (tB 25 255) ?_
          refine qP 8 18 (tB 25 511) ?_
          refine qP 9 19 (tB 25 1023) ?_
          refine qP 10 20 (tB 25 2047) ?_
          refine qP 11 21 (tB 25 4095) ?_
          refine qP 12 22 (tB 25 8191) ?_
          refine qP 13 23 (tB 25 16383) ?_
          refine qP 16 26 (tB 25 81919) ?_
          refine qP 17 27 (tB 25 212991) ?_
          refine qP 18 28 (tB 25 475135) ?_
          refine qT 14 24 (tB 25 491519) hHeld ?_ (hv := by rintro w' ⟨s0, s1, s2, s3, s4, s5, s6, s7, s8⟩; go_simp; with_reducible rfl)
          refine qT 19 29 (tB 25 1015807) hHeld ?_ (hv := by rintro w' ⟨s0, s1, s2, s3, s4, s5, s6, s7, s8⟩; go_simp; with_reducible rfl)
          refine one_ (i := 15) (N := some 25) (tB 25 1048575) rfl rfl (one_of HT_.out (by kernel_rfl)) (by decide) (fun K hK => ?_)
          refine goes_ Tryd.func31 (by kernel_rfl) rfl #[.agg #[.slice A473_0 ((rd_T45 l0 (ji7)).f0).length c473_0, .slice A473_1 ((rd_T45 l0 (ji7)).f1).length c473_1, .int .u32 ((rd_T45 l0 (ji7)).f2)]] (by rfl) rfl rfl (by (try simp only [List.map_toArray, List.map_cons, List.map_nil]); first | done | (simp only [hji7]; rfl) | rfl | (simp only [List.length_drop, List.length_take]; rfl)) ?_
          with_reducible refine (r21_Bytes.calls k1 _ _ ((rd_T45 l0 (ji7)).f0) _ _ ((rd_T45 l0 (ji7)).f1) ((rd_T45 l0 (ji7)).f2) t474 _ ?side1 ?side2 ?side3 ?side4 A10.out).mono ?_
          (case side1 => exact jC (Kd.C_below HR473_0.out HB.out))
          (case side2 => exact HC473_0.out)
          (case side3 => exact jC (Kd.C_below HR473_1.out HB.out))
          (case side4 => exact HC473_1.out)
          rintro e w22 ⟨v475, rfl, ho0, hb⟩
          refine ⟨_, rfl, ?_⟩
          have HO476 := Aside0.mk (Kd.R_lower ho0 (zZ (jH HB)))
          replace HB := Aside0.mk (zT (jH HB) hb)
          (try clear hb)
          (try clear hb2)
          (try clear hk)
          (try clear hi)
          (try clear ho0)
          refine hK.out _ _ ⟨((HB.out.cell (bL w _ hw471_0)).trans hw471_0), ((HB.out.cell (bL w _ hw471_1)).trans hw471_1), ((HB.out.cell (bL w _ hw471_2)).trans hw471_2), ((HB.out.cell (bL w _ hw473_0)).trans hw473_0), ((HB.out.cell (bL w _ hw473_1)).trans hw473_1), ((HB.out.cell (bL w _ hw473_2)).trans hw473_2), ((HB.out.cell (bL w _ hw477_0)).trans hw477_0), ((HB.out.cell (bL w _ hw477_1)).trans hw477_1), ((HB.out.cell (bL w _ hw477_2)).trans hw477_2)⟩ (fun hHeld => ?_)
          clear hK K
          refine qN 25 ?_
          refine one_ (i := 20) (N := some 30) (tB 25 2097151) rfl rfl (one_of HT_.out (by kernel_rfl)) (by decide) (fun K hK => ?_)
          refine goes_ Tryd.func31 (by kernel_rfl) rfl #[.agg #[.slice A471_0 ((rd_T45 l0 x3_1).f0).length c471_0, .slice A471_1 ((rd_T45 l0 x3_1).f1).length c471_1, .int .u32 ((rd_T45 l0 x3_1).f2)]] (by rfl) rfl rfl jZ ?_
          with_reducible refine (r21_Bytes.calls k1 _ _ ((rd_T45 l0 x3_1).f0) _ _ ((rd_T45 l0 x3_1).f1) ((rd_T45 l0 x3_1).f2) t478 _ ?side1 ?side2 ?side3 ?side4 A11.out).mono ?_
          (case side1 => exact jC (Kd.C_below HR471_0.out HB.out))
          (case side2 => exact HC471_0.out)
          (case side3 => exact jC (Kd.C_below HR471_1.out HB.out))
          (case side4 => exact HC471_1.out)
          rintro e w23 ⟨v479, rfl, ho0, hb⟩
          refine ⟨_, rfl, ?_⟩
          have HO480 := Aside0.mk (Kd.R_lower (Kd.R_new' ho0 (Kd.R_lt (jR HO476))) (zZ (jH HB)))
          replace HO476 := Aside0.mk (Kd.R_elder' (jR HO476) (Kd.R_base ho0) hb)
          replace HB := Aside0.mk (zT (jH HB) hb)
          (try clear hb)
          (try clear hb2)
          (try clear hk)
          (try clear hi)
          (try clear ho0)
          obtain ⟨Ao24, co24, eo24⟩ := Kd.R_slice HO476.out
          (first | subst eo24 | (injection eo24 with f1_ f2_ f3_; have f4_ := f1_.symm; have f5_ := f3_.symm; clear f1_ f2_ f3_; subst f4_; subst f5_))
          obtain ⟨Ao25, co25, eo25⟩ := Kd.R_slice HO480.out
          (first | subst eo25 | (injection eo25 with f1_ f2_ f3_; have f4_ := f1_.symm; have f5_ := f3_.symm; clear f1_ f2_ f3_; subst f4_; subst f5_))
          refine hK.out _ _ ⟨((HB.out.cell (bL w _ hw471_0)).trans hw471_0), ((HB.out.cell (bL w _ hw471_1)).trans hw471_1), ((HB.out.cell (bL w _ hw471_2)).trans hw471_2), ((HB.out.cell (bL w _ hw473_0)).trans hw473_0), ((HB.out.cell (bL w _ hw473_1)).trans hw473_1), ((HB.out.cell (bL w _ hw473_2)).trans hw473_2), ((HB.out.cell (bL w _ hw477_0)).trans hw477_0), ((HB.out.cell (bL w _ hw477_1)).trans hw477_1), ((HB.out.cell (bL w _ hw477_2)).trans hw477_2)⟩ (fun hHeld => ?_)
          clear hK K
          refine qN 30 ?_
          refine one_ (i := 21) (N := some 31) (tB 25 4194303) rfl rfl (one_of HT_.out (by kernel_rfl)) (by decide) (fun K hK => ?_)
          refine goes_ Tryd.func30 (by kernel_rfl) rfl #[.slice Ao24 t474.length co24, .slice Ao25 t478.length co25] (by rfl) rfl rfl jZ ?_
          with_reducible refine (r21_less.calls k1 _ _ t474 _ _ t478 false _ ?side1 ?side2 ?side3 ?side4 A12.out).mono ?_
          (case side1 => exact jC (Kd.R_reads' HO476.out).2.2)
          (case side2 => exact (Kd.R_reads' HO476.out).2.1)
          (case side3 => exact jC (Kd.R_reads' HO480.out).2.2)
          (case side4 => exact (Kd.R_reads' HO480.out).2.1)
          rintro e w' ⟨rfl, ⟨nd, rfl⟩⟩
          refine ⟨_, rfl, ?_⟩
          refine hK.out _ _ ⟨((HB.out.cell (bL w _ hw471_0)).trans hw471_0), ((HB.out.cell (bL w _ hw471_1)).trans hw471_1), ((HB.out.cell (bL w _ hw471_2)).trans hw471_2), ((HB.out.cell (bL w _ hw473_0)).trans hw473_0), ((HB.out.cell (bL w _ hw473_1)).trans hw473_1), ((HB.out.cell (bL w _ hw473_2)).trans hw473_2), ((HB.out.cell (bL w _ hw477_0)).trans hw477_0), ((HB.out.cell (bL w _ hw477_1)).trans hw477_1), ((HB.out.cell (bL w _ hw477_2)).trans hw477_2)⟩ (fun hHeld => ?_)
          clear hK K
          refine qN 31 ?_
          refine qP 22 32 (tB 25 8388607) ?_
          refine qP 23 33 (tB 25 16777215) ?_
          refine qP 24 34 (tB 25 33554431) ?_
          refine done_ (done_of HT_.out (by kernel_rfl)) ?_
          try go_wp2
          go_ret
          exact ⟨by first | rfl | (simp [errW_none, errW_some] <;> rfl) | (simp only [← hji7]; first | rfl | (simp [errW_none, errW_some] <;> rfl)) | (simp [*, errW_none, errW_some] <;> rfl), jH HB⟩
        ·rw [if_neg c9] at H
         exact absurd H (by simp)
       ·rw [if_neg c8] at H
        exact absurd H (by simp)
      ·rw [if_neg c6] at H
       have c6b0 : decide (0 < x3_1) = false := dF c6
       clear c6
       have H' := Aside0.mk H
       clear H
       try go_wp2
       replace HB := Aside0.mk (zD HB.out)
       have p471 : 0 ≤ (x3_1 : Int) := oD (jA)
       have q471 : x3_1 < (l0.length : Int) := oD (jA)
       obtain ⟨ad471, A471_0, c471_0, A471_1, c471_1, e471, hx471_0, hx471_1, hx471_2, hl471_0, hi471_0, hl471_1, hi471_1⟩ := at_T45 HR0.out x3_1 p471 q471
       have hw471_2 := hx471_2
       have hw471_1 := hx471_1
       have hw471_0 := hx471_0
       cases e471
       replace hx471_0 := (HB.out.cell (bL w _ hx471_0)).trans hx471_0
       replace hx471_1 := (HB.out.cell (bL w _ hx471_1)).trans hx471_1
       replace hx471_2 := (HB.out.cell (bL w _ hx471_2)).trans hx471_2
       have HR471_0 := Aside0.mk hi471_0
       have HC471_0 := Aside0.mk hl471_0
       clear hi471_0 hl471_0
       have HR471_1 := Aside0.mk hi471_1
       have HC471_1 := Aside0.mk hl471_1
       clear hi471_1 hl471_1
       replace p471 := eq_true p471
       replace q471 := eq_true q471
       refine start_ (n := 25) (S := fun w' => w'.cell? (ad471.add ((x3_1).toNat * 3)) = some (.slice A471_0 ((rd_T45 l0 x3_1).f0).length c471_0) ∧ w'.cell? ⟨(ad471.add ((x3_1).toNat * 3)).block, (ad471.add ((x3_1).toNat * 3)).off + 1, none⟩ = some (.slice A471_1 ((rd_T45 l0 x3_1).f1).length c471_1) ∧ w'.cell? ⟨(ad471.add ((x3_1).toNat * 3)).block, (ad471.add ((x3_1).toNat * 3)).off + 2, none⟩ = some (.int .u32 ((rd_T45 l0 x3_1).f2))) (ds := []) #[false, false, false, false, false, false, false, false, false, false, false, false, false, false, false, false, false, false, false, false, false, false, false, false, false] (by kernel_rfl) rfl rfl ⟨((HB.out.cell (bL w _ hw471_0)).trans hw471_0), ((HB.out.cell (bL w _ hw471_1)).trans hw471_1), ((HB.out.cell (bL w _ hw471_2)).trans hw471_2)⟩ (fun hHeld => ?_); refine with_tabW r21_Right.tab4 r21_Right.bits4 (fun HT_ HW_ => ?_)
       generalize wr.drew = w26 at HB HR471_0 HR471_1 hx471_0 hx471_1 hx471_2 hHeld ⊢
       refine qP 0 10 (tB 25 1) ?_
       refine qP 1 11 (tB 25 3) ?_
       refine qP 2 12 (tB 25 7) ?_
       refine qT 3 13 (tB 25 15) hHeld ?_ (hv := by rintro w' ⟨s0, s1, s2⟩; go_simp; with_reducible rfl)
       refine one_ (i := 4) (N := some 14) (tB 25 31) rfl rfl (one_of HT_.out (by kernel_rfl)) (by decide) (fun K hK => ?_)
       refine goes_ Tryd.func27 (by kernel_rfl) rfl #[.agg #[.slice A471_0 ((rd_T45 l0 x3_1).f0).length c471_0, .slice A471_1 ((rd_T45 l0 x3_1).f1).length c471_1, .int .u32 ((rd_T45 l0 x3_1).f2)]] (by rfl) rfl rfl jZ ?_
       with_reducible refine (r21_May.calls k1 _ _ ((rd_T45 l0 x3_1).f0) _ _ ((rd_T45 l0 x3_1).f1) ((rd_T45 l0 x3_1).f2) true _ ?side1 ?side2 ?side3 ?side4 A4.out).mono ?_
       (case side1 => exact jC (Kd.C_below HR471_0.out HB.out))
       (case side2 => exact HC471_0.out)
       (case side3 => exact jC (Kd.C_below HR471_1.out HB.out))
       (case side4 => exact HC471_1.out)
       rintro e w27 ⟨rfl, hb⟩
       refine ⟨_, rfl, ?_⟩
       replace HB := Aside0.mk (zT (jH HB) hb)
       (try clear hb)
       (try clear hb2)
       (try clear hk)
       (try clear hi)
       refine hK.out _ _ ⟨((HB.out.cell (bL w _ hw471_0)).trans hw471_0), ((HB.out.cell (bL w _ hw471_1)).trans hw471_1), ((HB.out.cell (bL w _ hw471_2)).trans hw471_2)⟩ (fun hHeld => ?_)
       clear hK K
       refine qN 14 ?_
       refine qP 5 15 (tB 25 63) ?_
       refine qP 6 16 (tB 25 127) ?_
       refine qP 7 17 (tB 25 255) ?_
       refine qP 8 18 (tB 25 511) ?_
       refine qP 9 19 (tB 25 1023) ?_
       refine qU 10 20 (tB 25 2047) ?_
       refine qU 11 21 (tB 25 4095) ?_
       refine qU 12 22 (tB 25 8191) ?_
       refine qU 13 23 (tB 25 16383) ?_
       refine qU 14 24 (tB 25 32767) ?_
       refine qU 15 25 (tB 25 65535) ?_
       refine qU 16 26 (tB 25 131071) ?_
       refine qU 17 27 (tB 25 262143) ?_
       refine qU 18 28 (tB 25 524287) ?_
       refine qU 19 29 (tB 25 1048575) ?_
       refine qU 20 30 (tB 25 2097151) ?_
       refine qU 21 31 (tB 25 4194303) ?_
       refine qU 22 32 (tB 25 8388607) ?_
       refine qP 23 33 (tB 25 16777215) ?_
       refine qP 24 34 (tB 25 33554431) ?_
       refine done_ (done_of HT_.out (by kernel_rfl)) ?_
       try go_wp2
       go_roundg k1
       case measure => have := HK1.out; omega
       case rel => exact ⟨(wrap64 (x3_1 + 1)), jS, H', ⟨by have := HK1.out; omega⟩, ⟨jH HB⟩⟩
     ·replace c5 := Bool.eq_false_iff.mpr c5
      subst c5
      rw [if_neg (show ¬ (false = true) by decide)] at H
      obtain rfl := Option.some.inj H
      try go_wp2
      replace HB := Aside0.mk (zD HB.out)
      have p471 : 0 ≤ (x3_1 : Int) := oD (jA)
      have q471 : x3_1 < (l0.length : Int) := oD (jA)
      obtain ⟨ad471, A471_0, c471_0, A471_1, c471_1, e471, hx471_0, hx471_1, hx471_2, hl471_0, hi471_0, hl471_1, hi471_1⟩ := at_T45 HR0.out x3_1 p471 q471
      have hw471_2 := hx471_2
      have hw471_1 := hx471_1
      have hw471_0 := hx471_0
      cases e471
      replace hx471_0 := (HB.out.cell (bL w _ hx471_0)).trans hx471_0
      replace hx471_1 := (HB.out.cell (bL w _ hx471_1)).trans hx471_1
      replace hx471_2 := (HB.out.cell (bL w _ hx471_2)).trans hx471_2
      have HR471_0 := Aside0.mk hi471_0
      have HC471_0 := Aside0.mk hl471_0
      clear hi471_0 hl471_0
      have HR471_1 := Aside0.mk hi471_1
      have HC471_1 := Aside0.mk hl471_1
      clear hi471_1 hl471_1
      replace p471 := eq_true p471
      replace q471 := eq_true q471
      refine start_ (n := 25) (S := fun w' => w'.cell? (ad471.add ((x3_1).toNat * 3)) = some (.slice A471_0 ((rd_T45 l0 x3_1).f0).length c471_0) ∧ w'.cell? ⟨(ad471.add ((x3_1).toNat * 3)).block, (ad471.add ((x3_1).toNat * 3)).off + 1, none⟩ = some (.slice A471_1 ((rd_T45 l0 x3_1).f1).length c471_1) ∧ w'.cell? ⟨(ad471.add ((x3_1).toNat * 3)).block, (ad471.add ((x3_1).toNat * 3)).off + 2, none⟩ = some (.int .u32 ((rd_T45 l0 x3_1).f2))) (ds := []) #[false, false, false, false, false, false, false, false, false, false, false, false, false, false, false, false, false, false, false, false, false, false, false, false, false] (by kernel_rfl) rfl rfl ⟨((HB.out.cell (bL w _ hw471_0)).trans hw471_0), ((HB.out.cell (bL w _ hw471_1)).trans hw471_1), ((HB.out.cell (bL w _ hw471_2)).trans hw471_2)⟩ (fun hHeld => ?_); refine with_tabW r21_Right.tab4 r21_Right.bits4 (fun HT_ HW_ => ?_)
      generalize wr.drew = w28 at HB HR471_0 HR471_1 hx471_0 hx471_1 hx471_2 hHeld ⊢
      refine qP 0 10 (tB 25 1) ?_
      refine qP 1 11 (tB 25 3) ?_
      refine qP 2 12 (tB 25 7) ?_
      refine qT 3 13 (tB 25 15) hHeld ?_ (hv := by rintro w' ⟨s0, s1, s2⟩; go_simp; with_reducible rfl)
      refine one_ (i := 4) (N := some 14) (tB 25 31) rfl rfl (one_of HT_.out (by kernel_rfl)) (by decide) (fun K hK => ?_)
      refine goes_ Tryd.func27 (by kernel_rfl) rfl #[.agg #[.slice A471_0 ((rd_T45 l0 x3_1).f0).length c471_0, .slice A471_1 ((rd_T45 l0 x3_1).f1).length c471_1, .int .u32 ((rd_T45 l0 x3_1).f2)]] (by rfl) rfl rfl jZ ?_
      with_reducible refine (r21_May.calls k1 _ _ ((rd_T45 l0 x3_1).f0) _ _ ((rd_T45 l0 x3_1).f1) ((rd_T45 l0 x3_1).f2) false _ ?side1 ?side2 ?side3 ?side4 A4.out).mono ?_
      (case side1 => exact jC (Kd.C_below HR471_0.out HB.out))
      (case side2 => exact HC471_0.out)
      (case side3 => exact jC (Kd.C_below HR471_1.out HB.out))
      (case side4 => exact HC471_1.out)
      rintro e w29 ⟨rfl, hb⟩
      refine ⟨_, rfl, ?_⟩
      replace HB := Aside0.mk (zT (jH HB) hb)
      (try clear hb)
      (try clear hb2)
      (try clear hk)
      (try clear hi)
      refine hK.out _ _ ⟨((HB.out.cell (bL w _ hw471_0)).trans hw471_0), ((HB.out.cell (bL w _ hw471_1)).trans hw471_1), ((HB.out.cell (bL w _ hw471_2)).trans hw471_2)⟩ (fun hHeld => ?_)
      clear hK K
      refine qN 14 ?_
      refine qP 5 15 (tB 25 63) ?_
      refine qP 6 16 (tB 25 127) ?_
      refine qU 7 17 (tB 25 255) ?_
      refine qU 8 18 (tB 25 511) ?_
      refine qU 9 19 (tB 25 1023) ?_
      refine qU 10 20 (tB 25 2047) ?_
      refine qU 11 21 (tB 25 4095) ?_
      refine qU 12 22 (tB 25 8191) ?_
      refine qU 13 23 (tB 25 16383) ?_
      refine qU 14 24 (tB 25 32767) ?_
      refine qU 15 25 (tB 25 65535) ?_
      refine qU 16 26 (tB 25 131071) ?_
      refine qU 17 27 (tB 25 262143) ?_
      refine qU 18 28 (tB 25 524287) ?_
      refine qU 19 29 (tB 25 1048575) ?_
      refine qU 20 30 (tB 25 2097151) ?_
      refine qU 21 31 (tB 25 4194303) ?_
      refine qU 22 32 (tB 25 8388607) ?_
      refine qU 23 33 (tB 25 16777215) ?_
      refine qP 24 34 (tB 25 33554431) ?_
      refine done_ (done_of HT_.out (by kernel_rfl)) ?_
      try go_wp2
      go_ret
      exact ⟨jE, jH HB⟩
    ·rw [if_neg c3] at H
     exact absurd H (by simp)
   ·rw [if_neg c2] at H
    have c2b0 := dF c2
    clear c2
    obtain rfl := Option.some.inj H
    go_wp2
    go_ret
    exact ⟨jE, jH HB⟩
end Go.Proofs.YtahacmdhhfmhiaaDoor.M
-- rr_turned
