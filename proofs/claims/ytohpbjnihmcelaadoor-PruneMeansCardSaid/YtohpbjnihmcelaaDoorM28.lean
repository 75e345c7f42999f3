/- What Go functions compute; their calls come to it. No condition. -/
import Derived.Test.YtohpbjnihmcelaaDoorM0
import Derived.Test.YtohpbjnihmcelaaDoorM6
import Derived.Test.YtohpbjnihmcelaaDoorM8
import Derived.Test.YtohpbjnihmcelaaDoorM12
import Derived.Test.YtohpbjnihmcelaaDoorM17
import Derived.Test.YtohpbjnihmcelaaDoorM27
namespace Go.Proofs.YtohpbjnihmcelaaDoor.M
open Go.RowKit Go.Proofs.YtohpbjnihmcelaaDoorW.PrintWords Go.Proofs.YtohpbjnihmcelaaDoorW.PrintLast Go.Proofs.YtohpbjnihmcelaaDoorW.PrintMore
attribute [local go_sem] max2_int min2_int max_two min_two max_three min_three max_four min_four   -- for this text's walks alone
set_option linter.unusedVariables false
set_option linter.unusedSimpArgs false
mutual
def l23_PruneMeans.j0 : Nat → List (S45) → Bool → Int → Int → Int → List Int → Option (Bool)
 | 0, _, _, _, _, _, _ => none
 | k + 1, x0, x18, x274000, x274001, x274002, x274003 => if x18 = true then ((l23_knows.f k).bind fun t275 => (some t275)) else ((prune_Prune.f k x0).bind fun bt276 => (if bt276.2 = 0 then ((check_Sound.f k bt276.1).bind fun t280 => (if t280 = true then ((r05_Sound.f k bt276.1).bind fun t281 => (if t281 = true then (l23_PruneMeans.j1 k x0 bt276.1 (decide ((bt276.1.length : Int) > (x0.length : Int))) x274000 x274001 x274002 x274003) else (l23_PruneMeans.j1 k x0 bt276.1 true x274000 x274001 x274002 x274003))) else (l23_PruneMeans.j1 k x0 bt276.1 true x274000 x274001 x274002 x274003))) else (l23_PruneMeans.j1 k x0 bt276.1 true x274000 x274001 x274002 x274003)))
def l23_PruneMeans.j1 : Nat → List (S45) → List (S45) → Bool → Int → Int → Int → List Int → Option (Bool)
 | 0, _, _, _, _, _, _, _ => none
 | k + 1, x0, x5, x43, x274000, x274001, x274002, x274003 => if x43 = true then (none) else ((r06_Run.f k x0 x274000 x274001 x274002 x274003).bind fun bt282 => ((r06_Run.f k x5 x274000 x274001 x274002 x274003).bind fun bt284 => (if bt282.1 = bt284.1 then (if bt282.2 = bt284.2 then ((l23_knows.f k).bind fun t286 => (some t286)) else (none)) else (none))))
end
def l23_PruneMeans.f (k : Nat) (l0 : List (S45)) (a1_0 : Int) (a1_1 : Int) (a1_2 : Int) (a1_3 : List Int) : Option (Bool) := if (l0.length : Int) > 100 then (l23_PruneMeans.j0 k l0 true a1_0 a1_1 a1_2 a1_3) else ((r05_Sound.f k l0).bind fun t274 => (l23_PruneMeans.j0 k l0 (!t274) a1_0 a1_1 a1_2 a1_3))
theorem l23_PruneMeans.mono_l : ∀ k, (∀ y0 y1 y2 y3 y4 y5, LeO (l23_PruneMeans.j0 k y0 y1 y2 y3 y4 y5) (l23_PruneMeans.j0 (k + 1) y0 y1 y2 y3 y4 y5)) ∧ (∀ y0 y1 y2 y3 y4 y5 y6, LeO (l23_PruneMeans.j1 k y0 y1 y2 y3 y4 y5 y6) (l23_PruneMeans.j1 (k + 1) y0 y1 y2 y3 y4 y5 y6))
 | 0 => ⟨fun _ _ _ _ _ _ r h => by simp [l23_PruneMeans.j0] at h, fun _ _ _ _ _ _ _ r h => by simp [l23_PruneMeans.j1] at h⟩
 | k + 1 => by
  obtain ⟨ih0, ih1⟩ := l23_PruneMeans.mono_l k
  refine ⟨?_, ?_⟩
  all_goals intros
  all_goals first | unfold l23_PruneMeans.j0 | unfold l23_PruneMeans.j1
  all_goals repeat' first
   | (with_reducible apply ih0)
   | (with_reducible apply ih1)
   | (with_reducible apply check_Sound.mono)
   | (with_reducible apply l23_knows.mono)
   | (with_reducible apply r05_Sound.mono)
   | (with_reducible apply r06_Run.mono)
   | (with_reducible apply prune_Prune.mono)
   | (with_reducible exact LeO.refl _)
   | (with_reducible exact LeO.none _)
   | (with_reducible refine LeO.ite ?_ ?_)
   | (with_reducible refine LeO.bind ?_ (fun _ => ?_))
   | apply ih0
   | apply ih1
   | apply check_Sound.mono
   | apply l23_knows.mono
   | apply r05_Sound.mono
   | apply r06_Run.mono
   | apply prune_Prune.mono
   | exact LeO.none _
   | refine LeO.ite ?_ ?_
   | refine LeO.bind ?_ (fun _ => ?_)
theorem l23_PruneMeans.mono : ∀ a0 a1 a2 a3 a4 k, LeO (l23_PruneMeans.f k a0 a1 a2 a3 a4) (l23_PruneMeans.f (k + 1) a0 a1 a2 a3 a4) := by
 intro a0 a1 a2 a3 a4 k
 obtain ⟨ih0, ih1⟩ := l23_PruneMeans.mono_l k
 unfold l23_PruneMeans.f
 repeat' first
   | (with_reducible apply ih0)
   | (with_reducible apply ih1)
   | (with_reducible apply check_Sound.mono)
   | (with_reducible apply l23_knows.mono)
   | (with_reducible apply r05_Sound.mono)
   | (with_reducible apply r06_Run.mono)
   | (with_reducible apply prune_Prune.mono)
   | (with_reducible exact LeO.refl _)
   | (with_reducible exact LeO.none _)
   | (with_reducible refine LeO.ite ?_ ?_)
   | (with_reducible refine LeO.bind ?_ (fun _ => ?_))
   | apply ih0
   | apply ih1
   | apply check_Sound.mono
   | apply l23_knows.mono
   | apply r05_Sound.mono
   | apply r06_Run.mono
   | apply prune_Prune.mono
   | exact LeO.none _
   | refine LeO.ite ?_ ?_
   | refine LeO.bind ?_ (fun _ => ?_)
set_option maxHeartbeats 8000000 in
set_option maxRecDepth 100000 in
theorem l23_PruneMeans.calls (k : Nat) (A0 : Option Addr) (c0 : Nat) (l0 : List (S45)) (a1_0 : Int) (a1_1 : Int) (a1_2 : Int) (a1_3 : List Int) (r : Bool) (w : World) (hr0 : Kd.C k45 w A0 l0.length l0) (hc0 : l0.length ≤ c0) (hG : Glob w) (h : l23_PruneMeans.f k l0 a1_0 a1_1 a1_2 a1_3 = some r) :
  Calls Tryd.prog 4 #[.slice A0 l0.length c0, .agg (arC [.int .u32 a1_0, .int .u32 a1_1, .int .u64 a1_2] .u64 6 a1_3)] w fun e w' => e = .returned (.bool r) ∧ Below w.heap.size w w' := by
 have hu38 := Tryd.underlying38
 have HG := Aside0.mk hG
 clear hG
 have HR0 := Aside0.mk hr0
 have HC0 := Aside0.mk hc0
 clear hr0 hc0
 have HB := Aside0.mk (Below.refl w.heap.size w)
 have H : (if (l0.length : Int) > 100 then (l23_PruneMeans.j0 k l0 true a1_0 a1_1 a1_2 a1_3) else ((r05_Sound.f k l0).bind fun t274 => (l23_PruneMeans.j0 k l0 (!t274) a1_0 a1_1 a1_2 a1_3))) = some r := h
 clear h
 have HC3 := Aside0.mk H
 clear H
 go_enter Tryd.func4, Tryd.ntmps4
 go_upto_region 1 with (first | ((with_reducible refine gate_dst (N := 3) rfl ?_); (try (refine gate_guard (by rfl) ?_; dsimp only)); refine box_event rfl (N := 3) rfl (cs := (arC [.int .u32 a1_0, .int .u32 a1_1, .int .u64 a1_2] .u64 6 a1_3)) (t := 38) jW ?_; intro gb273 hg w4 hbox hb; have n0_ := Aside0.mk (zT (jH HB) hb); have n1_ := Aside0.mk hbox; have n2_ := Aside0.mk (jG hg HB); have n3_ := Aside0.mk (jG hg HB); clear HB; have HB := n0_; have BK273 := n1_; have GW273 := n2_; have GE273 := n3_; clear n0_ n1_ n2_ n3_; clear hb hbox hg))
 (try simp only [Act.put, List.setIfInBounds_toArray, List.set_cons_zero, List.set_cons_succ])
 go_cut [18] (fun v18 wc => ∃ (kq : Nat) (x18_2 : Bool), v18 = .bool x18_2 ∧ Aside0 (l23_PruneMeans.j0 kq l0 x18_2 a1_0 a1_1 a1_2 a1_3 = some r) ∧ Aside0 (kq ≤ k) ∧ Aside0 (wc.heap[gb273]? = some (.cells (arC [.int .u32 a1_0, .int .u32 a1_1, .int .u64 a1_2] .u64 6 a1_3) 38 (0, 0))) ∧ Aside0 (Below w.heap.size w wc))
 case first =>
  have H := HC3.out
  clear HC3
  by_cases c5 : (l0.length : Int) > 100
  ·rw [if_pos c5] at H
   have c5b0 : decide (100 < (l0.length : Int)) = true := dT c5
   have c5b1 : decide (100 < l0.length) = true := dT (by omega)
   clear c5
   (first | rw [c5b0] | (simp only [i64_w, i32_w]; rw [c5b0]) | skip)
   have H' := Aside0.mk H
   clear H
   go_wp2
   go_meet
   case rel => exact ⟨_, (true), jS, H', ⟨jO⟩, ⟨jK BK273⟩, ⟨jH HB⟩⟩
  ·rw [if_neg c5] at H
   have c5b0 : decide (100 < (l0.length : Int)) = false := dF c5
   have c5b1 : decide (100 < l0.length) = false := dF (by omega)
   clear c5
   (first | rw [c5b0] | (simp only [i64_w, i32_w]; rw [c5b0]) | skip)
   replace H := Option.bind_eq_some_iff.mp H
   obtain ⟨t274, A60, H⟩ := H
   try dsimp only at H
   have A6 := Aside0.mk A60
   clear A60
   have H' := Aside0.mk H
   clear H
   go_wp2_with (first | (go_at_call 11; (with_reducible refine (r05_Sound.calls k _ _ l0 t274 _ ?side1 ?side2 A6.out).mono ?_); (case side1 => exact jC (Kd.C_below HR0.out HB.out)); (case side2 => exact HC0.out); rintro e w7 ⟨rfl, hb⟩; have n0_ := Aside0.mk (jB BK273 hb); have n1_ := Aside0.mk (zT (jH HB) hb); clear BK273; clear HB; have BK273 := n0_; have HB := n1_; clear n0_ n1_; (try clear hb); (try clear hb2); (try clear hk); (try clear hi)))
   go_meet
   case rel => exact ⟨_, (!t274), jS, H', ⟨jO⟩, ⟨jK BK273⟩, ⟨jH HB⟩⟩
 case rest =>
  clear HC3
  obtain ⟨kq, x18_2, rfl, HA, HJ2, BK273, HB⟩ := hcut
  cases kq with
  | zero => exact absurd HA.out (by simp [l23_PruneMeans.j0])
  | succ kj2 =>
   have H := HA.out
   clear HA
   simp only [l23_PruneMeans.j0] at H
   by_cases c8 : x18_2 = true
   ·subst c8
    rw [if_pos rfl] at H
    replace H := Option.bind_eq_some_iff.mp H
    obtain ⟨t275, A90, H⟩ := H
    try dsimp only at H
    have A9 := Aside0.mk A90
    clear A90
    obtain rfl := Option.some.inj H
    go_wp2_with (first | ((with_reducible refine gate_callee (f := 8) rfl ?_); refine goesL_ (some 19) rfl rfl Tryd.func8 (by kernel_rfl) rfl #[] rfl jZ ?_; (with_reducible refine (l23_knows.calls kj2  t275 _ ?side1 A9.out).mono ?_); (case side1 => exact Glob.below HG.out (jH HB)); rintro e w10 ⟨rfl, hb⟩; refine ⟨_, rfl, ?_⟩; have n0_ := Aside0.mk (jB BK273 hb); have n1_ := Aside0.mk (zT (jH HB) hb); clear BK273; clear HB; have BK273 := n0_; have HB := n1_; clear n0_ n1_; (try clear hb); (try clear hb2); (try clear hk); (try clear hi)))
    go_ret
    exact ⟨jE, jH HB⟩
   ·replace c8 := Bool.eq_false_iff.mpr c8
    subst c8
    rw [if_neg (show ¬ (false = true) by decide)] at H
    replace H := Option.bind_eq_some_iff.mp H
    obtain ⟨⟨t276, t277⟩, A110, H⟩ := H
    try dsimp only at H
    have A11 := Aside0.mk A110
    clear A110
    have HC12 := Aside0.mk H
    clear H
    go_upto_region 4 with (first | ((with_reducible refine gate_callee (f := 10) rfl ?_); refine goesL_ (some 22) rfl rfl Tryd.func10 (by kernel_rfl) rfl #[.slice A0 l0.length c0] rfl jZ ?_; (with_reducible refine (prune_Prune.calls kj2 _ _ l0 t276 t277 _ ?side1 ?side2 ?side3 A11.out).mono ?_); (case side1 => exact jC (Kd.C_below HR0.out HB.out)); (case side2 => exact HC0.out); (case side3 => exact Glob.below HG.out (jH HB)); rintro e w13 ⟨v278, rfl, ho0, hb⟩; refine ⟨_, rfl, ?_⟩; have n0_ := Aside0.mk (Kd.R_lower ho0 (zZ (jH HB))); have n1_ := Aside0.mk (jB BK273 hb); have n2_ := Aside0.mk (zT (jH HB) hb); clear BK273; clear HB; have HO279 := n0_; have BK273 := n1_; have HB := n2_; clear n0_ n1_ n2_; (try clear hb); (try clear hb2); (try clear hk); (try clear hi); (try clear ho0)))
    (try simp only [Act.put, List.setIfInBounds_toArray, List.set_cons_zero, List.set_cons_succ])
    go_cut [43] (fun v43 wc => ∃ (kq : Nat) (x43_11 : Bool), v43 = .bool x43_11 ∧ Aside0 (l23_PruneMeans.j1 kq l0 t276 x43_11 a1_0 a1_1 a1_2 a1_3 = some r) ∧ Aside0 (kq ≤ kj2) ∧ Aside0 (Kd.R k45 45 wc w.heap.size (fun _ => True) v278 t276) ∧ Aside0 (wc.heap[gb273]? = some (.cells (arC [.int .u32 a1_0, .int .u32 a1_1, .int .u64 a1_2] .u64 6 a1_3) 38 (0, 0))) ∧ Aside0 (Below w.heap.size w wc))
    case first =>
     have H := HC12.out
     clear HC12
     by_cases c14 : t277 = 0
     ·rw [if_pos c14] at H
      have c14b0 : (t277 == 0) = true := bI.mpr c14
      have c14b1 : (t277 != 0) = false := nF.mpr c14
      clear c14
      (first | rw [c14b0] | (simp only [i64_w, i32_w]; rw [c14b0]) | skip)
      replace H := Option.bind_eq_some_iff.mp H
      obtain ⟨t280, A150, H⟩ := H
      try dsimp only at H
      have A15 := Aside0.mk A150
      clear A150
      by_cases c16 : t280 = true
      ·subst c16
       rw [if_pos rfl] at H
       replace H := Option.bind_eq_some_iff.mp H
       obtain ⟨t281, A170, H⟩ := H
       try dsimp only at H
       have A17 := Aside0.mk A170
       clear A170
       by_cases c18 : t281 = true
       ·subst c18
        rw [if_pos rfl] at H
        have H' := Aside0.mk H
        clear H
        obtain ⟨Ao19, co19, eo19⟩ := Kd.R_slice HO279.out
        subst eo19
        go_wp2_with (first | (go_at_call 15; (with_reducible refine (check_Sound.calls kj2 _ _ t276 true _ ?side1 ?side2 ?side3 A15.out).mono ?_); (case side1 => exact jC (Kd.R_reads' HO279.out).2.2); (case side2 => exact (Kd.R_reads' HO279.out).2.1); (case side3 => exact Glob.below HG.out (jH HB)); rintro e w20 ⟨rfl, hb⟩; have n0_ := Aside0.mk (Kd.R_below (jR HO279) hb); have n1_ := Aside0.mk (jB BK273 hb); have n2_ := Aside0.mk (zT (jH HB) hb); clear HO279; clear BK273; clear HB; have HO279 := n0_; have BK273 := n1_; have HB := n2_; clear n0_ n1_ n2_; (try clear hb); (try clear hb2); (try clear hk); (try clear hi)) | (go_at_call 11; (with_reducible refine (r05_Sound.calls kj2 _ _ t276 true _ ?side1 ?side2 A17.out).mono ?_); (case side1 => exact jC (Kd.R_reads' HO279.out).2.2); (case side2 => exact (Kd.R_reads' HO279.out).2.1); rintro e w21 ⟨rfl, hb⟩; have n0_ := Aside0.mk (Kd.R_below (jR HO279) hb); have n1_ := Aside0.mk (jB BK273 hb); have n2_ := Aside0.mk (zT (jH HB) hb); clear HO279; clear BK273; clear HB; have HO279 := n0_; have BK273 := n1_; have HB := n2_; clear n0_ n1_ n2_; (try clear hb); (try clear hb2); (try clear hk); (try clear hi)))
        go_meet
        case rel => exact ⟨_, (decide ((t276.length : Int) > (l0.length : Int))), jS, H', ⟨by have := HJ2.out; first | omega | exact Nat.le_refl _⟩, ⟨jR HO279⟩, ⟨jK BK273⟩, ⟨jH HB⟩⟩
       ·replace c18 := Bool.eq_false_iff.mpr c18
        subst c18
        rw [if_neg (show ¬ (false = true) by decide)] at H
        have H' := Aside0.mk H
        clear H
        obtain ⟨Ao22, co22, eo22⟩ := Kd.R_slice HO279.out
        subst eo22
        go_wp2_with (first | (go_at_call 15; (with_reducible refine (check_Sound.calls kj2 _ _ t276 true _ ?side1 ?side2 ?side3 A15.out).mono ?_); (case side1 => exact jC (Kd.R_reads' HO279.out).2.2); (case side2 => exact (Kd.R_reads' HO279.out).2.1); (case side3 => exact Glob.below HG.out (jH HB)); rintro e w23 ⟨rfl, hb⟩; have n0_ := Aside0.mk (Kd.R_below (jR HO279) hb); have n1_ := Aside0.mk (jB BK273 hb); have n2_ := Aside0.mk (zT (jH HB) hb); clear HO279; clear BK273; clear HB; have HO279 := n0_; have BK273 := n1_; have HB := n2_; clear n0_ n1_ n2_; (try clear hb); (try clear hb2); (try clear hk); (try clear hi)) | (go_at_call 11; (with_reducible refine (r05_Sound.calls kj2 _ _ t276 false _ ?side1 ?side2 A17.out).mono ?_); (case side1 => exact jC (Kd.R_reads' HO279.out).2.2); (case side2 => exact (Kd.R_reads' HO279.out).2.1); rintro e w24 ⟨rfl, hb⟩; have n0_ := Aside0.mk (Kd.R_below (jR HO279) hb); have n1_ := Aside0.mk (jB BK273 hb); have n2_ := Aside0.mk (zT (jH HB) hb); clear HO279; clear BK273; clear HB; have HO279 := n0_; have BK273 := n1_; have HB := n2_; clear n0_ n1_ n2_; (try clear hb); (try clear hb2); (try clear hk); (try clear hi)))
        go_meet
        case rel => exact ⟨_, (true), jS, H', ⟨by have := HJ2.out; first | omega | exact Nat.le_refl _⟩, ⟨jR HO279⟩, ⟨jK BK273⟩, ⟨jH HB⟩⟩
      ·replace c16 := Bool.eq_false_iff.mpr c16
       subst c16
       rw [if_neg (show ¬ (false = true) by decide)] at H
       have H' := Aside0.mk H
       clear H
       obtain ⟨Ao25, co25, eo25⟩ := Kd.R_slice HO279.out
       subst eo25
       go_wp2_with (first | (go_at_call 15; (with_reducible refine (check_Sound.calls kj2 _ _ t276 false _ ?side1 ?side2 ?side3 A15.out).mono ?_); (case side1 => exact jC (Kd.R_reads' HO279.out).2.2); (case side2 => exact (Kd.R_reads' HO279.out).2.1); (case side3 => exact Glob.below HG.out (jH HB)); rintro e w26 ⟨rfl, hb⟩; have n0_ := Aside0.mk (Kd.R_below (jR HO279) hb); have n1_ := Aside0.mk (jB BK273 hb); have n2_ := Aside0.mk (zT (jH HB) hb); clear HO279; clear BK273; clear HB; have HO279 := n0_; have BK273 := n1_; have HB := n2_; clear n0_ n1_ n2_; (try clear hb); (try clear hb2); (try clear hk); (try clear hi)))
       go_meet
       case rel => exact ⟨_, (true), jS, H', ⟨by have := HJ2.out; first | omega | exact Nat.le_refl _⟩, ⟨jR HO279⟩, ⟨jK BK273⟩, ⟨jH HB⟩⟩
     ·rw [if_neg c14] at H
      have c14b0 : (t277 == 0) = false := bF.mpr c14
      have c14b1 : (t277 != 0) = true := nI.mpr c14
      (first | rw [c14b0] | (simp only [i64_w, i32_w]; rw [c14b0]) | skip)
      have H' := Aside0.mk H
      clear H
      go_wp2
      go_meet
      case rel => exact ⟨_, (true), jS, H', ⟨by have := HJ2.out; first | omega | exact Nat.le_refl _⟩, ⟨jR HO279⟩, ⟨jK BK273⟩, ⟨jH HB⟩⟩
    case rest =>
     clear HC12
     obtain ⟨kq, x43_11, rfl, HA, HJ11, HO_5, BK273, HB⟩ := hcut
     cases kq with
     | zero => exact absurd HA.out (by simp [l23_PruneMeans.j1])
     | succ kj11 =>
      have H := HA.out
      clear HA
      simp only [l23_PruneMeans.j1] at H
      by_cases c27 : x43_11 = true
      ·subst c27
       rw [if_pos rfl] at H
       exact absurd H (by simp)
      ·replace c27 := Bool.eq_false_iff.mpr c27
       subst c27
       rw [if_neg (show ¬ (false = true) by decide)] at H
       replace H := Option.bind_eq_some_iff.mp H
       obtain ⟨⟨t282, t283⟩, A280, H⟩ := H
       try dsimp only at H
       have A28 := Aside0.mk A280
       clear A280
       replace H := Option.bind_eq_some_iff.mp H
       obtain ⟨⟨t284, t285⟩, A290, H⟩ := H
       try dsimp only at H
       have A29 := Aside0.mk A290
       clear A290
       by_cases c30 : t282 = t284
       ·rw [if_pos c30] at H
        have c30b0 : (t282 == t284) = true := bI.mpr c30
        have c30b1 : (t282 != t284) = false := nF.mpr c30
        clear c30
        by_cases c31 : t283 = t285
        ·rw [if_pos c31] at H
         have c31b0 : (t283 == t285) = true := bI.mpr c31
         have c31b1 : (t283 != t285) = false := nF.mpr c31
         clear c31
         replace H := Option.bind_eq_some_iff.mp H
         obtain ⟨t286, A320, H⟩ := H
         try dsimp only at H
         have A32 := Aside0.mk A320
         clear A320
         obtain rfl := Option.some.inj H
         go_wp2_with (first | ((with_reducible refine gate_dst (N := 46) rfl ?_); (try (refine gate_guard (by rfl) ?_; dsimp only)); refine wpList_load_row rfl 38 (.tmp 3) rfl gb273 rfl 38 (arC [.int .u32 a1_0, .int .u32 a1_1, .int .u64 a1_2] .u64 6 a1_3) (0, 0) _ (jK BK273) Tryd.underlying38 rfl (by kernel_rfl) ?_) | ((with_reducible refine gate_callee (f := 16) rfl ?_); refine goesL_ (some 47) rfl rfl Tryd.func16 (by kernel_rfl) rfl #[.slice A0 l0.length c0, .agg (arC [.int .u32 a1_0, .int .u32 a1_1, .int .u64 a1_2] .u64 6 a1_3)] rfl jZ ?_; (with_reducible refine (r06_Run.calls kj11 _ _ l0 a1_0 a1_1 a1_2 a1_3 t282 t283 _ ?side1 ?side2 A28.out).mono ?_); (case side1 => exact jC (Kd.C_below HR0.out HB.out)); (case side2 => exact HC0.out); rintro e w33 ⟨rfl, hb⟩; refine ⟨_, rfl, ?_⟩; have n0_ := Aside0.mk (Kd.R_below (jR HO_5) hb); have n1_ := Aside0.mk (jB BK273 hb); have n2_ := Aside0.mk (zT (jH HB) hb); clear HO_5; clear BK273; clear HB; have HO_5 := n0_; have BK273 := n1_; have HB := n2_; clear n0_ n1_ n2_; (try clear hb); (try clear hb2); (try clear hk); (try clear hi)) | ((with_reducible refine gate_dst (N := 52) rfl ?_); (try (refine gate_guard (by rfl) ?_; dsimp only)); refine wpList_load_row rfl 38 (.tmp 3) rfl gb273 rfl 38 (arC [.int .u32 a1_0, .int .u32 a1_1, .int .u64 a1_2] .u64 6 a1_3) (0, 0) _ (jK BK273) Tryd.underlying38 rfl (by kernel_rfl) ?_; obtain ⟨Ao34, co34, eo34⟩ := Kd.R_slice HO_5.out; subst eo34) | ((with_reducible refine gate_callee (f := 16) rfl ?_); refine goesL_ (some 53) rfl rfl Tryd.func16 (by kernel_rfl) rfl #[.slice Ao34 t276.length co34, .agg (arC [.int .u32 a1_0, .int .u32 a1_1, .int .u64 a1_2] .u64 6 a1_3)] rfl jZ ?_; (with_reducible refine (r06_Run.calls kj11 _ _ t276 a1_0 a1_1 a1_2 a1_3 t284 t285 _ ?side1 ?side2 A29.out).mono ?_); (case side1 => exact jC (Kd.R_reads' HO_5.out).2.2); (case side2 => exact (Kd.R_reads' HO_5.out).2.1); rintro e w35 ⟨rfl, hb⟩; refine ⟨_, rfl, ?_⟩; have n0_ := Aside0.mk (Kd.R_below (jR HO_5) hb); have n1_ := Aside0.mk (jB BK273 hb); have n2_ := Aside0.mk (zT (jH HB) hb); clear HO_5; clear BK273; clear HB; have HO_5 := n0_; have BK273 := n1_; have HB := n2_; clear n0_ n1_ n2_; (try clear hb); (try clear hb2); (try clear hk); (try clear hi)) | (go_at_call 8; (with_reducible refine (l23_knows.calls kj11  t286 _ ?side1 A32.out).mono ?_); (case side1 => exact Glob.below HG.out (jH HB)); rintro e w36 ⟨rfl, hb⟩; have n0_ := Aside0.mk (Kd.R_below (jR HO_5) hb); have n1_ := Aside0.mk (jB BK273 hb); have n2_ := Aside0.mk (zT (jH HB) hb); clear HO_5; clear BK273; clear HB; have HO_5 := n0_; have BK273 := n1_; have HB := n2_; clear n0_ n1_ n2_; (try clear hb); (try clear hb2); (try clear hk); (try clear hi)))
         go_ret
         exact ⟨jE, jH HB⟩
        ·rw [if_neg c31] at H
         exact absurd H (by simp)
       ·rw [if_neg c30] at H
        exact absurd H (by simp)
end Go.Proofs.YtohpbjnihmcelaaDoor.M
