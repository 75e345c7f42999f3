/- What Go functions compute; their calls come to it. No condition. -/
import Derived.Test.YtahacmdhhfmhiaaDoorM0
import Derived.Test.YtahacmdhhfmhiaaDoorMH
import Derived.Test.YtahacmdhhfmhiaaDoorMG
namespace Go.Proofs.YtahacmdhhfmhiaaDoor.M
open Go.RowKit Go.Proofs.YtahacmdhhfmhiaaDoorW.PrintWords Go.Proofs.YtahacmdhhfmhiaaDoorW.PrintLast Go.Proofs.YtahacmdhhfmhiaaDoorW.PrintMore
attribute [local go_sem] max2_int min2_int max_two min_two max_three min_three max_four min_four   -- for this text's walks alone
set_option linter.unusedVariables false
set_option linter.unusedSimpArgs false
def r21_Find.l0 : Nat → List (S45) → List (S59) → Int → Int → Option ((List (S59)) × Bool)
 | 0, _, _, _, _ => none
 | k + 1, x0, x1, x2, x8 => if x8 < (x0.length : Int) then (if 0 ≤ x8 then (if (Int.tmod x2 262144) = ((rd_T45 x0 x8).f2) then ((r03_Same.f k ((rd_T45 x0 x8).f0) x1).bind fun t571 => (if t571 = true then (some ((rd_T45 x0 x8).f1, true)) else (r21_Find.l0 k x0 x1 x2 (wrap64 (x8 + 1))))) else (r21_Find.l0 k x0 x1 x2 (wrap64 (x8 + 1)))) else (none)) else (some (([] : List (S59)), false))
def r21_Find.f (k : Nat) (l0 : List (S45)) (l1 : List (S59)) (a2 : Int) : Option ((List (S59)) × Bool) := (r21_Right.f k l0).bind fun t568 => (if t568 = true then (r21_Find.l0 k l0 l1 a2 0) else (some (([] : List (S59)), false)))
set_option maxHeartbeats 8000000 in
set_option maxRecDepth 100000 in
theorem r21_Find.calls (k : Nat) (P0_ : Nat → Prop) (A0 : Option Addr) (c0 : Nat) (l0 : List (S45)) (A1 : Option Addr) (c1 : Nat) (l1 : List (S59)) (a2 : Int) (r1 : List (S59)) (r2 : Bool) (w : World) (hs0 : Kd.V k45 45 w w.heap.size (fun k_ => P0_ k_) (.slice A0 l0.length c0) l0) (hr1 : Kd.C k59 w A1 l1.length l1) (hc1 : l1.length ≤ c1) (h : r21_Find.f k l0 l1 a2 = some (r1, r2)) :
  Calls Tryd.prog 24 #[.slice A0 l0.length c0, .slice A1 l1.length c1, .int .u32 a2] w fun e w' => ∃ v0_ : Value, e = .returned (.tuple #[v0_, .bool r2]) ∧ Kd.V k59 59 w' w.heap.size (fun k_ => (P0_ k_ ∨ w.heap.size ≤ k_)) v0_ r1 ∧ Below w.heap.size w w' := by
 have HO0 := Aside0.mk (show Kd.V k45 45 w w.heap.size (fun k_ => (P0_ k_ ∨ w.heap.size ≤ k_)) (.slice A0 l0.length c0) l0 from Kd.V_mono hs0 (fun k_ hk => .inl hk))
 have HR1 := Aside0.mk hr1
 have HC1 := Aside0.mk hc1
 clear hr1 hc1
 have HB := Aside0.mk (Below.refl w.heap.size w)
 have H : ((r21_Right.f k l0).bind fun t568 => (if t568 = true then (r21_Find.l0 k l0 l1 a2 0) else (some (([] : List (S59)), false)))) = some (r1, r2) := h
 clear h
 replace H := Option.bind_eq_some_iff.mp H
 obtain ⟨t568, A40, H⟩ := H
 try dsimp only at H
 have A4 := Aside0.mk A40
 clear A40
 by_cases c5 : t568 = true
 ·subst c5
  rw [if_pos rfl] at H
  have H' := Aside0.mk H
  clear H
  go_enter Tryd.func24, Tryd.ntmps24
  go_wp2_with (first | ((with_reducible refine gate_callee (f := 13) rfl ?_); refine goesL_ (some 10) rfl rfl Tryd.func13 (by kernel_rfl) rfl #[.slice A0 l0.length c0] rfl jZ ?_; (with_reducible refine (r21_Right.calls k _ _ l0 true _ ?side1 ?side2 A4.out).mono ?_); (case side1 => exact jC (Kd.V_reads' HO0.out).2.2); (case side2 => exact (Kd.V_reads' HO0.out).2.1); rintro e w6 ⟨rfl, hb⟩; refine ⟨_, rfl, ?_⟩; replace HO0 := Aside0.mk (Kd.V_below (jV HO0) hb); replace HB := Aside0.mk (zT (jH HB) hb); (try clear hb); (try clear hb2); (try clear hk); (try clear hi)))
  go_loopg [8] k (fun kq v8 w' => ∃ (x8_1 : Int), v8 = .int .i64 x8_1 ∧ Aside0 (r21_Find.l0 kq l0 l1 a2 x8_1 = some (r1, r2)) ∧ Aside0 (kq ≤ k) ∧ Aside0 (Kd.V k45 45 w' w.heap.size (fun k_ => (P0_ k_ ∨ w.heap.size ≤ k_)) (.slice A0 l0.length c0) l0) ∧ Aside0 (Below w.heap.size w w'))
  case atStart => exact ⟨(0), jS, H', ⟨Nat.le_refl _⟩, ⟨jV HO0⟩, ⟨jH HB⟩⟩
  case round =>
   clear H'
   obtain ⟨x8_1, rfl, HA, HK1, HO_0, HB⟩ := hrel
   cases gk with
   | zero => exact absurd HA.out (by simp [r21_Find.l0])
   | succ k1 =>
    have H := HA.out
    clear HA
    simp only [r21_Find.l0] at H
    by_cases c7 : x8_1 < (l0.length : Int)
    ·rw [if_pos c7] at H
     have c7b0 := dT c7
     clear c7
     by_cases c8 : 0 ≤ x8_1
     ·rw [if_pos c8] at H
      have c8b0 := dT c8
      clear c8
      by_cases c9 : (Int.tmod a2 262144) = ((rd_T45 l0 x8_1).f2)
      ·rw [if_pos c9] at H
       have c9b0 : ((Int.tmod a2 262144) == ((rd_T45 l0 x8_1).f2)) = true := bI.mpr c9
       have c9b1 : ((Int.tmod a2 262144) != ((rd_T45 l0 x8_1).f2)) = false := nF.mpr c9
       clear c9
       replace H := Option.bind_eq_some_iff.mp H
       obtain ⟨t571, A100, H⟩ := H
       try dsimp only at H
       have A10 := Aside0.mk A100
       clear A100
       by_cases c11 : t571 = true
       ·subst c11
        rw [if_pos rfl] at H
        simp only [Option.some.injEq, Prod.mk.injEq] at H
        obtain ⟨rfl, rfl⟩ := H
        have p569 : 0 ≤ (x8_1 : Int) := oD (jA)
        have q569 : x8_1 < (l0.length : Int) := oD (jA)
        obtain ⟨ad569, A569_0, c569_0, A569_1, c569_1, e569, hx569_0, hx569_1, hx569_2, hl569_0, hi569_0, hl569_1, hi569_1⟩ := at_T45 (Kd.V_reads' HO_0.out).2.2 x8_1 p569 q569
        cases e569
        obtain ⟨ce569, hce569, hMe569, hcc569⟩ := Kd.V_get HO_0.out z45 x8_1 p569 (by first | exact q569 | exact oD (jA) | (have e_ := (Kd.V_reads' HO_0.out).1; omega))
        obtain ⟨ua569_0, uc569_0, ua569_1, uc569_1, rfl, ul569_0, ge569_0, ul569_1, ge569_1⟩ := k45_openF hMe569
        have hv569_0 := hcc569 0 _ rfl
        rw [Nat.add_zero] at hv569_0
        replace hv569_0 := Option.some.inj (hv569_0.symm.trans hx569_0)
        injection hv569_0 with hva_ hvn_ hvc_
        rw [hva_] at ge569_0
        rw [hvc_] at ul569_0
        have HL569_0 := Aside0.mk (show Kd.V k59 59 _ w.heap.size _ _ ((rd_T45 l0 x8_1).f0) from Kd.V_mk ul569_0 ge569_0)
        clear hva_ hvn_ hvc_ ge569_0 ul569_0
        have hv569_1 := hcc569 1 _ rfl
        rw [add_field _ _ 1 (by omega)] at hv569_1
        replace hv569_1 := Option.some.inj (hv569_1.symm.trans hx569_1)
        injection hv569_1 with hva_ hvn_ hvc_
        rw [hva_] at ge569_1
        rw [hvc_] at ul569_1
        have HL569_1 := Aside0.mk (show Kd.V k59 59 _ w.heap.size _ _ ((rd_T45 l0 x8_1).f1) from Kd.V_mk ul569_1 ge569_1)
        clear hva_ hvn_ hvc_ ge569_1 ul569_1
        clear hcc569 hce569
        have HR569_0 := Aside0.mk hi569_0
        have HC569_0 := Aside0.mk hl569_0
        clear hi569_0 hl569_0
        have HR569_1 := Aside0.mk hi569_1
        have HC569_1 := Aside0.mk hl569_1
        clear hi569_1 hl569_1
        replace p569 := eq_true p569
        replace q569 := eq_true q569
        have p570 : 0 ≤ (x8_1 : Int) := oD (jA)
        have q570 : x8_1 < (l0.length : Int) := oD (jA)
        obtain ⟨ad570, A570_0, c570_0, A570_1, c570_1, e570, hx570_0, hx570_1, hx570_2, hl570_0, hi570_0, hl570_1, hi570_1⟩ := at_T45 (Kd.V_reads' HO_0.out).2.2 x8_1 p570 q570
        obtain rfl : ad569 = ad570 := (by injection e570)
        obtain ⟨ce570, hce570, hMe570, hcc570⟩ := Kd.V_get HO_0.out z45 x8_1 p570 (by first | exact q570 | exact oD (jA) | (have e_ := (Kd.V_reads' HO_0.out).1; omega))
        obtain ⟨ua570_0, uc570_0, ua570_1, uc570_1, rfl, ul570_0, ge570_0, ul570_1, ge570_1⟩ := k45_openF hMe570
        have hv570_0 := hcc570 0 _ rfl
        rw [Nat.add_zero] at hv570_0
        replace hv570_0 := Option.some.inj (hv570_0.symm.trans hx570_0)
        injection hv570_0 with hva_ hvn_ hvc_
        rw [hva_] at ge570_0
        rw [hvc_] at ul570_0
        have HL570_0 := Aside0.mk (show Kd.V k59 59 _ w.heap.size _ _ ((rd_T45 l0 x8_1).f0) from Kd.V_mk ul570_0 ge570_0)
        clear hva_ hvn_ hvc_ ge570_0 ul570_0
        have hv570_1 := hcc570 1 _ rfl
        rw [add_field _ _ 1 (by omega)] at hv570_1
        replace hv570_1 := Option.some.inj (hv570_1.symm.trans hx570_1)
        injection hv570_1 with hva_ hvn_ hvc_
        rw [hva_] at ge570_1
        rw [hvc_] at ul570_1
        have HL570_1 := Aside0.mk (show Kd.V k59 59 _ w.heap.size _ _ ((rd_T45 l0 x8_1).f1) from Kd.V_mk ul570_1 ge570_1)
        clear hva_ hvn_ hvc_ ge570_1 ul570_1
        clear hcc570 hce570
        have HR570_0 := Aside0.mk hi570_0
        have HC570_0 := Aside0.mk hl570_0
        clear hi570_0 hl570_0
        have HR570_1 := Aside0.mk hi570_1
        have HC570_1 := Aside0.mk hl570_1
        clear hi570_1 hl570_1
        replace p570 := eq_true p570
        replace q570 := eq_true q570
        have ea_ := Option.some.inj (hx569_0.symm.trans hx570_0)
        injection ea_ with ea_ en_ ec_
        subst ea_
        subst ec_
        clear en_
        have ea_ := Option.some.inj (hx569_1.symm.trans hx570_1)
        injection ea_ with ea_ en_ ec_
        subst ea_
        subst ec_
        clear en_
        go_wp2_with (first | (go_at_call 25; (with_reducible refine (r03_Same.calls k1 _ _ ((rd_T45 l0 x8_1).f0) _ _ l1 true _ ?side1 ?side2 ?side3 ?side4 A10.out).mono ?_); (case side1 => repeat (first | exact (by repeat (first | (with_reducible exact HR570_0.out) | (with_reducible refine Kd.C_alloc ?_ _) | (with_reducible refine Kd.C_drewN ?_ _) | (with_reducible refine Kd.C_drew ?_) | exact HR570_0.out)) | (with_reducible refine Kd.C_alloc ?_ _) | (with_reducible refine Kd.C_drewN ?_ _) | (with_reducible refine Kd.C_drew ?_))); (case side2 => exact HC570_0.out); (case side3 => exact jC (Kd.C_below HR1.out HB.out)); (case side4 => exact HC1.out); rintro e w' ⟨rfl, ⟨nd, rfl⟩⟩; have p572 : 0 ≤ (x8_1 : Int) := oD (jA); have q572 : x8_1 < (l0.length : Int) := oD (jA); obtain ⟨ad572, A572_0, c572_0, A572_1, c572_1, e572, hx572_0, hx572_1, hx572_2, hl572_0, hi572_0, hl572_1, hi572_1⟩ := at_T45 (Kd.V_reads' HO_0.out).2.2 x8_1 p572 q572; obtain rfl : ad569 = ad572 := (by injection e572); obtain ⟨ce572, hce572, hMe572, hcc572⟩ := Kd.V_get HO_0.out z45 x8_1 p572 (by first | exact q572 | exact oD (jA) | (have e_ := (Kd.V_reads' HO_0.out).1; omega)); obtain ⟨ua572_0, uc572_0, ua572_1, uc572_1, rfl, ul572_0, ge572_0, ul572_1, ge572_1⟩ := k45_openF hMe572; have hv572_0 := hcc572 0 _ rfl; rw [Nat.add_zero] at hv572_0; replace hv572_0 := Option.some.inj (hv572_0.symm.trans hx572_0); injection hv572_0 with hva_ hvn_ hvc_; rw [hva_] at ge572_0; rw [hvc_] at ul572_0; have HL572_0 := Aside0.mk (show Kd.V k59 59 _ w.heap.size _ _ ((rd_T45 l0 x8_1).f0) from Kd.V_mk ul572_0 ge572_0); clear hva_ hvn_ hvc_ ge572_0 ul572_0; have hv572_1 := hcc572 1 _ rfl; rw [add_field _ _ 1 (by omega)] at hv572_1; replace hv572_1 := Option.some.inj (hv572_1.symm.trans hx572_1); injection hv572_1 with hva_ hvn_ hvc_; rw [hva_] at ge572_1; rw [hvc_] at ul572_1; have HL572_1 := Aside0.mk (show Kd.V k59 59 _ w.heap.size _ _ ((rd_T45 l0 x8_1).f1) from Kd.V_mk ul572_1 ge572_1); clear hva_ hvn_ hvc_ ge572_1 ul572_1; clear hcc572 hce572; have HR572_0 := Aside0.mk hi572_0; have HC572_0 := Aside0.mk hl572_0; clear hi572_0 hl572_0; have HR572_1 := Aside0.mk hi572_1; have HC572_1 := Aside0.mk hl572_1; clear hi572_1 hl572_1; replace p572 := eq_true p572; replace q572 := eq_true q572; have ea_ := Option.some.inj (hx569_0.symm.trans hx572_0); injection ea_ with ea_ en_ ec_; subst ea_; subst ec_; clear en_; have ea_ := Option.some.inj (hx569_1.symm.trans hx572_1); injection ea_ with ea_ en_ ec_; subst ea_; subst ec_; clear en_))
        go_ret2
        exact ⟨_, jE, by (with_reducible repeat (first | apply Kd.V_alloc | apply Kd.V_drewN | apply Kd.V_drew)); exact HL572_1.out, jH HB⟩
       ·replace c11 := Bool.eq_false_iff.mpr c11
        subst c11
        rw [if_neg (show ¬ (false = true) by decide)] at H
        have H' := Aside0.mk H
        clear H
        have p569 : 0 ≤ (x8_1 : Int) := oD (jA)
        have q569 : x8_1 < (l0.length : Int) := oD (jA)
        obtain ⟨ad569, A569_0, c569_0, A569_1, c569_1, e569, hx569_0, hx569_1, hx569_2, hl569_0, hi569_0, hl569_1, hi569_1⟩ := at_T45 (Kd.V_reads' HO_0.out).2.2 x8_1 p569 q569
        cases e569
        obtain ⟨ce569, hce569, hMe569, hcc569⟩ := Kd.V_get HO_0.out z45 x8_1 p569 (by first | exact q569 | exact oD (jA) | (have e_ := (Kd.V_reads' HO_0.out).1; omega))
        obtain ⟨ua569_0, uc569_0, ua569_1, uc569_1, rfl, ul569_0, ge569_0, ul569_1, ge569_1⟩ := k45_openF hMe569
        have hv569_0 := hcc569 0 _ rfl
        rw [Nat.add_zero] at hv569_0
        replace hv569_0 := Option.some.inj (hv569_0.symm.trans hx569_0)
        injection hv569_0 with hva_ hvn_ hvc_
        rw [hva_] at ge569_0
        rw [hvc_] at ul569_0
        have HL569_0 := Aside0.mk (show Kd.V k59 59 _ w.heap.size _ _ ((rd_T45 l0 x8_1).f0) from Kd.V_mk ul569_0 ge569_0)
        clear hva_ hvn_ hvc_ ge569_0 ul569_0
        have hv569_1 := hcc569 1 _ rfl
        rw [add_field _ _ 1 (by omega)] at hv569_1
        replace hv569_1 := Option.some.inj (hv569_1.symm.trans hx569_1)
        injection hv569_1 with hva_ hvn_ hvc_
        rw [hva_] at ge569_1
        rw [hvc_] at ul569_1
        have HL569_1 := Aside0.mk (show Kd.V k59 59 _ w.heap.size _ _ ((rd_T45 l0 x8_1).f1) from Kd.V_mk ul569_1 ge569_1)
        clear hva_ hvn_ hvc_ ge569_1 ul569_1
        clear hcc569 hce569
        have HR569_0 := Aside0.mk hi569_0
        have HC569_0 := Aside0.mk hl569_0
        clear hi569_0 hl569_0
        have HR569_1 := Aside0.mk hi569_1
        have HC569_1 := Aside0.mk hl569_1
        clear hi569_1 hl569_1
        replace p569 := eq_true p569
        replace q569 := eq_true q569
        have p570 : 0 ≤ (x8_1 : Int) := oD (jA)
        have q570 : x8_1 < (l0.length : Int) := oD (jA)
        obtain ⟨ad570, A570_0, c570_0, A570_1, c570_1, e570, hx570_0, hx570_1, hx570_2, hl570_0, hi570_0, hl570_1, hi570_1⟩ := at_T45 (Kd.V_reads' HO_0.out).2.2 x8_1 p570 q570
        obtain rfl : ad569 = ad570 := (by injection e570)
        obtain ⟨ce570, hce570, hMe570, hcc570⟩ := Kd.V_get HO_0.out z45 x8_1 p570 (by first | exact q570 | exact oD (jA) | (have e_ := (Kd.V_reads' HO_0.out).1; omega))
        obtain ⟨ua570_0, uc570_0, ua570_1, uc570_1, rfl, ul570_0, ge570_0, ul570_1, ge570_1⟩ := k45_openF hMe570
        have hv570_0 := hcc570 0 _ rfl
        rw [Nat.add_zero] at hv570_0
        replace hv570_0 := Option.some.inj (hv570_0.symm.trans hx570_0)
        injection hv570_0 with hva_ hvn_ hvc_
        rw [hva_] at ge570_0
        rw [hvc_] at ul570_0
        have HL570_0 := Aside0.mk (show Kd.V k59 59 _ w.heap.size _ _ ((rd_T45 l0 x8_1).f0) from Kd.V_mk ul570_0 ge570_0)
        clear hva_ hvn_ hvc_ ge570_0 ul570_0
        have hv570_1 := hcc570 1 _ rfl
        rw [add_field _ _ 1 (by omega)] at hv570_1
        replace hv570_1 := Option.some.inj (hv570_1.symm.trans hx570_1)
        injection hv570_1 with hva_ hvn_ hvc_
        rw [hva_] at ge570_1
        rw [hvc_] at ul570_1
        have HL570_1 := Aside0.mk (show Kd.V k59 59 _ w.heap.size _ _ ((rd_T45 l0 x8_1).f1) from Kd.V_mk ul570_1 ge570_1)
        clear hva_ hvn_ hvc_ ge570_1 ul570_1
        clear hcc570 hce570
        have HR570_0 := Aside0.mk hi570_0
        have HC570_0 := Aside0.mk hl570_0
        clear hi570_0 hl570_0
        have HR570_1 := Aside0.mk hi570_1
        have HC570_1 := Aside0.mk hl570_1
        clear hi570_1 hl570_1
        replace p570 := eq_true p570
        replace q570 := eq_true q570
        have ea_ := Option.some.inj (hx569_0.symm.trans hx570_0)
        injection ea_ with ea_ en_ ec_
        subst ea_
        subst ec_
        clear en_
        have ea_ := Option.some.inj (hx569_1.symm.trans hx570_1)
        injection ea_ with ea_ en_ ec_
        subst ea_
        subst ec_
        clear en_
        go_wp2_with (first | (go_at_call 25; (with_reducible refine (r03_Same.calls k1 _ _ ((rd_T45 l0 x8_1).f0) _ _ l1 false _ ?side1 ?side2 ?side3 ?side4 A10.out).mono ?_); (case side1 => repeat (first | exact (by repeat (first | (with_reducible exact HR570_0.out) | (with_reducible refine Kd.C_alloc ?_ _) | (with_reducible refine Kd.C_drewN ?_ _) | (with_reducible refine Kd.C_drew ?_) | exact HR570_0.out)) | (with_reducible refine Kd.C_alloc ?_ _) | (with_reducible refine Kd.C_drewN ?_ _) | (with_reducible refine Kd.C_drew ?_))); (case side2 => exact HC570_0.out); (case side3 => exact jC (Kd.C_below HR1.out HB.out)); (case side4 => exact HC1.out); rintro e w' ⟨rfl, ⟨nd, rfl⟩⟩))
        go_roundg k1
        case measure => have := HK1.out; omega
        case rel => exact ⟨(wrap64 (x8_1 + 1)), jS, H', ⟨by have := HK1.out; omega⟩, ⟨jV HO_0⟩, ⟨jH HB⟩⟩
      ·rw [if_neg c9] at H
       have c9b0 : ((Int.tmod a2 262144) == ((rd_T45 l0 x8_1).f2)) = false := bF.mpr c9
       have c9b1 : ((Int.tmod a2 262144) != ((rd_T45 l0 x8_1).f2)) = true := nI.mpr c9
       have H' := Aside0.mk H
       clear H
       have p569 : 0 ≤ (x8_1 : Int) := oD (jA)
       have q569 : x8_1 < (l0.length : Int) := oD (jA)
       obtain ⟨ad569, A569_0, c569_0, A569_1, c569_1, e569, hx569_0, hx569_1, hx569_2, hl569_0, hi569_0, hl569_1, hi569_1⟩ := at_T45 (Kd.V_reads' HO_0.out).2.2 x8_1 p569 q569
       cases e569
       obtain ⟨ce569, hce569, hMe569, hcc569⟩ := Kd.V_get HO_0.out z45 x8_1 p569 (by first | exact q569 | exact oD (jA) | (have e_ := (Kd.V_reads' HO_0.out).1; omega))
       obtain ⟨ua569_0, uc569_0, ua569_1, uc569_1, rfl, ul569_0, ge569_0, ul569_1, ge569_1⟩ := k45_openF hMe569
       have hv569_0 := hcc569 0 _ rfl
       rw [Nat.add_zero] at hv569_0
       replace hv569_0 := Option.some.inj (hv569_0.symm.trans hx569_0)
       injection hv569_0 with hva_ hvn_ hvc_
       rw [hva_] at ge569_0
       rw [hvc_] at ul569_0
       have HL569_0 := Aside0.mk (show Kd.V k59 59 _ w.heap.size _ _ ((rd_T45 l0 x8_1).f0) from Kd.V_mk ul569_0 ge569_0)
       clear hva_ hvn_ hvc_ ge569_0 ul569_0
       have hv569_1 := hcc569 1 _ rfl
       rw [add_field _ _ 1 (by omega)] at hv569_1
       replace hv569_1 := Option.some.inj (hv569_1.symm.trans hx569_1)
       injection hv569_1 with hva_ hvn_ hvc_
       rw [hva_] at ge569_1
       rw [hvc_] at ul569_1
       have HL569_1 := Aside0.mk (show Kd.V k59 59 _ w.heap.size _ _ ((rd_T45 l0 x8_1).f1) from Kd.V_mk ul569_1 ge569_1)
       clear hva_ hvn_ hvc_ ge569_1 ul569_1
       clear hcc569 hce569
       have HR569_0 := Aside0.mk hi569_0
       have HC569_0 := Aside0.mk hl569_0
       clear hi569_0 hl569_0
       have HR569_1 := Aside0.mk hi569_1
       have HC569_1 := Aside0.mk hl569_1
       clear hi569_1 hl569_1
       replace p569 := eq_true p569
       replace q569 := eq_true q569
       go_wp2
       go_roundg k1
       case measure => have := HK1.out; omega
       case rel => exact ⟨(wrap64 (x8_1 + 1)), jS, H', ⟨by have := HK1.out; omega⟩, ⟨jV HO_0⟩, ⟨jH HB⟩⟩
     ·rw [if_neg c8] at H
      exact absurd H (by simp)
    ·rw [if_neg c7] at H
     have c7b0 := dF c7
     clear c7
     simp only [Option.some.injEq, Prod.mk.injEq] at H
     obtain ⟨rfl, rfl⟩ := H
     go_wp2
     go_ret2
     exact ⟨_, jE, by first | exact Kd.R_nil _ _ _ _ _ | exact Kd.N_nil _ _ _ _ _ | exact Kd.V_nil _ _ _ _ _ | exact Kd.Q_nil _ _ _ _ _ | exact Kd.S_nil _ _ _ _ _, jH HB⟩
 ·replace c5 := Bool.eq_false_iff.mpr c5
  subst c5
  rw [if_neg (show ¬ (false = true) by decide)] at H
  simp only [Option.some.injEq, Prod.mk.injEq] at H
  obtain ⟨rfl, rfl⟩ := H
  go_enter Tryd.func24, Tryd.ntmps24
  go_wp2_with (first | ((with_reducible refine gate_callee (f := 13) rfl ?_); refine goesL_ (some 10) rfl rfl Tryd.func13 (by kernel_rfl) rfl #[.slice A0 l0.length c0] rfl jZ ?_; (with_reducible refine (r21_Right.calls k _ _ l0 false _ ?side1 ?side2 A4.out).mono ?_); (case side1 => exact jC (Kd.V_reads' HO0.out).2.2); (case side2 => exact (Kd.V_reads' HO0.out).2.1); rintro e w12 ⟨rfl, hb⟩; refine ⟨_, rfl, ?_⟩; replace HO0 := Aside0.mk (Kd.V_below (jV HO0) hb); replace HB := Aside0.mk (zT (jH HB) hb); (try clear hb); (try clear hb2); (try clear hk); (try clear hi)))
  go_ret2
  exact ⟨_, jE, by first | exact Kd.R_nil _ _ _ _ _ | exact Kd.N_nil _ _ _ _ _ | exact Kd.V_nil _ _ _ _ _ | exact Kd.Q_nil _ _ _ _ _ | exact Kd.S_nil _ _ _ _ _, jH HB⟩
end Go.Proofs.YtahacmdhhfmhiaaDoor.M
