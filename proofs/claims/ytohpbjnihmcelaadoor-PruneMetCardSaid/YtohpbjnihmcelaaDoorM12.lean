/- What Go functions compute; their calls come to it. No condition. -/
import Derived.Test.YtohpbjnihmcelaaDoorM0
import Derived.Test.YtohpbjnihmcelaaDoorM1
import Derived.Test.YtohpbjnihmcelaaDoorM7
import Derived.Test.YtohpbjnihmcelaaDoorM8
import Derived.Test.YtohpbjnihmcelaaDoorM11
namespace Go.Proofs.YtohpbjnihmcelaaDoor.M
open Go.RowKit Go.Proofs.YtohpbjnihmcelaaDoorW.PrintWords Go.Proofs.YtohpbjnihmcelaaDoorW.PrintLast Go.Proofs.YtohpbjnihmcelaaDoorW.PrintMore
attribute [local go_sem] max2_int min2_int max_two min_two max_three min_three max_four min_four   -- for this text's walks alone
set_option linter.unusedVariables false
set_option linter.unusedSimpArgs false
attribute [local go_sem high] eqA45
def l23_knows.f (k : Nat)  : Option (Bool) := (codec_Parse.f k (⟨#[106, 97, 32, 48, 120, 49, 10, 110, 101, 103, 10, 114, 101, 116, 97, 10]⟩ : ByteArray)).bind fun bt139 => ((prune_Prune.f k bt139.1).bind fun bt144 => ((prune_Met.f k bt139.1).bind fun bt148 => (if bt139.2.2 = 0 then (if bt144.2 = 0 then (if (bt144.1.length : Int) = 2 then (if 0 < (bt144.1.length : Int) then (if (((rd_T45 bt144.1 0).f0) == 5 && (((rd_T45 bt144.1 0).f1) == 0 && (((rd_T45 bt144.1 0).f2) == 0 && (((rd_T45 bt144.1 0).f3) == 0)))) = true then (if bt148.2 = 0 then (if (bt148.1.length : Int) = 3 then (if 0 < (bt148.1.length : Int) then (if rdOf false bt148.1 0 = true then (if 1 < (bt148.1.length : Int) then (if rdOf false bt148.1 1 = true then (none) else (if 2 < (bt148.1.length : Int) then (some (rdOf false bt148.1 2)) else (none))) else (none)) else (none)) else (none)) else (none)) else (none)) else (none)) else (none)) else (none)) else (none)) else (none))))
theorem l23_knows.mono : ∀ k, LeO (l23_knows.f k ) (l23_knows.f (k + 1) ) := by
 intro  k
 unfold l23_knows.f
 repeat' first
   | (with_reducible apply codec_Parse.mono)
   | (with_reducible apply prune_Met.mono)
   | (with_reducible apply prune_Prune.mono)
   | (with_reducible exact LeO.refl _)
   | (with_reducible exact LeO.none _)
   | (with_reducible refine LeO.ite ?_ ?_)
   | (with_reducible refine LeO.bind ?_ (fun _ => ?_))
   | apply codec_Parse.mono
   | apply prune_Met.mono
   | apply prune_Prune.mono
   | exact LeO.none _
   | refine LeO.ite ?_ ?_
   | refine LeO.bind ?_ (fun _ => ?_)
set_option maxHeartbeats 8000000 in
set_option maxRecDepth 100000 in
theorem l23_knows.calls (k : Nat)  (r : Bool) (w : World) (hG : Glob w) (h : l23_knows.f k  = some r) :
  Calls Tryd.prog 8 #[] w fun e w' => e = .returned (.bool r) ∧ Below w.heap.size w w' := by
 have hu45 := Tryd.underlying45
 have HG := Aside0.mk hG
 clear hG
 have HB := Aside0.mk (Below.refl w.heap.size w)
 have H : ((codec_Parse.f k (⟨#[106, 97, 32, 48, 120, 49, 10, 110, 101, 103, 10, 114, 101, 116, 97, 10]⟩ : ByteArray)).bind fun bt139 => ((prune_Prune.f k bt139.1).bind fun bt144 => ((prune_Met.f k bt139.1).bind fun bt148 => (if bt139.2.2 = 0 then (if bt144.2 = 0 then (if (bt144.1.length : Int) = 2 then (if 0 < (bt144.1.length : Int) then (if (((rd_T45 bt144.1 0).f0) == 5 && (((rd_T45 bt144.1 0).f1) == 0 && (((rd_T45 bt144.1 0).f2) == 0 && (((rd_T45 bt144.1 0).f3) == 0)))) = true then (if bt148.2 = 0 then (if (bt148.1.length : Int) = 3 then (if 0 < (bt148.1.length : Int) then (if rdOf false bt148.1 0 = true then (if 1 < (bt148.1.length : Int) then (if rdOf false bt148.1 1 = true then (none) else (if 2 < (bt148.1.length : Int) then (some (rdOf false bt148.1 2)) else (none))) else (none)) else (none)) else (none)) else (none)) else (none)) else (none)) else (none)) else (none)) else (none)) else (none))))) = some r := h
 clear h
 replace H := Option.bind_eq_some_iff.mp H
 obtain ⟨⟨t139, t140, t141⟩, A10, H⟩ := H
 try dsimp only at H
 have A1 := Aside0.mk A10
 clear A10
 replace H := Option.bind_eq_some_iff.mp H
 obtain ⟨⟨t144, t145⟩, A20, H⟩ := H
 try dsimp only at H
 have A2 := Aside0.mk A20
 clear A20
 replace H := Option.bind_eq_some_iff.mp H
 obtain ⟨⟨t148, t149⟩, A30, H⟩ := H
 try dsimp only at H
 have A3 := Aside0.mk A30
 clear A30
 by_cases c4 : t141 = 0
 ·rw [if_pos c4] at H
  have c4b0 : (t141 == 0) = true := bI.mpr c4
  have c4b1 : (t141 != 0) = false := nF.mpr c4
  clear c4
  by_cases c5 : t145 = 0
  ·rw [if_pos c5] at H
   have c5b0 : (t145 == 0) = true := bI.mpr c5
   have c5b1 : (t145 != 0) = false := nF.mpr c5
   clear c5
   by_cases c6 : (t144.length : Int) = 2
   ·rw [if_pos c6] at H
    have c6b0 : ((t144.length : Int) == 2) = true := bI.mpr c6
    have c6b1 : ((t144.length : Int) != 2) = false := nF.mpr c6
    clear c6
    by_cases c7 : 0 < (t144.length : Int)
    ·rw [if_pos c7] at H
     have c7b0 : decide (0 < (t144.length : Int)) = true := dT c7
     have c7b1 : decide (0 < t144.length) = true := dT (by omega)
     clear c7
     by_cases c8 : (((rd_T45 t144 0).f0) == 5 && (((rd_T45 t144 0).f1) == 0 && (((rd_T45 t144 0).f2) == 0 && (((rd_T45 t144 0).f3) == 0)))) = true
     ·rw [if_pos c8] at H
      have c8b0 : (((rd_T45 t144 0).f0) == 5 && (((rd_T45 t144 0).f1) == 0 && (((rd_T45 t144 0).f2) == 0 && (((rd_T45 t144 0).f3) == 0)))) = true := c8
      (try (have c8b1 : decide (((rd_T45 t144 0).f0) = 5 && (((rd_T45 t144 0).f1) == 0 && (((rd_T45 t144 0).f2) == 0 && (((rd_T45 t144 0).f3) == 0)))) = true := by simpa using c8))
      (try (have c8b2 : (((rd_T45 t144 0).f0) == 5 && (((rd_T45 t144 0).f1) == 0 && (((rd_T45 t144 0).f2) == 0 && (((rd_T45 t144 0).f3) == 0)))) = true := by simpa using c8))
      clear c8
      by_cases c9 : t149 = 0
      ·rw [if_pos c9] at H
       have c9b0 : (t149 == 0) = true := bI.mpr c9
       have c9b1 : (t149 != 0) = false := nF.mpr c9
       clear c9
       by_cases c10 : (t148.length : Int) = 3
       ·rw [if_pos c10] at H
        have c10b0 : ((t148.length : Int) == 3) = true := bI.mpr c10
        have c10b1 : ((t148.length : Int) != 3) = false := nF.mpr c10
        clear c10
        by_cases c11 : 0 < (t148.length : Int)
        ·rw [if_pos c11] at H
         have c11b0 : decide (0 < (t148.length : Int)) = true := dT c11
         have c11b1 : decide (0 < t148.length) = true := dT (by omega)
         clear c11
         obtain ⟨bq12, hbq12⟩ : ∃ b_ : Bool, b_ = (rdOf false t148 0) := ⟨_, rfl⟩
         replace H : (if bq12 = true then (if 1 < (t148.length : Int) then (if rdOf false t148 1 = true then (none) else (if 2 < (t148.length : Int) then (some (rdOf false t148 2)) else (none))) else (none)) else (none)) = some r := by rw [← hbq12] at H; exact H
         have Nbq12 := Aside0.mk hbq12
         clear hbq12
         by_cases c13 : bq12 = true
         ·subst c13
          rw [if_pos rfl] at H
          by_cases c14 : 1 < (t148.length : Int)
          ·rw [if_pos c14] at H
           have c14b0 : decide (1 < (t148.length : Int)) = true := dT c14
           have c14b1 : decide (1 < t148.length) = true := dT (by omega)
           clear c14
           obtain ⟨bq15, hbq15⟩ : ∃ b_ : Bool, b_ = (rdOf false t148 1) := ⟨_, rfl⟩
           replace H : (if bq15 = true then (none) else (if 2 < (t148.length : Int) then (some (rdOf false t148 2)) else (none))) = some r := by rw [← hbq15] at H; exact H
           have Nbq15 := Aside0.mk hbq15
           clear hbq15
           by_cases c16 : bq15 = true
           ·subst c16
            rw [if_pos rfl] at H
            exact absurd H (by simp)
           ·replace c16 := Bool.eq_false_iff.mpr c16
            subst c16
            rw [if_neg (show ¬ (false = true) by decide)] at H
            by_cases c17 : 2 < (t148.length : Int)
            ·rw [if_pos c17] at H
             have c17b0 : decide (2 < (t148.length : Int)) = true := dT c17
             have c17b1 : decide (2 < t148.length) = true := dT (by omega)
             clear c17
             obtain rfl := Option.some.inj H
             go_enter Tryd.func8, Tryd.ntmps8
             go_wp2_with (first | ((with_reducible refine gate_callee (f := 17) rfl ?_); refine goesL_ (some 9) rfl rfl Tryd.func17 (by kernel_rfl) rfl #[.string (⟨#[106, 97, 32, 48, 120, 49, 10, 110, 101, 103, 10, 114, 101, 116, 97, 10]⟩ : ByteArray)] rfl jZ ?_; (with_reducible refine (codec_Parse.calls k (⟨#[106, 97, 32, 48, 120, 49, 10, 110, 101, 103, 10, 114, 101, 116, 97, 10]⟩ : ByteArray) t139 t140 t141 _ ?side1 A1.out).mono ?_); (case side1 => exact Glob.below HG.out (jH HB)); rintro e w18 ⟨v142, rfl, ho0, hb⟩; refine ⟨_, rfl, ?_⟩; have n0_ := Aside0.mk (Kd.R_lower ho0 (zZ (jH HB))); have n1_ := Aside0.mk (zT (jH HB) hb); clear HB; have HO143 := n0_; have HB := n1_; clear n0_ n1_; (try clear hb); (try clear hb2); (try clear hk); (try clear hi); (try clear ho0); obtain ⟨Ao19, co19, eo19⟩ := Kd.R_slice HO143.out; subst eo19) | ((with_reducible refine gate_callee (f := 10) rfl ?_); refine goesL_ (some 15) rfl rfl Tryd.func10 (by kernel_rfl) rfl #[.slice Ao19 t139.length co19] rfl jZ ?_; (with_reducible refine (prune_Prune.calls k _ _ t139 t144 t145 _ ?side1 ?side2 ?side3 A2.out).mono ?_); (case side1 => exact jC (Kd.R_reads' HO143.out).2.2); (case side2 => exact (Kd.R_reads' HO143.out).2.1); (case side3 => exact Glob.below HG.out (jH HB)); rintro e w20 ⟨v146, rfl, ho0, hb⟩; refine ⟨_, rfl, ?_⟩; have n0_ := Aside0.mk (Kd.R_elder' (jR HO143) (Kd.R_base ho0) hb); have n1_ := Aside0.mk (Kd.R_lower (Kd.R_new' ho0 (Kd.R_lt (jR HO143))) (zZ (jH HB))); have n2_ := Aside0.mk (zT (jH HB) hb); clear HO143; clear HB; have HO143 := n0_; have HO147 := n1_; have HB := n2_; clear n0_ n1_ n2_; (try clear hb); (try clear hb2); (try clear hk); (try clear hi); (try clear ho0)) | ((with_reducible refine gate_callee (f := 9) rfl ?_); refine goesL_ (some 20) rfl rfl Tryd.func9 (by kernel_rfl) rfl #[.slice Ao19 t139.length co19] rfl jZ ?_; (with_reducible refine (prune_Met.calls k _ _ t139 t148 t149 _ ?side1 ?side2 ?side3 A3.out).mono ?_); (case side1 => exact jC (Kd.R_reads' HO143.out).2.2); (case side2 => exact (Kd.R_reads' HO143.out).2.1); (case side3 => exact Glob.below HG.out (jH HB)); rintro e w21 ⟨v150, rfl, ho0, hb⟩; refine ⟨_, rfl, ?_⟩; have n0_ := Aside0.mk (Kd.R_below (jR HO143) hb); have n1_ := Aside0.mk (Kd.R_below (jR HO147) hb); have n2_ := Aside0.mk (Kd.R_lower ho0 (zZ (jH HB))); have n3_ := Aside0.mk (zT (jH HB) hb); clear HO143; clear HO147; clear HB; have HO143 := n0_; have HO147 := n1_; have HO151 := n2_; have HB := n3_; clear n0_ n1_ n2_ n3_; (try clear hb); (try clear hb2); (try clear hk); (try clear hi); (try clear ho0); obtain ⟨Ao22, co22, eo22⟩ := Kd.R_slice HO147.out; subst eo22; have p152 : 0 ≤ (0 : Int) := (by omega); have q152 : 0 < (t144.length : Int) := oD (jA); obtain ⟨ad152, e152, hx152_0, hx152_1, hx152_2, hx152_3⟩ := at_T45 (Kd.R_reads' HO147.out).2.2 0 p152 q152; cases e152; have qi152 : (0 < t144.length) = True := eq_true (by omega); (try rw [show ((0 : Int)).toNat = 0 from rfl] at hx152_0); (try rw [show 0 * 4 = 0 from rfl] at hx152_0); (try rw [Addr.add_zero'] at hx152_0); (try rw [show ((0 : Int)).toNat = 0 from rfl] at hx152_1); (try rw [show 0 * 4 = 0 from rfl] at hx152_1); (try rw [Addr.add_zero'] at hx152_1); (try rw [show ((0 : Int)).toNat = 0 from rfl] at hx152_2); (try rw [show 0 * 4 = 0 from rfl] at hx152_2); (try rw [Addr.add_zero'] at hx152_2); (try rw [show ((0 : Int)).toNat = 0 from rfl] at hx152_3); (try rw [show 0 * 4 = 0 from rfl] at hx152_3); (try rw [Addr.add_zero'] at hx152_3); replace p152 := eq_true p152; replace q152 := eq_true q152; obtain ⟨Ao23, co23, eo23⟩ := Kd.R_slice HO151.out; subst eo23; have p153 : 0 ≤ (0 : Int) := (by omega); have q153 : 0 < (t148.length : Int) := oD (jA); obtain ⟨ad153, e153, hx153_0⟩ := Kd.at_bool (Kd.R_reads' HO151.out).2.2 0 p153 q153; (try rw [← Nbq12.out] at hx153_0); (try rw [← Nbq15.out] at hx153_0); cases e153; have qi153 : (0 < t148.length) = True := eq_true (by omega); (try rw [show ((0 : Int)).toNat = 0 from rfl] at hx153_0); (try rw [Addr.add_zero'] at hx153_0); replace p153 := eq_true p153; replace q153 := eq_true q153; have p154 : 0 ≤ (1 : Int) := (by omega); have q154 : 1 < (t148.length : Int) := oD (jA); obtain ⟨ad154, e154, hx154_0⟩ := Kd.at_bool (Kd.R_reads' HO151.out).2.2 1 p154 q154; (try rw [← Nbq12.out] at hx154_0); (try rw [← Nbq15.out] at hx154_0); obtain rfl : ad153 = ad154 := (by injection e154); (try simp only [show (1 : Int).toNat = 1 from rfl, Nat.reduceMul, Nat.reduceEqDiff, Go.Addr.add, ↓reduceIte] at hx154_0); have qi154 : (1 < t148.length) = True := eq_true (by omega); (try rw [show ((1 : Int)).toNat = 1 from rfl] at hx154_0); replace p154 := eq_true p154; replace q154 := eq_true q154; have p155 : 0 ≤ (2 : Int) := (by omega); have q155 : 2 < (t148.length : Int) := oD (jA); obtain ⟨ad155, e155, hx155_0⟩ := Kd.at_bool (Kd.R_reads' HO151.out).2.2 2 p155 q155; (try rw [← Nbq12.out] at hx155_0); (try rw [← Nbq15.out] at hx155_0); obtain rfl : ad153 = ad155 := (by injection e155); (try simp only [show (2 : Int).toNat = 2 from rfl, Nat.reduceMul, Nat.reduceEqDiff, Go.Addr.add, ↓reduceIte] at hx155_0); have qi155 : (2 < t148.length) = True := eq_true (by omega); (try rw [show ((2 : Int)).toNat = 2 from rfl] at hx155_0); replace p155 := eq_true p155; replace q155 := eq_true q155))
             go_ret
             exact ⟨jE, jH HB⟩
            ·rw [if_neg c17] at H
             exact absurd H (by simp)
          ·rw [if_neg c14] at H
           exact absurd H (by simp)
         ·replace c13 := Bool.eq_false_iff.mpr c13
          subst c13
          rw [if_neg (show ¬ (false = true) by decide)] at H
          exact absurd H (by simp)
        ·rw [if_neg c11] at H
         exact absurd H (by simp)
       ·rw [if_neg c10] at H
        exact absurd H (by simp)
      ·rw [if_neg c9] at H
       exact absurd H (by simp)
     ·rw [if_neg c8] at H
      exact absurd H (by simp)
    ·rw [if_neg c7] at H
     exact absurd H (by simp)
   ·rw [if_neg c6] at H
    exact absurd H (by simp)
  ·rw [if_neg c5] at H
   exact absurd H (by simp)
 ·rw [if_neg c4] at H
  exact absurd H (by simp)
def r02_branch.f (a0 : Int) : Option (Bool) := some (decide (a0 ≥ 31))
set_option maxHeartbeats 8000000 in
set_option maxRecDepth 100000 in
theorem r02_branch.calls (a0 : Int) (r : Bool) (w : World) (h : r02_branch.f a0 = some r) :
  Calls Tryd.prog 32 #[.int .i64 a0] w fun e w' => e = .returned (.bool r) ∧ Drawn0 w w' := by
 have H : (some (decide (a0 ≥ 31))) = some r := h
 clear h
 obtain rfl := Option.some.inj H
 go_enter Tryd.func32, Tryd.ntmps32
 go_wp2
 go_ret
 exact ⟨by first | rfl | (simp; done) | (simp [*]; done), by repeat (first | exact Drawn0.refl _ | apply Drawn0.step)⟩
def r02_Ops.f  : Option (List Int) := some (([0, 1, 2, 3, 4, 20, 36, 52, 68, 84, 100, 116, 164, 12, 28, 44, 60, 76, 92, 108, 124, 172, 132, 7, 135, 32, 96, 97, 5, 6, 22, 21, 37, 53, 69, 29, 45, 61, 77] : List Int))
set_option maxHeartbeats 8000000 in
set_option maxRecDepth 100000 in
theorem r02_Ops.calls  (r : List Int) (w : World) (h : r02_Ops.f  = some r) :
  Calls Tryd.prog 43 #[] w fun e w' => ∃ v0_ : Value, e = .returned (v0_) ∧ Kd.R (Kd.int .i64) 3 w' w.heap.size (fun _ => True) v0_ r ∧ Below w.heap.size w w' := by
 have HB := Aside0.mk (Below.refl w.heap.size w)
 have H : (some (([0, 1, 2, 3, 4, 20, 36, 52, 68, 84, 100, 116, 164, 12, 28, 44, 60, 76, 92, 108, 124, 172, 132, 7, 135, 32, 96, 97, 5, 6, 22, 21, 37, 53, 69, 29, 45, 61, 77] : List Int))) = some r := h
 clear h
 obtain ⟨y156, hy156⟩ : ∃ y_ : List Int, y_ = (([0, 1, 2, 3, 4, 20, 36, 52, 68, 84, 100, 116, 164, 12, 28, 44, 60, 76, 92, 108, 124, 172, 132, 7, 135, 32, 96, 97, 5, 6, 22, 21, 37, 53, 69, 29, 45, 61, 77] : List Int)) := ⟨_, rfl⟩
 simp only [Option.bind_some, ← hy156] at H
 have Ny156 := Aside0.mk hy156
 clear hy156
 obtain rfl := Option.some.inj H
 go_enter Tryd.func43, Tryd.ntmps43
 go_wp2_with (first | ((with_reducible refine gate_dst (N := 1) rfl ?_); refine Kd.R_lit (Kd.int .i64) _ 3 ?hg (N := 1) ?hd (xs := ([0, 1, 2, 3, 4, 20, 36, 52, 68, 84, 100, 116, 164, 12, 28, 44, 60, 76, 92, 108, 124, 172, 132, 7, 135, 32, 96, 97, 5, 6, 22, 21, 37, 53, 69, 29, 45, 61, 77] : List Int)) (inner := [.int .i64 0, .int .i64 1, .int .i64 2, .int .i64 3, .int .i64 4, .int .i64 20, .int .i64 36, .int .i64 52, .int .i64 68, .int .i64 84, .int .i64 100, .int .i64 116, .int .i64 164, .int .i64 12, .int .i64 28, .int .i64 44, .int .i64 60, .int .i64 76, .int .i64 92, .int .i64 108, .int .i64 124, .int .i64 172, .int .i64 132, .int .i64 7, .int .i64 135, .int .i64 32, .int .i64 96, .int .i64 97, .int .i64 5, .int .i64 6, .int .i64 22, .int .i64 21, .int .i64 37, .int .i64 53, .int .i64 69, .int .i64 29, .int .i64 45, .int .i64 61, .int .i64 77]) (ok := fun _ => True) (okp := fun _ => True) ?hr ?hp (fun _ hk => hk) trivial (Below.refl _ _) (Nat.le_refl _) (by simp) ?_; (case hd => rfl); (case hg => rfl); (case hr => first | (go_simp; done) | (go_simp; rfl)); (case hp => exact (Reps.one (show Kd.M (Kd.int .i64) _ _ _ 0 [.int .i64 0] from rfl) (Reps.one (show Kd.M (Kd.int .i64) _ _ _ 1 [.int .i64 1] from rfl) (Reps.one (show Kd.M (Kd.int .i64) _ _ _ 2 [.int .i64 2] from rfl) (Reps.one (show Kd.M (Kd.int .i64) _ _ _ 3 [.int .i64 3] from rfl) (Reps.one (show Kd.M (Kd.int .i64) _ _ _ 4 [.int .i64 4] from rfl) (Reps.one (show Kd.M (Kd.int .i64) _ _ _ 20 [.int .i64 20] from rfl) (Reps.one (show Kd.M (Kd.int .i64) _ _ _ 36 [.int .i64 36] from rfl) (Reps.one (show Kd.M (Kd.int .i64) _ _ _ 52 [.int .i64 52] from rfl) (Reps.one (show Kd.M (Kd.int .i64) _ _ _ 68 [.int .i64 68] from rfl) (Reps.one (show Kd.M (Kd.int .i64) _ _ _ 84 [.int .i64 84] from rfl) (Reps.one (show Kd.M (Kd.int .i64) _ _ _ 100 [.int .i64 100] from rfl) (Reps.one (show Kd.M (Kd.int .i64) _ _ _ 116 [.int .i64 116] from rfl) (Reps.one (show Kd.M (Kd.int .i64) _ _ _ 164 [.int .i64 164] from rfl) (Reps.one (show Kd.M (Kd.int .i64) _ _ _ 12 [.int .i64 12] from rfl) (Reps.one (show Kd.M (Kd.int .i64) _ _ _ 28 [.int .i64 28] from rfl) (Reps.one (show Kd.M (Kd.int .i64) _ _ _ 44 [.int .i64 44] from rfl) (Reps.one (show Kd.M (Kd.int .i64) _ _ _ 60 [.int .i64 60] from rfl) (Reps.one (show Kd.M (Kd.int .i64) _ _ _ 76 [.int .i64 76] from rfl) (Reps.one (show Kd.M (Kd.int .i64) _ _ _ 92 [.int .i64 92] from rfl) (Reps.one (show Kd.M (Kd.int .i64) _ _ _ 108 [.int .i64 108] from rfl) (Reps.one (show Kd.M (Kd.int .i64) _ _ _ 124 [.int .i64 124] from rfl) (Reps.one (show Kd.M (Kd.int .i64) _ _ _ 172 [.int .i64 172] from rfl) (Reps.one (show Kd.M (Kd.int .i64) _ _ _ 132 [.int .i64 132] from rfl) (Reps.one (show Kd.M (Kd.int .i64) _ _ _ 7 [.int .i64 7] from rfl) (Reps.one (show Kd.M (Kd.int .i64) _ _ _ 135 [.int .i64 135] from rfl) (Reps.one (show Kd.M (Kd.int .i64) _ _ _ 32 [.int .i64 32] from rfl) (Reps.one (show Kd.M (Kd.int .i64) _ _ _ 96 [.int .i64 96] from rfl) (Reps.one (show Kd.M (Kd.int .i64) _ _ _ 97 [.int .i64 97] from rfl) (Reps.one (show Kd.M (Kd.int .i64) _ _ _ 5 [.int .i64 5] from rfl) (Reps.one (show Kd.M (Kd.int .i64) _ _ _ 6 [.int .i64 6] from rfl) (Reps.one (show Kd.M (Kd.int .i64) _ _ _ 22 [.int .i64 22] from rfl) (Reps.one (show Kd.M (Kd.int .i64) _ _ _ 21 [.int .i64 21] from rfl) (Reps.one (show Kd.M (Kd.int .i64) _ _ _ 37 [.int .i64 37] from rfl) (Reps.one (show Kd.M (Kd.int .i64) _ _ _ 53 [.int .i64 53] from rfl) (Reps.one (show Kd.M (Kd.int .i64) _ _ _ 69 [.int .i64 69] from rfl) (Reps.one (show Kd.M (Kd.int .i64) _ _ _ 29 [.int .i64 29] from rfl) (Reps.one (show Kd.M (Kd.int .i64) _ _ _ 45 [.int .i64 45] from rfl) (Reps.one (show Kd.M (Kd.int .i64) _ _ _ 61 [.int .i64 61] from rfl) (Reps.one (show Kd.M (Kd.int .i64) _ _ _ 77 [.int .i64 77] from rfl) (Reps.none _ _))))))))))))))))))))))))))))))))))))))))); intro v157 w1 ho2 hb hg_ hnew_; clear hg_ hnew_; (first | rw [← Ny156.out] at ho2 | (simp only [Int.reduceToNat] at ho2; rw [← Ny156.out] at ho2)); have n0_ := Aside0.mk (Kd.R_lower ho2 (zZ (jH HB))); have n1_ := Aside0.mk (zT (jH HB) hb); clear HB; have HO158 := n0_; have HB := n1_; clear n0_ n1_; clear hb ho2))
 go_ret
 exact ⟨_, jE, by (with_reducible repeat (first | apply Kd.R_alloc | apply Kd.R_drewN | apply Kd.R_drew)); exact HO158.out, jH HB⟩
end Go.Proofs.YtohpbjnihmcelaaDoor.M
