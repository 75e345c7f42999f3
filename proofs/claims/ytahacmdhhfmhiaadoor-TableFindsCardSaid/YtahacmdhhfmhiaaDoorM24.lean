/- What Go functions compute; their calls come to it. No condition. -/
import Derived.Test.YtahacmdhhfmhiaaDoorM0
import Derived.Test.YtahacmdhhfmhiaaDoorM12
import Derived.Test.YtahacmdhhfmhiaaDoorM14
import Derived.Test.YtahacmdhhfmhiaaDoorM18
import Derived.Test.YtahacmdhhfmhiaaDoorM21
import Derived.Test.YtahacmdhhfmhiaaDoorMD
namespace Go.Proofs.YtahacmdhhfmhiaaDoor.M
open Go.RowKit Go.Proofs.YtahacmdhhfmhiaaDoorW.PrintWords Go.Proofs.YtahacmdhhfmhiaaDoorW.PrintLast Go.Proofs.YtahacmdhhfmhiaaDoorW.PrintMore
attribute [local go_sem] max2_int min2_int max_two min_two max_three min_three max_four min_four   -- for this text's walks alone
set_option linter.unusedVariables false
set_option linter.unusedSimpArgs false
def l21_knows.f (k : Nat)  : Option (Bool) := (table_Encode.f k ([] : List (S42))).bind fun bt387 => ((some (([(⟨132, 0, 0, 0⟩ : S59), (⟨132, 0, 0, 0⟩ : S59)] : List (S59)) : List (S59))).bind fun y391 => ((table_Learn.f k ([] : List (S42)) y391 ([] : List (S59)) 1).bind fun bt395 => ((table_Find.f k bt395.1 y391 1).bind fun bt399 => ((table_Decode.f k ([] : List Int)).bind fun bt403 => (if (bt387.1.length : Int) = 9 then (if 5 ≤ (bt387.1.length : Int) then (if (strOfNums (bt387.1.take 5)).toList = ([72, 82, 84, 49, 0] : List UInt8) then (if bt387.2 = 0 then (if (bt395.1.length : Int) = 1 then (if bt395.2 = 0 then (if (bt399.1.length : Int) = 0 then (if bt399.2 = true then (if bt403.2 = 0 then (none) else ((table_Right.f k bt395.1).bind fun t411 => (some t411))) else (none)) else (none)) else (none)) else (none)) else (none)) else (none)) else (none)) else (none))))))
theorem l21_knows.mono : ∀ k, LeO (l21_knows.f k ) (l21_knows.f (k + 1) ) := by
 intro  k
 unfold l21_knows.f
 repeat' first
   | (with_reducible apply table_Decode.mono)
   | (with_reducible apply table_Encode.mono)
   | (with_reducible apply table_Find.mono)
   | (with_reducible apply table_Learn.mono)
   | (with_reducible apply table_Right.mono)
   | (with_reducible exact LeO.refl _)
   | (with_reducible exact LeO.none _)
   | (with_reducible refine LeO.ite ?_ ?_)
   | (with_reducible refine LeO.bind ?_ (fun _ => ?_))
   | apply table_Decode.mono
   | apply table_Encode.mono
   | apply table_Find.mono
   | apply table_Learn.mono
   | apply table_Right.mono
   | exact LeO.none _
   | refine LeO.ite ?_ ?_
   | refine LeO.bind ?_ (fun _ => ?_)
set_option maxHeartbeats 8000000 in
set_option maxRecDepth 100000 in
theorem l21_knows.calls (k : Nat)  (r : Bool) (w : World) (hG : Glob w) (h : l21_knows.f k  = some r) :
  Calls Tryd.prog 11 #[] w fun e w' => e = .returned (.bool r) ∧ Below w.heap.size w w' := by
 have hu59 := Tryd.underlying59
 have hu42 := Tryd.underlying42
 have HG := Aside0.mk hG
 clear hG
 have HB := Aside0.mk (Below.refl w.heap.size w)
 have H : ((table_Encode.f k ([] : List (S42))).bind fun bt387 => ((some (([(⟨132, 0, 0, 0⟩ : S59), (⟨132, 0, 0, 0⟩ : S59)] : List (S59)) : List (S59))).bind fun y391 => ((table_Learn.f k ([] : List (S42)) y391 ([] : List (S59)) 1).bind fun bt395 => ((table_Find.f k bt395.1 y391 1).bind fun bt399 => ((table_Decode.f k ([] : List Int)).bind fun bt403 => (if (bt387.1.length : Int) = 9 then (if 5 ≤ (bt387.1.length : Int) then (if (strOfNums (bt387.1.take 5)).toList = ([72, 82, 84, 49, 0] : List UInt8) then (if bt387.2 = 0 then (if (bt395.1.length : Int) = 1 then (if bt395.2 = 0 then (if (bt399.1.length : Int) = 0 then (if bt399.2 = true then (if bt403.2 = 0 then (none) else ((table_Right.f k bt395.1).bind fun t411 => (some t411))) else (none)) else (none)) else (none)) else (none)) else (none)) else (none)) else (none)) else (none))))))) = some r := h
 clear h
 replace H := Option.bind_eq_some_iff.mp H
 obtain ⟨⟨t387, t388⟩, A10, H⟩ := H
 try dsimp only at H
 have A1 := Aside0.mk A10
 clear A10
 obtain ⟨y391, hy391⟩ : ∃ y_ : List (S59), y_ = (([(⟨132, 0, 0, 0⟩ : S59), (⟨132, 0, 0, 0⟩ : S59)] : List (S59))) := ⟨_, rfl⟩
 simp only [Option.bind_some, ← hy391] at H
 have Ny391 := Aside0.mk hy391
 clear hy391
 replace H := Option.bind_eq_some_iff.mp H
 obtain ⟨⟨t395, t398⟩, A20, H⟩ := H
 try dsimp only at H
 have A2 := Aside0.mk A20
 clear A20
 replace H := Option.bind_eq_some_iff.mp H
 obtain ⟨⟨t399, t400⟩, A30, H⟩ := H
 try dsimp only at H
 have A3 := Aside0.mk A30
 clear A30
 replace H := Option.bind_eq_some_iff.mp H
 obtain ⟨⟨t403, t404⟩, A40, H⟩ := H
 try dsimp only at H
 have A4 := Aside0.mk A40
 clear A40
 by_cases c5 : (t387.length : Int) = 9
 ·rw [if_pos c5] at H
  have c5b0 : ((t387.length : Int) == 9) = true := bI.mpr c5
  have c5b1 : ((t387.length : Int) != 9) = false := nF.mpr c5
  clear c5
  by_cases c6 : 5 ≤ (t387.length : Int)
  ·rw [if_pos c6] at H
   have c6b0 := eq_true c6
   have c6b1 : decide (5 ≤ (t387.length : Int)) = true := dT c6
   clear c6
   obtain ⟨y407, hy407⟩ : ∃ y_ : List Int, y_ = (t387.take 5) := ⟨_, rfl⟩
   simp only [Option.bind_some, ← hy407] at H
   have Ny407 := Aside0.mk hy407
   clear hy407
   by_cases c7 : (strOfNums y407).toList = ([72, 82, 84, 49, 0] : List UInt8)
   ·rw [if_pos c7] at H
    have c7b0 : ((strOfNums y407).toList == ([72, 82, 84, 49, 0] : List UInt8)) = true := bI.mpr c7
    have c7b1 : ((strOfNums y407).toList != ([72, 82, 84, 49, 0] : List UInt8)) = false := nF.mpr c7
    clear c7
    by_cases c8 : t388 = 0
    ·rw [if_pos c8] at H
     have c8b0 : (t388 == 0) = true := bI.mpr c8
     have c8b1 : (t388 != 0) = false := nF.mpr c8
     clear c8
     by_cases c9 : (t395.length : Int) = 1
     ·rw [if_pos c9] at H
      have c9b0 : ((t395.length : Int) == 1) = true := bI.mpr c9
      have c9b1 : ((t395.length : Int) != 1) = false := nF.mpr c9
      clear c9
      by_cases c10 : t398 = 0
      ·rw [if_pos c10] at H
       have c10b0 : (t398 == 0) = true := bI.mpr c10
       have c10b1 : (t398 != 0) = false := nF.mpr c10
       clear c10
       by_cases c11 : (t399.length : Int) = 0
       ·rw [if_pos c11] at H
        have c11b0 : ((t399.length : Int) == 0) = true := bI.mpr c11
        have c11b1 : ((t399.length : Int) != 0) = false := nF.mpr c11
        clear c11
        by_cases c12 : t400 = true
        ·subst c12
         rw [if_pos rfl] at H
         by_cases c13 : t404 = 0
         ·rw [if_pos c13] at H
          exact absurd H (by simp)
         ·rw [if_neg c13] at H
          have c13b0 : (t404 == 0) = false := bF.mpr c13
          have c13b1 : (t404 != 0) = true := nI.mpr c13
          replace H := Option.bind_eq_some_iff.mp H
          obtain ⟨t411, A140, H⟩ := H
          try dsimp only at H
          have A14 := Aside0.mk A140
          clear A140
          obtain rfl := Option.some.inj H
          go_enter Tryd.func11, Tryd.ntmps11
          go_wp2_with (first | ((with_reducible refine gate_callee (f := 12) rfl ?_); refine goesL_ (some 11) rfl rfl Tryd.func12 (by kernel_rfl) rfl #[.slice none 0 0] rfl jZ ?_; (refine (table_Encode.calls k _ _ ([] : List (S42)) t387 t388 _ ?side1 ?side2 ?side3 A1.out).mono ?_); (case side1 => exact Kd.C_nil _ _); (case side2 => exact Nat.le_refl _); (case side3 => exact Glob.below HG.out (jH HB)); rintro e w15 ⟨v389, rfl, ho0, hb⟩; refine ⟨_, rfl, ?_⟩; have HO390 := Aside0.mk (Kd.R_lower ho0 (zZ (jH HB))); replace HB := Aside0.mk (zT (jH HB) hb); (try clear hb); (try clear hb2); (try clear hk); (try clear hi); (try clear ho0)) | ((with_reducible refine gate_dst (N := 16) rfl ?_); (try (refine gate_guard (by rfl) ?_; dsimp only)); refine Kd.R_lit k59 _ 59 ?hg (N := 16) ?hd (xs := ([(⟨132, 0, 0, 0⟩ : S59), (⟨132, 0, 0, 0⟩ : S59)] : List (S59))) (inner := [.int .i64 132, .int .i64 0, .int .i64 0, .int .u32 0, .int .i64 132, .int .i64 0, .int .i64 0, .int .u32 0]) (ok := fun _ => True) (okp := fun _ => True) ?hr ?hp (fun _ hk => hk) trivial (Below.refl _ _) (Nat.le_refl _) (by simp) ?_; (case hd => rfl); (case hg => rfl); (case hr => first | (go_simp; done) | (go_simp; rfl)); (case hp => exact (Reps.c4 (show Kd.M k59 _ _ _ (⟨132, 0, 0, 0⟩ : S59) [.int .i64 132, .int .i64 0, .int .i64 0, .int .u32 0] from (k59_mkM _ _ _ (⟨132, 0, 0, 0⟩ : S59) )) (Reps.c4 (show Kd.M k59 _ _ _ (⟨132, 0, 0, 0⟩ : S59) [.int .i64 132, .int .i64 0, .int .i64 0, .int .u32 0] from (k59_mkM _ _ _ (⟨132, 0, 0, 0⟩ : S59) )) (Reps.none _ _)))); intro v392 w16 ho17 hb hg_ hnew_; clear hg_ hnew_; (first | rw [← Ny391.out] at ho17 | (simp only [Int.reduceToNat] at ho17; rw [← Ny391.out] at ho17)); have HO393 := Aside0.mk (Kd.R_lower ho17 (zZ (jH HB))); replace HO390 := Aside0.mk (Kd.R_below (jR HO390) hb); replace HB := Aside0.mk (zT (jH HB) hb); clear hb ho17; obtain ⟨Ao18, co18, eo18⟩ := Kd.R_slice HO393.out; subst eo18) | ((with_reducible refine gate_dst (N := 3) rfl ?_); (try (refine gate_guard (by rfl) ?_; dsimp only)); refine box_event rfl (N := 3) rfl (cs := #[.slice none 0 0, .slice none 0 0, .int .u32 0]) (t := 42) jW ?_; intro gb394 hg w19 hbox hb; have BK394 := Aside0.mk hbox; have GW394 := Aside0.mk (jG hg HB); have GE394 := Aside0.mk (jG hg HB); replace HO390 := Aside0.mk (Kd.R_below (jR HO390) hb); replace HO393 := Aside0.mk (Kd.R_below (jR HO393) hb); replace HB := Aside0.mk (zT (jH HB) hb); clear hb hbox hg; obtain ⟨hcz20_0, hcz20_1, hcz20_2, hfz20_0, hfz20_1, hfz20_2⟩ := kQ3 BK394.out) | ((with_reducible refine gate_store (t := 42) (p := 3) rfl ?_); refine store_event (t := 42) (p := 3) (v := ?vo_w21) (w1 := (((w19.setCell ⟨gb394, 0, none⟩ (.slice Ao18 y391.length co18)).setCell ⟨gb394, 1, none⟩ (.slice none 0 0)).setCell ⟨gb394, 2, none⟩ (.int .u32 1))) ?hg ?ho ?hn ?hr ?_; (case ho => rfl); (case hg => rfl); (case hn => rfl); (case hr => first | (go_simp; done) | (go_simp; rfl)); intro w21 hw; have n0_ : Aside0 (Kd.R (Kd.int .u8) 5 w21 w.heap.size (fun _ => True) v389 t387) := ⟨(by rw [hw]; exact (by (with_reducible repeat (first | apply Kd.R_alloc | apply Kd.R_drewN | apply Kd.R_drew)); exact Kd.R_mono (Kd.R_far (p := ⟨gb394, 2, none⟩) (Kd.R_far (p := ⟨gb394, 1, none⟩) (Kd.R_far (p := ⟨gb394, 0, none⟩) (Kd.R_types HO390.out BK394.out (by decide)) (fun _ hk => hk.2) (.slice Ao18 y391.length co18)) (fun _ hk => hk.2) (.slice none 0 0)) (fun _ hk => hk.2) (.int .u32 1)) (fun _ hk => trivial)))⟩; have n1_ : Aside0 (Kd.R k59 59 w21 w.heap.size (fun _ => True) (.slice Ao18 y391.length co18) y391) := ⟨(by rw [hw]; exact (by (with_reducible repeat (first | apply Kd.R_alloc | apply Kd.R_drewN | apply Kd.R_drew)); exact Kd.R_mono (Kd.R_far (p := ⟨gb394, 2, none⟩) (Kd.R_far (p := ⟨gb394, 1, none⟩) (Kd.R_far (p := ⟨gb394, 0, none⟩) (Kd.R_types HO393.out BK394.out (by decide)) (fun _ hk => hk.2) (.slice Ao18 y391.length co18)) (fun _ hk => hk.2) (.slice none 0 0)) (fun _ hk => hk.2) (.int .u32 1)) (fun _ hk => trivial)))⟩; have n2_ : Aside0 (w21.heap[gb394]? = some (.cells #[.slice Ao18 y391.length co18, .slice none 0 0, .int .u32 1] 42 (0, 0))) := ⟨(by rw [hw]; exact (by (with_reducible repeat (first | refine kN ?_ _ | refine kD ?_ | refine kA ?_ _)); refine kP (cs := #[.slice Ao18 y391.length co18, .slice none 0 0, .int .u32 0]) ?_ 2 _ rfl; (with_reducible repeat (first | refine kN ?_ _ | refine kD ?_ | refine kA ?_ _)); refine kP (cs := #[.slice Ao18 y391.length co18, .slice none 0 0, .int .u32 0]) ?_ 1 _ rfl; (with_reducible repeat (first | refine kN ?_ _ | refine kD ?_ | refine kA ?_ _)); refine kP (cs := #[.slice none 0 0, .slice none 0 0, .int .u32 0]) ?_ 0 _ rfl; (with_reducible repeat (first | refine kN ?_ _ | refine kD ?_ | refine kA ?_ _)); exact BK394.out))⟩; have n3_ : Aside0 (Below w.heap.size w w21) := ⟨(by rw [hw]; exact (jH HB))⟩; clear hw; clear HO390; clear HO393; clear BK394; clear HB; have HO390 := n0_; have HO393 := n1_; have BK394 := n2_; have HB := n3_; clear n0_ n1_ n2_ n3_; obtain ⟨hcz22_0, hcz22_1, hcz22_2, hfz22_0, hfz22_1, hfz22_2⟩ := kQ3 BK394.out) | ((with_reducible refine gate_callee (f := 20) rfl ?_); refine goesL_ (some 20) rfl rfl Tryd.func20 (by kernel_rfl) rfl #[.slice none 0 0, .agg #[.slice Ao18 y391.length co18, .slice none 0 0, .int .u32 1]] rfl jZ ?_; (refine (table_Learn.calls k (fun k_ => False) _ _ ([] : List (S42)) _ _ y391 _ _ ([] : List (S59)) 1 t395 t398 _ ?side1 ?side2 ?side3 ?side4 ?side5 ?side6 A2.out).mono ?_); (case side1 => exact Kd.V_nil _ _ _ _ _); (case side2 => exact jC (Kd.R_reads' HO393.out).2.2); (case side3 => exact (Kd.R_reads' HO393.out).2.1); (case side4 => exact Kd.C_nil _ _); (case side5 => exact Nat.le_refl _); (case side6 => exact Glob.below HG.out (jH HB)); rintro e w23 ⟨v396, rfl, ho0, hb⟩; refine ⟨_, rfl, ?_⟩; have HO397 := Aside0.mk (Kd.V_lower (Kd.V_mono (ok' := fun k_ => some k_ ≠ (v389 : Value).ownBlock ∧ some k_ ≠ (.slice Ao18 y391.length co18 : Value).ownBlock ∧ k_ ≠ gb394) ho0 (fun k_ hk_ => ⟨Or.elim hk_ (fun hs_ => (hs_).elim) (fun hn_ => (Kd.fresh' (Kd.R_lt (jR HO390)) k_ hn_)), Or.elim hk_ (fun hs_ => (hs_).elim) (fun hn_ => (Kd.fresh' (Kd.R_lt (jR HO393)) k_ hn_)), Or.elim hk_ (fun hs_ => (hs_).elim) (fun hn_ => (Kd.freshB (g := gb394) (o := .cells #[.slice Ao18 y391.length co18, .slice none 0 0, .int .u32 1] 42 (0, 0)) (jK BK394) k_ hn_))⟩)) (zZ (jH HB))); replace HO390 := Aside0.mk (Kd.R_below (jR HO390) hb); replace HO393 := Aside0.mk (Kd.R_below (jR HO393) hb); replace BK394 := Aside0.mk (jB BK394 hb); replace HB := Aside0.mk (zT (jH HB) hb); (try clear hb); (try clear hb2); (try clear hk); (try clear hi); (try clear ho0); obtain ⟨hcz24_0, hcz24_1, hcz24_2, hfz24_0, hfz24_1, hfz24_2⟩ := kQ3 BK394.out; obtain ⟨Ao25, co25, eo25⟩ := Kd.V_slice HO397.out; subst eo25) | ((with_reducible refine gate_callee (f := 23) rfl ?_); refine goesL_ (some 27) rfl rfl Tryd.func23 (by kernel_rfl) rfl #[.slice Ao25 t395.length co25, .slice Ao18 y391.length co18, .int .u32 1] rfl jZ ?_; (with_reducible refine (table_Find.calls k _ _ t395 _ _ y391 1 t399 true _ ?side1 ?side2 ?side3 ?side4 ?side5 A3.out).mono ?_); (case side1 => exact jC (Kd.V_reads' HO397.out).2.2); (case side2 => exact (Kd.V_reads' HO397.out).2.1); (case side3 => exact jC (Kd.R_reads' HO393.out).2.2); (case side4 => exact (Kd.R_reads' HO393.out).2.1); (case side5 => exact Glob.below HG.out (jH HB)); rintro e w26 ⟨v401, rfl, ho0, hb⟩; refine ⟨_, rfl, ?_⟩; have HO402 := Aside0.mk (Kd.R_lower (Kd.R_new' ho0 (Kd.R_lt (jR HO393))) (zZ (jH HB))); replace HO390 := Aside0.mk (Kd.R_below (jR HO390) hb); replace HO393 := Aside0.mk (Kd.R_elder' (jR HO393) (Kd.R_base ho0) hb); replace HO397 := Aside0.mk (Kd.V_elder' (jV HO397) (Kd.R_base ho0) hb); replace BK394 := Aside0.mk (jB BK394 hb); replace HB := Aside0.mk (zT (jH HB) hb); (try clear hb); (try clear hb2); (try clear hk); (try clear hi); (try clear ho0)) | ((with_reducible refine gate_callee (f := 17) rfl ?_); refine goesL_ (some 31) rfl rfl Tryd.func17 (by kernel_rfl) rfl #[.slice none 0 0] rfl jZ ?_; (refine (table_Decode.calls k _ _ ([] : List Int) t403 t404 _ ?side1 ?side2 ?side3 A4.out).mono ?_); (case side1 => exact Kd.C_nil _ _); (case side2 => exact Nat.le_refl _); (case side3 => exact Glob.below HG.out (jH HB)); rintro e w27 ⟨v405, rfl, ho0, hb⟩; refine ⟨_, rfl, ?_⟩; have HO406 := Aside0.mk (Kd.S_lower (Kd.S_newB (Kd.S_new' (Kd.S_new' ho0 (Kd.R_lt (jR HO393))) (Kd.R_lt (jR HO402))) (g := gb394) (o := .cells #[.slice Ao18 y391.length co18, .slice none 0 0, .int .u32 1] 42 (0, 0)) (jK BK394)) (zZ (jH HB))); replace HO390 := Aside0.mk (Kd.R_below (jR HO390) hb); replace HO393 := Aside0.mk (Kd.R_below (jR HO393) hb); replace HO397 := Aside0.mk (Kd.V_elder' (jV HO397) (Kd.S_base ho0) hb); replace HO402 := Aside0.mk (Kd.R_below (jR HO402) hb); replace BK394 := Aside0.mk (jB BK394 hb); replace HB := Aside0.mk (zT (jH HB) hb); (try clear hb); (try clear hb2); (try clear hk); (try clear hi); (try clear ho0); obtain ⟨Ao28, co28, eo28⟩ := Kd.R_slice HO390.out; subst eo28; have q29 : (5 : Int) ≤ ((t387.length : Int) : Int) := oD (jA); obtain ⟨i029, hi029, _, hsz29, _⟩ := info_parts info5; have hroom29 : t387.length ≤ co28 := (Kd.R_reads' HO390.out).2.1; have hC29 : Kd.C (Kd.int .u8) _ Ao28 t387.length t387 := (Kd.R_reads' HO390.out).2.2; have hcut29 := cut_to (P := Tryd.prog) 25 5 .i64 Tryd.underlying25 hi029 Ao28 t387.length co28 5 (by omega) q29 hroom29; have hr29 := Kd.C_take (m := 5) hC29 (by omega); have hy29 : y407.length = (5 : Int).toNat := (by rw [Ny407.out, List.length_take]; omega); rw [← Ny407.out] at hr29; rw [← hy29] at hcut29; have HR410 := Aside0.mk hr29; have HC410 := Aside0.mk (show y407.length ≤ co28 from by omega); clear hr29 hC29 hroom29 hi029 hsz29; have KY29 := Aside0.mk hy29; clear hy29; have KL29 := Aside0.mk (show 5 ≤ t387.length from by omega); replace q29 := eq_true q29; have hcv30 := Kd.C_string (P := Tryd.prog) (A := Ao28) (c := co28) Tryd.underlying25 Tryd.underlying5 Tryd.underlying9 (by repeat (first | (with_reducible exact HR410.out) | (with_reducible refine Kd.C_alloc ?_ _) | (with_reducible refine Kd.C_drewN ?_ _) | (with_reducible refine Kd.C_drew ?_) | exact HR410.out)); obtain ⟨Ao31, co31, eo31⟩ := Kd.R_slice HO402.out; subst eo31) | (go_at_call 15; (with_reducible refine (table_Right.calls k _ _ t395 t411 _ ?side1 ?side2 ?side3 A14.out).mono ?_); (case side1 => exact jC (Kd.V_reads' HO397.out).2.2); (case side2 => exact (Kd.V_reads' HO397.out).2.1); (case side3 => exact Glob.below HG.out (jH HB)); rintro e w32 ⟨rfl, hb⟩; have n0_ := Aside0.mk (Kd.R_below (jR HO390) hb); have n1_ := Aside0.mk (Kd.R_below (jR HO393) hb); have n2_ := Aside0.mk (Kd.V_below (jV HO397) hb); have n3_ := Aside0.mk (Kd.R_below (jR HO402) hb); have n4_ := Aside0.mk (Kd.S_below (by (with_reducible repeat (first | apply Kd.S_alloc | apply Kd.S_drewN | apply Kd.S_drew)); exact HO406.out) hb); have n5_ := Aside0.mk (jB BK394 hb); have n6_ := Aside0.mk (Kd.C_below (by repeat (first | (with_reducible exact HR410.out) | (with_reducible refine Kd.C_alloc ?_ _) | (with_reducible refine Kd.C_drewN ?_ _) | (with_reducible refine Kd.C_drew ?_) | exact HR410.out)) hb); have n7_ := Aside0.mk (zT (jH HB) hb); clear HO390; clear HO393; clear HO397; clear HO402; clear HO406; clear BK394; clear HR410; clear HB; have HO390 := n0_; have HO393 := n1_; have HO397 := n2_; have HO402 := n3_; have HO406 := n4_; have BK394 := n5_; have HR410 := n6_; have HB := n7_; clear n0_ n1_ n2_ n3_ n4_ n5_ n6_ n7_; (try clear hb); (try clear hb2); (try clear hk); (try clear hi)))
          go_ret
          exact ⟨jE, jH HB⟩
        ·replace c12 := Bool.eq_false_iff.mpr c12
         subst c12
         rw [if_neg (show ¬ (false = true) by decide)] at H
         exact absurd H (by simp)
       ·rw [if_neg c11] at H
        exact absurd H (by simp)
      ·rw [if_neg c10] at H
       exact absurd H (by simp)
     ·rw [if_neg c9] at H
      exact absurd H (by simp)
    ·rw [if_neg c8] at H
     exact absurd H (by simp)
   ·rw [if_neg c7] at H
    exact absurd H (by simp)
  ·rw [if_neg c6] at H
   exact absurd H (by simp)
 ·rw [if_neg c5] at H
  exact absurd H (by simp)
def r02_branch.f (a0 : Int) : Option (Bool) := some (decide (a0 ≥ 31))
set_option maxHeartbeats 8000000 in
set_option maxRecDepth 100000 in
theorem r02_branch.calls (a0 : Int) (r : Bool) (w : World) (h : r02_branch.f a0 = some r) :
  Calls Tryd.prog 61 #[.int .i64 a0] w fun e w' => e = .returned (.bool r) ∧ Drawn0 w w' := by
 have H : (some (decide (a0 ≥ 31))) = some r := h
 clear h
 obtain rfl := Option.some.inj H
 go_enter Tryd.func61, Tryd.ntmps61
 go_wp2
 go_ret
 exact ⟨by first | rfl | (simp; done) | (simp [*]; done), by repeat (first | exact Drawn0.refl _ | apply Drawn0.step)⟩
def r02_Ops.f  : Option (List Int) := some (([0, 1, 2, 3, 4, 20, 36, 52, 68, 84, 100, 116, 164, 12, 28, 44, 60, 76, 92, 108, 124, 172, 132, 7, 135, 32, 96, 97, 5, 6, 22, 21, 37, 53, 69, 29, 45, 61, 77] : List Int))
set_option maxHeartbeats 8000000 in
set_option maxRecDepth 100000 in
theorem r02_Ops.calls  (r : List Int) (w : World) (h : r02_Ops.f  = some r) :
  Calls Tryd.prog 66 #[] w fun e w' => ∃ v0_ : Value, e = .returned (v0_) ∧ Kd.R (Kd.int .i64) 3 w' w.heap.size (fun _ => True) v0_ r ∧ Below w.heap.size w w' := by
 have HB := Aside0.mk (Below.refl w.heap.size w)
 have H : (some (([0, 1, 2, 3, 4, 20, 36, 52, 68, 84, 100, 116, 164, 12, 28, 44, 60, 76, 92, 108, 124, 172, 132, 7, 135, 32, 96, 97, 5, 6, 22, 21, 37, 53, 69, 29, 45, 61, 77] : List Int))) = some r := h
 clear h
 obtain ⟨y412, hy412⟩ : ∃ y_ : List Int, y_ = (([0, 1, 2, 3, 4, 20, 36, 52, 68, 84, 100, 116, 164, 12, 28, 44, 60, 76, 92, 108, 124, 172, 132, 7, 135, 32, 96, 97, 5, 6, 22, 21, 37, 53, 69, 29, 45, 61, 77] : List Int)) := ⟨_, rfl⟩
 simp only [Option.bind_some, ← hy412] at H
 have Ny412 := Aside0.mk hy412
 clear hy412
 obtain rfl := Option.some.inj H
 go_enter Tryd.func66, Tryd.ntmps66
 go_wp2_with (first | ((with_reducible refine gate_dst (N := 1) rfl ?_); refine Kd.R_lit (Kd.int .i64) _ 3 ?hg (N := 1) ?hd (xs := ([0, 1, 2, 3, 4, 20, 36, 52, 68, 84, 100, 116, 164, 12, 28, 44, 60, 76, 92, 108, 124, 172, 132, 7, 135, 32, 96, 97, 5, 6, 22, 21, 37, 53, 69, 29, 45, 61, 77] : List Int)) (inner := [.int .i64 0, .int .i64 1, .int .i64 2, .int .i64 3, .int .i64 4, .int .i64 20, .int .i64 36, .int .i64 52, .int .i64 68, .int .i64 84, .int .i64 100, .int .i64 116, .int .i64 164, .int .i64 12, .int .i64 28, .int .i64 44, .int .i64 60, .int .i64 76, .int .i64 92, .int .i64 108, .int .i64 124, .int .i64 172, .int .i64 132, .int .i64 7, .int .i64 135, .int .i64 32, .int .i64 96, .int .i64 97, .int .i64 5, .int .i64 6, .int .i64 22, .int .i64 21, .int .i64 37, .int .i64 53, .int .i64 69, .int .i64 29, .int .i64 45, .int .i64 61, .int .i64 77]) (ok := fun _ => True) (okp := fun _ => True) ?hr ?hp (fun _ hk => hk) trivial (Below.refl _ _) (Nat.le_refl _) (by simp) ?_; (case hd => rfl); (case hg => rfl); (case hr => first | (go_simp; done) | (go_simp; rfl)); (case hp => exact (Reps.one (show Kd.M (Kd.int .i64) _ _ _ 0 [.int .i64 0] from rfl) (Reps.one (show Kd.M (Kd.int .i64) _ _ _ 1 [.int .i64 1] from rfl) (Reps.one (show Kd.M (Kd.int .i64) _ _ _ 2 [.int .i64 2] from rfl) (Reps.one (show Kd.M (Kd.int .i64) _ _ _ 3 [.int .i64 3] from rfl) (Reps.one (show Kd.M (Kd.int .i64) _ _ _ 4 [.int .i64 4] from rfl) (Reps.one (show Kd.M (Kd.int .i64) _ _ _ 20 [.int .i64 20] from rfl) (Reps.one (show Kd.M (Kd.int .i64) _ _ _ 36 [.int .i64 36] from rfl) (Reps.one (show Kd.M (Kd.int .i64) _ _ _ 52 [.int .i64 52] from rfl) (Reps.one (show Kd.M (Kd.int .i64) _ _ _ 68 [.int .i64 68] from rfl) (Reps.one (show Kd.M (Kd.int .i64) _ _ _ 84 [.int .i64 84] from rfl) (Reps.one (show Kd.M (Kd.int .i64) _ _ _ 100 [.int .i64 100] from rfl) (Reps.one (show Kd.M (Kd.int .i64) _ _ _ 116 [.int .i64 116] from rfl) (Reps.one (show Kd.M (Kd.int .i64) _ _ _ 164 [.int .i64 164] from rfl) (Reps.one (show Kd.M (Kd.int .i64) _ _ _ 12 [.int .i64 12] from rfl) (Reps.one (show Kd.M (Kd.int .i64) _ _ _ 28 [.int .i64 28] from rfl) (Reps.one (show Kd.M (Kd.int .i64) _ _ _ 44 [.int .i64 44] from rfl) (Reps.one (show Kd.M (Kd.int .i64) _ _ _ 60 [.int .i64 60] from rfl) (Reps.one (show Kd.M (Kd.int .i64) _ _ _ 76 [.int .i64 76] from rfl) (Reps.one (show Kd.M (Kd.int .i64) _ _ _ 92 [.int .i64 92] from rfl) (Reps.one (show Kd.M (Kd.int .i64) _ _ _ 108 [.int .i64 108] from rfl) (Reps.one (show Kd.M (Kd.int .i64) _ _ _ 124 [.int .i64 124] from rfl) (Reps.one (show Kd.M (Kd.int .i64) _ _ _ 172 [.int .i64 172] from rfl) (Reps.one (show Kd.M (Kd.int .i64) _ _ _ 132 [.int .i64 132] from rfl) (Reps.one (show Kd.M (Kd.int .i64) _ _ _ 7 [.int .i64 7] from rfl) (Reps.one (show Kd.M (Kd.int .i64) _ _ _ 135 [.int .i64 135] from rfl) (Reps.one (show Kd.M (Kd.int .i64) _ _ _ 32 [.int .i64 32] from rfl) (Reps.one (show Kd.M (Kd.int .i64) _ _ _ 96 [.int .i64 96] from rfl) (Reps.one (show Kd.M (Kd.int .i64) _ _ _ 97 [.int .i64 97] from rfl) (Reps.one (show Kd.M (Kd.int .i64) _ _ _ 5 [.int .i64 5] from rfl) (Reps.one (show Kd.M (Kd.int .i64) _ _ _ 6 [.int .i64 6] from rfl) (Reps.one (show Kd.M (Kd.int .i64) _ _ _ 22 [.int .i64 22] from rfl) (Reps.one (show Kd.M (Kd.int .i64) _ _ _ 21 [.int .i64 21] from rfl) (Reps.one (show Kd.M (Kd.int .i64) _ _ _ 37 [.int .i64 37] from rfl) (Reps.one (show Kd.M (Kd.int .i64) _ _ _ 53 [.int .i64 53] from rfl) (Reps.one (show Kd.M (Kd.int .i64) _ _ _ 69 [.int .i64 69] from rfl) (Reps.one (show Kd.M (Kd.int .i64) _ _ _ 29 [.int .i64 29] from rfl) (Reps.one (show Kd.M (Kd.int .i64) _ _ _ 45 [.int .i64 45] from rfl) (Reps.one (show Kd.M (Kd.int .i64) _ _ _ 61 [.int .i64 61] from rfl) (Reps.one (show Kd.M (Kd.int .i64) _ _ _ 77 [.int .i64 77] from rfl) (Reps.none _ _))))))))))))))))))))))))))))))))))))))))); intro v413 w1 ho2 hb hg_ hnew_; clear hg_ hnew_; (first | rw [← Ny412.out] at ho2 | (simp only [Int.reduceToNat] at ho2; rw [← Ny412.out] at ho2)); have HO414 := Aside0.mk (Kd.R_lower ho2 (zZ (jH HB))); replace HB := Aside0.mk (zT (jH HB) hb); clear hb ho2))
 go_ret
 exact ⟨_, jE, by (with_reducible repeat (first | apply Kd.R_alloc | apply Kd.R_drewN | apply Kd.R_drew)); exact HO414.out, jH HB⟩
end Go.Proofs.YtahacmdhhfmhiaaDoor.M
