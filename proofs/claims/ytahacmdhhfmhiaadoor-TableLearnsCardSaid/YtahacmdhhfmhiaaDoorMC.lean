/- What Go functions compute; their calls come to it. No condition. -/
import Derived.Test.YtahacmdhhfmhiaaDoorM0
import Derived.Test.YtahacmdhhfmhiaaDoorMB
namespace Go.Proofs.YtahacmdhhfmhiaaDoor.M
open Go.RowKit Go.Proofs.YtahacmdhhfmhiaaDoorW.PrintWords Go.Proofs.YtahacmdhhfmhiaaDoorW.PrintLast Go.Proofs.YtahacmdhhfmhiaaDoorW.PrintMore
attribute [local go_sem] max2_int min2_int max_two min_two max_three min_three max_four min_four   -- for this text's walks alone
set_option linter.unusedVariables false
set_option linter.unusedSimpArgs false
def table_Right.l0 : Nat → List (S42) → List (S42) → Int → Int → Option (Bool)
 | 0, _, _, _, _ => none
 | k + 1, x0, x5, x6, x7 => if x7 < x6 then (if 0 ≤ x7 then (if x7 < (x5.length : Int) then ((table_Rule_right.f k ((rd_T42 x5 x7).f0) ((rd_T42 x5 x7).f1) ((rd_T42 x5 x7).f2)).bind fun t184 => (if t184 = true then (if x7 > 0 then (if 0 ≤ (wrap64 (x7 - 1)) then (if (wrap64 (x7 - 1)) < (x0.length : Int) then ((table_Rule_bytes.f k ((rd_T42 x0 (wrap64 (x7 - 1))).f0) ((rd_T42 x0 (wrap64 (x7 - 1))).f1) ((rd_T42 x0 (wrap64 (x7 - 1))).f2)).bind fun t186 => ((table_Rule_bytes.f k ((rd_T42 x5 x7).f0) ((rd_T42 x5 x7).f1) ((rd_T42 x5 x7).f2)).bind fun t187 => (if ((Op.bytesLess t186.toList t187.toList) = true) then (table_Right.l0 k x0 x5 x6 (wrap64 (x7 + 1))) else (some false)))) else (none)) else (none)) else (table_Right.l0 k x0 x5 x6 (wrap64 (x7 + 1)))) else (some false))) else (none)) else (none)) else (some (decide ((x0.length : Int) ≤ 64)))
def table_Right.f (k : Nat) (l0 : List (S42)) : Option (Bool) := table_Right.l0 k l0 l0 (l0.length : Int) 0
def table_Right.T4 : Bool × List (List Nat × List Nat) := (true, [([], []), ([0], [0]), ([1], [1]), ([2, 1], [2]), ([3], [3]), ([4, 3], [3, 4]), ([5, 3, 3], [3, 5]), ([6], [6]), ([6], [6]), ([8, 6], [6, 8]), ([7, 9, 6], [6, 7, 9]), ([10, 6], [6, 10]), ([11, 6, 6], [6, 11]), ([6], [6]), ([13, 12, 6], [6, 13]), ([12, 14, 6], [6, 12, 14]), ([6, 15, 3], [3, 6, 15]), ([3, 16], [3, 16])])
def table_Right.B4 : List Nat := [0, 1, 3, 7, 15, 31, 63, 127, 127, 383, 1023, 2047, 4095, 127, 16383, 32767, 65535, 131071]
theorem table_Right.tab4 : rtab .any (opsOf Tryd.f15 4) = table_Right.T4 := by kernel_rfl
theorem table_Right.bits4 : waitsOk table_Right.T4.2 table_Right.B4 = true := by kernel_rfl
set_option maxHeartbeats 8000000 in
set_option maxRecDepth 100000 in
theorem table_Right.calls (k : Nat) (A0 : Option Addr) (c0 : Nat) (l0 : List (S42)) (r : Bool) (w : World) (hr0 : Kd.C k42 w A0 l0.length l0) (hc0 : l0.length ≤ c0) (hG : Glob w) (h : table_Right.f k l0 = some r) :
  Calls Tryd.prog 15 #[.slice A0 l0.length c0] w fun e w' => e = .returned (.bool r) ∧ Below w.heap.size w w' := by
 have hu42 := Tryd.underlying42
 have HG := Aside0.mk hG
 clear hG
 have HR0 := Aside0.mk hr0
 have HC0 := Aside0.mk hc0
 clear hr0 hc0
 have HB := Aside0.mk (Below.refl w.heap.size w)
 have H : (table_Right.l0 k l0 l0 (l0.length : Int) 0) = some r := h
 clear h
 have H' := Aside0.mk H
 clear H
 go_enter Tryd.func15, Tryd.ntmps15
 go_wp2
 go_loopg [7] k (fun kq v7 w' => ∃ (x7_1 : Int), v7 = .int .i64 x7_1 ∧ Aside0 (table_Right.l0 kq l0 l0 (l0.length : Int) x7_1 = some r) ∧ Aside0 (kq ≤ k) ∧ Aside0 (Below w.heap.size w w'))
 case atStart => exact ⟨(0), jS, H', ⟨Nat.le_refl _⟩, ⟨jH HB⟩⟩
 case round =>
  clear H'
  obtain ⟨x7_1, rfl, HA, HK1, HB⟩ := hrel
  cases gk with
  | zero => exact absurd HA.out (by simp [table_Right.l0])
  | succ k1 =>
   have H := HA.out
   clear HA
   simp only [table_Right.l0] at H
   by_cases c2 : x7_1 < (l0.length : Int)
   ·rw [if_pos c2] at H
    have c2b0 := dT c2
    clear c2
    by_cases c3 : 0 ≤ x7_1
    ·rw [if_pos c3] at H
     have c3b0 := dT c3
     clear c3
     by_cases c4 : x7_1 < (l0.length : Int)
     ·rw [if_pos c4] at H
      have c4b0 := dT c4
      clear c4
      replace H := Option.bind_eq_some_iff.mp H
      obtain ⟨t184, A50, H⟩ := H
      try dsimp only at H
      have A5 := Aside0.mk A50
      clear A50
      by_cases c6 : t184 = true
      ·subst c6
       rw [if_pos rfl] at H
       by_cases c7 : x7_1 > 0
       ·rw [if_pos c7] at H
        have c7b0 : decide (0 < x7_1) = true := dT c7
        clear c7
        obtain ⟨ji8, hji8⟩ : ∃ j_ : Int, (wrap64 (x7_1 - 1)) = j_ := ⟨_, rfl⟩
        first | rw [hji8] at H | simp only [hji8] at H
        (try rw [hji8] at A5)
        have hji8w : (IntKind.i64.wrap (x7_1 - 1)) = ji8 := (i64_w _).trans hji8
        by_cases c9 : 0 ≤ (ji8)
        ·rw [if_pos c9] at H
         have c9b0 := dT c9
         clear c9
         by_cases c10 : (ji8) < (l0.length : Int)
         ·rw [if_pos c10] at H
          have c10b0 := dT c10
          clear c10
          replace H := Option.bind_eq_some_iff.mp H
          obtain ⟨t186, A110, H⟩ := H
          try dsimp only at H
          have A11 := Aside0.mk A110
          clear A110
          replace H := Option.bind_eq_some_iff.mp H
          obtain ⟨t187, A120, H⟩ := H
          try dsimp only at H
          have A12 := Aside0.mk A120
          clear A120
          by_cases c13 : ((Op.bytesLess t186.toList t187.toList) = true)
          ·rw [if_pos c13] at H
           have c13b0 : (Op.bytesLess t186.toList t187.toList) = true := c13
           clear c13
           have H' := Aside0.mk H
           clear H
           have p182 : 0 ≤ (x7_1 : Int) := oD (jA)
           have q182 : x7_1 < (l0.length : Int) := oD (jA)
           obtain ⟨ad182, A182_0, c182_0, A182_1, c182_1, e182, hx182_0, hx182_1, hx182_2, hl182_0, hi182_0, hl182_1, hi182_1⟩ := at_T42 HR0.out x7_1 p182 q182
           cases e182
           replace hx182_0 := (HB.out.cell (bL w _ hx182_0)).trans hx182_0
           replace hx182_1 := (HB.out.cell (bL w _ hx182_1)).trans hx182_1
           replace hx182_2 := (HB.out.cell (bL w _ hx182_2)).trans hx182_2
           have HR182_0 := Aside0.mk hi182_0
           have HC182_0 := Aside0.mk hl182_0
           clear hi182_0 hl182_0
           have HR182_1 := Aside0.mk hi182_1
           have HC182_1 := Aside0.mk hl182_1
           clear hi182_1 hl182_1
           replace p182 := eq_true p182
           replace q182 := eq_true q182
           try go_wp2_with (first | ((with_reducible refine gate_dst (N := 4) rfl ?_); refine box_event rfl (N := 4) rfl (cs := #[.slice none 0 0, .slice none 0 0, .int .u32 0]) (t := 42) jW ?_; intro gb183 hg w14 hbox hb; have BK183 := Aside0.mk hbox; have GW183 := Aside0.mk (jG hg HB); have GE183 := Aside0.mk (jG hg HB); replace HB := Aside0.mk (zT (jH HB) hb); clear hb hbox hg; obtain ⟨hcz15_0, hcz15_1, hcz15_2, hfz15_0, hfz15_1, hfz15_2⟩ := kQ3 BK183.out))
           have n0_ : Aside0 ((((w14.setCell ⟨gb183, 0, none⟩ (.slice A182_0 ((rd_T42 l0 x7_1).f0).length c182_0)).setCell ⟨gb183, 1, none⟩ (.slice A182_1 ((rd_T42 l0 x7_1).f1).length c182_1)).setCell ⟨gb183, 2, none⟩ (.int .u32 ((rd_T42 l0 x7_1).f2))).heap[gb183]? = some (.cells #[.slice A182_0 ((rd_T42 l0 x7_1).f0).length c182_0, .slice A182_1 ((rd_T42 l0 x7_1).f1).length c182_1, .int .u32 ((rd_T42 l0 x7_1).f2)] 42 (0, 0))) := ⟨by (with_reducible repeat (first | refine kN ?_ _ | refine kD ?_ | refine kA ?_ _)); refine kP (cs := #[.slice A182_0 ((rd_T42 l0 x7_1).f0).length c182_0, .slice A182_1 ((rd_T42 l0 x7_1).f1).length c182_1, .int .u32 0]) ?_ 2 _ rfl; (with_reducible repeat (first | refine kN ?_ _ | refine kD ?_ | refine kA ?_ _)); refine kP (cs := #[.slice A182_0 ((rd_T42 l0 x7_1).f0).length c182_0, .slice none 0 0, .int .u32 0]) ?_ 1 _ rfl; (with_reducible repeat (first | refine kN ?_ _ | refine kD ?_ | refine kA ?_ _)); refine kP (cs := #[.slice none 0 0, .slice none 0 0, .int .u32 0]) ?_ 0 _ rfl; (with_reducible repeat (first | refine kN ?_ _ | refine kD ?_ | refine kA ?_ _)); exact BK183.out⟩
           have n1_ : Aside0 (Below w.heap.size w (((w14.setCell ⟨gb183, 0, none⟩ (.slice A182_0 ((rd_T42 l0 x7_1).f0).length c182_0)).setCell ⟨gb183, 1, none⟩ (.slice A182_1 ((rd_T42 l0 x7_1).f1).length c182_1)).setCell ⟨gb183, 2, none⟩ (.int .u32 ((rd_T42 l0 x7_1).f2)))) := ⟨jH HB⟩
           (try clear BK183)
           (try clear HB)
           generalize (((w14.setCell ⟨gb183, 0, none⟩ (.slice A182_0 ((rd_T42 l0 x7_1).f0).length c182_0)).setCell ⟨gb183, 1, none⟩ (.slice A182_1 ((rd_T42 l0 x7_1).f1).length c182_1)).setCell ⟨gb183, 2, none⟩ (.int .u32 ((rd_T42 l0 x7_1).f2))) = w16 at n0_ n1_ ⊢
           have BK183 := n0_
           have HB := n1_
           clear n0_ n1_
           replace BK183 := Aside0.mk (kD BK183.out)
           replace HB := Aside0.mk (zD HB.out)
           have p185 : 0 ≤ ((ji8) : Int) := oD (jA)
           have q185 : (ji8) < (l0.length : Int) := oD (jA)
           obtain ⟨ad185, A185_0, c185_0, A185_1, c185_1, e185, hx185_0, hx185_1, hx185_2, hl185_0, hi185_0, hl185_1, hi185_1⟩ := at_T42 HR0.out (ji8) p185 q185
           have hw185_2 := hx185_2
           have hw185_1 := hx185_1
           have hw185_0 := hx185_0
           obtain rfl : ad182 = ad185 := (by injection e185)
           replace hx185_0 := (HB.out.cell (bL w _ hx185_0)).trans hx185_0
           replace hx185_1 := (HB.out.cell (bL w _ hx185_1)).trans hx185_1
           replace hx185_2 := (HB.out.cell (bL w _ hx185_2)).trans hx185_2
           have HR185_0 := Aside0.mk hi185_0
           have HC185_0 := Aside0.mk hl185_0
           clear hi185_0 hl185_0
           have HR185_1 := Aside0.mk hi185_1
           have HC185_1 := Aside0.mk hl185_1
           clear hi185_1 hl185_1
           replace p185 := eq_true p185
           replace q185 := eq_true q185
           have hgeq_ := fun W => str_geq (P := Tryd.prog) W 9 t186 t187
           refine start_ (n := 18) (S := fun w' => w'.cell? ⟨gb183, 0, none⟩ = some (.slice A182_0 ((rd_T42 l0 x7_1).f0).length c182_0) ∧ w'.cell? ⟨gb183, 1, none⟩ = some (.slice A182_1 ((rd_T42 l0 x7_1).f1).length c182_1) ∧ w'.cell? ⟨gb183, 2, none⟩ = some (.int .u32 ((rd_T42 l0 x7_1).f2)) ∧ w'.cell? (ad182.add (((ji8)).toNat * 3)) = some (.slice A185_0 ((rd_T42 l0 (ji8)).f0).length c185_0) ∧ w'.cell? ⟨(ad182.add (((ji8)).toNat * 3)).block, (ad182.add (((ji8)).toNat * 3)).off + 1, none⟩ = some (.slice A185_1 ((rd_T42 l0 (ji8)).f1).length c185_1) ∧ w'.cell? ⟨(ad182.add (((ji8)).toNat * 3)).block, (ad182.add (((ji8)).toNat * 3)).off + 2, none⟩ = some (.int .u32 ((rd_T42 l0 (ji8)).f2))) (ds := []) #[false, false, false, false, false, false, false, false, false, false, false, false, false, false, false, false, false, false] (by kernel_rfl) rfl rfl ⟨(kC BK183.out 0).trans rfl, (kC BK183.out 1).trans rfl, (kC BK183.out 2).trans rfl, ((HB.out.cell (bL w _ hw185_0)).trans hw185_0), ((HB.out.cell (bL w _ hw185_1)).trans hw185_1), ((HB.out.cell (bL w _ hw185_2)).trans hw185_2)⟩ (fun hHeld => ?_); refine with_tabW table_Right.tab4 table_Right.bits4 (fun HT_ HW_ => ?_)
           generalize w16.drew = w17 at BK183 HB HR185_0 HR185_1 hx185_0 hx185_1 hx185_2 hHeld ⊢
           refine qT 0 12 (tB 18 1) hHeld ?_ (hv := by rintro w' ⟨s0, s1, s2, s3, s4, s5⟩; go_simp; with_reducible rfl)
           refine one_ (i := 1) (N := some 13) (tB 18 3) rfl rfl (one_of HT_.out (by kernel_rfl)) (by decide) (fun K hK => ?_)
           refine goes_ Tryd.func32 (by kernel_rfl) rfl #[.agg #[.slice A182_0 ((rd_T42 l0 x7_1).f0).length c182_0, .slice A182_1 ((rd_T42 l0 x7_1).f1).length c182_1, .int .u32 ((rd_T42 l0 x7_1).f2)]] (by rfl) rfl rfl jZ ?_
           with_reducible refine (table_Rule_right.calls k1 _ _ ((rd_T42 l0 x7_1).f0) _ _ ((rd_T42 l0 x7_1).f1) ((rd_T42 l0 x7_1).f2) true _ ?side1 ?side2 ?side3 ?side4 ?side5 A5.out).mono ?_
           (case side1 => exact jC (Kd.C_below HR182_0.out HB.out))
           (case side2 => exact HC182_0.out)
           (case side3 => exact jC (Kd.C_below HR182_1.out HB.out))
           (case side4 => exact HC182_1.out)
           (case side5 => exact Glob.below HG.out (jH HB))
           rintro e w18 ⟨rfl, hb⟩
           refine ⟨_, rfl, ?_⟩
           replace BK183 := Aside0.mk (jB BK183 hb)
           replace HB := Aside0.mk (zT (jH HB) hb)
           (try clear hb)
           (try clear hb2)
           (try clear hk)
           (try clear hi)
           refine hK.out _ _ ⟨(kC BK183.out 0).trans rfl, (kC BK183.out 1).trans rfl, (kC BK183.out 2).trans rfl, ((HB.out.cell (bL w _ hw185_0)).trans hw185_0), ((HB.out.cell (bL w _ hw185_1)).trans hw185_1), ((HB.out.cell (bL w _ hw185_2)).trans hw185_2)⟩ (fun hHeld => ?_)
           clear hK K
           refine qN 13 ?_
           refine qP 2 14 (tB 18 7) ?_
           refine qP 3 15 (tB 18 15) ?_
           refine qP 4 16 (tB 18 31) ?_
           refine qP 5 17 (tB 18 63) ?_
           refine qP 6 18 (tB 18 127) ?_
           refine qP 7 19 (tB 18 255) ?_
           refine qP 8 20 (tB 18 511) ?_
           refine qP 9 21 (tB 18 1023) ?_
           refine qP 10 22 (tB 18 2047) ?_
           refine qT 11 23 (tB 18 4095) hHeld ?_ (hv := by rintro w' ⟨s0, s1, s2, s3, s4, s5⟩; go_simp; with_reducible rfl)
           refine qT 13 25 (tB 18 12287) hHeld ?_ (hv := by rintro w' ⟨s0, s1, s2, s3, s4, s5⟩; go_simp; with_reducible rfl)
           refine one_ (i := 12) (N := some 24) (tB 18 16383) rfl rfl (one_of HT_.out (by kernel_rfl)) (by decide) (fun K hK => ?_)
           refine goes_ Tryd.func28 (by kernel_rfl) rfl #[.agg #[.slice A185_0 ((rd_T42 l0 (ji8)).f0).length c185_0, .slice A185_1 ((rd_T42 l0 (ji8)).f1).length c185_1, .int .u32 ((rd_T42 l0 (ji8)).f2)]] (by rfl) rfl rfl (by (try simp only [List.map_toArray, List.map_cons, List.map_nil]); first | done | (simp only [hji8]; rfl) | rfl | (simp only [List.length_drop, List.length_take]; rfl)) ?_
           with_reducible refine (table_Rule_bytes.calls k1 _ _ ((rd_T42 l0 (ji8)).f0) _ _ ((rd_T42 l0 (ji8)).f1) ((rd_T42 l0 (ji8)).f2) t186 _ ?side1 ?side2 ?side3 ?side4 ?side5 A11.out).mono ?_
           (case side1 => exact jC (Kd.C_below HR185_0.out HB.out))
           (case side2 => exact HC185_0.out)
           (case side3 => exact jC (Kd.C_below HR185_1.out HB.out))
           (case side4 => exact HC185_1.out)
           (case side5 => exact Glob.below HG.out (jH HB))
           rintro e w19 ⟨rfl, hb⟩
           refine ⟨_, rfl, ?_⟩
           replace BK183 := Aside0.mk (jB BK183 hb)
           replace HB := Aside0.mk (zT (jH HB) hb)
           (try clear hb)
           (try clear hb2)
           (try clear hk)
           (try clear hi)
           refine hK.out _ _ ⟨(kC BK183.out 0).trans rfl, (kC BK183.out 1).trans rfl, (kC BK183.out 2).trans rfl, ((HB.out.cell (bL w _ hw185_0)).trans hw185_0), ((HB.out.cell (bL w _ hw185_1)).trans hw185_1), ((HB.out.cell (bL w _ hw185_2)).trans hw185_2)⟩ (fun hHeld => ?_)
           clear hK K
           refine qN 24 ?_
           refine one_ (i := 14) (N := some 26) (tB 18 32767) rfl rfl (one_of HT_.out (by kernel_rfl)) (by decide) (fun K hK => ?_)
           refine goes_ Tryd.func28 (by kernel_rfl) rfl #[.agg #[.slice A182_0 ((rd_T42 l0 x7_1).f0).length c182_0, .slice A182_1 ((rd_T42 l0 x7_1).f1).length c182_1, .int .u32 ((rd_T42 l0 x7_1).f2)]] (by rfl) rfl rfl jZ ?_
           with_reducible refine (table_Rule_bytes.calls k1 _ _ ((rd_T42 l0 x7_1).f0) _ _ ((rd_T42 l0 x7_1).f1) ((rd_T42 l0 x7_1).f2) t187 _ ?side1 ?side2 ?side3 ?side4 ?side5 A12.out).mono ?_
           (case side1 => exact jC (Kd.C_below HR182_0.out HB.out))
           (case side2 => exact HC182_0.out)
           (case side3 => exact jC (Kd.C_below HR182_1.out HB.out))
           (case side4 => exact HC182_1.out)
           (case side5 => exact Glob.below HG.out (jH HB))
           rintro e w20 ⟨rfl, hb⟩
           refine ⟨_, rfl, ?_⟩
           replace BK183 := Aside0.mk (jB BK183 hb)
           replace HB := Aside0.mk (zT (jH HB) hb)
           (try clear hb)
           (try clear hb2)
           (try clear hk)
           (try clear hi)
           refine hK.out _ _ ⟨(kC BK183.out 0).trans rfl, (kC BK183.out 1).trans rfl, (kC BK183.out 2).trans rfl, ((HB.out.cell (bL w _ hw185_0)).trans hw185_0), ((HB.out.cell (bL w _ hw185_1)).trans hw185_1), ((HB.out.cell (bL w _ hw185_2)).trans hw185_2)⟩ (fun hHeld => ?_)
           clear hK K
           refine qN 26 ?_
           refine qP 15 27 (tB 18 65535) ?_
           refine qP 16 28 (tB 18 131071) ?_
           refine qP 17 29 (tB 18 262143) ?_
           refine done_ (done_of HT_.out (by kernel_rfl)) ?_
           try go_wp2
           go_roundg k1
           case measure => have := HK1.out; omega
           case rel => exact ⟨(wrap64 (x7_1 + 1)), jS, H', ⟨by have := HK1.out; omega⟩, ⟨jH HB⟩⟩
          ·rw [if_neg c13] at H
           have c13b0 : (Op.bytesLess t186.toList t187.toList) = false := by simpa using c13
           clear c13
           obtain rfl := Option.some.inj H
           have p182 : 0 ≤ (x7_1 : Int) := oD (jA)
           have q182 : x7_1 < (l0.length : Int) := oD (jA)
           obtain ⟨ad182, A182_0, c182_0, A182_1, c182_1, e182, hx182_0, hx182_1, hx182_2, hl182_0, hi182_0, hl182_1, hi182_1⟩ := at_T42 HR0.out x7_1 p182 q182
           cases e182
           replace hx182_0 := (HB.out.cell (bL w _ hx182_0)).trans hx182_0
           replace hx182_1 := (HB.out.cell (bL w _ hx182_1)).trans hx182_1
           replace hx182_2 := (HB.out.cell (bL w _ hx182_2)).trans hx182_2
           have HR182_0 := Aside0.mk hi182_0
           have HC182_0 := Aside0.mk hl182_0
           clear hi182_0 hl182_0
           have HR182_1 := Aside0.mk hi182_1
           have HC182_1 := Aside0.mk hl182_1
           clear hi182_1 hl182_1
           replace p182 := eq_true p182
           replace q182 := eq_true q182
           try go_wp2_with (first | ((with_reducible refine gate_dst (N := 4) rfl ?_); refine box_event rfl (N := 4) rfl (cs := #[.slice none 0 0, .slice none 0 0, .int .u32 0]) (t := 42) jW ?_; intro gb183 hg w21 hbox hb; have BK183 := Aside0.mk hbox; have GW183 := Aside0.mk (jG hg HB); have GE183 := Aside0.mk (jG hg HB); replace HB := Aside0.mk (zT (jH HB) hb); clear hb hbox hg; obtain ⟨hcz22_0, hcz22_1, hcz22_2, hfz22_0, hfz22_1, hfz22_2⟩ := kQ3 BK183.out))
           have n0_ : Aside0 ((((w21.setCell ⟨gb183, 0, none⟩ (.slice A182_0 ((rd_T42 l0 x7_1).f0).length c182_0)).setCell ⟨gb183, 1, none⟩ (.slice A182_1 ((rd_T42 l0 x7_1).f1).length c182_1)).setCell ⟨gb183, 2, none⟩ (.int .u32 ((rd_T42 l0 x7_1).f2))).heap[gb183]? = some (.cells #[.slice A182_0 ((rd_T42 l0 x7_1).f0).length c182_0, .slice A182_1 ((rd_T42 l0 x7_1).f1).length c182_1, .int .u32 ((rd_T42 l0 x7_1).f2)] 42 (0, 0))) := ⟨by (with_reducible repeat (first | refine kN ?_ _ | refine kD ?_ | refine kA ?_ _)); refine kP (cs := #[.slice A182_0 ((rd_T42 l0 x7_1).f0).length c182_0, .slice A182_1 ((rd_T42 l0 x7_1).f1).length c182_1, .int .u32 0]) ?_ 2 _ rfl; (with_reducible repeat (first | refine kN ?_ _ | refine kD ?_ | refine kA ?_ _)); refine kP (cs := #[.slice A182_0 ((rd_T42 l0 x7_1).f0).length c182_0, .slice none 0 0, .int .u32 0]) ?_ 1 _ rfl; (with_reducible repeat (first | refine kN ?_ _ | refine kD ?_ | refine kA ?_ _)); refine kP (cs := #[.slice none 0 0, .slice none 0 0, .int .u32 0]) ?_ 0 _ rfl; (with_reducible repeat (first | refine kN ?_ _ | refine kD ?_ | refine kA ?_ _)); exact BK183.out⟩
           have n1_ : Aside0 (Below w.heap.size w (((w21.setCell ⟨gb183, 0, none⟩ (.slice A182_0 ((rd_T42 l0 x7_1).f0).length c182_0)).setCell ⟨gb183, 1, none⟩ (.slice A182_1 ((rd_T42 l0 x7_1).f1).length c182_1)).setCell ⟨gb183, 2, none⟩ (.int .u32 ((rd_T42 l0 x7_1).f2)))) := ⟨jH HB⟩
           (try clear BK183)
           (try clear HB)
           generalize (((w21.setCell ⟨gb183, 0, none⟩ (.slice A182_0 ((rd_T42 l0 x7_1).f0).length c182_0)).setCell ⟨gb183, 1, none⟩ (.slice A182_1 ((rd_T42 l0 x7_1).f1).length c182_1)).setCell ⟨gb183, 2, none⟩ (.int .u32 ((rd_T42 l0 x7_1).f2))) = w23 at n0_ n1_ ⊢
           have BK183 := n0_
           have HB := n1_
           clear n0_ n1_
           replace BK183 := Aside0.mk (kD BK183.out)
           replace HB := Aside0.mk (zD HB.out)
           have p185 : 0 ≤ ((ji8) : Int) := oD (jA)
           have q185 : (ji8) < (l0.length : Int) := oD (jA)
           obtain ⟨ad185, A185_0, c185_0, A185_1, c185_1, e185, hx185_0, hx185_1, hx185_2, hl185_0, hi185_0, hl185_1, hi185_1⟩ := at_T42 HR0.out (ji8) p185 q185
           have hw185_2 := hx185_2
           have hw185_1 := hx185_1
           have hw185_0 := hx185_0
           obtain rfl : ad182 = ad185 := (by injection e185)
           replace hx185_0 := (HB.out.cell (bL w _ hx185_0)).trans hx185_0
           replace hx185_1 := (HB.out.cell (bL w _ hx185_1)).trans hx185_1
           replace hx185_2 := (HB.out.cell (bL w _ hx185_2)).trans hx185_2
           have HR185_0 := Aside0.mk hi185_0
           have HC185_0 := Aside0.mk hl185_0
           clear hi185_0 hl185_0
           have HR185_1 := Aside0.mk hi185_1
           have HC185_1 := Aside0.mk hl185_1
           clear hi185_1 hl185_1
           replace p185 := eq_true p185
           replace q185 := eq_true q185
           have hgeq_ := fun W => str_geq (P := Tryd.prog) W 9 t186 t187
           refine start_ (n := 18) (S := fun w' => w'.cell? ⟨gb183, 0, none⟩ = some (.slice A182_0 ((rd_T42 l0 x7_1).f0).length c182_0) ∧ w'.cell? ⟨gb183, 1, none⟩ = some (.slice A182_1 ((rd_T42 l0 x7_1).f1).length c182_1) ∧ w'.cell? ⟨gb183, 2, none⟩ = some (.int .u32 ((rd_T42 l0 x7_1).f2)) ∧ w'.cell? (ad182.add (((ji8)).toNat * 3)) = some (.slice A185_0 ((rd_T42 l0 (ji8)).f0).length c185_0) ∧ w'.cell? ⟨(ad182.add (((ji8)).toNat * 3)).block, (ad182.add (((ji8)).toNat * 3)).off + 1, none⟩ = some (.slice A185_1 ((rd_T42 l0 (ji8)).f1).length c185_1) ∧ w'.cell? ⟨(ad182.add (((ji8)).toNat * 3)).block, (ad182.add (((ji8)).toNat * 3)).off + 2, none⟩ = some (.int .u32 ((rd_T42 l0 (ji8)).f2))) (ds := []) #[false, false, false, false, false, false, false, false, false, false, false, false, false, false, false, false, false, false] (by kernel_rfl) rfl rfl ⟨(kC BK183.out 0).trans rfl, (kC BK183.out 1).trans rfl, (kC BK183.out 2).trans rfl, ((HB.out.cell (bL w _ hw185_0)).trans hw185_0), ((HB.out.cell (bL w _ hw185_1)).trans hw185_1), ((HB.out.cell (bL w _ hw185_2)).trans hw185_2)⟩ (fun hHeld => ?_); refine with_tabW table_Right.tab4 table_Right.bits4 (fun HT_ HW_ => ?_)
           generalize w23.drew = w24 at BK183 HB HR185_0 HR185_1 hx185_0 hx185_1 hx185_2 hHeld ⊢
           refine qT 0 12 (tB 18 1) hHeld ?_ (hv := by rintro w' ⟨s0, s1, s2, s3, s4, s5⟩; go_simp; with_reducible rfl)
           refine one_ (i := 1) (N := some 13) (tB 18 3) rfl rfl (one_of HT_.out (by kernel_rfl)) (by decide) (fun K hK => ?_)
           refine goes_ Tryd.func32 (by kernel_rfl) rfl #[.agg #[.slice A182_0 ((rd_T42 l0 x7_1).f0).length c182_0, .slice A182_1 ((rd_T42 l0 x7_1).f1).length c182_1, .int .u32 ((rd_T42 l0 x7_1).f2)]] (by rfl) rfl rfl jZ ?_
           with_reducible refine (table_Rule_right.calls k1 _ _ ((rd_T42 l0 x7_1).f0) _ _ ((rd_T42 l0 x7_1).f1) ((rd_T42 l0 x7_1).f2) true _ ?side1 ?side2 ?side3 ?side4 ?side5 A5.out).mono ?_
           (case side1 => exact jC (Kd.C_below HR182_0.out HB.out))
           (case side2 => exact HC182_0.out)
           (case side3 => exact jC (Kd.C_below HR182_1.out HB.out))
           (case side4 => exact HC182_1.out)
           (case side5 => exact Glob.below HG.out (jH HB))
           rintro e w25 ⟨rfl, hb⟩
           refine ⟨_, rfl, ?_⟩
           replace BK183 := Aside0.mk (jB BK183 hb)
           replace HB := Aside0.mk (zT (jH HB) hb)
           (try clear hb)
           (try clear hb2)
           (try clear hk)
           (try clear hi)
           refine hK.out _ _ ⟨(kC BK183.out 0).trans rfl, (kC BK183.out 1).trans rfl, (kC BK183.out 2).trans rfl, ((HB.out.cell (bL w _ hw185_0)).trans hw185_0), ((HB.out.cell (bL w _ hw185_1)).trans hw185_1), ((HB.out.cell (bL w _ hw185_2)).trans hw185_2)⟩ (fun hHeld => ?_)
           clear hK K
           refine qN 13 ?_
           refine qP 2 14 (tB 18 7) ?_
           refine qP 3 15 (tB 18 15) ?_
           refine qP 4 16 (tB 18 31) ?_
           refine qP 5 17 (tB 18 63) ?_
           refine qP 6 18 (tB 18 127) ?_
           refine qP 7 19 (tB 18 255) ?_
           refine qP 8 20 (tB 18 511) ?_
           refine qP 9 21 (tB 18 1023) ?_
           refine qP 10 22 (tB 18 2047) ?_
           refine qT 11 23 (tB 18 4095) hHeld ?_ (hv := by rintro w' ⟨s0, s1, s2, s3, s4, s5⟩; go_simp; with_reducible rfl)
           refine qT 13 25 (tB 18 12287) hHeld ?_ (hv := by rintro w' ⟨s0, s1, s2, s3, s4, s5⟩; go_simp; with_reducible rfl)
           refine one_ (i := 12) (N := some 24) (tB 18 16383) rfl rfl (one_of HT_.out (by kernel_rfl)) (by decide) (fun K hK => ?_)
           refine goes_ Tryd.func28 (by kernel_rfl) rfl #[.agg #[.slice A185_0 ((rd_T42 l0 (ji8)).f0).length c185_0, .slice A185_1 ((rd_T42 l0 (ji8)).f1).length c185_1, .int .u32 ((rd_T42 l0 (ji8)).f2)]] (by rfl) rfl rfl (by (try simp only [List.map_toArray, List.map_cons, List.map_nil]); first | done | (simp only [hji8]; rfl) | rfl | (simp only [List.length_drop, List.length_take]; rfl)) ?_
           with_reducible refine (table_Rule_bytes.calls k1 _ _ ((rd_T42 l0 (ji8)).f0) _ _ ((rd_T42 l0 (ji8)).f1) ((rd_T42 l0 (ji8)).f2) t186 _ ?side1 ?side2 ?side3 ?side4 ?side5 A11.out).mono ?_
           (case side1 => exact jC (Kd.C_below HR185_0.out HB.out))
           (case side2 => exact HC185_0.out)
           (case side3 => exact jC (Kd.C_below HR185_1.out HB.out))
           (case side4 => exact HC185_1.out)
           (case side5 => exact Glob.below HG.out (jH HB))
           rintro e w26 ⟨rfl, hb⟩
           refine ⟨_, rfl, ?_⟩
           replace BK183 := Aside0.mk (jB BK183 hb)
           replace HB := Aside0.mk (zT (jH HB) hb)
           (try clear hb)
           (try clear hb2)
           (try clear hk)
           (try clear hi)
           refine hK.out _ _ ⟨(kC BK183.out 0).trans rfl, (kC BK183.out 1).trans rfl, (kC BK183.out 2).trans rfl, ((HB.out.cell (bL w _ hw185_0)).trans hw185_0), ((HB.out.cell (bL w _ hw185_1)).trans hw185_1), ((HB.out.cell (bL w _ hw185_2)).trans hw185_2)⟩ (fun hHeld => ?_)
           clear hK K
           refine qN 24 ?_
           refine one_ (i := 14) (N := some 26) (tB 18 32767) rfl rfl (one_of HT_.out (by kernel_rfl)) (by decide) (fun K hK => ?_)
           refine goes_ Tryd.func28 (by kernel_rfl) rfl #[.agg #[.slice A182_0 ((rd_T42 l0 x7_1).f0).length c182_0, .slice A182_1 ((rd_T42 l0 x7_1).f1).length c182_1, .int .u32 ((rd_T42 l0 x7_1).f2)]] (by rfl) rfl rfl jZ ?_
           with_reducible refine (table_Rule_bytes.calls k1 _ _ ((rd_T42 l0 x7_1).f0) _ _ ((rd_T42 l0 x7_1).f1) ((rd_T42 l0 x7_1).f2) t187 _ ?side1 ?side2 ?side3 ?side4 ?side5 A12.out).mono ?_
           (case side1 => exact jC (Kd.C_below HR182_0.out HB.out))
           (case side2 => exact HC182_0.out)
           (case side3 => exact jC (Kd.C_below HR182_1.out HB.out))
           (case side4 => exact HC182_1.out)
           (case side5 => exact Glob.below HG.out (jH HB))
           rintro e w27 ⟨rfl, hb⟩
           refine ⟨_, rfl, ?_⟩
           replace BK183 := Aside0.mk (jB BK183 hb)
           replace HB := Aside0.mk (zT (jH HB) hb)
           (try clear hb)
           (try clear hb2)
           (try clear hk)
           (try clear hi)
           refine hK.out _ _ ⟨(kC BK183.out 0).trans rfl, (kC BK183.out 1).trans rfl, (kC BK183.out 2).trans rfl, ((HB.out.cell (bL w _ hw185_0)).trans hw185_0), ((HB.out.cell (bL w _ hw185_1)).trans hw185_1), ((HB.out.cell (bL w _ hw185_2)).trans hw185_2)⟩ (fun hHeld => ?_)
           clear hK K
           refine qN 26 ?_
           refine qP 15 27 (tB 18 65535) ?_
           refine qP 16 28 (tB 18 131071) ?_
           refine qP 17 29 (tB 18 262143) ?_
           refine done_ (done_of HT_.out (by kernel_rfl)) ?_
           try go_wp2
           go_ret
           exact ⟨by first | rfl | (simp [errW_none, errW_some] <;> rfl) | (simp only [← hji8]; first | rfl | (simp [errW_none, errW_some] <;> rfl)) | (simp [*, errW_none, errW_some] <;> rfl), jH HB⟩
         ·rw [if_neg c10] at H
          exact absurd H (by simp)
        ·rw [if_neg c9] at H
         exact absurd H (by simp)
       ·rw [if_neg c7] at H
        have c7b0 : decide (0 < x7_1) = false := dF c7
        clear c7
        have H' := Aside0.mk H
        clear H
        have p182 : 0 ≤ (x7_1 : Int) := oD (jA)
        have q182 : x7_1 < (l0.length : Int) := oD (jA)
        obtain ⟨ad182, A182_0, c182_0, A182_1, c182_1, e182, hx182_0, hx182_1, hx182_2, hl182_0, hi182_0, hl182_1, hi182_1⟩ := at_T42 HR0.out x7_1 p182 q182
        cases e182
        replace hx182_0 := (HB.out.cell (bL w _ hx182_0)).trans hx182_0
        replace hx182_1 := (HB.out.cell (bL w _ hx182_1)).trans hx182_1
        replace hx182_2 := (HB.out.cell (bL w _ hx182_2)).trans hx182_2
        have HR182_0 := Aside0.mk hi182_0
        have HC182_0 := Aside0.mk hl182_0
        clear hi182_0 hl182_0
        have HR182_1 := Aside0.mk hi182_1
        have HC182_1 := Aside0.mk hl182_1
        clear hi182_1 hl182_1
        replace p182 := eq_true p182
        replace q182 := eq_true q182
        try go_wp2_with (first | ((with_reducible refine gate_dst (N := 4) rfl ?_); refine box_event rfl (N := 4) rfl (cs := #[.slice none 0 0, .slice none 0 0, .int .u32 0]) (t := 42) jW ?_; intro gb183 hg w28 hbox hb; have BK183 := Aside0.mk hbox; have GW183 := Aside0.mk (jG hg HB); have GE183 := Aside0.mk (jG hg HB); replace HB := Aside0.mk (zT (jH HB) hb); clear hb hbox hg; obtain ⟨hcz29_0, hcz29_1, hcz29_2, hfz29_0, hfz29_1, hfz29_2⟩ := kQ3 BK183.out))
        have n0_ : Aside0 ((((w28.setCell ⟨gb183, 0, none⟩ (.slice A182_0 ((rd_T42 l0 x7_1).f0).length c182_0)).setCell ⟨gb183, 1, none⟩ (.slice A182_1 ((rd_T42 l0 x7_1).f1).length c182_1)).setCell ⟨gb183, 2, none⟩ (.int .u32 ((rd_T42 l0 x7_1).f2))).heap[gb183]? = some (.cells #[.slice A182_0 ((rd_T42 l0 x7_1).f0).length c182_0, .slice A182_1 ((rd_T42 l0 x7_1).f1).length c182_1, .int .u32 ((rd_T42 l0 x7_1).f2)] 42 (0, 0))) := ⟨by (with_reducible repeat (first | refine kN ?_ _ | refine kD ?_ | refine kA ?_ _)); refine kP (cs := #[.slice A182_0 ((rd_T42 l0 x7_1).f0).length c182_0, .slice A182_1 ((rd_T42 l0 x7_1).f1).length c182_1, .int .u32 0]) ?_ 2 _ rfl; (with_reducible repeat (first | refine kN ?_ _ | refine kD ?_ | refine kA ?_ _)); refine kP (cs := #[.slice A182_0 ((rd_T42 l0 x7_1).f0).length c182_0, .slice none 0 0, .int .u32 0]) ?_ 1 _ rfl; (with_reducible repeat (first | refine kN ?_ _ | refine kD ?_ | refine kA ?_ _)); refine kP (cs := #[.slice none 0 0, .slice none 0 0, .int .u32 0]) ?_ 0 _ rfl; (with_reducible repeat (first | refine kN ?_ _ | refine kD ?_ | refine kA ?_ _)); exact BK183.out⟩
        have n1_ : Aside0 (Below w.heap.size w (((w28.setCell ⟨gb183, 0, none⟩ (.slice A182_0 ((rd_T42 l0 x7_1).f0).length c182_0)).setCell ⟨gb183, 1, none⟩ (.slice A182_1 ((rd_T42 l0 x7_1).f1).length c182_1)).setCell ⟨gb183, 2, none⟩ (.int .u32 ((rd_T42 l0 x7_1).f2)))) := ⟨jH HB⟩
        (try clear BK183)
        (try clear HB)
        generalize (((w28.setCell ⟨gb183, 0, none⟩ (.slice A182_0 ((rd_T42 l0 x7_1).f0).length c182_0)).setCell ⟨gb183, 1, none⟩ (.slice A182_1 ((rd_T42 l0 x7_1).f1).length c182_1)).setCell ⟨gb183, 2, none⟩ (.int .u32 ((rd_T42 l0 x7_1).f2))) = w30 at n0_ n1_ ⊢
        have BK183 := n0_
        have HB := n1_
        clear n0_ n1_
        replace BK183 := Aside0.mk (kD BK183.out)
        replace HB := Aside0.mk (zD HB.out)
        refine start_ (n := 18) (S := fun w' => w'.cell? ⟨gb183, 0, none⟩ = some (.slice A182_0 ((rd_T42 l0 x7_1).f0).length c182_0) ∧ w'.cell? ⟨gb183, 1, none⟩ = some (.slice A182_1 ((rd_T42 l0 x7_1).f1).length c182_1) ∧ w'.cell? ⟨gb183, 2, none⟩ = some (.int .u32 ((rd_T42 l0 x7_1).f2))) (ds := []) #[false, false, false, false, false, false, false, false, false, false, false, false, false, false, false, false, false, false] (by kernel_rfl) rfl rfl ⟨(kC BK183.out 0).trans rfl, (kC BK183.out 1).trans rfl, (kC BK183.out 2).trans rfl⟩ (fun hHeld => ?_); refine with_tabW table_Right.tab4 table_Right.bits4 (fun HT_ HW_ => ?_)
        generalize w30.drew = w31 at BK183 HB hHeld ⊢
        refine qT 0 12 (tB 18 1) hHeld ?_ (hv := by rintro w' ⟨s0, s1, s2⟩; go_simp; with_reducible rfl)
        refine one_ (i := 1) (N := some 13) (tB 18 3) rfl rfl (one_of HT_.out (by kernel_rfl)) (by decide) (fun K hK => ?_)
        refine goes_ Tryd.func32 (by kernel_rfl) rfl #[.agg #[.slice A182_0 ((rd_T42 l0 x7_1).f0).length c182_0, .slice A182_1 ((rd_T42 l0 x7_1).f1).length c182_1, .int .u32 ((rd_T42 l0 x7_1).f2)]] (by rfl) rfl rfl jZ ?_
        with_reducible refine (table_Rule_right.calls k1 _ _ ((rd_T42 l0 x7_1).f0) _ _ ((rd_T42 l0 x7_1).f1) ((rd_T42 l0 x7_1).f2) true _ ?side1 ?side2 ?side3 ?side4 ?side5 A5.out).mono ?_
        (case side1 => exact jC (Kd.C_below HR182_0.out HB.out))
        (case side2 => exact HC182_0.out)
        (case side3 => exact jC (Kd.C_below HR182_1.out HB.out))
        (case side4 => exact HC182_1.out)
        (case side5 => exact Glob.below HG.out (jH HB))
        rintro e w32 ⟨rfl, hb⟩
        refine ⟨_, rfl, ?_⟩
        replace BK183 := Aside0.mk (jB BK183 hb)
        replace HB := Aside0.mk (zT (jH HB) hb)
        (try clear hb)
        (try clear hb2)
        (try clear hk)
        (try clear hi)
        refine hK.out _ _ ⟨(kC BK183.out 0).trans rfl, (kC BK183.out 1).trans rfl, (kC BK183.out 2).trans rfl⟩ (fun hHeld => ?_)
        clear hK K
        refine qN 13 ?_
        refine qP 2 14 (tB 18 7) ?_
        refine qP 3 15 (tB 18 15) ?_
        refine qP 4 16 (tB 18 31) ?_
        refine qP 5 17 (tB 18 63) ?_
        refine qP 6 18 (tB 18 127) ?_
        refine qU 7 19 (tB 18 255) ?_
        refine qU 8 20 (tB 18 511) ?_
        refine qU 9 21 (tB 18 1023) ?_
        refine qU 10 22 (tB 18 2047) ?_
        refine qU 11 23 (tB 18 4095) ?_
        refine qU 12 24 (tB 18 8191) ?_
        refine qU 13 25 (tB 18 16383) ?_
        refine qU 14 26 (tB 18 32767) ?_
        refine qU 15 27 (tB 18 65535) ?_
        refine qP 16 28 (tB 18 131071) ?_
        refine qP 17 29 (tB 18 262143) ?_
        refine done_ (done_of HT_.out (by kernel_rfl)) ?_
        try go_wp2
        go_roundg k1
        case measure => have := HK1.out; omega
        case rel => exact ⟨(wrap64 (x7_1 + 1)), jS, H', ⟨by have := HK1.out; omega⟩, ⟨jH HB⟩⟩
      ·replace c6 := Bool.eq_false_iff.mpr c6
       subst c6
       rw [if_neg (show ¬ (false = true) by decide)] at H
       obtain rfl := Option.some.inj H
       have p182 : 0 ≤ (x7_1 : Int) := oD (jA)
       have q182 : x7_1 < (l0.length : Int) := oD (jA)
       obtain ⟨ad182, A182_0, c182_0, A182_1, c182_1, e182, hx182_0, hx182_1, hx182_2, hl182_0, hi182_0, hl182_1, hi182_1⟩ := at_T42 HR0.out x7_1 p182 q182
       cases e182
       replace hx182_0 := (HB.out.cell (bL w _ hx182_0)).trans hx182_0
       replace hx182_1 := (HB.out.cell (bL w _ hx182_1)).trans hx182_1
       replace hx182_2 := (HB.out.cell (bL w _ hx182_2)).trans hx182_2
       have HR182_0 := Aside0.mk hi182_0
       have HC182_0 := Aside0.mk hl182_0
       clear hi182_0 hl182_0
       have HR182_1 := Aside0.mk hi182_1
       have HC182_1 := Aside0.mk hl182_1
       clear hi182_1 hl182_1
       replace p182 := eq_true p182
       replace q182 := eq_true q182
       try go_wp2_with (first | ((with_reducible refine gate_dst (N := 4) rfl ?_); refine box_event rfl (N := 4) rfl (cs := #[.slice none 0 0, .slice none 0 0, .int .u32 0]) (t := 42) jW ?_; intro gb183 hg w33 hbox hb; have BK183 := Aside0.mk hbox; have GW183 := Aside0.mk (jG hg HB); have GE183 := Aside0.mk (jG hg HB); replace HB := Aside0.mk (zT (jH HB) hb); clear hb hbox hg; obtain ⟨hcz34_0, hcz34_1, hcz34_2, hfz34_0, hfz34_1, hfz34_2⟩ := kQ3 BK183.out))
       have n0_ : Aside0 ((((w33.setCell ⟨gb183, 0, none⟩ (.slice A182_0 ((rd_T42 l0 x7_1).f0).length c182_0)).setCell ⟨gb183, 1, none⟩ (.slice A182_1 ((rd_T42 l0 x7_1).f1).length c182_1)).setCell ⟨gb183, 2, none⟩ (.int .u32 ((rd_T42 l0 x7_1).f2))).heap[gb183]? = some (.cells #[.slice A182_0 ((rd_T42 l0 x7_1).f0).length c182_0, .slice A182_1 ((rd_T42 l0 x7_1).f1).length c182_1, .int .u32 ((rd_T42 l0 x7_1).f2)] 42 (0, 0))) := ⟨by (with_reducible repeat (first | refine kN ?_ _ | refine kD ?_ | refine kA ?_ _)); refine kP (cs := #[.slice A182_0 ((rd_T42 l0 x7_1).f0).length c182_0, .slice A182_1 ((rd_T42 l0 x7_1).f1).length c182_1, .int .u32 0]) ?_ 2 _ rfl; (with_reducible repeat (first | refine kN ?_ _ | refine kD ?_ | refine kA ?_ _)); refine kP (cs := #[.slice A182_0 ((rd_T42 l0 x7_1).f0).length c182_0, .slice none 0 0, .int .u32 0]) ?_ 1 _ rfl; (with_reducible repeat (first | refine kN ?_ _ | refine kD ?_ | refine kA ?_ _)); refine kP (cs := #[.slice none 0 0, .slice none 0 0, .int .u32 0]) ?_ 0 _ rfl; (with_reducible repeat (first | refine kN ?_ _ | refine kD ?_ | refine kA ?_ _)); exact BK183.out⟩
       have n1_ : Aside0 (Below w.heap.size w (((w33.setCell ⟨gb183, 0, none⟩ (.slice A182_0 ((rd_T42 l0 x7_1).f0).length c182_0)).setCell ⟨gb183, 1, none⟩ (.slice A182_1 ((rd_T42 l0 x7_1).f1).length c182_1)).setCell ⟨gb183, 2, none⟩ (.int .u32 ((rd_T42 l0 x7_1).f2)))) := ⟨jH HB⟩
       (try clear BK183)
       (try clear HB)
       generalize (((w33.setCell ⟨gb183, 0, none⟩ (.slice A182_0 ((rd_T42 l0 x7_1).f0).length c182_0)).setCell ⟨gb183, 1, none⟩ (.slice A182_1 ((rd_T42 l0 x7_1).f1).length c182_1)).setCell ⟨gb183, 2, none⟩ (.int .u32 ((rd_T42 l0 x7_1).f2))) = w35 at n0_ n1_ ⊢
       have BK183 := n0_
       have HB := n1_
       clear n0_ n1_
       replace BK183 := Aside0.mk (kD BK183.out)
       replace HB := Aside0.mk (zD HB.out)
       refine start_ (n := 18) (S := fun w' => w'.cell? ⟨gb183, 0, none⟩ = some (.slice A182_0 ((rd_T42 l0 x7_1).f0).length c182_0) ∧ w'.cell? ⟨gb183, 1, none⟩ = some (.slice A182_1 ((rd_T42 l0 x7_1).f1).length c182_1) ∧ w'.cell? ⟨gb183, 2, none⟩ = some (.int .u32 ((rd_T42 l0 x7_1).f2))) (ds := []) #[false, false, false, false, false, false, false, false, false, false, false, false, false, false, false, false, false, false] (by kernel_rfl) rfl rfl ⟨(kC BK183.out 0).trans rfl, (kC BK183.out 1).trans rfl, (kC BK183.out 2).trans rfl⟩ (fun hHeld => ?_); refine with_tabW table_Right.tab4 table_Right.bits4 (fun HT_ HW_ => ?_)
       generalize w35.drew = w36 at BK183 HB hHeld ⊢
       refine qT 0 12 (tB 18 1) hHeld ?_ (hv := by rintro w' ⟨s0, s1, s2⟩; go_simp; with_reducible rfl)
       refine one_ (i := 1) (N := some 13) (tB 18 3) rfl rfl (one_of HT_.out (by kernel_rfl)) (by decide) (fun K hK => ?_)
       refine goes_ Tryd.func32 (by kernel_rfl) rfl #[.agg #[.slice A182_0 ((rd_T42 l0 x7_1).f0).length c182_0, .slice A182_1 ((rd_T42 l0 x7_1).f1).length c182_1, .int .u32 ((rd_T42 l0 x7_1).f2)]] (by rfl) rfl rfl jZ ?_
       with_reducible refine (table_Rule_right.calls k1 _ _ ((rd_T42 l0 x7_1).f0) _ _ ((rd_T42 l0 x7_1).f1) ((rd_T42 l0 x7_1).f2) false _ ?side1 ?side2 ?side3 ?side4 ?side5 A5.out).mono ?_
       (case side1 => exact jC (Kd.C_below HR182_0.out HB.out))
       (case side2 => exact HC182_0.out)
       (case side3 => exact jC (Kd.C_below HR182_1.out HB.out))
       (case side4 => exact HC182_1.out)
       (case side5 => exact Glob.below HG.out (jH HB))
       rintro e w37 ⟨rfl, hb⟩
       refine ⟨_, rfl, ?_⟩
       replace BK183 := Aside0.mk (jB BK183 hb)
       replace HB := Aside0.mk (zT (jH HB) hb)
       (try clear hb)
       (try clear hb2)
       (try clear hk)
       (try clear hi)
       refine hK.out _ _ ⟨(kC BK183.out 0).trans rfl, (kC BK183.out 1).trans rfl, (kC BK183.out 2).trans rfl⟩ (fun hHeld => ?_)
       clear hK K
       refine qN 13 ?_
       refine qP 2 14 (tB 18 7) ?_
       refine qP 3 15 (tB 18 15) ?_
       refine qU 4 16 (tB 18 31) ?_
       refine qU 5 17 (tB 18 63) ?_
       refine qU 6 18 (tB 18 127) ?_
       refine qU 7 19 (tB 18 255) ?_
       refine qU 8 20 (tB 18 511) ?_
       refine qU 9 21 (tB 18 1023) ?_
       refine qU 10 22 (tB 18 2047) ?_
       refine qU 11 23 (tB 18 4095) ?_
       refine qU 12 24 (tB 18 8191) ?_
       refine qU 13 25 (tB 18 16383) ?_
       refine qU 14 26 (tB 18 32767) ?_
       refine qU 15 27 (tB 18 65535) ?_
       refine qU 16 28 (tB 18 131071) ?_
       refine qP 17 29 (tB 18 262143) ?_
       refine done_ (done_of HT_.out (by kernel_rfl)) ?_
       try go_wp2
       go_ret
       exact ⟨jE, jH HB⟩
     ·rw [if_neg c4] at H
      exact absurd H (by simp)
    ·rw [if_neg c3] at H
     exact absurd H (by simp)
   ·rw [if_neg c2] at H
    have c2b0 := dF c2
    clear c2
    obtain rfl := Option.some.inj H
    go_wp2
    go_ret
    exact ⟨jE, jH HB⟩
mutual
def crc_Sum.l0 : Nat → Int → List Int → Int → Int → Option (Int)
 | 0, _, _, _, _ => none
 | k + 1, x3, x6, x7, x8 => if x8 < x7 then (if 0 ≤ x8 then (if x8 < (x6.length : Int) then (crc_Sum.l1 k (Go.bits .xor .u32 x3 ((rd x6 x8) % 4294967296)) x6 x7 x8 0) else (none)) else (none)) else (some (Go.bits .xor .u32 4294967295 x3))
def crc_Sum.l1 : Nat → Int → List Int → Int → Int → Int → Option (Int)
 | 0, _, _, _, _, _ => none
 | k + 1, x3, x6, x7, x8, x16 => if x16 < 8 then (crc_Sum.l1 k (Go.bits .xor .u32 (x3 / 2) ((3988292384 * (Go.bits .and .u32 x3 1)) % 4294967296)) x6 x7 x8 (wrap64 (x16 + 1))) else (crc_Sum.l0 k x3 x6 x7 (wrap64 (x8 + 1)))
end
def crc_Sum.f (k : Nat) (l0 : List Int) : Option (Int) := crc_Sum.l0 k 4294967295 l0 (l0.length : Int) 0
set_option maxHeartbeats 8000000 in
set_option maxRecDepth 100000 in
theorem crc_Sum.calls (k : Nat) (A0 : Option Addr) (c0 : Nat) (l0 : List Int) (r : Int) (w : World) (hr0 : Kd.C (Kd.int .u8) w A0 l0.length l0) (hc0 : l0.length ≤ c0) (h : crc_Sum.f k l0 = some r) :
  Calls Tryd.prog 42 #[.slice A0 l0.length c0] w fun e w' => e = .returned (.int .u32 r) ∧ Drawn0 w w' := by
 have HR0 := Aside0.mk hr0
 have HC0 := Aside0.mk hc0
 clear hr0 hc0
 have H : (crc_Sum.l0 k 4294967295 l0 (l0.length : Int) 0) = some r := h
 clear h
 have H' := Aside0.mk H
 clear H
 go_enter Tryd.func42, Tryd.ntmps42
 go_wp2
 go_loopg [3, 8] k (fun kq v3 v8 w' => ∃ (x3_1 : Int) (x8_1 : Int), v3 = .int .u32 x3_1 ∧ v8 = .int .i64 x8_1 ∧ Aside0 (crc_Sum.l0 kq x3_1 l0 (l0.length : Int) x8_1 = some r) ∧ Aside0 (kq ≤ k) ∧ Drawn0 w w')
 case atStart => exact ⟨(4294967295), (0), jS, jS, H', ⟨Nat.le_refl _⟩, by repeat (first | exact Drawn0.refl _ | apply Drawn0.step)⟩
 case round =>
  clear H'
  obtain ⟨x3_1, x8_1, rfl, rfl, HA, HK1, ⟨m1, rfl⟩⟩ := hrel
  cases gk with
  | zero => exact absurd HA.out (by simp [crc_Sum.l0])
  | succ k1 =>
   have H := HA.out
   clear HA
   simp only [crc_Sum.l0] at H
   by_cases c2 : x8_1 < (l0.length : Int)
   ·rw [if_pos c2] at H
    have c2b0 := dT c2
    clear c2
    by_cases c3 : 0 ≤ x8_1
    ·rw [if_pos c3] at H
     have c3b0 := dT c3
     clear c3
     by_cases c4 : x8_1 < (l0.length : Int)
     ·rw [if_pos c4] at H
      have c4b0 := dT c4
      clear c4
      have H' := Aside0.mk H
      clear H
      have p188 : 0 ≤ (x8_1 : Int) := oD (jA)
      have q188 : x8_1 < (l0.length : Int) := oD (jA)
      obtain ⟨ad188, e188, hx188_0⟩ := Kd.at_int HR0.out x8_1 p188 q188
      cases e188
      replace p188 := eq_true p188
      replace q188 := eq_true q188
      go_wp2
      go_loopg [3, 16] k1 (fun kq v3 v16 w' => ∃ (x3_2 : Int) (x16_2 : Int), v3 = .int .u32 x3_2 ∧ v16 = .int .i64 x16_2 ∧ Aside0 (crc_Sum.l1 kq x3_2 l0 (l0.length : Int) x8_1 x16_2 = some r) ∧ Aside0 (kq ≤ k1) ∧ Drawn0 w w')
      case atStart => exact ⟨(Go.bits .xor .u32 x3_1 ((rd l0 x8_1) % 4294967296)), (0), jS, jS, H', ⟨Nat.le_refl _⟩, by repeat (first | exact Drawn0.refl _ | apply Drawn0.step)⟩
      case round =>
       clear H'
       obtain ⟨x3_2, x16_2, rfl, rfl, HA, HK2, ⟨m2, rfl⟩⟩ := hrel
       cases gk with
       | zero => exact absurd HA.out (by simp [crc_Sum.l1])
       | succ k2 =>
        have H := HA.out
        clear HA
        simp only [crc_Sum.l1] at H
        by_cases c5 : x16_2 < 8
        ·rw [if_pos c5] at H
         have c5b0 := dT c5
         clear c5
         have H' := Aside0.mk H
         clear H
         go_wp2
         go_roundg k2
         case measure => have := HK1.out; have := HK2.out; omega
         case rel => exact ⟨(Go.bits .xor .u32 (x3_2 / 2) ((3988292384 * (Go.bits .and .u32 x3_2 1)) % 4294967296)), (wrap64 (x16_2 + 1)), jS, jS, H', ⟨by have := HK1.out; have := HK2.out; omega⟩, by repeat (first | exact Drawn0.refl _ | apply Drawn0.step)⟩
        ·rw [if_neg c5] at H
         have c5b0 := dF c5
         clear c5
         have H' := Aside0.mk H
         clear H
         go_wp2
         go_roundg k2
         case measure => have := HK1.out; have := HK2.out; omega
         case rel => exact ⟨(x3_2), (wrap64 (x8_1 + 1)), jS, jS, H', ⟨by have := HK1.out; have := HK2.out; omega⟩, by repeat (first | exact Drawn0.refl _ | apply Drawn0.step)⟩
     ·rw [if_neg c4] at H
      exact absurd H (by simp)
    ·rw [if_neg c3] at H
     exact absurd H (by simp)
   ·rw [if_neg c2] at H
    have c2b0 := dF c2
    clear c2
    obtain rfl := Option.some.inj H
    go_wp2
    go_ret
    exact ⟨by first | rfl | (simp; done) | (simp [*]; done), by repeat (first | exact Drawn0.refl _ | apply Drawn0.step)⟩
def crc_Seal.f (k : Nat) (l0 : List Int) : Option (List Int) := (crc_Sum.f k l0).bind fun t189 => ((some (([] : List Int) : List Int)).bind fun y190 => (if y190.length + l0.length < 140737488355328 then ((some (y190 ++ l0 : List Int)).bind fun y193 => ((some (([(t189) % 256, (t189 / 256) % 256, (t189 / 65536) % 256, (t189 / 16777216) % 256] : List Int) : List Int)).bind fun y196 => (if y193.length + y196.length < 140737488355328 then (some (y193 ++ y196)) else (none)))) else (none)))
set_option maxHeartbeats 8000000 in
set_option maxRecDepth 100000 in
theorem crc_Seal.calls (k : Nat) (A0 : Option Addr) (c0 : Nat) (l0 : List Int) (r : List Int) (w : World) (hr0 : Kd.C (Kd.int .u8) w A0 l0.length l0) (hc0 : l0.length ≤ c0) (h : crc_Seal.f k l0 = some r) :
  Calls Tryd.prog 29 #[.slice A0 l0.length c0] w fun e w' => ∃ v0_ : Value, e = .returned (v0_) ∧ Kd.R (Kd.int .u8) 5 w' w.heap.size (fun _ => True) v0_ r ∧ Below w.heap.size w w' := by
 have HR0 := Aside0.mk hr0
 have HC0 := Aside0.mk hc0
 clear hr0 hc0
 have HB := Aside0.mk (Below.refl w.heap.size w)
 have H : ((crc_Sum.f k l0).bind fun t189 => ((some (([] : List Int) : List Int)).bind fun y190 => (if y190.length + l0.length < 140737488355328 then ((some (y190 ++ l0 : List Int)).bind fun y193 => ((some (([(t189) % 256, (t189 / 256) % 256, (t189 / 65536) % 256, (t189 / 16777216) % 256] : List Int) : List Int)).bind fun y196 => (if y193.length + y196.length < 140737488355328 then (some (y193 ++ y196)) else (none)))) else (none)))) = some r := h
 clear h
 replace H := Option.bind_eq_some_iff.mp H
 obtain ⟨t189, A20, H⟩ := H
 replace H : ((some (([] : List Int) : List Int)).bind fun y190 => (if y190.length + l0.length < 140737488355328 then ((some (y190 ++ l0 : List Int)).bind fun y193 => ((some (([(t189) % 256, (t189 / 256) % 256, (t189 / 65536) % 256, (t189 / 16777216) % 256] : List Int) : List Int)).bind fun y196 => (if y193.length + y196.length < 140737488355328 then (some (y193 ++ y196)) else (none)))) else (none))) = some r := H
 have A2 := Aside0.mk A20
 clear A20
 obtain ⟨y190, hy190⟩ : ∃ y_ : List Int, y_ = (([] : List Int)) := ⟨_, rfl⟩
 replace H : (if y190.length + l0.length < 140737488355328 then ((some (y190 ++ l0 : List Int)).bind fun y193 => ((some (([(t189) % 256, (t189 / 256) % 256, (t189 / 65536) % 256, (t189 / 16777216) % 256] : List Int) : List Int)).bind fun y196 => (if y193.length + y196.length < 140737488355328 then (some (y193 ++ y196)) else (none)))) else (none)) = some r := by first | (rw [hy190]; with_reducible exact H) | (have H2_ := (Option.bind_some _ _).symm.trans H; rw [hy190]; with_reducible exact H2_) | (have H2_ := (Option.bind_some _ _).symm.trans H; with_reducible exact H2_) | with_reducible exact H | (rw [hy190]; exact H) | exact H
 have Ny190 := Aside0.mk hy190
 clear hy190
 by_cases c3 : y190.length + l0.length < 140737488355328
 ·rw [if_pos c3] at H
  have LMc3 := Aside0.mk c3
  clear c3
  obtain ⟨y193, hy193⟩ : ∃ y_ : List Int, y_ = (y190 ++ l0) := ⟨_, rfl⟩
  replace H : ((some (([(t189) % 256, (t189 / 256) % 256, (t189 / 65536) % 256, (t189 / 16777216) % 256] : List Int) : List Int)).bind fun y196 => (if y193.length + y196.length < 140737488355328 then (some (y193 ++ y196)) else (none))) = some r := by first | (rw [hy193]; with_reducible exact H) | (have H2_ := (Option.bind_some _ _).symm.trans H; rw [hy193]; with_reducible exact H2_) | (have H2_ := (Option.bind_some _ _).symm.trans H; with_reducible exact H2_) | with_reducible exact H | (rw [hy193]; exact H) | exact H
  have Ny193 := Aside0.mk hy193
  clear hy193
  obtain ⟨y196, hy196⟩ : ∃ y_ : List Int, y_ = (([(t189) % 256, (t189 / 256) % 256, (t189 / 65536) % 256, (t189 / 16777216) % 256] : List Int)) := ⟨_, rfl⟩
  replace H : (if y193.length + y196.length < 140737488355328 then (some (y193 ++ y196)) else (none)) = some r := by first | (rw [hy196]; with_reducible exact H) | (have H2_ := (Option.bind_some _ _).symm.trans H; rw [hy196]; with_reducible exact H2_) | (have H2_ := (Option.bind_some _ _).symm.trans H; with_reducible exact H2_) | with_reducible exact H | (rw [hy196]; exact H) | exact H
  have Ny196 := Aside0.mk hy196
  clear hy196
  by_cases c4 : y193.length + y196.length < 140737488355328
  ·rw [if_pos c4] at H
   have LMc4 := Aside0.mk c4
   clear c4
   obtain ⟨y199, hy199⟩ : ∃ y_ : List Int, y_ = (y193 ++ y196) := ⟨_, rfl⟩
   replace H : (some y199) = some r := by first | (rw [hy199]; with_reducible exact H) | (have H2_ := (Option.bind_some _ _).symm.trans H; rw [hy199]; with_reducible exact H2_) | (have H2_ := (Option.bind_some _ _).symm.trans H; with_reducible exact H2_) | with_reducible exact H | (rw [hy199]; exact H) | exact H
   have Ny199 := Aside0.mk hy199
   clear hy199
   obtain rfl := Option.some.inj H
   go_enter Tryd.func29, Tryd.ntmps29
   go_wp2_with (first | ((with_reducible refine gate_callee (f := 42) rfl ?_); refine goesL_ (some 6) rfl rfl Tryd.func42 (by kernel_rfl) rfl #[.slice A0 l0.length c0] rfl jZ ?_; (with_reducible refine (crc_Sum.calls k _ _ l0 t189 _ ?side1 ?side2 A2.out).mono ?_); (case side1 => repeat (first | exact HR0.out | (with_reducible refine Kd.C_alloc ?_ _) | (with_reducible refine Kd.C_drewN ?_ _) | (with_reducible refine Kd.C_drew ?_))); (case side2 => exact HC0.out); rintro e w' ⟨rfl, ⟨nd, rfl⟩⟩; refine ⟨_, rfl, ?_⟩) | ((with_reducible refine gate_dst (N := 7) rfl ?_); refine Kd.R_lit (Kd.int .u8) _ 5 ?hg (N := 7) ?hd (xs := ([] : List Int)) (inner := []) (ok := fun _ => True) (okp := fun _ => True) ?hr ?hp (fun _ hk => hk) trivial (Below.refl _ _) (Nat.le_refl _) (by simp) ?_; (case hd => rfl); (case hg => rfl); (case hr => first | (go_simp; done) | (go_simp; rfl)); (case hp => exact (Reps.none _ _)); intro v191 w5 ho6 hb hg_ hnew_; clear hg_ hnew_; (first | rw [← Ny190.out] at ho6 | (simp only [Int.reduceToNat] at ho6; rw [← Ny190.out] at ho6)); have HO192 := Aside0.mk (Kd.R_lower ho6 (zZ (jH HB))); replace HB := Aside0.mk (zT (jH HB) hb); clear hb ho6) | ((with_reducible refine gate_builtin (b := .append) (xs := #[.tmp 7, .tmp 8]) rfl ?_); at_builtin; refine Kd.R_append_rows (Kd.int .u8) (w0 := w) w.heap.size rfl (.tmp 7) (.tmp 8) 25 5 (.int .u8 0) 1 rfl Tryd.underlying25 info5 rfl (by decide) (by omega) v191 y190 l0 _ _ _ (fun _ => True) (fun _ => False) rfl rfl ?aO ?aR (fun _ _ h => h) (fun _ h => h.elim) ?aF ?aB ?aS ?aL ?_; (case aR => repeat (first | exact (Kd.C_below HR0.out HB.out) | (with_reducible refine Kd.C_alloc ?_ _) | (with_reducible refine Kd.C_drewN ?_ _) | (with_reducible refine Kd.C_drew ?_))); (case aB => exact (jH HB)); (case aF => exact (fun _ _ => trivial)); (case aO => exact (jR HO192)); (case aS => exact (zZ (jH HB))); (case aL => have := LMc3.out; omega); intro v194 w7 ho hb hg hat; rw [← Ny193.out] at ho; have HO195 := Aside0.mk (ho); replace HB := Aside0.mk (hb); clear HO192; clear ho hb hg hat) | ((with_reducible refine gate_dst (N := 22) rfl ?_); refine Kd.R_lit (Kd.int .u8) _ 5 ?hg (N := 22) ?hd (xs := ([(t189) % 256, (t189 / 256) % 256, (t189 / 65536) % 256, (t189 / 16777216) % 256] : List Int)) (inner := [.int .u8 ((t189) % 256), .int .u8 ((t189 / 256) % 256), .int .u8 ((t189 / 65536) % 256), .int .u8 ((t189 / 16777216) % 256)]) (ok := fun _ => True) (okp := fun _ => True) ?hr ?hp (fun _ hk => hk) trivial (Below.refl _ _) (Nat.le_refl _) (by simp) ?_; (case hd => rfl); (case hg => rfl); (case hr => first | (go_simp; done) | (go_simp; rfl)); (case hp => exact (Reps.one (show Kd.M (Kd.int .u8) _ _ _ ((t189) % 256) [.int .u8 ((t189) % 256)] from rfl) (Reps.one (show Kd.M (Kd.int .u8) _ _ _ ((t189 / 256) % 256) [.int .u8 ((t189 / 256) % 256)] from rfl) (Reps.one (show Kd.M (Kd.int .u8) _ _ _ ((t189 / 65536) % 256) [.int .u8 ((t189 / 65536) % 256)] from rfl) (Reps.one (show Kd.M (Kd.int .u8) _ _ _ ((t189 / 16777216) % 256) [.int .u8 ((t189 / 16777216) % 256)] from rfl) (Reps.none _ _)))))); intro v197 w8 ho9 hb hg_ hnew_; clear hg_ hnew_; (first | rw [← Ny196.out] at ho9 | (simp only [Int.reduceToNat] at ho9; rw [← Ny196.out] at ho9)); have HO198 := Aside0.mk (Kd.R_lower (Kd.R_new' ho9 (Kd.R_lt (jR HO195))) (zZ (jH HB))); replace HO195 := Aside0.mk (Kd.R_elder' (jR HO195) (Kd.R_base ho9) hb); replace HB := Aside0.mk (zT (jH HB) hb); clear hb ho9; obtain ⟨Ao11, co11, eo11⟩ := Kd.R_slice HO198.out; subst eo11) | ((with_reducible refine gate_builtin (b := .append) (xs := #[.tmp 10, .tmp 22]) rfl ?_); at_builtin; refine Kd.R_append_rows (Kd.int .u8) (w0 := w) w.heap.size rfl (.tmp 10) (.tmp 22) 25 5 (.int .u8 0) 1 rfl Tryd.underlying25 info5 rfl (by decide) (by omega) v194 y193 y196 _ _ _ (fun k_ => some k_ ≠ (.slice Ao11 y196.length co11 : Value).ownBlock) (fun _ => False) rfl rfl ?aO ?aR (fun _ _ h => h) (fun _ h => h.elim) ?aF ?aB ?aS ?aL ?_; (case aR => repeat (first | exact (Kd.R_reads' HO198.out).2.2 | (with_reducible refine Kd.C_alloc ?_ _) | (with_reducible refine Kd.C_drewN ?_ _) | (with_reducible refine Kd.C_drew ?_))); (case aB => exact (jH HB)); (case aF => exact (fun k_ hk => Kd.fresh' (Kd.R_lt (jR HO198)) k_ hk)); (case aO => exact (by (with_reducible repeat (first | apply Kd.R_alloc | apply Kd.R_drewN | apply Kd.R_drew)); exact Kd.R_mono HO195.out (fun _ hk => hk.2))); (case aS => exact (zZ (jH HB))); (case aL => have := LMc4.out; omega); intro v200 w10 ho hb hg hat; rw [← Ny199.out] at ho; have HO201 := Aside0.mk (ho); replace HO198 := Aside0.mk (Kd.R_after (ok := (fun _ => True)) (jR HO198) hg hat); replace HB := Aside0.mk (hb); clear HO195; clear ho hb hg hat))
   go_ret
   exact ⟨_, jE, by (with_reducible repeat (first | apply Kd.R_alloc | apply Kd.R_drewN | apply Kd.R_drew)); exact Kd.R_mono HO201.out (fun _ hk => trivial), jH HB⟩
  ·rw [if_neg c4] at H
   exact absurd H (by simp)
 ·rw [if_neg c3] at H
  exact absurd H (by simp)
def table_Encode.l0 : Nat → List Int → List (S42) → Int → Int → Option (List Int × Int)
 | 0, _, _, _, _ => none
 | k + 1, x4, x17, x18, x19 => if x19 < x18 then (if 0 ≤ x19 then (if x19 < (x17.length : Int) then ((table_Rule_bytes.f k ((rd_T42 x17 x19).f0) ((rd_T42 x17 x19).f1) ((rd_T42 x17 x19).f2)).bind fun t211 => (if x4.length + t211.size < 140737488355328 then (table_Encode.l0 k (x4 ++ bytesOf t211) x17 x18 (wrap64 (x19 + 1))) else (none))) else (none)) else (none)) else ((crc_Seal.f k x4).bind fun t215 => (some (t215, 0)))
def table_Encode.f (k : Nat) (l0 : List (S42)) : Option (List Int × Int) := (table_Right.f k l0).bind fun t202 => (if t202 = true then ((some (([72, 82, 84, 49] : List Int) : List Int)).bind fun y203 => (if y203.length < 140737488355328 then (table_Encode.l0 k (y203 ++ [((l0.length : Int)) % 256]) l0 (l0.length : Int) 0) else (none))) else (some (([] : List Int), 1)))
set_option maxHeartbeats 8000000 in
set_option maxRecDepth 100000 in
theorem table_Encode.calls (k : Nat) (A0 : Option Addr) (c0 : Nat) (l0 : List (S42)) (r1 : List Int) (r2 : Int) (w : World) (hr0 : Kd.C k42 w A0 l0.length l0) (hc0 : l0.length ≤ c0) (hG : Glob w) (h : table_Encode.f k l0 = some (r1, r2)) :
  Calls Tryd.prog 12 #[.slice A0 l0.length c0] w fun e w' => ∃ v0_ : Value, e = .returned (.tuple #[v0_, .int .i64 r2]) ∧ Kd.R (Kd.int .u8) 5 w' w.heap.size (fun _ => True) v0_ r1 ∧ Below w.heap.size w w' := by
 have hu42 := Tryd.underlying42
 have HG := Aside0.mk hG
 clear hG
 have HR0 := Aside0.mk hr0
 have HC0 := Aside0.mk hc0
 clear hr0 hc0
 have HB := Aside0.mk (Below.refl w.heap.size w)
 have H : ((table_Right.f k l0).bind fun t202 => (if t202 = true then ((some (([72, 82, 84, 49] : List Int) : List Int)).bind fun y203 => (if y203.length < 140737488355328 then (table_Encode.l0 k (y203 ++ [((l0.length : Int)) % 256]) l0 (l0.length : Int) 0) else (none))) else (some (([] : List Int), 1)))) = some (r1, r2) := h
 clear h
 replace H := Option.bind_eq_some_iff.mp H
 obtain ⟨t202, A20, H⟩ := H
 try dsimp only at H
 have A2 := Aside0.mk A20
 clear A20
 by_cases c3 : t202 = true
 ·subst c3
  rw [if_pos rfl] at H
  obtain ⟨y203, hy203⟩ : ∃ y_ : List Int, y_ = (([72, 82, 84, 49] : List Int)) := ⟨_, rfl⟩
  simp only [Option.bind_some, ← hy203] at H
  have Ny203 := Aside0.mk hy203
  clear hy203
  by_cases c4 : y203.length < 140737488355328
  ·rw [if_pos c4] at H
   have LMc4 := Aside0.mk c4
   clear c4
   obtain ⟨y206, hy206⟩ : ∃ y_ : List Int, y_ = (y203 ++ [((l0.length : Int)) % 256]) := ⟨_, rfl⟩
   simp only [Option.bind_some, ← hy206] at H
   have Ny206 := Aside0.mk hy206
   clear hy206
   have H' := Aside0.mk H
   clear H
   go_enter Tryd.func12, Tryd.ntmps12
   have kc := fun (w : World) (C : Array Value) (n c : Nat) => Lib.run_convert_bytes_const (P := Tryd.prog) w 25 5 C n c Tryd.underlying25 Tryd.underlying5
   go_wp2_with (first | ((with_reducible refine gate_callee (f := 15) rfl ?_); refine goesL_ (some 8) rfl rfl Tryd.func15 (by kernel_rfl) rfl #[.slice A0 l0.length c0] rfl jZ ?_; (with_reducible refine (table_Right.calls k _ _ l0 true _ ?side1 ?side2 ?side3 A2.out).mono ?_); (case side1 => repeat (first | exact HR0.out | (with_reducible refine Kd.C_alloc ?_ _) | (with_reducible refine Kd.C_drewN ?_ _) | (with_reducible refine Kd.C_drew ?_))); (case side2 => exact HC0.out); (case side3 => exact Glob.below HG.out (jH HB)); rintro e w5 ⟨rfl, hb⟩; refine ⟨_, rfl, ?_⟩; replace HB := Aside0.mk (zT (jH HB) hb); (try clear hb); (try clear hb2); (try clear hk); (try clear hi)) | ((with_reducible refine gate_builtin (b := .append) (xs := #[.tmp 11, .tmp 15]) rfl ?_); at_builtin; refine RowT.append (w0 := w) w.heap.size rfl (.tmp 11) (.tmp 15) 25 5 rfl Tryd.underlying25 info5 (.slice (some ⟨w5.heap.size, 0, none⟩) 4 4) [72, 82, 84, 49] (((l0.length : Int)) % 256) rfl (by go_simp) (.inr ⟨w5.heap.size, 4, zZ HB.out, rfl, by decide, Kd.C_lit .u8 w5 [72, 82, 84, 49] 5 (4, 5) (by decide)⟩) (zA HB.out _) (zZ (zA HB.out _)) (by decide) ?_; intro v207 w8 ho hb; rw [← Ny203.out, ← Ny206.out] at ho; have HO208 := Aside0.mk (ho); replace HB := Aside0.mk (hb); clear ho hb))
   clear kc
   go_loopg [4, 19] k (fun kq v4 v19 w' => ∃ (x4_1 : List Int) (x19_1 : Int), v19 = .int .i64 x19_1 ∧ Aside0 (table_Encode.l0 kq x4_1 l0 (l0.length : Int) x19_1 = some (r1, r2)) ∧ Aside0 (kq ≤ k) ∧ Aside0 (Kd.R (Kd.int .u8) 5 w' w.heap.size (fun _ => True) v4 x4_1) ∧ Aside0 (Below w.heap.size w w'))
   case atStart => exact ⟨(y206), (0), jS, H', ⟨Nat.le_refl _⟩, ⟨jR HO208⟩, ⟨jH HB⟩⟩
   case round =>
    clear H'
    obtain ⟨x4_1, x19_1, rfl, HA, HK1, HO_4, HB⟩ := hrel
    cases gk with
    | zero => exact absurd HA.out (by simp [table_Encode.l0])
    | succ k1 =>
     have H := HA.out
     clear HA
     simp only [table_Encode.l0] at H
     by_cases c9 : x19_1 < (l0.length : Int)
     ·rw [if_pos c9] at H
      have c9b0 := dT c9
      clear c9
      by_cases c10 : 0 ≤ x19_1
      ·rw [if_pos c10] at H
       have c10b0 := dT c10
       clear c10
       by_cases c11 : x19_1 < (l0.length : Int)
       ·rw [if_pos c11] at H
        have c11b0 := dT c11
        clear c11
        replace H := Option.bind_eq_some_iff.mp H
        obtain ⟨t211, A120, H⟩ := H
        try dsimp only at H
        have A12 := Aside0.mk A120
        clear A120
        by_cases c13 : x4_1.length + t211.size < 140737488355328
        ·rw [if_pos c13] at H
         have LMc13 := Aside0.mk c13
         clear c13
         obtain ⟨y212, hy212⟩ : ∃ y_ : List Int, y_ = (x4_1 ++ bytesOf t211) := ⟨_, rfl⟩
         simp only [Option.bind_some, ← hy212] at H
         have Ny212 := Aside0.mk hy212
         clear hy212
         have H' := Aside0.mk H
         clear H
         have p209 : 0 ≤ (x19_1 : Int) := oD (jA)
         have q209 : x19_1 < (l0.length : Int) := oD (jA)
         obtain ⟨ad209, A209_0, c209_0, A209_1, c209_1, e209, hx209_0, hx209_1, hx209_2, hl209_0, hi209_0, hl209_1, hi209_1⟩ := at_T42 HR0.out x19_1 p209 q209
         cases e209
         replace hx209_0 := (HB.out.cell (bL w _ hx209_0)).trans hx209_0
         replace hx209_1 := (HB.out.cell (bL w _ hx209_1)).trans hx209_1
         replace hx209_2 := (HB.out.cell (bL w _ hx209_2)).trans hx209_2
         have HR209_0 := Aside0.mk hi209_0
         have HC209_0 := Aside0.mk hl209_0
         clear hi209_0 hl209_0
         have HR209_1 := Aside0.mk hi209_1
         have HC209_1 := Aside0.mk hl209_1
         clear hi209_1 hl209_1
         replace p209 := eq_true p209
         replace q209 := eq_true q209
         go_wp2_with (first | ((with_reducible refine gate_dst (N := 6) rfl ?_); refine box_event rfl (N := 6) rfl (cs := #[.slice none 0 0, .slice none 0 0, .int .u32 0]) (t := 42) jW ?_; intro gb210 hg w14 hbox hb; have BK210 := Aside0.mk hbox; have GW210 := Aside0.mk (jG hg HB); have GE210 := Aside0.mk (jG hg HB); replace HO_4 := Aside0.mk (Kd.R_below (jR HO_4) hb); replace HB := Aside0.mk (zT (jH HB) hb); clear hb hbox hg; obtain ⟨hcz15_0, hcz15_1, hcz15_2, hfz15_0, hfz15_1, hfz15_2⟩ := kQ3 BK210.out) | ((with_reducible refine gate_callee (f := 28) rfl ?_); refine goesL_ (some 25) rfl rfl Tryd.func28 (by kernel_rfl) rfl #[.agg #[.slice A209_0 ((rd_T42 l0 x19_1).f0).length c209_0, .slice A209_1 ((rd_T42 l0 x19_1).f1).length c209_1, .int .u32 ((rd_T42 l0 x19_1).f2)]] rfl jZ ?_; (with_reducible refine (table_Rule_bytes.calls k1 _ _ ((rd_T42 l0 x19_1).f0) _ _ ((rd_T42 l0 x19_1).f1) ((rd_T42 l0 x19_1).f2) t211 _ ?side1 ?side2 ?side3 ?side4 ?side5 A12.out).mono ?_); (case side1 => exact Kd.C_below HR209_0.out (jH HB)); (case side2 => exact HC209_0.out); (case side3 => exact Kd.C_below HR209_1.out (jH HB)); (case side4 => exact HC209_1.out); (case side5 => exact Glob.below HG.out (jH HB)); rintro e w16 ⟨rfl, hb⟩; refine ⟨_, rfl, ?_⟩; replace HO_4 := Aside0.mk (Kd.R_below (by (with_reducible repeat (first | apply Kd.R_alloc | apply Kd.R_drewN | apply Kd.R_drew)); exact (Kd.R_mono (Kd.R_far (p := ⟨gb210, 2, none⟩) (Kd.R_far (p := ⟨gb210, 1, none⟩) (Kd.R_far (p := ⟨gb210, 0, none⟩) (Kd.R_types HO_4.out BK210.out (by decide)) (fun _ hk => hk.2) (.slice A209_0 ((rd_T42 l0 x19_1).f0).length c209_0)) (fun _ hk => hk.2) (.slice A209_1 ((rd_T42 l0 x19_1).f1).length c209_1)) (fun _ hk => hk.2) (.int .u32 ((rd_T42 l0 x19_1).f2))) (fun _ h_ => h_.1))) hb); replace BK210 := Aside0.mk (kB (g := gb210) (o := .cells #[.slice A209_0 ((rd_T42 l0 x19_1).f0).length c209_0, .slice A209_1 ((rd_T42 l0 x19_1).f1).length c209_1, .int .u32 ((rd_T42 l0 x19_1).f2)] 42 (0, 0)) (by (with_reducible repeat (first | refine kN ?_ _ | refine kD ?_ | refine kA ?_ _)); refine kP (cs := #[.slice A209_0 ((rd_T42 l0 x19_1).f0).length c209_0, .slice A209_1 ((rd_T42 l0 x19_1).f1).length c209_1, .int .u32 0]) ?_ 2 _ rfl; (with_reducible repeat (first | refine kN ?_ _ | refine kD ?_ | refine kA ?_ _)); refine kP (cs := #[.slice A209_0 ((rd_T42 l0 x19_1).f0).length c209_0, .slice none 0 0, .int .u32 0]) ?_ 1 _ rfl; (with_reducible repeat (first | refine kN ?_ _ | refine kD ?_ | refine kA ?_ _)); refine kP (cs := #[.slice none 0 0, .slice none 0 0, .int .u32 0]) ?_ 0 _ rfl; (with_reducible repeat (first | refine kN ?_ _ | refine kD ?_ | refine kA ?_ _)); exact BK210.out) hb); replace HB := Aside0.mk (zT (jH HB) hb); (try clear hb); (try clear hb2); (try clear hk); (try clear hi)) | (at_builtin; refine print_append_str (w0 := w) w.heap.size rfl (.tmp 23) _ 25 9 5 rfl Tryd.underlying25 Tryd.underlying9 info5 u4 x4_1 t211 rfl rfl ?aO ?aB ?aS ?aL ?_; (case aB => exact (jH HB)); (case aO => exact (Kd.own_of_R (jR HO_4))); (case aS => exact (zZ (jH HB))); (case aL => have := LMc13.out; omega); intro v213 w17 ho0 hb hg; have ho := Kd.R_of_own (h1 := fun _ => rfl) (ok := fun _ => True) ho0 (fun _ _ => trivial); clear ho0; have hat := True.intro; rw [← Ny212.out] at ho; change Kd.R (Kd.int .u8) 5 w17 w.heap.size (fun _ => True) v213 y212 at ho; have HO214 := Aside0.mk (ho); replace BK210 := Aside0.mk (kG (g := gb210) (o := .cells #[.slice A209_0 ((rd_T42 l0 x19_1).f0).length c209_0, .slice A209_1 ((rd_T42 l0 x19_1).f1).length c209_1, .int .u32 ((rd_T42 l0 x19_1).f2)] 42 (0, 0)) (jK BK210) hg (Kd.R_ne HO_4.out BK210.out (by decide))); replace HB := Aside0.mk (hb); clear HO_4; clear ho hb hg hat))
         go_roundg k1
         case measure => have := HK1.out; omega
         case rel => exact ⟨(y212), (wrap64 (x19_1 + 1)), jS, H', ⟨by have := HK1.out; omega⟩, ⟨jR HO214⟩, ⟨jH HB⟩⟩
        ·rw [if_neg c13] at H
         exact absurd H (by simp)
       ·rw [if_neg c11] at H
        exact absurd H (by simp)
      ·rw [if_neg c10] at H
       exact absurd H (by simp)
     ·rw [if_neg c9] at H
      have c9b0 := dF c9
      clear c9
      replace H := Option.bind_eq_some_iff.mp H
      obtain ⟨t215, A180, H⟩ := H
      try dsimp only at H
      have A18 := Aside0.mk A180
      clear A180
      simp only [Option.some.injEq, Prod.mk.injEq] at H
      obtain ⟨rfl, rfl⟩ := H
      obtain ⟨Ao19, co19, eo19⟩ := Kd.R_slice HO_4.out
      subst eo19
      go_wp2_with (first | ((with_reducible refine gate_callee (f := 29) rfl ?_); refine goesL_ (some 29) rfl rfl Tryd.func29 (by kernel_rfl) rfl #[.slice Ao19 x4_1.length co19] rfl jZ ?_; (with_reducible refine (crc_Seal.calls k1 _ _ x4_1 t215 _ ?side1 ?side2 A18.out).mono ?_); (case side1 => exact jC (Kd.R_reads' HO_4.out).2.2); (case side2 => exact (Kd.R_reads' HO_4.out).2.1); rintro e w20 ⟨v216, rfl, ho0, hb⟩; refine ⟨_, rfl, ?_⟩; have HO217 := Aside0.mk (Kd.R_lower (Kd.R_new' ho0 (Kd.R_lt (jR HO_4))) (zZ (jH HB))); replace HO_4 := Aside0.mk (Kd.R_elder' (jR HO_4) (Kd.R_base ho0) hb); replace HB := Aside0.mk (zT (jH HB) hb); (try clear hb); (try clear hb2); (try clear hk); (try clear hi); (try clear ho0)))
      go_ret2
      exact ⟨_, jE, by (with_reducible repeat (first | apply Kd.R_alloc | apply Kd.R_drewN | apply Kd.R_drew)); exact Kd.R_mono HO217.out (fun _ hk => trivial), jH HB⟩
  ·rw [if_neg c4] at H
   exact absurd H (by simp)
 ·replace c3 := Bool.eq_false_iff.mpr c3
  subst c3
  rw [if_neg (show ¬ (false = true) by decide)] at H
  simp only [Option.some.injEq, Prod.mk.injEq] at H
  obtain ⟨rfl, rfl⟩ := H
  go_enter Tryd.func12, Tryd.ntmps12
  go_wp2_with (first | ((with_reducible refine gate_callee (f := 15) rfl ?_); refine goesL_ (some 8) rfl rfl Tryd.func15 (by kernel_rfl) rfl #[.slice A0 l0.length c0] rfl jZ ?_; (with_reducible refine (table_Right.calls k _ _ l0 false _ ?side1 ?side2 ?side3 A2.out).mono ?_); (case side1 => repeat (first | exact HR0.out | (with_reducible refine Kd.C_alloc ?_ _) | (with_reducible refine Kd.C_drewN ?_ _) | (with_reducible refine Kd.C_drew ?_))); (case side2 => exact HC0.out); (case side3 => exact Glob.below HG.out (jH HB)); rintro e w21 ⟨rfl, hb⟩; refine ⟨_, rfl, ?_⟩; replace HB := Aside0.mk (zT (jH HB) hb); (try clear hb); (try clear hb2); (try clear hk); (try clear hi)))
  go_ret2
  exact ⟨_, jE, by first | exact Kd.R_nil _ _ _ _ _ | exact Kd.N_nil _ _ _ _ _ | exact Kd.V_nil _ _ _ _ _ | exact Kd.Q_nil _ _ _ _ _ | exact Kd.S_nil _ _ _ _ _, jH HB⟩
def crc_Open.f (k : Nat) (l0 : List Int) : Option (List Int × Int) := (if (wrap64 ((l0.length : Int) - 4)) < 0 then (some (([] : List Int), 9)) else (none))
set_option maxHeartbeats 8000000 in
set_option maxRecDepth 100000 in
theorem crc_Open.calls (k : Nat) (A0 : Option Addr) (c0 : Nat) (l0 : List Int) (r1 : List Int) (r2 : Int) (w : World) (hr0 : Kd.C (Kd.int .u8) w A0 l0.length l0) (hc0 : l0.length ≤ c0) (h : crc_Open.f k l0 = some (r1, r2)) :
  Calls Tryd.prog 34 #[.slice A0 l0.length c0] w fun e w' => ∃ v0_ : Value, e = .returned (.tuple #[v0_, .int .i64 r2]) ∧ Kd.R (Kd.int .u8) 5 w' w.heap.size (fun _ => True) v0_ r1 ∧ Below w.heap.size w w' := by
 have HR0 := Aside0.mk hr0
 have HC0 := Aside0.mk hc0
 clear hr0 hc0
 have HB := Aside0.mk (Below.refl w.heap.size w)
 have H : (if (wrap64 ((l0.length : Int) - 4)) < 0 then (some (([] : List Int), 9)) else (none)) = some (r1, r2) := h
 clear h
 by_cases c2 : (wrap64 ((l0.length : Int) - 4)) < 0
 ·rw [if_pos c2] at H
  have c2b0 := dT c2
  clear c2
  simp only [Option.some.injEq, Prod.mk.injEq] at H
  obtain ⟨rfl, rfl⟩ := H
  go_enter Tryd.func34, Tryd.ntmps34
  go_wp2
  go_ret2
  exact ⟨_, jE, by first | exact Kd.R_nil _ _ _ _ _ | exact Kd.N_nil _ _ _ _ _ | exact Kd.V_nil _ _ _ _ _ | exact Kd.Q_nil _ _ _ _ _ | exact Kd.S_nil _ _ _ _ _, jH HB⟩
 ·rw [if_neg c2] at H
  exact absurd H (by simp)
def table_Decode.f (k : Nat) (l0 : List Int) : Option ((List (S42)) × Int) := ((crc_Open.f k l0).bind fun bt277 => (if bt277.2 = 0 then (none) else (some (([] : List (S42)), bt277.2))))
set_option maxHeartbeats 8000000 in
set_option maxRecDepth 100000 in
theorem table_Decode.calls (k : Nat) (A0 : Option Addr) (c0 : Nat) (l0 : List Int) (r1 : List (S42)) (r2 : Int) (w : World) (hr0 : Kd.C (Kd.int .u8) w A0 l0.length l0) (hc0 : l0.length ≤ c0) (hG : Glob w) (h : table_Decode.f k l0 = some (r1, r2)) :
  Calls Tryd.prog 17 #[.slice A0 l0.length c0] w fun e w' => ∃ v0_ : Value, e = .returned (.tuple #[v0_, .int .i64 r2]) ∧ Kd.S k42 42 w' w.heap.size (fun _ => True) v0_ r1 ∧ Below w.heap.size w w' := by
 have hu42 := Tryd.underlying42
 have HG := Aside0.mk hG
 clear hG
 have HR0 := Aside0.mk hr0
 have HC0 := Aside0.mk hc0
 clear hr0 hc0
 have HB := Aside0.mk (Below.refl w.heap.size w)
 have H : ((crc_Open.f k l0).bind fun bt277 => (if bt277.2 = 0 then (none) else (some (([] : List (S42)), bt277.2)))) = some (r1, r2) := h
 clear h
 replace H := Option.bind_eq_some_iff.mp H
 obtain ⟨⟨t277, t278⟩, A20, H⟩ := H
 dsimp only at H
 have A2 := Aside0.mk A20
 clear A20
 by_cases c3 : t278 = 0
 ·rw [if_pos c3] at H
  exact absurd H (by simp)
 ·rw [if_neg c3] at H
  have c3b0 : (t278 == 0) = false := bF.mpr c3
  have c3b1 : (t278 != 0) = true := nI.mpr c3
  simp only [Option.some.injEq, Prod.mk.injEq] at H
  obtain ⟨rfl, rfl⟩ := H
  go_enter Tryd.func17, Tryd.ntmps17
  go_wp2_with (first | ((with_reducible refine gate_callee (f := 34) rfl ?_); refine goesL_ (some 12) rfl rfl Tryd.func34 (by kernel_rfl) rfl #[.slice A0 l0.length c0] rfl jZ ?_; (with_reducible refine (crc_Open.calls k _ _ l0 t277 t278 _ ?side1 ?side2 A2.out).mono ?_); (case side1 => repeat (first | exact HR0.out | (with_reducible refine Kd.C_alloc ?_ _) | (with_reducible refine Kd.C_drewN ?_ _) | (with_reducible refine Kd.C_drew ?_))); (case side2 => exact HC0.out); rintro e w46 ⟨v279, rfl, ho0, hb⟩; refine ⟨_, rfl, ?_⟩; have HO280 := Aside0.mk (Kd.R_lower ho0 (zZ (jH HB))); replace HB := Aside0.mk (zT (jH HB) hb); (try clear hb); (try clear hb2); (try clear hk); (try clear hi); (try clear ho0)))
  go_ret2
  exact ⟨_, jE, by first | exact Kd.S_nil _ _ _ _ _ | exact Kd.N_nil _ _ _ _ _ | exact Kd.V_nil _ _ _ _ _ | exact Kd.Q_nil _ _ _ _ _ | exact Kd.R_nil _ _ _ _ _, jH HB⟩
end Go.Proofs.YtahacmdhhfmhiaaDoor.M
