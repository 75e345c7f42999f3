/- What Go functions compute; their calls come to it. No condition. -/
import Derived.Test.YtahacmdhhfmhiaaDoorM0
import Derived.Test.YtahacmdhhfmhiaaDoorMB
import Derived.Test.YtahacmdhhfmhiaaDoorMA
namespace Go.Proofs.YtahacmdhhfmhiaaDoor.M
open Go.RowKit Go.Proofs.YtahacmdhhfmhiaaDoorW.PrintWords Go.Proofs.YtahacmdhhfmhiaaDoorW.PrintLast Go.Proofs.YtahacmdhhfmhiaaDoorW.PrintMore
attribute [local go_sem] max2_int min2_int max_two min_two max_three min_three max_four min_four   -- for this text's walks alone
set_option linter.unusedVariables false
set_option linter.unusedSimpArgs false
def table_Right.l0 : Nat → List (S42) → List (S42) → Int → Int → Option (Bool)
 | 0, _, _, _, _ => none
 | k + 1, x0, x5, x6, x7 => if x7 < x6 then (if 0 ≤ x7 then (if x7 < (x5.length : Int) then ((table_Rule_right.f k ((rd_T42 x5 x7).f0) ((rd_T42 x5 x7).f1) ((rd_T42 x5 x7).f2)).bind fun t184 => (if t184 = true then (if x7 > 0 then (if 0 ≤ (wrap64 (x7 - 1)) then (if (wrap64 (x7 - 1)) < (x0.length : Int) then ((table_Rule_bytes.f k ((rd_T42 x0 (wrap64 (x7 - 1))).f0) ((rd_T42 x0 (wrap64 (x7 - 1))).f1) ((rd_T42 x0 (wrap64 (x7 - 1))).f2)).bind fun t186 => ((table_Rule_bytes.f k ((rd_T42 x5 x7).f0) ((rd_T42 x5 x7).f1) ((rd_T42 x5 x7).f2)).bind fun t187 => (if ((Op.bytesLess t186.toList t187.toList) = true) then (table_Right.l0 k x0 x5 x6 (wrap64 (x7 + 1))) else (some false)))) else (none)) else (none)) else (table_Right.l0 k x0 x5 x6 (wrap64 (x7 + 1)))) else (some false))) else (none)) else (none)) else (some (decide ((x0.length : Int) ≤ 64)))
def table_Right.f (k : Nat) (l0 : List (S42)) : Option (Bool) := table_Right.l0 k l0 l0 (l0.length : Int) 0
def table_Right.T4 : Bool × List (List Nat × List Nat) := (true, [([], []), ([0], [0]), ([1], [1]), ([2, 1], [2]), ([3], [3]), ([4, 3], [3, 4]), ([5, 3, 3], [3, 5]), ([6], [6]), ([6], [6]), ([8, 6], [6, 8]), ([7, 9, 6], [6, 7, 9]), ([10, 6], [6, 10]), ([11, 6, 6], [6, 11]), ([6], [6]), ([13, 12, 6], [6, 13]), ([12, 14, 6], [6, 12, 14]), ([6, 15, 3], [3, 6, 15]), ([3, 16], [3, 16])])
def table_Right.B4 : List Nat := [0, 1, 3, 7, 15, 31, 63, 127, 127, 383, 1023, 2047, 4095, 127, 16383, 32767, 65535, 131071]
theorem table_Right.tab4 : rtab .any (opsOf Tryd.f15 4) = table_Right.T4 := by kernel_rfl
theorem table_Right.bits4 : waitsOk table_Right.T4.2 table_Right.B4 = true := by kernel_rfl
set_option maxHeartbeats 8000000 in
set_option maxRecDepth 100000 in
theorem table_Right.calls (k : Nat) (A0 : Option Addr) (c0 : Nat) (l0 : List (S42)) (r : Bool) (w : World) (hr0 : Kd.C k42 w A0 l0.length l0) (hc0 : l0.length ≤ c0) (hG : Glob w) (h : table_Right.f k l0 = some r) :
  Calls Tryd.prog 15 #[.slice A0 l0.length c0] w fun e w' => e = .returned (.bool r) ∧ Below w.heap.size w w' := by
 have hu42 := Tryd.underlying42
 have HG := Aside0.mk hG
 clear hG
 have HR0 := Aside0.mk hr0
 have HC0 := Aside0.mk hc0
 clear hr0 hc0
 have HB := Aside0.mk (Below.refl w.heap.size w)
 have H : (table_Right.l0 k l0 l0 (l0.length : Int) 0) = some r := h
 clear h
 have H' := Aside0.mk H
 clear H
 go_enter Tryd.func15, Tryd.ntmps15
 go_wp2
 go_loopg [7] k (fun kq v7 w' => ∃ (x7_1 : Int), v7 = .int .i64 x7_1 ∧ Aside0 (table_Right.l0 kq l0 l0 (l0.length : Int) x7_1 = some r) ∧ Aside0 (kq ≤ k) ∧ Aside0 (Below w.heap.size w w'))
 case atStart => exact ⟨(0), jS, H', ⟨Nat.le_refl _⟩, ⟨jH HB⟩⟩
 case round =>
  clear H'
  obtain ⟨x7_1, rfl, HA, HK1, HB⟩ := hrel
  cases gk with
  | zero => exact absurd HA.out (by simp [table_Right.l0])
  | succ k1 =>
   have H := HA.out
   clear HA
   simp only [table_Right.l0] at H
   by_cases c2 : x7_1 < (l0.length : Int)
   ·rw [if_pos c2] at H
    have c2b0 := dT c2
    clear c2
    by_cases c3 : 0 ≤ x7_1
    ·rw [if_pos c3] at H
     have c3b0 := dT c3
     clear c3
     by_cases c4 : x7_1 < (l0.length : Int)
     ·rw [if_pos c4] at H
      have c4b0 := dT c4
      clear c4
      replace H := Option.bind_eq_some_iff.mp H
      obtain ⟨t184, A50, H⟩ := H
      try dsimp only at H
      have A5 := Aside0.mk A50
      clear A50
      by_cases c6 : t184 = true
      ·subst c6
       rw [if_pos rfl] at H
       by_cases c7 : x7_1 > 0
       ·rw [if_pos c7] at H
        have c7b0 : decide (0 < x7_1) = true := dT c7
        clear c7
        obtain ⟨ji8, hji8⟩ : ∃ j_ : Int, (wrap64 (x7_1 - 1)) = j_ := ⟨_, rfl⟩
        first | rw [hji8] at H | simp only [hji8] at H
        (try rw [hji8] at A5)
        have hji8w : (IntKind.i64.wrap (x7_1 - 1)) = ji8 := (i64_w _).trans hji8
        by_cases c9 : 0 ≤ (ji8)
        ·rw [if_pos c9] at H
         have c9b0 := dT c9
         clear c9
         by_cases c10 : (ji8) < (l0.length : Int)
         ·rw [if_pos c10] at H
          have c10b0 := dT c10
          clear c10
          replace H := Option.bind_eq_some_iff.mp H
          obtain ⟨t186, A110, H⟩ := H
          try dsimp only at H
          have A11 := Aside0.mk A110
          clear A110
          replace H := Option.bind_eq_some_iff.mp H
          obtain ⟨t187, A120, H⟩ := H
          try dsimp only at H
          have A12 := Aside0.mk A120
          clear A120
          by_cases c13 : ((Op.bytesLess t186.toList t187.toList) = true)
          ·rw [if_pos c13] at H
           have c13b0 : (Op.bytesLess t186.toList t187.toList) = true := c13
           clear c13
           have H' := Aside0.mk H
           clear H
           have p182 : 0 ≤ (x7_1 : Int) := oD (jA)
           have q182 : x7_1 < (l0.length : Int) := oD (jA)
           obtain ⟨ad182, A182_0, c182_0, A182_1, c182_1, e182, hx182_0, hx182_1, hx182_2, hl182_0, hi182_0, hl182_1, hi182_1⟩ := at_T42 HR0.out x7_1 p182 q182
           cases e182
           replace hx182_0 := (HB.out.cell (bL w _ hx182_0)).trans hx182_0
           replace hx182_1 := (HB.out.cell (bL w _ hx182_1)).trans hx182_1
           replace hx182_2 := (HB.out.cell (bL w _ hx182_2)).trans hx182_2
           have HR182_0 := Aside0.mk hi182_0
           have HC182_0 := Aside0.mk hl182_0
           clear hi182_0 hl182_0
           have HR182_1 := Aside0.mk hi182_1
           have HC182_1 := Aside0.mk hl182_1
           clear hi182_1 hl182_1
           replace p182 := eq_true p182
           replace q182 := eq_true q182
           try go_wp2_with (first | ((with_reducible refine gate_dst (N := 4) rfl ?_); refine box_event rfl (N := 4) rfl (cs := #[.slice none 0 0, .slice none 0 0, .int .u32 0]) (t := 42) jW ?_; intro gb183 hg w14 hbox hb; have BK183 := Aside0.mk hbox; have GW183 := Aside0.mk (jG hg HB); have GE183 := Aside0.mk (jG hg HB); replace HB := Aside0.mk (zT (jH HB) hb); clear hb hbox hg; obtain ⟨hcz15_0, hcz15_1, hcz15_2, hfz15_0, hfz15_1, hfz15_2⟩ := kQ3 BK183.out))
           have n0_ : Aside0 ((((w14.setCell ⟨gb183, 0, none⟩ (.slice A182_0 ((rd_T42 l0 x7_1).f0).length c182_0)).setCell ⟨gb183, 1, none⟩ (.slice A182_1 ((rd_T42 l0 x7_1).f1).length c182_1)).setCell ⟨gb183, 2, none⟩ (.int .u32 ((rd_T42 l0 x7_1).f2))).heap[gb183]? = some (.cells #[.slice A182_0 ((rd_T42 l0 x7_1).f0).length c182_0, .slice A182_1 ((rd_T42 l0 x7_1).f1).length c182_1, .int .u32 ((rd_T42 l0 x7_1).f2)] 42 (0, 0))) := ⟨by (with_reducible repeat (first | refine kN ?_ _ | refine kD ?_ | refine kA ?_ _)); refine kP (cs := #[.slice A182_0 ((rd_T42 l0 x7_1).f0).length c182_0, .slice A182_1 ((rd_T42 l0 x7_1).f1).length c182_1, .int .u32 0]) ?_ 2 _ rfl; (with_reducible repeat (first | refine kN ?_ _ | refine kD ?_ | refine kA ?_ _)); refine kP (cs := #[.slice A182_0 ((rd_T42 l0 x7_1).f0).length c182_0, .slice none 0 0, .int .u32 0]) ?_ 1 _ rfl; (with_reducible repeat (first | refine kN ?_ _ | refine kD ?_ | refine kA ?_ _)); refine kP (cs := #[.slice none 0 0, .slice none 0 0, .int .u32 0]) ?_ 0 _ rfl; (with_reducible repeat (first | refine kN ?_ _ | refine kD ?_ | refine kA ?_ _)); exact BK183.out⟩
           have n1_ : Aside0 (Below w.heap.size w (((w14.setCell ⟨gb183, 0, none⟩ (.slice A182_0 ((rd_T42 l0 x7_1).f0).length c182_0)).setCell ⟨gb183, 1, none⟩ (.slice A182_1 ((rd_T42 l0 x7_1).f1).length c182_1)).setCell ⟨gb183, 2, none⟩ (.int .u32 ((rd_T42 l0 x7_1).f2)))) := ⟨jH HB⟩
           (try clear BK183)
           (try clear HB)
           generalize (((w14.setCell ⟨gb183, 0, none⟩ (.slice A182_0 ((rd_T42 l0 x7_1).f0).length c182_0)).setCell ⟨gb183, 1, none⟩ (.slice A182_1 ((rd_T42 l0 x7_1).f1).length c182_1)).setCell ⟨gb183, 2, none⟩ (.int .u32 ((rd_T42 l0 x7_1).f2))) = w16 at n0_ n1_ ⊢
           have BK183 := n0_
           have HB := n1_
           clear n0_ n1_
           replace BK183 := Aside0.mk (kD BK183.out)
           replace HB := Aside0.mk (zD HB.out)
           have p185 : 0 ≤ ((ji8) : Int) := oD (jA)
           have q185 : (ji8) < (l0.length : Int) := oD (jA)
           obtain ⟨ad185, A185_0, c185_0, A185_1, c185_1, e185, hx185_0, hx185_1, hx185_2, hl185_0, hi185_0, hl185_1, hi185_1⟩ := at_T42 HR0.out (ji8) p185 q185
           have hw185_2 := hx185_2
           have hw185_1 := hx185_1
           have hw185_0 := hx185_0
           obtain rfl : ad182 = ad185 := (by injection e185)
           replace hx185_0 := (HB.out.cell (bL w _ hx185_0)).trans hx185_0
           replace hx185_1 := (HB.out.cell (bL w _ hx185_1)).trans hx185_1
           replace hx185_2 := (HB.out.cell (bL w _ hx185_2)).trans hx185_2
           have HR185_0 := Aside0.mk hi185_0
           have HC185_0 := Aside0.mk hl185_0
           clear hi185_0 hl185_0
           have HR185_1 := Aside0.mk hi185_1
           have HC185_1 := Aside0.mk hl185_1
           clear hi185_1 hl185_1
           replace p185 := eq_true p185
           replace q185 := eq_true q185
           have hgeq_ := fun W => str_geq (P := Tryd.prog) W 9 t186 t187
           refine start_ (n := 18) (S := fun w' => w'.cell? ⟨gb183, 0, none⟩ = some (.slice A182_0 ((rd_T42 l0 x7_1).f0).length c182_0) ∧ w'.cell? ⟨gb183, 1, none⟩ = some (.slice A182_1 ((rd_T42 l0 x7_1).f1).length c182_1) ∧ w'.cell? ⟨gb183, 2, none⟩ = some (.int .u32 ((rd_T42 l0 x7_1).f2)) ∧ w'.cell? (ad182.add (((ji8)).toNat * 3)) = some (.slice A185_0 ((rd_T42 l0 (ji8)).f0).length c185_0) ∧ w'.cell? ⟨(ad182.add (((ji8)).toNat * 3)).block, (ad182.add (((ji8)).toNat * 3)).off + 1, none⟩ = some (.slice A185_1 ((rd_T42 l0 (ji8)).f1).length c185_1) ∧ w'.cell? ⟨(ad182.add (((ji8)).toNat * 3)).block, (ad182.add (((ji8)).toNat * 3)).off + 2, none⟩ = some (.int .u32 ((rd_T42 l0 (ji8)).f2))) (ds := []) #[false, false, false, false, false, false, false, false, false, false, false, false, false, false, false, false, false, false] (by kernel_rfl) rfl rfl ⟨(kC BK183.out 0).trans rfl, (kC BK183.out 1).trans rfl, (kC BK183.out 2).trans rfl, ((HB.out.cell (bL w _ hw185_0)).trans hw185_0), ((HB.out.cell (bL w _ hw185_1)).trans hw185_1), ((HB.out.cell (bL w _ hw185_2)).trans hw185_2)⟩ (fun hHeld => ?_); refine with_tabW table_Right.tab4 table_Right.bits4 (fun HT_ HW_ => ?_)
           generalize w16.drew = w17 at BK183 HB HR185_0 HR185_1 hx185_0 hx185_1 hx185_2 hHeld ⊢
           refine qT 0 12 (tB 18 1) hHeld ?_ (hv := by rintro w' ⟨s0, s1, s2, s3, s4, s5⟩; go_simp; with_reducible rfl)
           refine one_ (i := 1) (N := some 13) (tB 18 3) rfl rfl (one_of HT_.out (by kernel_rfl)) (by decide) (fun K hK => ?_)
           refine goes_ Tryd.func32 (by kernel_rfl) rfl #[.agg #[.slice A182_0 ((rd_T42 l0 x7_1).f0).length c182_0, .slice A182_1 ((rd_T42 l0 x7_1).f1).length c182_1, .int .u32 ((rd_T42 l0 x7_1).f2)]] (by rfl) rfl rfl jZ ?_
           with_reducible refine (table_Rule_right.calls k1 _ _ ((rd_T42 l0 x7_1).f0) _ _ ((rd_T42 l0 x7_1).f1) ((rd_T42 l0 x7_1).f2) true _ ?side1 ?side2 ?side3 ?side4 ?side5 A5.out).mono ?_
           (case side1 => exact jC (Kd.C_below HR182_0.out HB.out))
           (case side2 => exact HC182_0.out)
           (case side3 => exact jC (Kd.C_below HR182_1.out HB.out))
           (case side4 => exact HC182_1.out)
           (case side5 => exact Glob.below HG.out (jH HB))
           rintro e w18 ⟨rfl, hb⟩
           refine ⟨_, rfl, ?_⟩
           replace BK183 := Aside0.mk (jB BK183 hb)
           replace HB := Aside0.mk (zT (jH HB) hb)
           (try clear hb)
           (try clear hb2)
           (try clear hk)
           (try clear hi)
           refine hK.out _ _ ⟨(kC BK183.out 0).trans rfl, (kC BK183.out 1).trans rfl, (kC BK183.out 2).trans rfl, ((HB.out.cell (bL w _ hw185_0)).trans hw185_0), ((HB.out.cell (bL w _ hw185_1)).trans hw185_1), ((HB.out.cell (bL w _ hw185_2)).trans hw185_2)⟩ (fun hHeld => ?_)
           clear hK K
           refine qN 13 ?_
           refine qP 2 14 (tB 18 7) ?_
           refine qP 3 15 (tB 18 15) ?_
           refine qP 4 16 (tB 18 31) ?_
           refine qP 5 17 (tB 18 63) ?_
           refine qP 6 18 (tB 18 127) ?_
           refine qP 7 19 (tB 18 255) ?_
           refine qP 8 20 (tB 18 511) ?_
           refine qP 9 21 (tB 18 1023) ?_
           refine qP 10 22 (tB 18 2047) ?_
           refine qT 11 23 (tB 18 4095) hHeld ?_ (hv := by rintro w' ⟨s0, s1, s2, s3, s4, s5⟩; go_simp; with_reducible rfl)
           refine qT 13 25 (tB 18 12287) hHeld ?_ (hv := by rintro w' ⟨s0, s1, s2, s3, s4, s5⟩; go_simp; with_reducible rfl)
           refine one_ (i := 12) (N := some 24) (tB 18 16383) rfl rfl (one_of HT_.out (by kernel_rfl)) (by decide) (fun K hK => ?_)
           refine goes_ Tryd.func28 (by kernel_rfl) rfl #[.agg #[.slice A185_0 ((rd_T42 l0 (ji8)).f0).length c185_0, .slice A185_1 ((rd_T42 l0 (ji8)).f1).length c185_1, .int .u32 ((rd_T42 l0 (ji8)).f2)]] (by rfl) rfl rfl (by (try simp only [List.map_toArray, List.map_cons, List.map_nil]); first | done | (simp only [hji8]; rfl) | rfl | (simp only [List.length_drop, List.length_take]; rfl)) ?_
           with_reducible refine (table_Rule_bytes.calls k1 _ _ ((rd_T42 l0 (ji8)).f0) _ _ ((rd_T42 l0 (ji8)).f1) ((rd_T42 l0 (ji8)).f2) t186 _ ?side1 ?side2 ?side3 ?side4 ?side5 A11.out).mono ?_
           (case side1 => exact jC (Kd.C_below HR185_0.out HB.out))
           (case side2 => exact HC185_0.out)
           (case side3 => exact jC (Kd.C_below HR185_1.out HB.out))
           (case side4 => exact HC185_1.out)
           (case side5 => exact Glob.below HG.out (jH HB))
           rintro e w19 ⟨rfl, hb⟩
           refine ⟨_, rfl, ?_⟩
           replace BK183 := Aside0.mk (jB BK183 hb)
           replace HB := Aside0.mk (zT (jH HB) hb)
           (try clear hb)
           (try clear hb2)
           (try clear hk)
           (try clear hi)
           refine hK.out _ _ ⟨(kC BK183.out 0).trans rfl, (kC BK183.out 1).trans rfl, (kC BK183.out 2).trans rfl, ((HB.out.cell (bL w _ hw185_0)).trans hw185_0), ((HB.out.cell (bL w _ hw185_1)).trans hw185_1), ((HB.out.cell (bL w _ hw185_2)).trans hw185_2)⟩ (fun hHeld => ?_)
           clear hK K
           refine qN 24 ?_
           refine one_ (i := 14) (N := some 26) (tB 18 32767) rfl rfl (one_of HT_.out (by kernel_rfl)) (by decide) (fun K hK => ?_)
           refine goes_ Tryd.func28 (by kernel_rfl) rfl #[.agg #[.slice A182_0 ((rd_T42 l0 x7_1).f0).length c182_0, .slice A182_1 ((rd_T42 l0 x7_1).f1).length c182_1, .int .u32 ((rd_T42 l0 x7_1).f2)]] (by rfl) rfl rfl jZ ?_
           with_reducible refine (table_Rule_bytes.calls k1 _ _ ((rd_T42 l0 x7_1).f0) _ _ ((rd_T42 l0 x7_1).f1) ((rd_T42 l0 x7_1).f2) t187 _ ?side1 ?side2 ?side3 ?side4 ?side5 A12.out).mono ?_
           (case side1 => exact jC (Kd.C_below HR182_0.out HB.out))
           (case side2 => exact HC182_0.out)
           (case side3 => exact jC (Kd.C_below HR182_1.out HB.out))
           (case side4 => exact HC182_1.out)
           (case side5 => exact Glob.below HG.out (jH HB))
           rintro e w20 ⟨rfl, hb⟩
           refine ⟨_, rfl, ?_⟩
           replace BK183 := Aside0.mk (jB BK183 hb)
           replace HB := Aside0.mk (zT (jH HB) hb)
           (try clear hb)
           (try clear hb2)
           (try clear hk)
           (try clear hi)
           refine hK.out _ _ ⟨(kC BK183.out 0).trans rfl, (kC BK183.out 1).trans rfl, (kC BK183.out 2).trans rfl, ((HB.out.cell (bL w _ hw185_0)).trans hw185_0), ((HB.out.cell (bL w _ hw185_1)).trans hw185_1), ((HB.out.cell (bL w _ hw185_2)).trans hw185_2)⟩ (fun hHeld => ?_)
           clear hK K
           refine qN 26 ?_
           refine qP 15 27 (tB 18 65535) ?_
           refine qP 16 28 (tB 18 131071) ?_
           refine qP 17 29 (tB 18 262143) ?_
           refine done_ (done_of HT_.out (by kernel_rfl)) ?_
           try go_wp2
           go_roundg k1
           case measure => have := HK1.out; omega
           case rel => exact ⟨(wrap64 (x7_1 + 1)), jS, H', ⟨by have := HK1.out; omega⟩, ⟨jH HB⟩⟩
          ·rw [if_neg c13] at H
           have c13b0 : (Op.bytesLess t186.toList t187.toList) = false := by simpa using c13
           clear c13
           obtain rfl := Option.some.inj H
           have p182 : 0 ≤ (x7_1 : Int) := oD (jA)
           have q182 : x7_1 < (l0.length : Int) := oD (jA)
           obtain ⟨ad182, A182_0, c182_0, A182_1, c182_1, e182, hx182_0, hx182_1, hx182_2, hl182_0, hi182_0, hl182_1, hi182_1⟩ := at_T42 HR0.out x7_1 p182 q182
           cases e182
           replace hx182_0 := (HB.out.cell (bL w _ hx182_0)).trans hx182_0
           replace hx182_1 := (HB.out.cell (bL w _ hx182_1)).trans hx182_1
           replace hx182_2 := (HB.out.cell (bL w _ hx182_2)).trans hx182_2
           have HR182_0 := Aside0.mk hi182_0
           have HC182_0 := Aside0.mk hl182_0
           clear hi182_0 hl182_0
           have HR182_1 := Aside0.mk hi182_1
           have HC182_1 := Aside0.mk hl182_1
           clear hi182_1 hl182_1
           replace p182 := eq_true p182
           replace q182 := eq_true q182
           try go_wp2_with (first | ((with_reducible refine gate_dst (N := 4) rfl ?_); refine box_event rfl (N := 4) rfl (cs := #[.slice none 0 0, .slice none 0 0, .int .u32 0]) (t := 42) jW ?_; intro gb183 hg w21 hbox hb; have BK183 := Aside0.mk hbox; have GW183 := Aside0.mk (jG hg HB); have GE183 := Aside0.mk (jG hg HB); replace HB := Aside0.mk (zT (jH HB) hb); clear hb hbox hg; obtain ⟨hcz22_0, hcz22_1, hcz22_2, hfz22_0, hfz22_1, hfz22_2⟩ := kQ3 BK183.out))
           have n0_ : Aside0 ((((w21.setCell ⟨gb183, 0, none⟩ (.slice A182_0 ((rd_T42 l0 x7_1).f0).length c182_0)).setCell ⟨gb183, 1, none⟩ (.slice A182_1 ((rd_T42 l0 x7_1).f1).length c182_1)).setCell ⟨gb183, 2, none⟩ (.int .u32 ((rd_T42 l0 x7_1).f2))).heap[gb183]? = some (.cells #[.slice A182_0 ((rd_T42 l0 x7_1).f0).length c182_0, .slice A182_1 ((rd_T42 l0 x7_1).f1).length c182_1, .int .u32 ((rd_T42 l0 x7_1).f2)] 42 (0, 0))) := ⟨by (with_reducible repeat (first | refine kN ?_ _ | refine kD ?_ | refine kA ?_ _)); refine kP (cs := #[.slice A182_0 ((rd_T42 l0 x7_1).f0).length c182_0, .slice A182_1 ((rd_T42 l0 x7_1).f1).length c182_1, .int .u32 0]) ?_ 2 _ rfl; (with_reducible repeat (first | refine kN ?_ _ | refine kD ?_ | refine kA ?_ _)); refine kP (cs := #[.slice A182_0 ((rd_T42 l0 x7_1).f0).length c182_0, .slice none 0 0, .int .u32 0]) ?_ 1 _ rfl; (with_reducible repeat (first | refine kN ?_ _ | refine kD ?_ | refine kA ?_ _)); refine kP (cs := #[.slice none 0 0, .slice none 0 0, .int .u32 0]) ?_ 0 _ rfl; (with_reducible repeat (first | refine kN ?_ _ | refine kD ?_ | refine kA ?_ _)); exact BK183.out⟩
           have n1_ : Aside0 (Below w.heap.size w (((w21.setCell ⟨gb183, 0, none⟩ (.slice A182_0 ((rd_T42 l0 x7_1).f0).length c182_0)).setCell ⟨gb183, 1, none⟩ (.slice A182_1 ((rd_T42 l0 x7_1).f1).length c182_1)).setCell ⟨gb183, 2, none⟩ (.int .u32 ((rd_T42 l0 x7_1).f2)))) := ⟨jH HB⟩
           (try clear BK183)
           (try clear HB)
           generalize (((w21.setCell ⟨gb183, 0, none⟩ (.slice A182_0 ((rd_T42 l0 x7_1).f0).length c182_0)).setCell ⟨gb183, 1, none⟩ (.slice A182_1 ((rd_T42 l0 x7_1).f1).length c182_1)).setCell ⟨gb183, 2, none⟩ (.int .u32 ((rd_T42 l0 x7_1).f2))) = w23 at n0_ n1_ ⊢
           have BK183 := n0_
           have HB := n1_
           clear n0_ n1_
           replace BK183 := Aside0.mk (kD BK183.out)
           replace HB := Aside0.mk (zD HB.out)
           have p185 : 0 ≤ ((ji8) : Int) := oD (jA)
           have q185 : (ji8) < (l0.length : Int) := oD (jA)
           obtain ⟨ad185, A185_0, c185_0, A185_1, c185_1, e185, hx185_0, hx185_1, hx185_2, hl185_0, hi185_0, hl185_1, hi185_1⟩ := at_T42 HR0.out (ji8) p185 q185
           have hw185_2 := hx185_2
           have hw185_1 := hx185_1
           have hw185_0 := hx185_0
           obtain rfl : ad182 = ad185 := (by injection e185)
           replace hx185_0 := (HB.out.cell (bL w _ hx185_0)).trans hx185_0
           replace hx185_1 := (HB.out.cell (bL w _ hx185_1)).trans hx185_1
           replace hx185_2 := (HB.out.cell (bL w _ hx185_2)).trans hx185_2
           have HR185_0 := Aside0.mk hi185_0
           have HC185_0 := Aside0.mk hl185_0
           clear hi185_0 hl185_0
           have HR185_1 := Aside0.mk hi185_1
           have HC185_1 := Aside0.mk hl185_1
           clear hi185_1 hl185_1
           replace p185 := eq_true p185
           replace q185 := eq_true q185
           have hgeq_ := fun W => str_geq (P := Tryd.prog) W 9 t186 t187
           refine start_ (n := 18) (S := fun w' => w'.cell? ⟨gb183, 0, none⟩ = some (.slice A182_0 ((rd_T42 l0 x7_1).f0).length c182_0) ∧ w'.cell? ⟨gb183, 1, none⟩ = some (.slice A182_1 ((rd_T42 l0 x7_1).f1).length c182_1) ∧ w'.cell? ⟨gb183, 2, none⟩ = some (.int .u32 ((rd_T42 l0 x7_1).f2)) ∧ w'.cell? (ad182.add (((ji8)).toNat * 3)) = some (.slice A185_0 ((rd_T42 l0 (ji8)).f0).length c185_0) ∧ w'.cell? ⟨(ad182.add (((ji8)).toNat * 3)).block, (ad182.add (((ji8)).toNat * 3)).off + 1, none⟩ = some (.slice A185_1 ((rd_T42 l0 (ji8)).f1).length c185_1) ∧ w'.cell? ⟨(ad182.add (((ji8)).toNat * 3)).block, (ad182.add (((ji8)).toNat * 3)).off + 2, none⟩ = some (.int .u32 ((rd_T42 l0 (ji8)).f2))) (ds := []) #[false, false, false, false, false, false, false, false, false, false, false, false, false, false, false, false, false, false] (by kernel_rfl) rfl rfl ⟨(kC BK183.out 0).trans rfl, (kC BK183.out 1).trans rfl, (kC BK183.out 2).trans rfl, ((HB.out.cell (bL w _ hw185_0)).trans hw185_0), ((HB.out.cell (bL w _ hw185_1)).trans hw185_1), ((HB.out.cell (bL w _ hw185_2)).trans hw185_2)⟩ (fun hHeld => ?_); refine with_tabW table_Right.tab4 table_Right.bits4 (fun HT_ HW_ => ?_)
           generalize w23.drew = w24 at BK183 HB HR185_0 HR185_1 hx185_0 hx185_1 hx185_2 hHeld ⊢
           refine qT 0 12 (tB 18 1) hHeld ?_ (hv := by rintro w' ⟨s0, s1, s2, s3, s4, s5⟩; go_simp; with_reducible rfl)
           refine one_ (i := 1) (N := some 13) (tB 18 3) rfl rfl (one_of HT_.out (by kernel_rfl)) (by decide) (fun K hK => ?_)
           refine goes_ Tryd.func32 (by kernel_rfl) rfl #[.agg #[.slice A182_0 ((rd_T42 l0 x7_1).f0).length c182_0, .slice A182_1 ((rd_T42 l0 x7_1).f1).length c182_1, .int .u32 ((rd_T42 l0 x7_1).f2)]] (by rfl) rfl rfl jZ ?_
           with_reducible refine (table_Rule_right.calls k1 _ _ ((rd_T42 l0 x7_1).f0) _ _ ((rd_T42 l0 x7_1).f1) ((rd_T42 l0 x7_1).f2) true _ ?side1 ?side2 ?side3 ?side4 ?side5 A5.out).mono ?_
           (case side1 => exact jC (Kd.C_below HR182_0.out HB.out))
           (case side2 => exact HC182_0.out)
           (case side3 => exact jC (Kd.C_below HR182_1.out HB.out))
           (case side4 => exact HC182_1.out)
           (case side5 => exact Glob.below HG.out (jH HB))
           rintro e w25 ⟨rfl, hb⟩
           refine ⟨_, rfl, ?_⟩
           replace BK183 := Aside0.mk (jB BK183 hb)
           replace HB := Aside0.mk (zT (jH HB) hb)
           (try clear hb)
           (try clear hb2)
           (try clear hk)
           (try clear hi)
           refine hK.out _ _ ⟨(kC BK183.out 0).trans rfl, (kC BK183.out 1).trans rfl, (kC BK183.out 2).trans rfl, ((HB.out.cell (bL w _ hw185_0)).trans hw185_0), ((HB.out.cell (bL w _ hw185_1)).trans hw185_1), ((HB.out.cell (bL w _ hw185_2)).trans hw185_2)⟩ (fun hHeld => ?_)
           clear hK K
           refine qN 13 ?_
           refine qP 2 14 (tB 18 7) ?_
           refine qP 3 15 (tB 18 15) ?_
           refine qP 4 16 (tB 18 31) ?_
           refine qP 5 17 (tB 18 63) ?_
           refine qP 6 18 (tB 18 127) ?_
           refine qP 7 19 (tB 18 255) ?_
           refine qP 8 20 (tB 18 511) ?_
           refine qP 9 21 (tB 18 1023) ?_
           refine qP 10 22 (tB 18 2047) ?_
           refine qT 11 23 (tB 18 4095) hHeld ?_ (hv := by rintro w' ⟨s0, s1, s2, s3, s4, s5⟩; go_simp; with_reducible rfl)
           refine qT 13 25 (tB 18 12287) hHeld ?_ (hv := by rintro w' ⟨s0, s1, s2, s3, s4, s5⟩; go_simp; with_reducible rfl)
           refine one_ (i := 12) (N := some 24) (tB 18 16383) rfl rfl (one_of HT_.out (by kernel_rfl)) (by decide) (fun K hK => ?_)
           refine goes_ Tryd.func28 (by kernel_rfl) rfl #[.agg #[.slice A185_0 ((rd_T42 l0 (ji8)).f0).length c185_0, .slice A185_1 ((rd_T42 l0 (ji8)).f1).length c185_1, .int .u32 ((rd_T42 l0 (ji8)).f2)]] (by rfl) rfl rfl (by (try simp only [List.map_toArray, List.map_cons, List.map_nil]); first | done | (simp only [hji8]; rfl) | rfl | (simp only [List.length_drop, List.length_take]; rfl)) ?_
           with_reducible refine (table_Rule_bytes.calls k1 _ _ ((rd_T42 l0 (ji8)).f0) _ _ ((rd_T42 l0 (ji8)).f1) ((rd_T42 l0 (ji8)).f2) t186 _ ?side1 ?side2 ?side3 ?side4 ?side5 A11.out).mono ?_
           (case side1 => exact jC (Kd.C_below HR185_0.out HB.out))
           (case side2 => exact HC185_0.out)
           (case side3 => exact jC (Kd.C_below HR185_1.out HB.out))
           (case side4 => exact HC185_1.out)
           (case side5 => exact Glob.below HG.out (jH HB))
           rintro e w26 ⟨rfl, hb⟩
           refine ⟨_, rfl, ?_⟩
           replace BK183 := Aside0.mk (jB BK183 hb)
           replace HB := Aside0.mk (zT (jH HB) hb)
           (try clear hb)
           (try clear hb2)
           (try clear hk)
           (try clear hi)
           refine hK.out _ _ ⟨(kC BK183.out 0).trans rfl, (kC BK183.out 1).trans rfl, (kC BK183.out 2).trans rfl, ((HB.out.cell (bL w _ hw185_0)).trans hw185_0), ((HB.out.cell (bL w _ hw185_1)).trans hw185_1), ((HB.out.cell (bL w _ hw185_2)).trans hw185_2)⟩ (fun hHeld => ?_)
           clear hK K
           refine qN 24 ?_
           refine one_ (i := 14) (N := some 26) (tB 18 32767) rfl rfl (one_of HT_.out (by kernel_rfl)) (by decide) (fun K hK => ?_)
           refine goes_ Tryd.func28 (by kernel_rfl) rfl #[.agg #[.slice A182_0 ((rd_T42 l0 x7_1).f0).length c182_0, .slice A182_1 ((rd_T42 l0 x7_1).f1).length c182_1, .int .u32 ((rd_T42 l0 x7_1).f2)]] (by rfl) rfl rfl jZ ?_
           with_reducible refine (table_Rule_bytes.calls k1 _ _ ((rd_T42 l0 x7_1).f0) _ _ ((rd_T42 l0 x7_1).f1) ((rd_T42 l0 x7_1).f2) t187 _ ?side1 ?side2 ?side3 ?side4 ?side5 A12.out).mono ?_
           (case side1 => exact jC (Kd.C_below HR182_0.out HB.out))
           (case side2 => exact HC182_0.out)
           (case side3 => exact jC (Kd.C_below HR182_1.out HB.out))
           (case side4 => exact HC182_1.out)
           (case side5 => exact Glob.below HG.out (jH HB))
           rintro e w27 ⟨rfl, hb⟩
           refine ⟨_, rfl, ?_⟩
           replace BK183 := Aside0.mk (jB BK183 hb)
           replace HB := Aside0.mk (zT (jH HB) hb)
           (try clear hb)
           (try clear hb2)
           (try clear hk)
           (try clear hi)
           refine hK.out _ _ ⟨(kC BK183.out 0).trans rfl, (kC BK183.out 1).trans rfl, (kC BK183.out 2).trans rfl, ((HB.out.cell (bL w _ hw185_0)).trans hw185_0), ((HB.out.cell (bL w _ hw185_1)).trans hw185_1), ((HB.out.cell (bL w _ hw185_2)).trans hw185_2)⟩ (fun hHeld => ?_)
           clear hK K
           refine qN 26 ?_
           refine qP 15 27 (tB 18 65535) ?_
           refine qP 16 28 (tB 18 131071) ?_
           refine qP 17 29 (tB 18 262143) ?_
           refine done_ (done_of HT_.out (by kernel_rfl)) ?_
           try go_wp2
           go_ret
           exact ⟨by first | rfl | (simp [errW_none, errW_some] <;> rfl) | (simp only [← hji8]; first | rfl | (simp [errW_none, errW_some] <;> rfl)) | (simp [*, errW_none, errW_some] <;> rfl), jH HB⟩
         ·rw [if_neg c10] at H
          exact absurd H (by simp)
        ·rw [if_neg c9] at H
         exact absurd H (by simp)
       ·rw [if_neg c7] at H
        have c7b0 : decide (0 < x7_1) = false := dF c7
        clear c7
        have H' := Aside0.mk H
        clear H
        have p182 : 0 ≤ (x7_1 : Int) := oD (jA)
        have q182 : x7_1 < (l0.length : Int) := oD (jA)
        obtain ⟨ad182, A182_0, c182_0, A182_1, c182_1, e182, hx182_0, hx182_1, hx182_2, hl182_0, hi182_0, hl182_1, hi182_1⟩ := at_T42 HR0.out x7_1 p182 q182
        cases e182
        replace hx182_0 := (HB.out.cell (bL w _ hx182_0)).trans hx182_0
        replace hx182_1 := (HB.out.cell (bL w _ hx182_1)).trans hx182_1
        replace hx182_2 := (HB.out.cell (bL w _ hx182_2)).trans hx182_2
        have HR182_0 := Aside0.mk hi182_0
        have HC182_0 := Aside0.mk hl182_0
        clear hi182_0 hl182_0
        have HR182_1 := Aside0.mk hi182_1
        have HC182_1 := Aside0.mk hl182_1
        clear hi182_1 hl182_1
        replace p182 := eq_true p182
        replace q182 := eq_true q182
        try go_wp2_with (first | ((with_reducible refine gate_dst (N := 4) rfl ?_); refine box_event rfl (N := 4) rfl (cs := #[.slice none 0 0, .slice none 0 0, .int .u32 0]) (t := 42) jW ?_; intro gb183 hg w28 hbox hb; have BK183 := Aside0.mk hbox; have GW183 := Aside0.mk (jG hg HB); have GE183 := Aside0.mk (jG hg HB); replace HB := Aside0.mk (zT (jH HB) hb); clear hb hbox hg; obtain ⟨hcz29_0, hcz29_1, hcz29_2, hfz29_0, hfz29_1, hfz29_2⟩ := kQ3 BK183.out))
        have n0_ : Aside0 ((((w28.setCell ⟨gb183, 0, none⟩ (.slice A182_0 ((rd_T42 l0 x7_1).f0).length c182_0)).setCell ⟨gb183, 1, none⟩ (.slice A182_1 ((rd_T42 l0 x7_1).f1).length c182_1)).setCell ⟨gb183, 2, none⟩ (.int .u32 ((rd_T42 l0 x7_1).f2))).heap[gb183]? = some (.cells #[.slice A182_0 ((rd_T42 l0 x7_1).f0).length c182_0, .slice A182_1 ((rd_T42 l0 x7_1).f1).length c182_1, .int .u32 ((rd_T42 l0 x7_1).f2)] 42 (0, 0))) := ⟨by (with_reducible repeat (first | refine kN ?_ _ | refine kD ?_ | refine kA ?_ _)); refine kP (cs := #[.slice A182_0 ((rd_T42 l0 x7_1).f0).length c182_0, .slice A182_1 ((rd_T42 l0 x7_1).f1).length c182_1, .int .u32 0]) ?_ 2 _ rfl; (with_reducible repeat (first | refine kN ?_ _ | refine kD ?_ | refine kA ?_ _)); refine kP (cs := #[.slice A182_0 ((rd_T42 l0 x7_1).f0).length c182_0, .slice none 0 0, .int .u32 0]) ?_ 1 _ rfl; (with_reducible repeat (first | refine kN ?_ _ | refine kD ?_ | refine kA ?_ _)); refine kP (cs := #[.slice none 0 0, .slice none 0 0, .int .u32 0]) ?_ 0 _ rfl; (with_reducible repeat (first | refine kN ?_ _ | refine kD ?_ | refine kA ?_ _)); exact BK183.out⟩
        have n1_ : Aside0 (Below w.heap.size w (((w28.setCell ⟨gb183, 0, none⟩ (.slice A182_0 ((rd_T42 l0 x7_1).f0).length c182_0)).setCell ⟨gb183, 1, none⟩ (.slice A182_1 ((rd_T42 l0 x7_1).f1).length c182_1)).setCell ⟨gb183, 2, none⟩ (.int .u32 ((rd_T42 l0 x7_1).f2)))) := ⟨jH HB⟩
        (try clear BK183)
        (try clear HB)
        generalize (((w28.setCell ⟨gb183, 0, none⟩ (.slice A182_0 ((rd_T42 l0 x7_1).f0).length c182_0)).setCell ⟨gb183, 1, none⟩ (.slice A182_1 ((rd_T42 l0 x7_1).f1).length c182_1)).setCell ⟨gb183, 2, none⟩ (.int .u32 ((rd_T42 l0 x7_1).f2))) = w30 at n0_ n1_ ⊢
        have BK183 := n0_
        have HB := n1_
        clear n0_ n1_
        replace BK183 := Aside0.mk (kD BK183.out)
        replace HB := Aside0.mk (zD HB.out)
        refine start_ (n := 18) (S := fun w' => w'.cell? ⟨gb183, 0, none⟩ = some (.slice A182_0 ((rd_T42 l0 x7_1).f0).length c182_0) ∧ w'.cell? ⟨gb183, 1, none⟩ = some (.slice A182_1 ((rd_T42 l0 x7_1).f1).length c182_1) ∧ w'.cell? ⟨gb183, 2, none⟩ = some (.int .u32 ((rd_T42 l0 x7_1).f2))) (ds := []) #[false, false, false, false, false, false, false, false, false, false, false, false, false, false, false, false, false, false] (by kernel_rfl) rfl rfl ⟨(kC BK183.out 0).trans rfl, (kC BK183.out 1).trans rfl, (kC BK183.out 2).trans rfl⟩ (fun hHeld => ?_); refine with_tabW table_Right.tab4 table_Right.bits4 (fun HT_ HW_ => ?_)
        generalize w30.drew = w31 at BK183 HB hHeld ⊢
        refine qT 0 12 (tB 18 1) hHeld ?_ (hv := by rintro w' ⟨s0, s1, s2⟩; go_simp; with_reducible rfl)
        refine one_ (i := 1) (N := some 13) (tB 18 3) rfl rfl (one_of HT_.out (by kernel_rfl)) (by decide) (fun K hK => ?_)
        refine goes_ Tryd.func32 (by kernel_rfl) rfl #[.agg #[.slice A182_0 ((rd_T42 l0 x7_1).f0).length c182_0, .slice A182_1 ((rd_T42 l0 x7_1).f1).length c182_1, .int .u32 ((rd_T42 l0 x7_1).f2)]] (by rfl) rfl rfl jZ ?_
        with_reducible refine (table_Rule_right.calls k1 _ _ ((rd_T42 l0 x7_1).f0) _ _ ((rd_T42 l0 x7_1).f1) ((rd_T42 l0 x7_1).f2) true _ ?side1 ?side2 ?side3 ?side4 ?side5 A5.out).mono ?_
        (case side1 => exact jC (Kd.C_below HR182_0.out HB.out))
        (case side2 => exact HC182_0.out)
        (case side3 => exact jC (Kd.C_below HR182_1.out HB.out))
        (case side4 => exact HC182_1.out)
        (case side5 => exact Glob.below HG.out (jH HB))
        rintro e w32 ⟨rfl, hb⟩
        refine ⟨_, rfl, ?_⟩
        replace BK183 := Aside0.mk (jB BK183 hb)
        replace HB := Aside0.mk (zT (jH HB) hb)
        (try clear hb)
        (try clear hb2)
        (try clear hk)
        (try clear hi)
        refine hK.out _ _ ⟨(kC BK183.out 0).trans rfl, (kC BK183.out 1).trans rfl, (kC BK183.out 2).trans rfl⟩ (fun hHeld => ?_)
        clear hK K
        refine qN 13 ?_
        refine qP 2 14 (tB 18 7) ?_
        refine qP 3 15 (tB 18 15) ?_
        refine qP 4 16 (tB 18 31) ?_
        refine qP 5 17 (tB 18 63) ?_
        refine qP 6 18 (tB 18 127) ?_
        refine qU 7 19 (tB 18 255) ?_
        refine qU 8 20 (tB 18 511) ?_
        refine qU 9 21 (tB 18 1023) ?_
        refine qU 10 22 (tB 18 2047) ?_
        refine qU 11 23 (tB 18 4095) ?_
        refine qU 12 24 (tB 18 8191) ?_
        refine qU 13 25 (tB 18 16383) ?_
        refine qU 14 26 (tB 18 32767) ?_
        refine qU 15 27 (tB 18 65535) ?_
        refine qP 16 28 (tB 18 131071) ?_
        refine qP 17 29 (tB 18 262143) ?_
        refine done_ (done_of HT_.out (by kernel_rfl)) ?_
        try go_wp2
        go_roundg k1
        case measure => have := HK1.out; omega
        case rel => exact ⟨(wrap64 (x7_1 + 1)), jS, H', ⟨by have := HK1.out; omega⟩, ⟨jH HB⟩⟩
      ·replace c6 := Bool.eq_false_iff.mpr c6
       subst c6
       rw [if_neg (show ¬ (false = true) by decide)] at H
       obtain rfl := Option.some.inj H
       have p182 : 0 ≤ (x7_1 : Int) := oD (jA)
       have q182 : x7_1 < (l0.length : Int) := oD (jA)
       obtain ⟨ad182, A182_0, c182_0, A182_1, c182_1, e182, hx182_0, hx182_1, hx182_2, hl182_0, hi182_0, hl182_1, hi182_1⟩ := at_T42 HR0.out x7_1 p182 q182
       cases e182
       replace hx182_0 := (HB.out.cell (bL w _ hx182_0)).trans hx182_0
       replace hx182_1 := (HB.out.cell (bL w _ hx182_1)).trans hx182_1
       replace hx182_2 := (HB.out.cell (bL w _ hx182_2)).trans hx182_2
       have HR182_0 := Aside0.mk hi182_0
       have HC182_0 := Aside0.mk hl182_0
       clear hi182_0 hl182_0
       have HR182_1 := Aside0.mk hi182_1
       have HC182_1 := Aside0.mk hl182_1
       clear hi182_1 hl182_1
       replace p182 := eq_true p182
       replace q182 := eq_true q182
       try go_wp2_with (first | ((with_reducible refine gate_dst (N := 4) rfl ?_); refine box_event rfl (N := 4) rfl (cs := #[.slice none 0 0, .slice none 0 0, .int .u32 0]) (t := 42) jW ?_; intro gb183 hg w33 hbox hb; have BK183 := Aside0.mk hbox; have GW183 := Aside0.mk (jG hg HB); have GE183 := Aside0.mk (jG hg HB); replace HB := Aside0.mk (zT (jH HB) hb); clear hb hbox hg; obtain ⟨hcz34_0, hcz34_1, hcz34_2, hfz34_0, hfz34_1, hfz34_2⟩ := kQ3 BK183.out))
       have n0_ : Aside0 ((((w33.setCell ⟨gb183, 0, none⟩ (.slice A182_0 ((rd_T42 l0 x7_1).f0).length c182_0)).setCell ⟨gb183, 1, none⟩ (.slice A182_1 ((rd_T42 l0 x7_1).f1).length c182_1)).setCell ⟨gb183, 2, none⟩ (.int .u32 ((rd_T42 l0 x7_1).f2))).heap[gb183]? = some (.cells #[.slice A182_0 ((rd_T42 l0 x7_1).f0).length c182_0, .slice A182_1 ((rd_T42 l0 x7_1).f1).length c182_1, .int .u32 ((rd_T42 l0 x7_1).f2)] 42 (0, 0))) := ⟨by (with_reducible repeat (first | refine kN ?_ _ | refine kD ?_ | refine kA ?_ _)); refine kP (cs := #[.slice A182_0 ((rd_T42 l0 x7_1).f0).length c182_0, .slice A182_1 ((rd_T42 l0 x7_1).f1).length c182_1, .int .u32 0]) ?_ 2 _ rfl; (with_reducible repeat (first | refine kN ?_ _ | refine kD ?_ | refine kA ?_ _)); refine kP (cs := #[.slice A182_0 ((rd_T42 l0 x7_1).f0).length c182_0, .slice none 0 0, .int .u32 0]) ?_ 1 _ rfl; (with_reducible repeat (first | refine kN ?_ _ | refine kD ?_ | refine kA ?_ _)); refine kP (cs := #[.slice none 0 0, .slice none 0 0, .int .u32 0]) ?_ 0 _ rfl; (with_reducible repeat (first | refine kN ?_ _ | refine kD ?_ | refine kA ?_ _)); exact BK183.out⟩
       have n1_ : Aside0 (Below w.heap.size w (((w33.setCell ⟨gb183, 0, none⟩ (.slice A182_0 ((rd_T42 l0 x7_1).f0).length c182_0)).setCell ⟨gb183, 1, none⟩ (.slice A182_1 ((rd_T42 l0 x7_1).f1).length c182_1)).setCell ⟨gb183, 2, none⟩ (.int .u32 ((rd_T42 l0 x7_1).f2)))) := ⟨jH HB⟩
       (try clear BK183)
       (try clear HB)
       generalize (((w33.setCell ⟨gb183, 0, none⟩ (.slice A182_0 ((rd_T42 l0 x7_1).f0).length c182_0)).setCell ⟨gb183, 1, none⟩ (.slice A182_1 ((rd_T42 l0 x7_1).f1).length c182_1)).setCell ⟨gb183, 2, none⟩ (.int .u32 ((rd_T42 l0 x7_1).f2))) = w35 at n0_ n1_ ⊢
       have BK183 := n0_
       have HB := n1_
       clear n0_ n1_
       replace BK183 := Aside0.mk (kD BK183.out)
       replace HB := Aside0.mk (zD HB.out)
       refine start_ (n := 18) (S := fun w' => w'.cell? ⟨gb183, 0, none⟩ = some (.slice A182_0 ((rd_T42 l0 x7_1).f0).length c182_0) ∧ w'.cell? ⟨gb183, 1, none⟩ = some (.slice A182_1 ((rd_T42 l0 x7_1).f1).length c182_1) ∧ w'.cell? ⟨gb183, 2, none⟩ = some (.int .u32 ((rd_T42 l0 x7_1).f2))) (ds := []) #[false, false, false, false, false, false, false, false, false, false, false, false, false, false, false, false, false, false] (by kernel_rfl) rfl rfl ⟨(kC BK183.out 0).trans rfl, (kC BK183.out 1).trans rfl, (kC BK183.out 2).trans rfl⟩ (fun hHeld => ?_); refine with_tabW table_Right.tab4 table_Right.bits4 (fun HT_ HW_ => ?_)
       generalize w35.drew = w36 at BK183 HB hHeld ⊢
       refine qT 0 12 (tB 18 1) hHeld ?_ (hv := by rintro w' ⟨s0, s1, s2⟩; go_simp; with_reducible rfl)
       refine one_ (i := 1) (N := some 13) (tB 18 3) rfl rfl (one_of HT_.out (by kernel_rfl)) (by decide) (fun K hK => ?_)
       refine goes_ Tryd.func32 (by kernel_rfl) rfl #[.agg #[.slice A182_0 ((rd_T42 l0 x7_1).f0).length c182_0, .slice A182_1 ((rd_T42 l0 x7_1).f1).length c182_1, .int .u32 ((rd_T42 l0 x7_1).f2)]] (by rfl) rfl rfl jZ ?_
       with_reducible refine (table_Rule_right.calls k1 _ _ ((rd_T42 l0 x7_1).f0) _ _ ((rd_T42 l0 x7_1).f1) ((rd_T42 l0 x7_1).f2) false _ ?side1 ?side2 ?side3 ?side4 ?side5 A5.out).mono ?_
       (case side1 => exact jC (Kd.C_below HR182_0.out HB.out))
       (case side2 => exact HC182_0.out)
       (case side3 => exact jC (Kd.C_below HR182_1.out HB.out))
       (case side4 => exact HC182_1.out)
       (case side5 => exact Glob.below HG.out (jH HB))
       rintro e w37 ⟨rfl, hb⟩
       refine ⟨_, rfl, ?_⟩
       replace BK183 := Aside0.mk (jB BK183 hb)
       replace HB := Aside0.mk (zT (jH HB) hb)
       (try clear hb)
       (try clear hb2)
       (try clear hk)
       (try clear hi)
       refine hK.out _ _ ⟨(kC BK183.out 0).trans rfl, (kC BK183.out 1).trans rfl, (kC BK183.out 2).trans rfl⟩ (fun hHeld => ?_)
       clear hK K
       refine qN 13 ?_
       refine qP 2 14 (tB 18 7) ?_
       refine qP 3 15 (tB 18 15) ?_
       refine qU 4 16 (tB 18 31) ?_
       refine qU 5 17 (tB 18 63) ?_
       refine qU 6 18 (tB 18 127) ?_
       refine qU 7 19 (tB 18 255) ?_
       refine qU 8 20 (tB 18 511) ?_
       refine qU 9 21 (tB 18 1023) ?_
       refine qU 10 22 (tB 18 2047) ?_
       refine qU 11 23 (tB 18 4095) ?_
       refine qU 12 24 (tB 18 8191) ?_
       refine qU 13 25 (tB 18 16383) ?_
       refine qU 14 26 (tB 18 32767) ?_
       refine qU 15 27 (tB 18 65535) ?_
       refine qU 16 28 (tB 18 131071) ?_
       refine qP 17 29 (tB 18 262143) ?_
       refine done_ (done_of HT_.out (by kernel_rfl)) ?_
       try go_wp2
       go_ret
       exact ⟨jE, jH HB⟩
     ·rw [if_neg c4] at H
      exact absurd H (by simp)
    ·rw [if_neg c3] at H
     exact absurd H (by simp)
   ·rw [if_neg c2] at H
    have c2b0 := dF c2
    clear c2
    obtain rfl := Option.some.inj H
    go_wp2
    go_ret
    exact ⟨jE, jH HB⟩
mutual
def crc_Sum.l0 : Nat → Int → List Int → Int → Int → Option (Int)
 | 0, _, _, _, _ => none
 | k + 1, x3, x6, x7, x8 => if x8 < x7 then (if 0 ≤ x8 then (if x8 < (x6.length : Int) then (crc_Sum.l1 k (Go.bits .xor .u32 x3 ((rd x6 x8) % 4294967296)) x6 x7 x8 0) else (none)) else (none)) else (some (Go.bits .xor .u32 4294967295 x3))
def crc_Sum.l1 : Nat → Int → List Int → Int → Int → Int → Option (Int)
 | 0, _, _, _, _, _ => none
 | k + 1, x3, x6, x7, x8, x16 => if x16 < 8 then (crc_Sum.l1 k (Go.bits .xor .u32 (x3 / 2) ((3988292384 * (Go.bits .and .u32 x3 1)) % 4294967296)) x6 x7 x8 (wrap64 (x16 + 1))) else (crc_Sum.l0 k x3 x6 x7 (wrap64 (x8 + 1)))
end
def crc_Sum.f (k : Nat) (l0 : List Int) : Option (Int) := crc_Sum.l0 k 4294967295 l0 (l0.length : Int) 0
set_option maxHeartbeats 8000000 in
set_option maxRecDepth 100000 in
theorem crc_Sum.calls (k : Nat) (A0 : Option Addr) (c0 : Nat) (l0 : List Int) (r : Int) (w : World) (hr0 : Kd.C (Kd.int .u8) w A0 l0.length l0) (hc0 : l0.length ≤ c0) (h : crc_Sum.f k l0 = some r) :
  Calls Tryd.prog 42 #[.slice A0 l0.length c0] w fun e w' => e = .returned (.int .u32 r) ∧ Drawn0 w w' := by
 have HR0 := Aside0.mk hr0
 have HC0 := Aside0.mk hc0
 clear hr0 hc0
 have H : (crc_Sum.l0 k 4294967295 l0 (l0.length : Int) 0) = some r := h
 clear h
 have H' := Aside0.mk H
 clear H
 go_enter Tryd.func42, Tryd.ntmps42
 go_wp2
 go_loopg [3, 8] k (fun kq v3 v8 w' => ∃ (x3_1 : Int) (x8_1 : Int), v3 = .int .u32 x3_1 ∧ v8 = .int .i64 x8_1 ∧ Aside0 (crc_Sum.l0 kq x3_1 l0 (l0.length : Int) x8_1 = some r) ∧ Aside0 (kq ≤ k) ∧ Drawn0 w w')
 case atStart => exact ⟨(4294967295), (0), jS, jS, H', ⟨Nat.le_refl _⟩, by repeat (first | exact Drawn0.refl _ | apply Drawn0.step)⟩
 case round =>
  clear H'
  obtain ⟨x3_1, x8_1, rfl, rfl, HA, HK1, ⟨m1, rfl⟩⟩ := hrel
  cases gk with
  | zero => exact absurd HA.out (by simp [crc_Sum.l0])
  | succ k1 =>
   have H := HA.out
   clear HA
   simp only [crc_Sum.l0] at H
   by_cases c2 : x8_1 < (l0.length : Int)
   ·rw [if_pos c2] at H
    have c2b0 := dT c2
    clear c2
    by_cases c3 : 0 ≤ x8_1
    ·rw [if_pos c3] at H
     have c3b0 := dT c3
     clear c3
     by_cases c4 : x8_1 < (l0.length : Int)
     ·rw [if_pos c4] at H
      have c4b0 := dT c4
      clear c4
      have H' := Aside0.mk H
      clear H
      have p188 : 0 ≤ (x8_1 : Int) := oD (jA)
      have q188 : x8_1 < (l0.length : Int) := oD (jA)
      obtain ⟨ad188, e188, hx188_0⟩ := Kd.at_int HR0.out x8_1 p188 q188
      cases e188
      replace p188 := eq_true p188
      replace q188 := eq_true q188
      go_wp2
      go_loopg [3, 16] k1 (fun kq v3 v16 w' => ∃ (x3_2 : Int) (x16_2 : Int), v3 = .int .u32 x3_2 ∧ v16 = .int .i64 x16_2 ∧ Aside0 (crc_Sum.l1 kq x3_2 l0 (l0.length : Int) x8_1 x16_2 = some r) ∧ Aside0 (kq ≤ k1) ∧ Drawn0 w w')
      case atStart => exact ⟨(Go.bits .xor .u32 x3_1 ((rd l0 x8_1) % 4294967296)), (0), jS, jS, H', ⟨Nat.le_refl _⟩, by repeat (first | exact Drawn0.refl _ | apply Drawn0.step)⟩
      case round =>
       clear H'
       obtain ⟨x3_2, x16_2, rfl, rfl, HA, HK2, ⟨m2, rfl⟩⟩ := hrel
       cases gk with
       | zero => exact absurd HA.out (by simp [crc_Sum.l1])
       | succ k2 =>
        have H := HA.out
        clear HA
        simp only [crc_Sum.l1] at H
        by_cases c5 : x16_2 < 8
        ·rw [if_pos c5] at H
         have c5b0 := dT c5
         clear c5
         have H' := Aside0.mk H
         clear H
         go_wp2
         go_roundg k2
         case measure => have := HK1.out; have := HK2.out; omega
         case rel => exact ⟨(Go.bits .xor .u32 (x3_2 / 2) ((3988292384 * (Go.bits .and .u32 x3_2 1)) % 4294967296)), (wrap64 (x16_2 + 1)), jS, jS, H', ⟨by have := HK1.out; have := HK2.out; omega⟩, by repeat (first | exact Drawn0.refl _ | apply Drawn0.step)⟩
        ·rw [if_neg c5] at H
         have c5b0 := dF c5
         clear c5
         have H' := Aside0.mk H
         clear H
         go_wp2
         go_roundg k2
         case measure => have := HK1.out; have := HK2.out; omega
         case rel => exact ⟨(x3_2), (wrap64 (x8_1 + 1)), jS, jS, H', ⟨by have := HK1.out; have := HK2.out; omega⟩, by repeat (first | exact Drawn0.refl _ | apply Drawn0.step)⟩
     ·rw [if_neg c4] at H
      exact absurd H (by simp)
    ·rw [if_neg c3] at H
     exact absurd H (by simp)
   ·rw [if_neg c2] at H
    have c2b0 := dF c2
    clear c2
    obtain rfl := Option.some.inj H
    go_wp2
    go_ret
    exact ⟨by first | rfl | (simp; done) | (simp [*]; done), by repeat (first | exact Drawn0.refl _ | apply Drawn0.step)⟩
def crc_Seal.f (k : Nat) (l0 : List Int) : Option (List Int) := (crc_Sum.f k l0).bind fun t189 => ((some (([] : List Int) : List Int)).bind fun y190 => (if y190.length + l0.length < 140737488355328 then ((some (y190 ++ l0 : List Int)).bind fun y193 => ((some (([(t189) % 256, (t189 / 256) % 256, (t189 / 65536) % 256, (t189 / 16777216) % 256] : List Int) : List Int)).bind fun y196 => (if y193.length + y196.length < 140737488355328 then (some (y193 ++ y196)) else (none)))) else (none)))
set_option maxHeartbeats 8000000 in
set_option maxRecDepth 100000 in
theorem crc_Seal.calls (k : Nat) (A0 : Option Addr) (c0 : Nat) (l0 : List Int) (r : List Int) (w : World) (hr0 : Kd.C (Kd.int .u8) w A0 l0.length l0) (hc0 : l0.length ≤ c0) (h : crc_Seal.f k l0 = some r) :
  Calls Tryd.prog 29 #[.slice A0 l0.length c0] w fun e w' => ∃ v0_ : Value, e = .returned (v0_) ∧ Kd.R (Kd.int .u8) 5 w' w.heap.size (fun _ => True) v0_ r ∧ Below w.heap.size w w' := by
 have HR0 := Aside0.mk hr0
 have HC0 := Aside0.mk hc0
 clear hr0 hc0
 have HB := Aside0.mk (Below.refl w.heap.size w)
 have H : ((crc_Sum.f k l0).bind fun t189 => ((some (([] : List Int) : List Int)).bind fun y190 => (if y190.length + l0.length < 140737488355328 then ((some (y190 ++ l0 : List Int)).bind fun y193 => ((some (([(t189) % 256, (t189 / 256) % 256, (t189 / 65536) % 256, (t189 / 16777216) % 256] : List Int) : List Int)).bind fun y196 => (if y193.length + y196.length < 140737488355328 then (some (y193 ++ y196)) else (none)))) else (none)))) = some r := h
 clear h
 replace H := Option.bind_eq_some_iff.mp H
 obtain ⟨t189, A20, H⟩ := H
 replace H : ((some (([] : List Int) : List Int)).bind fun y190 => (if y190.length + l0.length < 140737488355328 then ((some (y190 ++ l0 : List Int)).bind fun y193 => ((some (([(t189) % 256, (t189 / 256) % 256, (t189 / 65536) % 256, (t189 / 16777216) % 256] : List Int) : List Int)).bind fun y196 => (if y193.length + y196.length < 140737488355328 then (some (y193 ++ y196)) else (none)))) else (none))) = some r := H
 have A2 := Aside0.mk A20
 clear A20
 obtain ⟨y190, hy190⟩ : ∃ y_ : List Int, y_ = (([] : List Int)) := ⟨_, rfl⟩
 replace H : (if y190.length + l0.length < 140737488355328 then ((some (y190 ++ l0 : List Int)).bind fun y193 => ((some (([(t189) % 256, (t189 / 256) % 256, (t189 / 65536) % 256, (t189 / 16777216) % 256] : List Int) : List Int)).bind fun y196 => (if y193.length + y196.length < 140737488355328 then (some (y193 ++ y196)) else (none)))) else (none)) = some r := by first | (rw [hy190]; with_reducible exact H) | (have H2_ := (Option.bind_some _ _).symm.trans H; rw [hy190]; with_reducible exact H2_) | (have H2_ := (Option.bind_some _ _).symm.trans H; with_reducible exact H2_) | with_reducible exact H | (rw [hy190]; exact H) | exact H
 have Ny190 := Aside0.mk hy190
 clear hy190
 by_cases c3 : y190.length + l0.length < 140737488355328
 ·rw [if_pos c3] at H
  have LMc3 := Aside0.mk c3
  clear c3
  obtain ⟨y193, hy193⟩ : ∃ y_ : List Int, y_ = (y190 ++ l0) := ⟨_, rfl⟩
  replace H : ((some (([(t189) % 256, (t189 / 256) % 256, (t189 / 65536) % 256, (t189 / 16777216) % 256] : List Int) : List Int)).bind fun y196 => (if y193.length + y196.length < 140737488355328 then (some (y193 ++ y196)) else (none))) = some r := by first | (rw [hy193]; with_reducible exact H) | (have H2_ := (Option.bind_some _ _).symm.trans H; rw [hy193]; with_reducible exact H2_) | (have H2_ := (Option.bind_some _ _).symm.trans H; with_reducible exact H2_) | with_reducible exact H | (rw [hy193]; exact H) | exact H
  have Ny193 := Aside0.mk hy193
  clear hy193
  obtain ⟨y196, hy196⟩ : ∃ y_ : List Int, y_ = (([(t189) % 256, (t189 / 256) % 256, (t189 / 65536) % 256, (t189 / 16777216) % 256] : List Int)) := ⟨_, rfl⟩
  replace H : (if y193.length + y196.length < 140737488355328 then (some (y193 ++ y196)) else (none)) = some r := by first | (rw [hy196]; with_reducible exact H) | (have H2_ := (Option.bind_some _ _).symm.trans H; rw [hy196]; with_reducible exact H2_) | (have H2_ := (Option.bind_some _ _).symm.trans H; with_reducible exact H2_) | with_reducible exact H | (rw [hy196]; exact H) | exact H
  have Ny196 := Aside0.mk hy196
  clear hy196
  by_cases c4 : y193.length + y196.length < 140737488355328
  ·rw [if_pos c4] at H
   have LMc4 := Aside0.mk c4
   clear c4
   obtain ⟨y199, hy199⟩ : ∃ y_ : List Int, y_ = (y193 ++ y196) := ⟨_, rfl⟩
   replace H : (some y199) = some r := by first | (rw [hy199]; with_reducible exact H) | (have H2_ := (Option.bind_some _ _).symm.trans H; rw [hy199]; with_reducible exact H2_) | (have H2_ := (Option.bind_some _ _).symm.trans H; with_reducible exact H2_) | with_reducible exact H | (rw [hy199]; exact H) | exact H
   have Ny199 := Aside0.mk hy199
   clear hy199
   obtain rfl := Option.some.inj H
   go_enter Tryd.func29, Tryd.ntmps29
   go_wp2_with (first | ((with_reducible refine gate_callee (f := 42) rfl ?_); refine goesL_ (some 6) rfl rfl Tryd.func42 (by kernel_rfl) rfl #[.slice A0 l0.length c0] rfl jZ ?_; (with_reducible refine (crc_Sum.calls k _ _ l0 t189 _ ?side1 ?side2 A2.out).mono ?_); (case side1 => repeat (first | exact HR0.out | (with_reducible refine Kd.C_alloc ?_ _) | (with_reducible refine Kd.C_drewN ?_ _) | (with_reducible refine Kd.C_drew ?_))); (case side2 => exact HC0.out); rintro e w' ⟨rfl, ⟨nd, rfl⟩⟩; refine ⟨_, rfl, ?_⟩) | ((with_reducible refine gate_dst (N := 7) rfl ?_); refine Kd.R_lit (Kd.int .u8) _ 5 ?hg (N := 7) ?hd (xs := ([] : List Int)) (inner := []) (ok := fun _ => True) (okp := fun _ => True) ?hr ?hp (fun _ hk => hk) trivial (Below.refl _ _) (Nat.le_refl _) (by simp) ?_; (case hd => rfl); (case hg => rfl); (case hr => first | (go_simp; done) | (go_simp; rfl)); (case hp => exact (Reps.none _ _)); intro v191 w5 ho6 hb hg_ hnew_; clear hg_ hnew_; (first | rw [← Ny190.out] at ho6 | (simp only [Int.reduceToNat] at ho6; rw [← Ny190.out] at ho6)); have HO192 := Aside0.mk (Kd.R_lower ho6 (zZ (jH HB))); replace HB := Aside0.mk (zT (jH HB) hb); clear hb ho6) | ((with_reducible refine gate_builtin (b := .append) (xs := #[.tmp 7, .tmp 8]) rfl ?_); at_builtin; refine Kd.R_append_rows (Kd.int .u8) (w0 := w) w.heap.size rfl (.tmp 7) (.tmp 8) 25 5 (.int .u8 0) 1 rfl Tryd.underlying25 info5 rfl (by decide) (by omega) v191 y190 l0 _ _ _ (fun _ => True) (fun _ => False) rfl rfl ?aO ?aR (fun _ _ h => h) (fun _ h => h.elim) ?aF ?aB ?aS ?aL ?_; (case aR => repeat (first | exact (Kd.C_below HR0.out HB.out) | (with_reducible refine Kd.C_alloc ?_ _) | (with_reducible refine Kd.C_drewN ?_ _) | (with_reducible refine Kd.C_drew ?_))); (case aB => exact (jH HB)); (case aF => exact (fun _ _ => trivial)); (case aO => exact (jR HO192)); (case aS => exact (zZ (jH HB))); (case aL => have := LMc3.out; omega); intro v194 w7 ho hb hg hat; rw [← Ny193.out] at ho; have HO195 := Aside0.mk (ho); replace HB := Aside0.mk (hb); clear HO192; clear ho hb hg hat) | ((with_reducible refine gate_dst (N := 22) rfl ?_); refine Kd.R_lit (Kd.int .u8) _ 5 ?hg (N := 22) ?hd (xs := ([(t189) % 256, (t189 / 256) % 256, (t189 / 65536) % 256, (t189 / 16777216) % 256] : List Int)) (inner := [.int .u8 ((t189) % 256), .int .u8 ((t189 / 256) % 256), .int .u8 ((t189 / 65536) % 256), .int .u8 ((t189 / 16777216) % 256)]) (ok := fun _ => True) (okp := fun _ => True) ?hr ?hp (fun _ hk => hk) trivial (Below.refl _ _) (Nat.le_refl _) (by simp) ?_; (case hd => rfl); (case hg => rfl); (case hr => first | (go_simp; done) | (go_simp; rfl)); (case hp => exact (Reps.one (show Kd.M (Kd.int .u8) _ _ _ ((t189) % 256) [.int .u8 ((t189) % 256)] from rfl) (Reps.one (show Kd.M (Kd.int .u8) _ _ _ ((t189 / 256) % 256) [.int .u8 ((t189 / 256) % 256)] from rfl) (Reps.one (show Kd.M (Kd.int .u8) _ _ _ ((t189 / 65536) % 256) [.int .u8 ((t189 / 65536) % 256)] from rfl) (Reps.one (show Kd.M (Kd.int .u8) _ _ _ ((t189 / 16777216) % 256) [.int .u8 ((t189 / 16777216) % 256)] from rfl) (Reps.none _ _)))))); intro v197 w8 ho9 hb hg_ hnew_; clear hg_ hnew_; (first | rw [← Ny196.out] at ho9 | (simp only [Int.reduceToNat] at ho9; rw [← Ny196.out] at ho9)); have HO198 := Aside0.mk (Kd.R_lower (Kd.R_new' ho9 (Kd.R_lt (jR HO195))) (zZ (jH HB))); replace HO195 := Aside0.mk (Kd.R_elder' (jR HO195) (Kd.R_base ho9) hb); replace HB := Aside0.mk (zT (jH HB) hb); clear hb ho9; obtain ⟨Ao11, co11, eo11⟩ := Kd.R_slice HO198.out; subst eo11) | ((with_reducible refine gate_builtin (b := .append) (xs := #[.tmp 10, .tmp 22]) rfl ?_); at_builtin; refine Kd.R_append_rows (Kd.int .u8) (w0 := w) w.heap.size rfl (.tmp 10) (.tmp 22) 25 5 (.int .u8 0) 1 rfl Tryd.underlying25 info5 rfl (by decide) (by omega) v194 y193 y196 _ _ _ (fun k_ => some k_ ≠ (.slice Ao11 y196.length co11 : Value).ownBlock) (fun _ => False) rfl rfl ?aO ?aR (fun _ _ h => h) (fun _ h => h.elim) ?aF ?aB ?aS ?aL ?_; (case aR => repeat (first | exact (Kd.R_reads' HO198.out).2.2 | (with_reducible refine Kd.C_alloc ?_ _) | (with_reducible refine Kd.C_drewN ?_ _) | (with_reducible refine Kd.C_drew ?_))); (case aB => exact (jH HB)); (case aF => exact (fun k_ hk => Kd.fresh' (Kd.R_lt (jR HO198)) k_ hk)); (case aO => exact (by (with_reducible repeat (first | apply Kd.R_alloc | apply Kd.R_drewN | apply Kd.R_drew)); exact Kd.R_mono HO195.out (fun _ hk => hk.2))); (case aS => exact (zZ (jH HB))); (case aL => have := LMc4.out; omega); intro v200 w10 ho hb hg hat; rw [← Ny199.out] at ho; have HO201 := Aside0.mk (ho); replace HO198 := Aside0.mk (Kd.R_after (ok := (fun _ => True)) (jR HO198) hg hat); replace HB := Aside0.mk (hb); clear HO195; clear ho hb hg hat))
   go_ret
   exact ⟨_, jE, by (with_reducible repeat (first | apply Kd.R_alloc | apply Kd.R_drewN | apply Kd.R_drew)); exact Kd.R_mono HO201.out (fun _ hk => trivial), jH HB⟩
  ·rw [if_neg c4] at H
   exact absurd H (by simp)
 ·rw [if_neg c3] at H
  exact absurd H (by simp)
def table_Encode.l0 : Nat → List Int → List (S42) → Int → Int → Option (List Int × Int)
 | 0, _, _, _, _ => none
 | k + 1, x4, x17, x18, x19 => if x19 < x18 then (if 0 ≤ x19 then (if x19 < (x17.length : Int) then ((table_Rule_bytes.f k ((rd_T42 x17 x19).f0) ((rd_T42 x17 x19).f1) ((rd_T42 x17 x19).f2)).bind fun t211 => (if x4.length + t211.size < 140737488355328 then (table_Encode.l0 k (x4 ++ bytesOf t211) x17 x18 (wrap64 (x19 + 1))) else (none))) else (none)) else (none)) else ((crc_Seal.f k x4).bind fun t215 => (some (t215, 0)))
def table_Encode.f (k : Nat) (l0 : List (S42)) : Option (List Int × Int) := (table_Right.f k l0).bind fun t202 => (if t202 = true then ((some (([72, 82, 84, 49] : List Int) : List Int)).bind fun y203 => (if y203.length < 140737488355328 then (table_Encode.l0 k (y203 ++ [((l0.length : Int)) % 256]) l0 (l0.length : Int) 0) else (none))) else (some (([] : List Int), 1)))
set_option maxHeartbeats 8000000 in
set_option maxRecDepth 100000 in
theorem table_Encode.calls (k : Nat) (A0 : Option Addr) (c0 : Nat) (l0 : List (S42)) (r1 : List Int) (r2 : Int) (w : World) (hr0 : Kd.C k42 w A0 l0.length l0) (hc0 : l0.length ≤ c0) (hG : Glob w) (h : table_Encode.f k l0 = some (r1, r2)) :
  Calls Tryd.prog 12 #[.slice A0 l0.length c0] w fun e w' => ∃ v0_ : Value, e = .returned (.tuple #[v0_, .int .i64 r2]) ∧ Kd.R (Kd.int .u8) 5 w' w.heap.size (fun _ => True) v0_ r1 ∧ Below w.heap.size w w' := by
 have hu42 := Tryd.underlying42
 have HG := Aside0.mk hG
 clear hG
 have HR0 := Aside0.mk hr0
 have HC0 := Aside0.mk hc0
 clear hr0 hc0
 have HB := Aside0.mk (Below.refl w.heap.size w)
 have H : ((table_Right.f k l0).bind fun t202 => (if t202 = true then ((some (([72, 82, 84, 49] : List Int) : List Int)).bind fun y203 => (if y203.length < 140737488355328 then (table_Encode.l0 k (y203 ++ [((l0.length : Int)) % 256]) l0 (l0.length : Int) 0) else (none))) else (some (([] : List Int), 1)))) = some (r1, r2) := h
 clear h
 replace H := Option.bind_eq_some_iff.mp H
 obtain ⟨t202, A20, H⟩ := H
 try dsimp only at H
 have A2 := Aside0.mk A20
 clear A20
 by_cases c3 : t202 = true
 ·subst c3
  rw [if_pos rfl] at H
  obtain ⟨y203, hy203⟩ : ∃ y_ : List Int, y_ = (([72, 82, 84, 49] : List Int)) := ⟨_, rfl⟩
  simp only [Option.bind_some, ← hy203] at H
  have Ny203 := Aside0.mk hy203
  clear hy203
  by_cases c4 : y203.length < 140737488355328
  ·rw [if_pos c4] at H
   have LMc4 := Aside0.mk c4
   clear c4
   obtain ⟨y206, hy206⟩ : ∃ y_ : List Int, y_ = (y203 ++ [((l0.length : Int)) % 256]) := ⟨_, rfl⟩
   simp only [Option.bind_some, ← hy206] at H
   have Ny206 := Aside0.mk hy206
   clear hy206
   have H' := Aside0.mk H
   clear H
   go_enter Tryd.func12, Tryd.ntmps12
   have kc := fun (w : World) (C : Array Value) (n c : Nat) => Lib.run_convert_bytes_const (P := Tryd.prog) w 25 5 C n c Tryd.underlying25 Tryd.underlying5
   go_wp2_with (first | ((with_reducible refine gate_callee (f := 15) rfl ?_); refine goesL_ (some 8) rfl rfl Tryd.func15 (by kernel_rfl) rfl #[.slice A0 l0.length c0] rfl jZ ?_; (with_reducible refine (table_Right.calls k _ _ l0 true _ ?side1 ?side2 ?side3 A2.out).mono ?_); (case side1 => repeat (first | exact HR0.out | (with_reducible refine Kd.C_alloc ?_ _) | (with_reducible refine Kd.C_drewN ?_ _) | (with_reducible refine Kd.C_drew ?_))); (case side2 => exact HC0.out); (case side3 => exact Glob.below HG.out (jH HB)); rintro e w5 ⟨rfl, hb⟩; refine ⟨_, rfl, ?_⟩; replace HB := Aside0.mk (zT (jH HB) hb); (try clear hb); (try clear hb2); (try clear hk); (try clear hi)) | ((with_reducible refine gate_builtin (b := .append) (xs := #[.tmp 11, .tmp 15]) rfl ?_); at_builtin; refine RowT.append (w0 := w) w.heap.size rfl (.tmp 11) (.tmp 15) 25 5 rfl Tryd.underlying25 info5 (.slice (some ⟨w5.heap.size, 0, none⟩) 4 4) [72, 82, 84, 49] (((l0.length : Int)) % 256) rfl (by go_simp) (.inr ⟨w5.heap.size, 4, zZ HB.out, rfl, by decide, Kd.C_lit .u8 w5 [72, 82, 84, 49] 5 (4, 5) (by decide)⟩) (zA HB.out _) (zZ (zA HB.out _)) (by decide) ?_; intro v207 w8 ho hb; rw [← Ny203.out, ← Ny206.out] at ho; have HO208 := Aside0.mk (ho); replace HB := Aside0.mk (hb); clear ho hb))
   clear kc
   go_loopg [4, 19] k (fun kq v4 v19 w' => ∃ (x4_1 : List Int) (x19_1 : Int), v19 = .int .i64 x19_1 ∧ Aside0 (table_Encode.l0 kq x4_1 l0 (l0.length : Int) x19_1 = some (r1, r2)) ∧ Aside0 (kq ≤ k) ∧ Aside0 (Kd.R (Kd.int .u8) 5 w' w.heap.size (fun _ => True) v4 x4_1) ∧ Aside0 (Below w.heap.size w w'))
   case atStart => exact ⟨(y206), (0), jS, H', ⟨Nat.le_refl _⟩, ⟨jR HO208⟩, ⟨jH HB⟩⟩
   case round =>
    clear H'
    obtain ⟨x4_1, x19_1, rfl, HA, HK1, HO_4, HB⟩ := hrel
    cases gk with
    | zero => exact absurd HA.out (by simp [table_Encode.l0])
    | succ k1 =>
     have H := HA.out
     clear HA
     simp only [table_Encode.l0] at H
     by_cases c9 : x19_1 < (l0.length : Int)
     ·rw [if_pos c9] at H
      have c9b0 := dT c9
      clear c9
      by_cases c10 : 0 ≤ x19_1
      ·rw [if_pos c10] at H
       have c10b0 := dT c10
       clear c10
       by_cases c11 : x19_1 < (l0.length : Int)
       ·rw [if_pos c11] at H
        have c11b0 := dT c11
        clear c11
        replace H := Option.bind_eq_some_iff.mp H
        obtain ⟨t211, A120, H⟩ := H
        try dsimp only at H
        have A12 := Aside0.mk A120
        clear A120
        by_cases c13 : x4_1.length + t211.size < 140737488355328
        ·rw [if_pos c13] at H
         have LMc13 := Aside0.mk c13
         clear c13
         obtain ⟨y212, hy212⟩ : ∃ y_ : List Int, y_ = (x4_1 ++ bytesOf t211) := ⟨_, rfl⟩
         simp only [Option.bind_some, ← hy212] at H
         have Ny212 := Aside0.mk hy212
         clear hy212
         have H' := Aside0.mk H
         clear H
         have p209 : 0 ≤ (x19_1 : Int) := oD (jA)
         have q209 : x19_1 < (l0.length : Int) := oD (jA)
         obtain ⟨ad209, A209_0, c209_0, A209_1, c209_1, e209, hx209_0, hx209_1, hx209_2, hl209_0, hi209_0, hl209_1, hi209_1⟩ := at_T42 HR0.out x19_1 p209 q209
         cases e209
         replace hx209_0 := (HB.out.cell (bL w _ hx209_0)).trans hx209_0
         replace hx209_1 := (HB.out.cell (bL w _ hx209_1)).trans hx209_1
         replace hx209_2 := (HB.out.cell (bL w _ hx209_2)).trans hx209_2
         have HR209_0 := Aside0.mk hi209_0
         have HC209_0 := Aside0.mk hl209_0
         clear hi209_0 hl209_0
         have HR209_1 := Aside0.mk hi209_1
         have HC209_1 := Aside0.mk hl209_1
         clear hi209_1 hl209_1
         replace p209 := eq_true p209
         replace q209 := eq_true q209
         go_wp2_with (first | ((with_reducible refine gate_dst (N := 6) rfl ?_); refine box_event rfl (N := 6) rfl (cs := #[.slice none 0 0, .slice none 0 0, .int .u32 0]) (t := 42) jW ?_; intro gb210 hg w14 hbox hb; have BK210 := Aside0.mk hbox; have GW210 := Aside0.mk (jG hg HB); have GE210 := Aside0.mk (jG hg HB); replace HO_4 := Aside0.mk (Kd.R_below (jR HO_4) hb); replace HB := Aside0.mk (zT (jH HB) hb); clear hb hbox hg; obtain ⟨hcz15_0, hcz15_1, hcz15_2, hfz15_0, hfz15_1, hfz15_2⟩ := kQ3 BK210.out) | ((with_reducible refine gate_callee (f := 28) rfl ?_); refine goesL_ (some 25) rfl rfl Tryd.func28 (by kernel_rfl) rfl #[.agg #[.slice A209_0 ((rd_T42 l0 x19_1).f0).length c209_0, .slice A209_1 ((rd_T42 l0 x19_1).f1).length c209_1, .int .u32 ((rd_T42 l0 x19_1).f2)]] rfl jZ ?_; (with_reducible refine (table_Rule_bytes.calls k1 _ _ ((rd_T42 l0 x19_1).f0) _ _ ((rd_T42 l0 x19_1).f1) ((rd_T42 l0 x19_1).f2) t211 _ ?side1 ?side2 ?side3 ?side4 ?side5 A12.out).mono ?_); (case side1 => exact Kd.C_below HR209_0.out (jH HB)); (case side2 => exact HC209_0.out); (case side3 => exact Kd.C_below HR209_1.out (jH HB)); (case side4 => exact HC209_1.out); (case side5 => exact Glob.below HG.out (jH HB)); rintro e w16 ⟨rfl, hb⟩; refine ⟨_, rfl, ?_⟩; replace HO_4 := Aside0.mk (Kd.R_below (by (with_reducible repeat (first | apply Kd.R_alloc | apply Kd.R_drewN | apply Kd.R_drew)); exact (Kd.R_mono (Kd.R_far (p := ⟨gb210, 2, none⟩) (Kd.R_far (p := ⟨gb210, 1, none⟩) (Kd.R_far (p := ⟨gb210, 0, none⟩) (Kd.R_types HO_4.out BK210.out (by decide)) (fun _ hk => hk.2) (.slice A209_0 ((rd_T42 l0 x19_1).f0).length c209_0)) (fun _ hk => hk.2) (.slice A209_1 ((rd_T42 l0 x19_1).f1).length c209_1)) (fun _ hk => hk.2) (.int .u32 ((rd_T42 l0 x19_1).f2))) (fun _ h_ => h_.1))) hb); replace BK210 := Aside0.mk (kB (g := gb210) (o := .cells #[.slice A209_0 ((rd_T42 l0 x19_1).f0).length c209_0, .slice A209_1 ((rd_T42 l0 x19_1).f1).length c209_1, .int .u32 ((rd_T42 l0 x19_1).f2)] 42 (0, 0)) (by (with_reducible repeat (first | refine kN ?_ _ | refine kD ?_ | refine kA ?_ _)); refine kP (cs := #[.slice A209_0 ((rd_T42 l0 x19_1).f0).length c209_0, .slice A209_1 ((rd_T42 l0 x19_1).f1).length c209_1, .int .u32 0]) ?_ 2 _ rfl; (with_reducible repeat (first | refine kN ?_ _ | refine kD ?_ | refine kA ?_ _)); refine kP (cs := #[.slice A209_0 ((rd_T42 l0 x19_1).f0).length c209_0, .slice none 0 0, .int .u32 0]) ?_ 1 _ rfl; (with_reducible repeat (first | refine kN ?_ _ | refine kD ?_ | refine kA ?_ _)); refine kP (cs := #[.slice none 0 0, .slice none 0 0, .int .u32 0]) ?_ 0 _ rfl; (with_reducible repeat (first | refine kN ?_ _ | refine kD ?_ | refine kA ?_ _)); exact BK210.out) hb); replace HB := Aside0.mk (zT (jH HB) hb); (try clear hb); (try clear hb2); (try clear hk); (try clear hi)) | (at_builtin; refine print_append_str (w0 := w) w.heap.size rfl (.tmp 23) _ 25 9 5 rfl Tryd.underlying25 Tryd.underlying9 info5 u4 x4_1 t211 rfl rfl ?aO ?aB ?aS ?aL ?_; (case aB => exact (jH HB)); (case aO => exact (Kd.own_of_R (jR HO_4))); (case aS => exact (zZ (jH HB))); (case aL => have := LMc13.out; omega); intro v213 w17 ho0 hb hg; have ho := Kd.R_of_own (h1 := fun _ => rfl) (ok := fun _ => True) ho0 (fun _ _ => trivial); clear ho0; have hat := True.intro; rw [← Ny212.out] at ho; change Kd.R (Kd.int .u8) 5 w17 w.heap.size (fun _ => True) v213 y212 at ho; have HO214 := Aside0.mk (ho); replace BK210 := Aside0.mk (kG (g := gb210) (o := .cells #[.slice A209_0 ((rd_T42 l0 x19_1).f0).length c209_0, .slice A209_1 ((rd_T42 l0 x19_1).f1).length c209_1, .int .u32 ((rd_T42 l0 x19_1).f2)] 42 (0, 0)) (jK BK210) hg (Kd.R_ne HO_4.out BK210.out (by decide))); replace HB := Aside0.mk (hb); clear HO_4; clear ho hb hg hat))
         go_roundg k1
         case measure => have := HK1.out; omega
         case rel => exact ⟨(y212), (wrap64 (x19_1 + 1)), jS, H', ⟨by have := HK1.out; omega⟩, ⟨jR HO214⟩, ⟨jH HB⟩⟩
        ·rw [if_neg c13] at H
         exact absurd H (by simp)
       ·rw [if_neg c11] at H
        exact absurd H (by simp)
      ·rw [if_neg c10] at H
       exact absurd H (by simp)
     ·rw [if_neg c9] at H
      have c9b0 := dF c9
      clear c9
      replace H := Option.bind_eq_some_iff.mp H
      obtain ⟨t215, A180, H⟩ := H
      try dsimp only at H
      have A18 := Aside0.mk A180
      clear A180
      simp only [Option.some.injEq, Prod.mk.injEq] at H
      obtain ⟨rfl, rfl⟩ := H
      obtain ⟨Ao19, co19, eo19⟩ := Kd.R_slice HO_4.out
      subst eo19
      go_wp2_with (first | ((with_reducible refine gate_callee (f := 29) rfl ?_); refine goesL_ (some 29) rfl rfl Tryd.func29 (by kernel_rfl) rfl #[.slice Ao19 x4_1.length co19] rfl jZ ?_; (with_reducible refine (crc_Seal.calls k1 _ _ x4_1 t215 _ ?side1 ?side2 A18.out).mono ?_); (case side1 => exact jC (Kd.R_reads' HO_4.out).2.2); (case side2 => exact (Kd.R_reads' HO_4.out).2.1); rintro e w20 ⟨v216, rfl, ho0, hb⟩; refine ⟨_, rfl, ?_⟩; have HO217 := Aside0.mk (Kd.R_lower (Kd.R_new' ho0 (Kd.R_lt (jR HO_4))) (zZ (jH HB))); replace HO_4 := Aside0.mk (Kd.R_elder' (jR HO_4) (Kd.R_base ho0) hb); replace HB := Aside0.mk (zT (jH HB) hb); (try clear hb); (try clear hb2); (try clear hk); (try clear hi); (try clear ho0)))
      go_ret2
      exact ⟨_, jE, by (with_reducible repeat (first | apply Kd.R_alloc | apply Kd.R_drewN | apply Kd.R_drew)); exact Kd.R_mono HO217.out (fun _ hk => trivial), jH HB⟩
  ·rw [if_neg c4] at H
   exact absurd H (by simp)
 ·replace c3 := Bool.eq_false_iff.mpr c3
  subst c3
  rw [if_neg (show ¬ (false = true) by decide)] at H
  simp only [Option.some.injEq, Prod.mk.injEq] at H
  obtain ⟨rfl, rfl⟩ := H
  go_enter Tryd.func12, Tryd.ntmps12
  go_wp2_with (first | ((with_reducible refine gate_callee (f := 15) rfl ?_); refine goesL_ (some 8) rfl rfl Tryd.func15 (by kernel_rfl) rfl #[.slice A0 l0.length c0] rfl jZ ?_; (with_reducible refine (table_Right.calls k _ _ l0 false _ ?side1 ?side2 ?side3 A2.out).mono ?_); (case side1 => repeat (first | exact HR0.out | (with_reducible refine Kd.C_alloc ?_ _) | (with_reducible refine Kd.C_drewN ?_ _) | (with_reducible refine Kd.C_drew ?_))); (case side2 => exact HC0.out); (case side3 => exact Glob.below HG.out (jH HB)); rintro e w21 ⟨rfl, hb⟩; refine ⟨_, rfl, ?_⟩; replace HB := Aside0.mk (zT (jH HB) hb); (try clear hb); (try clear hb2); (try clear hk); (try clear hi)))
  go_ret2
  exact ⟨_, jE, by first | exact Kd.R_nil _ _ _ _ _ | exact Kd.N_nil _ _ _ _ _ | exact Kd.V_nil _ _ _ _ _ | exact Kd.Q_nil _ _ _ _ _ | exact Kd.S_nil _ _ _ _ _, jH HB⟩
def crc_Open.f (k : Nat) (l0 : List Int) : Option (List Int × Int) := if (wrap64 ((l0.length : Int) - 4)) < 0 then (some (([] : List Int), 9)) else (if 0 ≤ (wrap64 ((l0.length : Int) - 4)) then (if (wrap64 ((l0.length : Int) - 4)) ≤ (l0.length : Int) then ((crc_Seal.f k (l0.take ((wrap64 ((l0.length : Int) - 4)) : Int).toNat)).bind fun t219 => (if (strOfNums t219).toList = (strOfNums l0).toList then ((some (([] : List Int) : List Int)).bind fun y222 => (if y222.length + (l0.take ((wrap64 ((l0.length : Int) - 4)) : Int).toNat).length < 140737488355328 then (some ((y222 ++ (l0.take ((wrap64 ((l0.length : Int) - 4)) : Int).toNat)), 0)) else (none))) else (some (([] : List Int), 10)))) else (none)) else (none))
def crc_Open.T4 : Bool × List (List Nat × List Nat) := (true, [([], []), ([], []), ([0, 1], [0, 1]), ([2], [2]), ([3], [3]), ([], []), ([5], [5]), ([4, 6], [4, 6])])
def crc_Open.B4 : List Nat := [0, 0, 3, 7, 15, 0, 32, 127]
theorem crc_Open.tab4 : rtab .any (opsOf Tryd.f34 4) = crc_Open.T4 := by kernel_rfl
theorem crc_Open.bits4 : waitsOk crc_Open.T4.2 crc_Open.B4 = true := by kernel_rfl
set_option maxHeartbeats 8000000 in
set_option maxRecDepth 100000 in
theorem crc_Open.calls (k : Nat) (A0 : Option Addr) (c0 : Nat) (l0 : List Int) (r1 : List Int) (r2 : Int) (w : World) (hr0 : Kd.C (Kd.int .u8) w A0 l0.length l0) (hc0 : l0.length ≤ c0) (h : crc_Open.f k l0 = some (r1, r2)) :
  Calls Tryd.prog 34 #[.slice A0 l0.length c0] w fun e w' => ∃ v0_ : Value, e = .returned (.tuple #[v0_, .int .i64 r2]) ∧ Kd.R (Kd.int .u8) 5 w' w.heap.size (fun _ => True) v0_ r1 ∧ Below w.heap.size w w' := by
 have HR0 := Aside0.mk hr0
 have HC0 := Aside0.mk hc0
 clear hr0 hc0
 have HB := Aside0.mk (Below.refl w.heap.size w)
 have H : (if (wrap64 ((l0.length : Int) - 4)) < 0 then (some (([] : List Int), 9)) else (if 0 ≤ (wrap64 ((l0.length : Int) - 4)) then (if (wrap64 ((l0.length : Int) - 4)) ≤ (l0.length : Int) then ((crc_Seal.f k (l0.take ((wrap64 ((l0.length : Int) - 4)) : Int).toNat)).bind fun t219 => (if (strOfNums t219).toList = (strOfNums l0).toList then ((some (([] : List Int) : List Int)).bind fun y222 => (if y222.length + (l0.take ((wrap64 ((l0.length : Int) - 4)) : Int).toNat).length < 140737488355328 then (some ((y222 ++ (l0.take ((wrap64 ((l0.length : Int) - 4)) : Int).toNat)), 0)) else (none))) else (some (([] : List Int), 10)))) else (none)) else (none))) = some (r1, r2) := h
 clear h
 by_cases c2 : (wrap64 ((l0.length : Int) - 4)) < 0
 ·rw [if_pos c2] at H
  have c2b0 := dT c2
  clear c2
  simp only [Option.some.injEq, Prod.mk.injEq] at H
  obtain ⟨rfl, rfl⟩ := H
  go_enter Tryd.func34, Tryd.ntmps34
  go_wp2
  go_ret2
  exact ⟨_, jE, by first | exact Kd.R_nil _ _ _ _ _ | exact Kd.N_nil _ _ _ _ _ | exact Kd.V_nil _ _ _ _ _ | exact Kd.Q_nil _ _ _ _ _ | exact Kd.S_nil _ _ _ _ _, jH HB⟩
 ·rw [if_neg c2] at H
  have c2b0 := dF c2
  clear c2
  obtain ⟨ji3, hji3⟩ : ∃ j_ : Int, (wrap64 ((l0.length : Int) - 4)) = j_ := ⟨_, rfl⟩
  first | rw [hji3] at H | simp only [hji3] at H
  (try rw [hji3] at c2b0)
  have hji3w : (IntKind.i64.wrap ((l0.length : Int) - 4)) = ji3 := (i64_w _).trans hji3
  by_cases c4 : 0 ≤ (ji3)
  ·rw [if_pos c4] at H
   have c4b0 := eq_true c4
   have c4b1 := dT c4
   clear c4
   by_cases c5 : (ji3) ≤ (l0.length : Int)
   ·rw [if_pos c5] at H
    have c5b0 := eq_true c5
    have c5b1 := dT c5
    clear c5
    replace H := Option.bind_eq_some_iff.mp H
    obtain ⟨t219, A60, H⟩ := H
    try dsimp only at H
    have A6 := Aside0.mk A60
    clear A60
    by_cases c7 : (strOfNums t219).toList = (strOfNums l0).toList
    ·rw [if_pos c7] at H
     have c7b0 : ((strOfNums t219).toList == (strOfNums l0).toList) = true := bI.mpr c7
     have c7b1 : ((strOfNums t219).toList != (strOfNums l0).toList) = false := nF.mpr c7
     clear c7
     obtain ⟨y222, hy222⟩ : ∃ y_ : List Int, y_ = (([] : List Int)) := ⟨_, rfl⟩
     simp only [Option.bind_some, ← hy222] at H
     have Ny222 := Aside0.mk hy222
     clear hy222
     have c8b0 := eq_true (oD (jA) : 0 ≤ (ji3))
     have c9b0 := eq_true (oD (jA) : (ji3) ≤ (l0.length : Int))
     by_cases c10 : y222.length + (l0.take ((ji3) : Int).toNat).length < 140737488355328
     ·rw [if_pos c10] at H
      have LMc10 := Aside0.mk c10
      clear c10
      obtain ⟨y226, hy226⟩ : ∃ y_ : List Int, y_ = (y222 ++ (l0.take ((ji3) : Int).toNat)) := ⟨_, rfl⟩
      simp only [Option.bind_some, ← hy226] at H
      have Ny226 := Aside0.mk hy226
      clear hy226
      simp only [Option.some.injEq, Prod.mk.injEq] at H
      obtain ⟨rfl, rfl⟩ := H
      go_enter Tryd.func34, Tryd.ntmps34
      try go_wp2
      replace HB := Aside0.mk (zD HB.out)
      obtain ⟨i012, hi012, _, hsz12, _⟩ := info_parts info5
      obtain ⟨hcut12, hA12, hC12⟩ := print_take_of (P := Tryd.prog) (Value.int .u8) 0 25 5 .i64 Tryd.underlying25 hi012 hsz12 A0 c0 l0 (ji3) (oD (jA)) (oD (jA)) HC0.out
      have HR218 := Aside0.mk (Kd.C_of_reads (h1 := fun _ => rfl) (hA12 _ (Kd.reads_of_C HR0.out)))
      have HC218 := Aside0.mk hC12
      clear hA12 hC12 hi012 hsz12
      refine start_ (n := 8) (S := fun w' => True) (ds := []) #[false, false, false, false, false, false, false, false] (by kernel_rfl) rfl rfl trivial (fun hHeld => ?_); refine with_tabW crc_Open.tab4 crc_Open.bits4 (fun HT_ HW_ => ?_)
      generalize w.drew = w11 at HB HR218 hHeld ⊢
      refine qP 0 10 (tB 8 1) ?_
      refine qP 1 11 (tB 8 3) ?_
      refine qP 2 12 (tB 8 7) ?_
      refine qP 5 15 (tB 8 39) ?_
      refine join_ (σ := Value) 1 #[true, true, true, true, true, true, true, false] (fun s_ => [(13, s_), (14, .string (strOfNums t219)), (16, .string (strOfNums l0))]) (fun s_ w' => (Kd.R (Kd.int .u8) 5 w' w.heap.size (fun _ => True) s_ t219) ∧ (Below w.heap.size w w')) ?_ ?_
      rotate_left
      ·intro hCont
       refine two_ (i := 3) (j := 6) (Ni := some 13) (Nj := some 16) #[true, true, true, true, false, true, false, false] (tB 8 103) rfl rfl rfl rfl (two_of HT_.out (by kernel_rfl)) (by decide) (by decide) (fun K hK => ?_) (fun K hK => ?_)
       ·skip
        refine goes_ Tryd.func29 (by kernel_rfl) rfl #[.slice A0 (l0.take ((ji3) : Int).toNat).length c0] (by rfl) rfl rfl (by (try simp only [List.map_toArray, List.map_cons, List.map_nil]); first | done | (rw [show (l0.take ((ji3) : Int).toNat).length = (ji3).toNat from (by rw [List.length_take]; have h_ : ((ji3) : Int) ≤ (l0.length : Int) := oD (jA); omega)] <;> rfl) | (simp only [hji3]; rfl) | rfl | (simp only [List.length_drop, List.length_take]; rfl)) ?_
        with_reducible refine (crc_Seal.calls k _ _ (l0.take ((ji3) : Int).toNat) t219 _ ?side1 ?side2 A6.out).mono ?_
        (case side1 => exact jC (Kd.C_below HR218.out HB.out))
        (case side2 => exact HC218.out)
        rintro e w13 ⟨v220, rfl, ho0, hb⟩
        refine ⟨_, rfl, ?_⟩
        have HO221 := Aside0.mk (Kd.R_lower ho0 (zZ (jH HB)))
        replace HB := Aside0.mk (zT (jH HB) hb)
        (try clear hb)
        (try clear hb2)
        (try clear hk)
        (try clear hi)
        (try clear ho0)
        refine hK.out _ _ trivial (fun hHeld => ?_)
        clear hK K
        refine qN 13 ?_
        refine two_ (i := 4) (j := 6) (Ni := some 14) (Nj := some 16) #[true, true, true, true, true, true, false, false] (tB 8 111) rfl rfl rfl rfl (two_of HT_.out (by kernel_rfl)) (by decide) (by decide) (fun K hK => ?_) (fun K hK => ?_)
        ·skip
         have hcv14 := own_string (P := Tryd.prog) Tryd.underlying25 Tryd.underlying5 Tryd.underlying9 (Kd.own_of_R HO221.out)
         refine value_ (w1 := ?_) (v := ?_) (by rfl) rfl ?_ ?_
         rotate_left 2
         ·go_simp
          constructor
          ·rfl
          ·rfl
         clear hcv14
         refine hK.out _ _ trivial (fun hHeld => ?_)
         clear hK K
         refine qN 14 ?_
         refine one_ (i := 6) (N := some 16) (tB 8 127) rfl rfl (one_of HT_.out (by kernel_rfl)) (by decide) (fun K hK => ?_)
         have hcv15 := Kd.C_string (P := Tryd.prog) (A := A0) (c := c0) Tryd.underlying25 Tryd.underlying5 Tryd.underlying9 (Kd.C_below HR0.out HB.out)
         refine value_ (w1 := ?_) (v := ?_) (by rfl) rfl ?_ ?_
         rotate_left 2
         ·go_simp
          constructor
          ·rfl
          ·rfl
         clear hcv15
         refine hK.out _ _ trivial (fun hHeld => ?_)
         clear hK K
         refine qN 16 ?_
         exact norm_ (by simp only [putAll, Act.put, List.setIfInBounds_toArray, List.set_cons_zero, List.set_cons_succ]) (hCont (v220) _ ⟨(jR HO221), (jH HB)⟩)
        ·skip
         have hcv14 := Kd.C_string (P := Tryd.prog) (A := A0) (c := c0) Tryd.underlying25 Tryd.underlying5 Tryd.underlying9 (Kd.C_below HR0.out HB.out)
         refine value_ (w1 := ?_) (v := ?_) (by rfl) rfl ?_ ?_
         rotate_left 2
         ·go_simp
          constructor
          ·rfl
          ·rfl
         clear hcv14
         refine hK.out _ _ trivial (fun hHeld => ?_)
         clear hK K
         refine qN 16 ?_
         refine one_ (i := 4) (N := some 14) (tB 8 127) rfl rfl (one_of HT_.out (by kernel_rfl)) (by decide) (fun K hK => ?_)
         have hcv15 := own_string (P := Tryd.prog) Tryd.underlying25 Tryd.underlying5 Tryd.underlying9 (Kd.own_of_R HO221.out)
         refine value_ (w1 := ?_) (v := ?_) (by rfl) rfl ?_ ?_
         rotate_left 2
         ·go_simp
          constructor
          ·rfl
          ·rfl
         clear hcv15
         refine hK.out _ _ trivial (fun hHeld => ?_)
         clear hK K
         refine qN 14 ?_
         exact norm_ (by simp only [putAll, Act.put, List.setIfInBounds_toArray, List.set_cons_zero, List.set_cons_succ]) (hCont (v220) _ ⟨(jR HO221), (jH HB)⟩)
       ·skip
        have hcv13 := Kd.C_string (P := Tryd.prog) (A := A0) (c := c0) Tryd.underlying25 Tryd.underlying5 Tryd.underlying9 (Kd.C_below HR0.out HB.out)
        refine value_ (w1 := ?_) (v := ?_) (by rfl) rfl ?_ ?_
        rotate_left 2
        ·go_simp
         constructor
         ·rfl
         ·rfl
        clear hcv13
        refine hK.out _ _ trivial (fun hHeld => ?_)
        clear hK K
        refine qN 16 ?_
        refine one_ (i := 3) (N := some 13) (tB 8 111) rfl rfl (one_of HT_.out (by kernel_rfl)) (by decide) (fun K hK => ?_)
        refine goes_ Tryd.func29 (by kernel_rfl) rfl #[.slice A0 (l0.take ((ji3) : Int).toNat).length c0] (by rfl) rfl rfl (by (try simp only [List.map_toArray, List.map_cons, List.map_nil]); first | done | (rw [show (l0.take ((ji3) : Int).toNat).length = (ji3).toNat from (by rw [List.length_take]; have h_ : ((ji3) : Int) ≤ (l0.length : Int) := oD (jA); omega)] <;> rfl) | (simp only [hji3]; rfl) | rfl | (simp only [List.length_drop, List.length_take]; rfl)) ?_
        with_reducible refine (crc_Seal.calls k _ _ (l0.take ((ji3) : Int).toNat) t219 _ ?side1 ?side2 A6.out).mono ?_
        (case side1 => exact jC (Kd.C_below HR218.out HB.out))
        (case side2 => exact HC218.out)
        rintro e w14 ⟨v220, rfl, ho0, hb⟩
        refine ⟨_, rfl, ?_⟩
        have HO221 := Aside0.mk (Kd.R_lower ho0 (zZ (jH HB)))
        replace HB := Aside0.mk (zT (jH HB) hb)
        (try clear hb)
        (try clear hb2)
        (try clear hk)
        (try clear hi)
        (try clear ho0)
        refine hK.out _ _ trivial (fun hHeld => ?_)
        clear hK K
        refine qN 13 ?_
        refine one_ (i := 4) (N := some 14) (tB 8 127) rfl rfl (one_of HT_.out (by kernel_rfl)) (by decide) (fun K hK => ?_)
        have hcv15 := own_string (P := Tryd.prog) Tryd.underlying25 Tryd.underlying5 Tryd.underlying9 (Kd.own_of_R HO221.out)
        refine value_ (w1 := ?_) (v := ?_) (by rfl) rfl ?_ ?_
        rotate_left 2
        ·go_simp
         constructor
         ·rfl
         ·rfl
        clear hcv15
        refine hK.out _ _ trivial (fun hHeld => ?_)
        clear hK K
        refine qN 14 ?_
        exact norm_ (by simp only [putAll, Act.put, List.setIfInBounds_toArray, List.set_cons_zero, List.set_cons_succ]) (hCont (v220) _ ⟨(jR HO221), (jH HB)⟩)
      rintro v220 w16 ⟨h0_, h1_⟩
      have n0_ : Aside0 (Kd.R (Kd.int .u8) 5 w16 w.heap.size (fun _ => True) v220 t219) := ⟨h0_⟩
      have n1_ : Aside0 (Below w.heap.size w w16) := ⟨h1_⟩
      clear HB
      clear h0_ h1_
      have HO221 := n0_
      have HB := n1_
      clear n0_ n1_
      have hHeld := trivial
      refine norm_ (a' := ?_) ?_ ?_
      rotate_left
      ·simp only [putAll, Act.put, List.setIfInBounds_toArray, List.set_cons_zero, List.set_cons_succ]
       rfl
      refine qP 7 17 (tB 8 255) ?_
      refine done_ (done_of HT_.out (by kernel_rfl)) ?_
      try go_wp2_with (first | ((with_reducible refine gate_dst (N := 18) rfl ?_); refine Kd.R_lit (Kd.int .u8) _ 5 ?hg (N := 18) ?hd (xs := ([] : List Int)) (inner := []) (ok := fun _ => True) (okp := fun _ => True) ?hr ?hp (fun _ hk => hk) trivial (Below.refl _ _) (Nat.le_refl _) (by simp) ?_; (case hd => rfl); (case hg => rfl); (case hr => first | (go_simp; done) | (go_simp; rfl)); (case hp => exact (Reps.none _ _)); intro v223 w17 ho18 hb hg_ hnew_; clear hg_ hnew_; (first | rw [← Ny222.out] at ho18 | (simp only [Int.reduceToNat] at ho18; rw [← Ny222.out] at ho18)); have HO224 := Aside0.mk (Kd.R_lower (Kd.R_new' ho18 (Kd.R_lt (jR HO221))) (zZ (jH HB))); replace HO221 := Aside0.mk (Kd.R_elder' (jR HO221) (Kd.R_base ho18) hb); replace HB := Aside0.mk (zT (jH HB) hb); clear hb ho18; obtain ⟨i019, hi019, _, hsz19, _⟩ := info_parts info5; obtain ⟨hcut19, hA19, hC19⟩ := print_take_of (P := Tryd.prog) (Value.int .u8) 0 25 5 .i64 Tryd.underlying25 hi019 hsz19 A0 c0 l0 (ji3) (oD (jA)) (oD (jA)) HC0.out; have HR225 := Aside0.mk (Kd.C_of_reads (h1 := fun _ => rfl) (hA19 _ (Kd.reads_of_C HR0.out))); have HC225 := Aside0.mk hC19; clear hA19 hC19 hi019 hsz19) | ((with_reducible refine gate_builtin (b := .append) (xs := #[.tmp 18, .tmp 21]) rfl ?_); at_builtin; refine Kd.R_append_rows (Kd.int .u8) (w0 := w) w.heap.size rfl (.tmp 18) (.tmp 21) 25 5 (.int .u8 0) 1 rfl Tryd.underlying25 info5 rfl (by decide) (by omega) v223 y222 (l0.take ((ji3) : Int).toNat) _ _ _ (fun k_ => some k_ ≠ (v220 : Value).ownBlock) (fun _ => False) rfl rfl ?aO ?aR (fun _ _ h => h) (fun _ h => h.elim) ?aF ?aB ?aS ?aL ?_; (case aR => first | (have hlx_ := (show (l0.take ((ji3) : Int).toNat).length = (ji3).toNat from (by rw [List.length_take]; have h_ : ((ji3) : Int) ≤ (l0.length : Int) := oD (jA); omega)); refine Eq.subst (motive := fun n_ : Nat => ReadsRow _ _ _ _ n_ _) hlx_ ?_; repeat (first | exact (Kd.C_below HR225.out HB.out) | (with_reducible refine Kd.C_alloc ?_ _) | (with_reducible refine Kd.C_drewN ?_ _) | (with_reducible refine Kd.C_drew ?_)); done) | (repeat (first | exact (Kd.C_below HR225.out HB.out) | (with_reducible refine Kd.C_alloc ?_ _) | (with_reducible refine Kd.C_drewN ?_ _) | (with_reducible refine Kd.C_drew ?_)); done) | (rw [← show (l0.take ((ji3) : Int).toNat).length = (ji3).toNat from (by rw [List.length_take]; have h_ : ((ji3) : Int) ≤ (l0.length : Int) := oD (jA); omega)]; repeat (first | exact (Kd.C_below HR225.out HB.out) | (with_reducible refine Kd.C_alloc ?_ _) | (with_reducible refine Kd.C_drewN ?_ _) | (with_reducible refine Kd.C_drew ?_)); done)); (case aB => exact (jH HB)); (case aF => exact (fun k_ hk => Kd.fresh' (Kd.R_lt (jR HO221)) k_ hk)); (case aO => exact (by (with_reducible repeat (first | apply Kd.R_alloc | apply Kd.R_drewN | apply Kd.R_drew)); exact Kd.R_mono HO224.out (fun _ hk => hk.2))); (case aS => exact (zZ (jH HB))); (case aL => have := LMc10.out; have hlx_ := (show (l0.take ((ji3) : Int).toNat).length = (ji3).toNat from (by rw [List.length_take]; have h_ : ((ji3) : Int) ≤ (l0.length : Int) := oD (jA); omega)); omega); intro v227 w20 ho hb hg hat; rw [← Ny226.out] at ho; have HO228 := Aside0.mk (ho); replace HO221 := Aside0.mk (Kd.R_after (ok := (fun _ => True)) (jR HO221) hg hat); replace HB := Aside0.mk (hb); clear HO224; clear ho hb hg hat))
      go_ret2
      exact ⟨_, by first | rfl | (simp [errW_none, errW_some] <;> rfl) | (simp only [← hji3]; first | rfl | (simp [errW_none, errW_some] <;> rfl)) | (simp [*, errW_none, errW_some] <;> rfl), by (with_reducible repeat (first | apply Kd.R_alloc | apply Kd.R_drewN | apply Kd.R_drew)); exact Kd.R_mono HO228.out (fun _ hk => trivial), jH HB⟩
     ·rw [if_neg c10] at H
      exact absurd H (by simp)
    ·rw [if_neg c7] at H
     have c7b0 : ((strOfNums t219).toList == (strOfNums l0).toList) = false := bF.mpr c7
     have c7b1 : ((strOfNums t219).toList != (strOfNums l0).toList) = true := nI.mpr c7
     simp only [Option.some.injEq, Prod.mk.injEq] at H
     obtain ⟨rfl, rfl⟩ := H
     go_enter Tryd.func34, Tryd.ntmps34
     try go_wp2
     replace HB := Aside0.mk (zD HB.out)
     obtain ⟨i022, hi022, _, hsz22, _⟩ := info_parts info5
     obtain ⟨hcut22, hA22, hC22⟩ := print_take_of (P := Tryd.prog) (Value.int .u8) 0 25 5 .i64 Tryd.underlying25 hi022 hsz22 A0 c0 l0 (ji3) (oD (jA)) (oD (jA)) HC0.out
     have HR218 := Aside0.mk (Kd.C_of_reads (h1 := fun _ => rfl) (hA22 _ (Kd.reads_of_C HR0.out)))
     have HC218 := Aside0.mk hC22
     clear hA22 hC22 hi022 hsz22
     refine start_ (n := 8) (S := fun w' => True) (ds := []) #[false, false, false, false, false, false, false, false] (by kernel_rfl) rfl rfl trivial (fun hHeld => ?_); refine with_tabW crc_Open.tab4 crc_Open.bits4 (fun HT_ HW_ => ?_)
     generalize w.drew = w21 at HB HR218 hHeld ⊢
     refine qP 0 10 (tB 8 1) ?_
     refine qP 1 11 (tB 8 3) ?_
     refine qP 2 12 (tB 8 7) ?_
     refine qP 5 15 (tB 8 39) ?_
     refine join_ (σ := Value) 1 #[true, true, true, true, true, true, true, false] (fun s_ => [(13, s_), (14, .string (strOfNums t219)), (16, .string (strOfNums l0))]) (fun s_ w' => (Kd.R (Kd.int .u8) 5 w' w.heap.size (fun _ => True) s_ t219) ∧ (Below w.heap.size w w')) ?_ ?_
     rotate_left
     ·intro hCont
      refine two_ (i := 3) (j := 6) (Ni := some 13) (Nj := some 16) #[true, true, true, true, false, true, false, false] (tB 8 103) rfl rfl rfl rfl (two_of HT_.out (by kernel_rfl)) (by decide) (by decide) (fun K hK => ?_) (fun K hK => ?_)
      ·skip
       refine goes_ Tryd.func29 (by kernel_rfl) rfl #[.slice A0 (l0.take ((ji3) : Int).toNat).length c0] (by rfl) rfl rfl (by (try simp only [List.map_toArray, List.map_cons, List.map_nil]); first | done | (rw [show (l0.take ((ji3) : Int).toNat).length = (ji3).toNat from (by rw [List.length_take]; have h_ : ((ji3) : Int) ≤ (l0.length : Int) := oD (jA); omega)] <;> rfl) | (simp only [hji3]; rfl) | rfl | (simp only [List.length_drop, List.length_take]; rfl)) ?_
       with_reducible refine (crc_Seal.calls k _ _ (l0.take ((ji3) : Int).toNat) t219 _ ?side1 ?side2 A6.out).mono ?_
       (case side1 => exact jC (Kd.C_below HR218.out HB.out))
       (case side2 => exact HC218.out)
       rintro e w23 ⟨v220, rfl, ho0, hb⟩
       refine ⟨_, rfl, ?_⟩
       have HO221 := Aside0.mk (Kd.R_lower ho0 (zZ (jH HB)))
       replace HB := Aside0.mk (zT (jH HB) hb)
       (try clear hb)
       (try clear hb2)
       (try clear hk)
       (try clear hi)
       (try clear ho0)
       refine hK.out _ _ trivial (fun hHeld => ?_)
       clear hK K
       refine qN 13 ?_
       refine two_ (i := 4) (j := 6) (Ni := some 14) (Nj := some 16) #[true, true, true, true, true, true, false, false] (tB 8 111) rfl rfl rfl rfl (two_of HT_.out (by kernel_rfl)) (by decide) (by decide) (fun K hK => ?_) (fun K hK => ?_)
       ·skip
        have hcv24 := own_string (P := Tryd.prog) Tryd.underlying25 Tryd.underlying5 Tryd.underlying9 (Kd.own_of_R HO221.out)
        refine value_ (w1 := ?_) (v := ?_) (by rfl) rfl ?_ ?_
        rotate_left 2
        ·go_simp
         constructor
         ·rfl
         ·rfl
        clear hcv24
        refine hK.out _ _ trivial (fun hHeld => ?_)
        clear hK K
        refine qN 14 ?_
        refine one_ (i := 6) (N := some 16) (tB 8 127) rfl rfl (one_of HT_.out (by kernel_rfl)) (by decide) (fun K hK => ?_)
        have hcv25 := Kd.C_string (P := Tryd.prog) (A := A0) (c := c0) Tryd.underlying25 Tryd.underlying5 Tryd.underlying9 (Kd.C_below HR0.out HB.out)
        refine value_ (w1 := ?_) (v := ?_) (by rfl) rfl ?_ ?_
        rotate_left 2
        ·go_simp
         constructor
         ·rfl
         ·rfl
        clear hcv25
        refine hK.out _ _ trivial (fun hHeld => ?_)
        clear hK K
        refine qN 16 ?_
        exact norm_ (by simp only [putAll, Act.put, List.setIfInBounds_toArray, List.set_cons_zero, List.set_cons_succ]) (hCont (v220) _ ⟨(jR HO221), (jH HB)⟩)
       ·skip
        have hcv24 := Kd.C_string (P := Tryd.prog) (A := A0) (c := c0) Tryd.underlying25 Tryd.underlying5 Tryd.underlying9 (Kd.C_below HR0.out HB.out)
        refine value_ (w1 := ?_) (v := ?_) (by rfl) rfl ?_ ?_
        rotate_left 2
        ·go_simp
         constructor
         ·rfl
         ·rfl
        clear hcv24
        refine hK.out _ _ trivial (fun hHeld => ?_)
        clear hK K
        refine qN 16 ?_
        refine one_ (i := 4) (N := some 14) (tB 8 127) rfl rfl (one_of HT_.out (by kernel_rfl)) (by decide) (fun K hK => ?_)
        have hcv25 := own_string (P := Tryd.prog) Tryd.underlying25 Tryd.underlying5 Tryd.underlying9 (Kd.own_of_R HO221.out)
        refine value_ (w1 := ?_) (v := ?_) (by rfl) rfl ?_ ?_
        rotate_left 2
        ·go_simp
         constructor
         ·rfl
         ·rfl
        clear hcv25
        refine hK.out _ _ trivial (fun hHeld => ?_)
        clear hK K
        refine qN 14 ?_
        exact norm_ (by simp only [putAll, Act.put, List.setIfInBounds_toArray, List.set_cons_zero, List.set_cons_succ]) (hCont (v220) _ ⟨(jR HO221), (jH HB)⟩)
      ·skip
       have hcv23 := Kd.C_string (P := Tryd.prog) (A := A0) (c := c0) Tryd.underlying25 Tryd.underlying5 Tryd.underlying9 (Kd.C_below HR0.out HB.out)
       refine value_ (w1 := ?_) (v := ?_) (by rfl) rfl ?_ ?_
       rotate_left 2
       ·go_simp
        constructor
        ·rfl
        ·rfl
       clear hcv23
       refine hK.out _ _ trivial (fun hHeld => ?_)
       clear hK K
       refine qN 16 ?_
       refine one_ (i := 3) (N := some 13) (tB 8 111) rfl rfl (one_of HT_.out (by kernel_rfl)) (by decide) (fun K hK => ?_)
       refine goes_ Tryd.func29 (by kernel_rfl) rfl #[.slice A0 (l0.take ((ji3) : Int).toNat).length c0] (by rfl) rfl rfl (by (try simp only [List.map_toArray, List.map_cons, List.map_nil]); first | done | (rw [show (l0.take ((ji3) : Int).toNat).length = (ji3).toNat from (by rw [List.length_take]; have h_ : ((ji3) : Int) ≤ (l0.length : Int) := oD (jA); omega)] <;> rfl) | (simp only [hji3]; rfl) | rfl | (simp only [List.length_drop, List.length_take]; rfl)) ?_
       with_reducible refine (crc_Seal.calls k _ _ (l0.take ((ji3) : Int).toNat) t219 _ ?side1 ?side2 A6.out).mono ?_
       (case side1 => exact jC (Kd.C_below HR218.out HB.out))
       (case side2 => exact HC218.out)
       rintro e w24 ⟨v220, rfl, ho0, hb⟩
       refine ⟨_, rfl, ?_⟩
       have HO221 := Aside0.mk (Kd.R_lower ho0 (zZ (jH HB)))
       replace HB := Aside0.mk (zT (jH HB) hb)
       (try clear hb)
       (try clear hb2)
       (try clear hk)
       (try clear hi)
       (try clear ho0)
       refine hK.out _ _ trivial (fun hHeld => ?_)
       clear hK K
       refine qN 13 ?_
       refine one_ (i := 4) (N := some 14) (tB 8 127) rfl rfl (one_of HT_.out (by kernel_rfl)) (by decide) (fun K hK => ?_)
       have hcv25 := own_string (P := Tryd.prog) Tryd.underlying25 Tryd.underlying5 Tryd.underlying9 (Kd.own_of_R HO221.out)
       refine value_ (w1 := ?_) (v := ?_) (by rfl) rfl ?_ ?_
       rotate_left 2
       ·go_simp
        constructor
        ·rfl
        ·rfl
       clear hcv25
       refine hK.out _ _ trivial (fun hHeld => ?_)
       clear hK K
       refine qN 14 ?_
       exact norm_ (by simp only [putAll, Act.put, List.setIfInBounds_toArray, List.set_cons_zero, List.set_cons_succ]) (hCont (v220) _ ⟨(jR HO221), (jH HB)⟩)
     rintro v220 w26 ⟨h0_, h1_⟩
     have n0_ : Aside0 (Kd.R (Kd.int .u8) 5 w26 w.heap.size (fun _ => True) v220 t219) := ⟨h0_⟩
     have n1_ : Aside0 (Below w.heap.size w w26) := ⟨h1_⟩
     clear HB
     clear h0_ h1_
     have HO221 := n0_
     have HB := n1_
     clear n0_ n1_
     have hHeld := trivial
     refine norm_ (a' := ?_) ?_ ?_
     rotate_left
     ·simp only [putAll, Act.put, List.setIfInBounds_toArray, List.set_cons_zero, List.set_cons_succ]
      rfl
     refine qP 7 17 (tB 8 255) ?_
     refine done_ (done_of HT_.out (by kernel_rfl)) ?_
     try go_wp2
     go_ret2
     exact ⟨_, by first | rfl | (simp [errW_none, errW_some] <;> rfl) | (simp only [← hji3]; first | rfl | (simp [errW_none, errW_some] <;> rfl)) | (simp [*, errW_none, errW_some] <;> rfl), by first | exact Kd.R_nil _ _ _ _ _ | exact Kd.N_nil _ _ _ _ _ | exact Kd.V_nil _ _ _ _ _ | exact Kd.Q_nil _ _ _ _ _ | exact Kd.S_nil _ _ _ _ _, jH HB⟩
   ·rw [if_neg c5] at H
    exact absurd H (by simp)
  ·rw [if_neg c4] at H
   exact absurd H (by simp)
mutual
def codec_Decode.l0 : Nat → List Int → List (S59) → Option ((List (S59)) × Int)
 | 0, _, _ => none
 | k + 1, x0, x4 => if (x0.length : Int) > 0 then (if 0 < (x0.length : Int) then (if 1 < (x0.length : Int) then (if 2 < (x0.length : Int) then (if 3 < (x0.length : Int) then (codec_Decode.l1 k x0 x4 0 (Go.bits .or .i64 (wrap64 (rd x0 0)) (wrap64 ((wrap64 (rd x0 1)) * 256))) (wrap64 (rd x0 2)) (wrap64 (rd x0 3)) 0) else (none)) else (none)) else (none)) else (none)) else (some (x4, 0))
def codec_Decode.l1 : Nat → List Int → List (S59) → Int → Int → Int → Int → Int → Option ((List (S59)) × Int)
 | 0, _, _, _, _, _, _, _ => none
 | k + 1, x0, x4, x40, x234000, x234001, x234002, x234003 => if x40 < 4 then (if 0 ≤ (wrap64 (4 + x40)) then (if (wrap64 (4 + x40)) < (x0.length : Int) then (if 0 ≤ (wrap64 (8 * x40)) then (codec_Decode.l1 k x0 x4 (wrap64 (x40 + 1)) x234000 x234001 x234002 (Go.bits .or .u32 x234003 (shl .u32 ((rd x0 (wrap64 (4 + x40))) % 4294967296) (wrap64 (8 * x40))))) else (none)) else (none)) else (none)) else ((ins_Right.f k x234000 x234001 x234002 x234003).bind fun t235 => (if t235 = true then (if x4.length < 4398046511104 then (if 8 ≤ (x0.length : Int) then (codec_Decode.l0 k (x0.drop 8) (x4 ++ [(⟨x234000, x234001, x234002, x234003⟩ : S59)])) else (none)) else (none)) else (some (([] : List (S59)), 2))))
end
def codec_Decode.f (k : Nat) (l0 : List Int) : Option ((List (S59)) × Int) := if (l0.length : Int) > 32768 then (some (([] : List (S59)), 3)) else (if ((l0.length : Int) % 8) = 0 then (codec_Decode.l0 k l0 ([] : List (S59))) else (some (([] : List (S59)), 9)))
def codec_Decode.T8 : Bool × List (List Nat × List Nat) := (true, [([], []), ([0], [0]), ([1], [1]), ([2], [2]), ([], []), ([4], [4]), ([5], [5]), ([6], [6]), ([7], [7]), ([3, 8], [3, 8]), ([], []), ([10], [10]), ([11], [11]), ([12], [12]), ([], []), ([14], [14]), ([15], [15]), ([16], [16]), ([9, 13, 17], [9, 13, 17]), ([], []), ([19, 18, 0, 1, 2, 3, 4, 5, 6, 7, 8, 9, 10, 11, 12, 13, 14, 15, 16, 17, 18, 19], [18, 19])])
def codec_Decode.B8 : List Nat := [0, 1, 3, 7, 0, 16, 48, 112, 240, 511, 0, 1024, 3072, 7168, 0, 16384, 49152, 114688, 262143, 0, 1048575]
theorem codec_Decode.tab8 : rtab .any (opsOf Tryd.f46 8) = codec_Decode.T8 := by kernel_rfl
theorem codec_Decode.bits8 : waitsOk codec_Decode.T8.2 codec_Decode.B8 = true := by kernel_rfl
def codec_Decode.T12 : Bool × List (List Nat × List Nat) := (true, [([], []), ([0], [0]), ([], []), ([], []), ([3], [3]), ([2, 4], [2, 4]), ([5], [5]), ([6], [6]), ([], []), ([8], [8]), ([7, 9], [7, 9]), ([1, 10], [1, 10]), ([0, 1, 2, 3, 4, 5, 6, 7, 8, 9, 10, 11], []), ([12, 11, 0, 1, 2, 3, 4, 5, 6, 7, 8, 9, 10, 11], [11, 12])])
def codec_Decode.B12 : List Nat := [0, 1, 0, 0, 8, 28, 60, 124, 0, 256, 1020, 2047, 4095, 8191]
theorem codec_Decode.tab12 : rtab .any (opsOf Tryd.f46 12) = codec_Decode.T12 := by kernel_rfl
theorem codec_Decode.bits12 : waitsOk codec_Decode.T12.2 codec_Decode.B12 = true := by kernel_rfl
set_option maxHeartbeats 8000000 in
set_option maxRecDepth 100000 in
theorem codec_Decode.calls (k : Nat) (P0_ : Nat → Prop) (A0 : Option Addr) (c0 : Nat) (l0 : List Int) (r1 : List (S59)) (r2 : Int) (w : World) (hs0 : Kd.V (Kd.int .u8) 5 w w.heap.size (fun k_ => P0_ k_) (.slice A0 l0.length c0) l0) (hG : Glob w) (h : codec_Decode.f k l0 = some (r1, r2)) :
  Calls Tryd.prog 46 #[.slice A0 l0.length c0] w fun e w' => ∃ v0_ : Value, e = .returned (.tuple #[v0_, .int .i64 r2]) ∧ Kd.R k59 59 w' w.heap.size (fun k_ => (w.heap.size ≤ k_)) v0_ r1 ∧ Below w.heap.size w w' := by
 have hu59 := Tryd.underlying59
 have HG := Aside0.mk hG
 clear hG
 have HO0 := Aside0.mk (show Kd.V (Kd.int .u8) 5 w w.heap.size (fun k_ => (P0_ k_ ∨ w.heap.size ≤ k_)) (.slice A0 l0.length c0) l0 from Kd.V_mono hs0 (fun k_ hk => .inl hk))
 have HB := Aside0.mk (Below.refl w.heap.size w)
 have H : (if (l0.length : Int) > 32768 then (some (([] : List (S59)), 3)) else (if ((l0.length : Int) % 8) = 0 then (codec_Decode.l0 k l0 ([] : List (S59))) else (some (([] : List (S59)), 9)))) = some (r1, r2) := h
 clear h
 by_cases c2 : (l0.length : Int) > 32768
 ·rw [if_pos c2] at H
  have c2b0 : decide (32768 < (l0.length : Int)) = true := dT c2
  have c2b1 : decide (32768 < l0.length) = true := dT (by omega)
  clear c2
  simp only [Option.some.injEq, Prod.mk.injEq] at H
  obtain ⟨rfl, rfl⟩ := H
  go_enter Tryd.func46, Tryd.ntmps46
  go_wp2
  go_ret2
  exact ⟨_, jE, by first | exact Kd.R_nil _ _ _ _ _ | exact Kd.N_nil _ _ _ _ _ | exact Kd.V_nil _ _ _ _ _ | exact Kd.Q_nil _ _ _ _ _ | exact Kd.S_nil _ _ _ _ _, jH HB⟩
 ·rw [if_neg c2] at H
  have c2b0 : decide (32768 < (l0.length : Int)) = false := dF c2
  have c2b1 : decide (32768 < l0.length) = false := dF (by omega)
  clear c2
  by_cases c3 : ((l0.length : Int) % 8) = 0
  ·rw [if_pos c3] at H
   have c3b0 : (((l0.length : Int) % 8) == 0) = true := bI.mpr c3
   have c3b1 : (((l0.length : Int) % 8) != 0) = false := nF.mpr c3
   clear c3
   have H' := Aside0.mk H
   clear H
   go_enter Tryd.func46, Tryd.ntmps46
   go_wp2
   go_loopg [0, 4] k (fun kq v0 v4 w' => ∃ (x0_1 : List Int) (x4_1 : List (S59)), Aside0 (codec_Decode.l0 kq x0_1 x4_1 = some (r1, r2)) ∧ Aside0 (kq ≤ k) ∧ Aside0 (Kd.V (Kd.int .u8) 5 w' w.heap.size (fun k_ => (P0_ k_ ∨ w.heap.size ≤ k_) ∧ some k_ ≠ (v4 : Value).ownBlock) v0 x0_1) ∧ Aside0 (Kd.R k59 59 w' w.heap.size (fun k_ => (w.heap.size ≤ k_)) v4 x4_1) ∧ Aside0 (Below w.heap.size w w'))
   case atStart => exact ⟨(l0), (([] : List (S59))), H', ⟨Nat.le_refl _⟩, ⟨by (with_reducible repeat (first | apply Kd.V_alloc | apply Kd.V_drewN | apply Kd.V_drew)); exact Kd.V_mono HO0.out (fun _ hk => ⟨hk, (by simp [Value.ownBlock])⟩)⟩, ⟨by first | exact Kd.R_nil _ _ _ _ _ | exact Kd.N_nil _ _ _ _ _ | exact Kd.V_nil _ _ _ _ _ | exact Kd.Q_nil _ _ _ _ _ | exact Kd.S_nil _ _ _ _ _⟩, ⟨jH HB⟩⟩
   case round =>
    clear H'
    obtain ⟨x0_1, x4_1, HA, HK1, HO_0, HO_4, HB⟩ := hrel
    cases gk with
    | zero => exact absurd HA.out (by simp [codec_Decode.l0])
    | succ k1 =>
     have H := HA.out
     clear HA
     simp only [codec_Decode.l0] at H
     by_cases c4 : (x0_1.length : Int) > 0
     ·rw [if_pos c4] at H
      have c4b0 : decide (0 < (x0_1.length : Int)) = true := dT c4
      have c4b1 : decide (0 < x0_1.length) = true := dT (by omega)
      clear c4
      by_cases c5 : 0 < (x0_1.length : Int)
      ·rw [if_pos c5] at H
       have c5b0 := dT c5
       have c5b1 : decide (0 < x0_1.length) = true := dT (by omega)
       clear c5
       by_cases c6 : 1 < (x0_1.length : Int)
       ·rw [if_pos c6] at H
        have c6b0 := dT c6
        have c6b1 : decide (1 < x0_1.length) = true := dT (by omega)
        clear c6
        by_cases c7 : 2 < (x0_1.length : Int)
        ·rw [if_pos c7] at H
         have c7b0 := dT c7
         have c7b1 : decide (2 < x0_1.length) = true := dT (by omega)
         clear c7
         by_cases c8 : 3 < (x0_1.length : Int)
         ·rw [if_pos c8] at H
          have c8b0 := dT c8
          have c8b1 : decide (3 < x0_1.length) = true := dT (by omega)
          clear c8
          have H' := Aside0.mk H
          clear H
          obtain ⟨Ao9, co9, eo9⟩ := Kd.V_slice HO_0.out
          subst eo9
          try go_wp2
          replace HO_0 := Aside0.mk (Kd.V_drew HO_0.out)
          replace HO_4 := Aside0.mk (Kd.R_drew HO_4.out)
          replace HB := Aside0.mk (zD HB.out)
          have p229 : 0 ≤ (0 : Int) := (by omega)
          have q229 : 0 < (x0_1.length : Int) := oD (jA)
          obtain ⟨ad229, e229, hx229_0⟩ := Kd.at_int (Kd.V_reads' HO_0.out).2.2 0 p229 q229
          cases e229
          have qi229 : (0 < x0_1.length) = True := eq_true (by omega)
          (try rw [show ((0 : Int)).toNat = 0 from rfl] at hx229_0)
          (try rw [Addr.add_zero'] at hx229_0)
          replace p229 := eq_true p229
          replace q229 := eq_true q229
          have p230 : 0 ≤ (1 : Int) := (by omega)
          have q230 : 1 < (x0_1.length : Int) := oD (jA)
          obtain ⟨ad230, e230, hx230_0⟩ := Kd.at_int (Kd.V_reads' HO_0.out).2.2 1 p230 q230
          obtain rfl : ad229 = ad230 := (by injection e230)
          (try simp only [show (1 : Int).toNat = 1 from rfl, Nat.reduceMul, Nat.reduceEqDiff, Go.Addr.add, ↓reduceIte] at hx230_0)
          have qi230 : (1 < x0_1.length) = True := eq_true (by omega)
          (try rw [show ((1 : Int)).toNat = 1 from rfl] at hx230_0)
          replace p230 := eq_true p230
          replace q230 := eq_true q230
          have p231 : 0 ≤ (2 : Int) := (by omega)
          have q231 : 2 < (x0_1.length : Int) := oD (jA)
          obtain ⟨ad231, e231, hx231_0⟩ := Kd.at_int (Kd.V_reads' HO_0.out).2.2 2 p231 q231
          obtain rfl : ad229 = ad231 := (by injection e231)
          (try simp only [show (2 : Int).toNat = 2 from rfl, Nat.reduceMul, Nat.reduceEqDiff, Go.Addr.add, ↓reduceIte] at hx231_0)
          have qi231 : (2 < x0_1.length) = True := eq_true (by omega)
          (try rw [show ((2 : Int)).toNat = 2 from rfl] at hx231_0)
          replace p231 := eq_true p231
          replace q231 := eq_true q231
          have p232 : 0 ≤ (3 : Int) := (by omega)
          have q232 : 3 < (x0_1.length : Int) := oD (jA)
          obtain ⟨ad232, e232, hx232_0⟩ := Kd.at_int (Kd.V_reads' HO_0.out).2.2 3 p232 q232
          obtain rfl : ad229 = ad232 := (by injection e232)
          (try simp only [show (3 : Int).toNat = 3 from rfl, Nat.reduceMul, Nat.reduceEqDiff, Go.Addr.add, ↓reduceIte] at hx232_0)
          have qi232 : (3 < x0_1.length) = True := eq_true (by omega)
          (try rw [show ((3 : Int)).toNat = 3 from rfl] at hx232_0)
          replace p232 := eq_true p232
          replace q232 := eq_true q232
          refine start_ (n := 21) (S := fun w' => w'.cell? ad229 = some (.int .u8 (rd x0_1 0)) ∧ w'.cell? ⟨ad229.block, ad229.off + 1, none⟩ = some (.int .u8 (rd x0_1 1)) ∧ w'.cell? ⟨ad229.block, ad229.off + 2, none⟩ = some (.int .u8 (rd x0_1 2)) ∧ w'.cell? ⟨ad229.block, ad229.off + 3, none⟩ = some (.int .u8 (rd x0_1 3))) (ds := []) #[false, false, false, false, false, false, false, false, false, false, false, false, false, false, false, false, false, false, false, false, false] (by kernel_rfl) rfl rfl ⟨hx229_0, hx230_0, hx231_0, hx232_0⟩ (fun hHeld => ?_); refine with_tabW codec_Decode.tab8 codec_Decode.bits8 (fun HT_ HW_ => ?_)
          generalize wr.drew = w10 at HO_0 HO_4 HB hx229_0 hx230_0 hx231_0 hx232_0 hHeld ⊢
          refine qP 0 21 (tB 21 1) ?_
          refine qP 1 22 (tB 21 3) ?_
          refine qP 4 25 (tB 21 19) ?_
          refine qP 5 26 (tB 21 51) ?_
          refine qP 10 31 (tB 21 1075) ?_
          refine qP 11 32 (tB 21 3123) ?_
          refine qP 14 35 (tB 21 19507) ?_
          refine qP 15 36 (tB 21 52275) ?_
          refine qT 2 23 (tB 21 52279) hHeld ?_ (hv := by rintro w' ⟨s0, s1, s2, s3⟩; go_simp; with_reducible rfl)
          refine qP 3 24 (tB 21 52287) ?_
          refine qT 6 27 (tB 21 52351) hHeld ?_ (hv := by rintro w' ⟨s0, s1, s2, s3⟩; go_simp; with_reducible rfl)
          refine qP 7 28 (tB 21 52479) ?_
          refine qP 8 29 (tB 21 52735) ?_
          refine qP 9 30 (tB 21 53247) ?_
          refine qT 12 33 (tB 21 57343) hHeld ?_ (hv := by rintro w' ⟨s0, s1, s2, s3⟩; go_simp; with_reducible rfl)
          refine qP 13 34 (tB 21 65535) ?_
          refine qT 16 37 (tB 21 131071) hHeld ?_ (hv := by rintro w' ⟨s0, s1, s2, s3⟩; go_simp; with_reducible rfl)
          refine qP 17 38 (tB 21 262143) ?_
          refine qP 18 39 (tB 21 524287) ?_
          refine one_ (i := 19) (N := some 5) (tB 21 1048575) rfl rfl (one_of HT_.out (by kernel_rfl)) (by decide) (fun K hK => ?_)
          refine box_step ?hg (N := 5) ?hd (cs := #[.int .i64 0, .int .i64 0, .int .i64 0, .int .u32 0]) (t := 59) ?hr ?_; (case hd => rfl); (case hg => rfl); (case hr => first | (go_simp; done) | (go_simp; rfl))
          intro gb233 hg w11 hbox hb
          have HS0_ := (hb.cell (bL _ _ (hHeld.1))).trans (hHeld.1)
          have HS1_ := (hb.cell (bL _ _ (hHeld.2.1))).trans (hHeld.2.1)
          have HS2_ := (hb.cell (bL _ _ (hHeld.2.2.1))).trans (hHeld.2.2.1)
          have HS3_ := (hb.cell (bL _ _ (hHeld.2.2.2))).trans (hHeld.2.2.2)
          have BK233 := Aside0.mk hbox
          have GW233 := Aside0.mk (jG hg HB)
          have GE233 := Aside0.mk (jG hg HB)
          replace HO_0 := Aside0.mk (Kd.V_below (Kd.V_elderB (jV HO_0) gb233 (Nat.le_of_eq hg.symm)) hb)
          replace HO_4 := Aside0.mk (Kd.R_below (Kd.R_elderB (jR HO_4) gb233 (Nat.le_of_eq hg.symm)) hb)
          replace HB := Aside0.mk (zT (jH HB) hb)
          clear hb hbox hg
          refine hK.out _ _ ⟨HS0_, HS1_, HS2_, HS3_⟩ (fun hHeld => ?_)
          clear hK K
          refine qN 5 ?_
          refine one_ (i := 20) (N := none) (tB 21 2097151) rfl rfl (one_of HT_.out (by kernel_rfl)) (by decide) (fun K hK => ?_)
          have hs12 : w11.cell? ⟨gb233, 0, none⟩ = some (.int .i64 0) := (kC BK233.out 0).trans rfl
          have hfs12 := kF BK233.out 0
          have hs13 : w11.cell? ⟨gb233, 1, none⟩ = some (.int .i64 0) := (kC BK233.out 1).trans rfl
          have hfs13 := kF BK233.out 1
          have hs14 : w11.cell? ⟨gb233, 2, none⟩ = some (.int .i64 0) := (kC BK233.out 2).trans rfl
          have hfs14 := kF BK233.out 2
          have hs15 : w11.cell? ⟨gb233, 3, none⟩ = some (.int .u32 0) := (kC BK233.out 3).trans rfl
          have hfs15 := kF BK233.out 3
          refine skip_ (w1 := ?_) (by rfl) rfl ?_ ?_
          rotate_left
          ·go_simp
           rfl
          refine hK.out _ _ ⟨((cell_far (p := ⟨gb233, _, none⟩) (by first | exact Kd.own_blk (Kd.V_away HO_0.out (fun _ hk => hk.2)) | (rw [add_block]; exact Kd.own_blk (Kd.V_away HO_0.out (fun _ hk => hk.2))) | (show (Addr.add _ _).block ≠ _; rw [add_block]; exact Kd.own_blk (Kd.V_away HO_0.out (fun _ hk => hk.2))) | (dsimp only; exact Kd.own_blk (Kd.V_away HO_0.out (fun _ hk => hk.2)))) _).trans (((cell_far (p := ⟨gb233, _, none⟩) (by first | exact Kd.own_blk (Kd.V_away HO_0.out (fun _ hk => hk.2)) | (rw [add_block]; exact Kd.own_blk (Kd.V_away HO_0.out (fun _ hk => hk.2))) | (show (Addr.add _ _).block ≠ _; rw [add_block]; exact Kd.own_blk (Kd.V_away HO_0.out (fun _ hk => hk.2))) | (dsimp only; exact Kd.own_blk (Kd.V_away HO_0.out (fun _ hk => hk.2)))) _).trans (((cell_far (p := ⟨gb233, _, none⟩) (by first | exact Kd.own_blk (Kd.V_away HO_0.out (fun _ hk => hk.2)) | (rw [add_block]; exact Kd.own_blk (Kd.V_away HO_0.out (fun _ hk => hk.2))) | (show (Addr.add _ _).block ≠ _; rw [add_block]; exact Kd.own_blk (Kd.V_away HO_0.out (fun _ hk => hk.2))) | (dsimp only; exact Kd.own_blk (Kd.V_away HO_0.out (fun _ hk => hk.2)))) _).trans (((cell_far (p := ⟨gb233, _, none⟩) (by first | exact Kd.own_blk (Kd.V_away HO_0.out (fun _ hk => hk.2)) | (rw [add_block]; exact Kd.own_blk (Kd.V_away HO_0.out (fun _ hk => hk.2))) | (show (Addr.add _ _).block ≠ _; rw [add_block]; exact Kd.own_blk (Kd.V_away HO_0.out (fun _ hk => hk.2))) | (dsimp only; exact Kd.own_blk (Kd.V_away HO_0.out (fun _ hk => hk.2)))) _).trans (hHeld.1)))))))), ((cell_far (p := ⟨gb233, _, none⟩) (by first | exact Kd.own_blk (Kd.V_away HO_0.out (fun _ hk => hk.2)) | (rw [add_block]; exact Kd.own_blk (Kd.V_away HO_0.out (fun _ hk => hk.2))) | (show (Addr.add _ _).block ≠ _; rw [add_block]; exact Kd.own_blk (Kd.V_away HO_0.out (fun _ hk => hk.2))) | (dsimp only; exact Kd.own_blk (Kd.V_away HO_0.out (fun _ hk => hk.2)))) _).trans (((cell_far (p := ⟨gb233, _, none⟩) (by first | exact Kd.own_blk (Kd.V_away HO_0.out (fun _ hk => hk.2)) | (rw [add_block]; exact Kd.own_blk (Kd.V_away HO_0.out (fun _ hk => hk.2))) | (show (Addr.add _ _).block ≠ _; rw [add_block]; exact Kd.own_blk (Kd.V_away HO_0.out (fun _ hk => hk.2))) | (dsimp only; exact Kd.own_blk (Kd.V_away HO_0.out (fun _ hk => hk.2)))) _).trans (((cell_far (p := ⟨gb233, _, none⟩) (by first | exact Kd.own_blk (Kd.V_away HO_0.out (fun _ hk => hk.2)) | (rw [add_block]; exact Kd.own_blk (Kd.V_away HO_0.out (fun _ hk => hk.2))) | (show (Addr.add _ _).block ≠ _; rw [add_block]; exact Kd.own_blk (Kd.V_away HO_0.out (fun _ hk => hk.2))) | (dsimp only; exact Kd.own_blk (Kd.V_away HO_0.out (fun _ hk => hk.2)))) _).trans (((cell_far (p := ⟨gb233, _, none⟩) (by first | exact Kd.own_blk (Kd.V_away HO_0.out (fun _ hk => hk.2)) | (rw [add_block]; exact Kd.own_blk (Kd.V_away HO_0.out (fun _ hk => hk.2))) | (show (Addr.add _ _).block ≠ _; rw [add_block]; exact Kd.own_blk (Kd.V_away HO_0.out (fun _ hk => hk.2))) | (dsimp only; exact Kd.own_blk (Kd.V_away HO_0.out (fun _ hk => hk.2)))) _).trans (hHeld.2.1)))))))), ((cell_far (p := ⟨gb233, _, none⟩) (by first | exact Kd.own_blk (Kd.V_away HO_0.out (fun _ hk => hk.2)) | (rw [add_block]; exact Kd.own_blk (Kd.V_away HO_0.out (fun _ hk => hk.2))) | (show (Addr.add _ _).block ≠ _; rw [add_block]; exact Kd.own_blk (Kd.V_away HO_0.out (fun _ hk => hk.2))) | (dsimp only; exact Kd.own_blk (Kd.V_away HO_0.out (fun _ hk => hk.2)))) _).trans (((cell_far (p := ⟨gb233, _, none⟩) (by first | exact Kd.own_blk (Kd.V_away HO_0.out (fun _ hk => hk.2)) | (rw [add_block]; exact Kd.own_blk (Kd.V_away HO_0.out (fun _ hk => hk.2))) | (show (Addr.add _ _).block ≠ _; rw [add_block]; exact Kd.own_blk (Kd.V_away HO_0.out (fun _ hk => hk.2))) | (dsimp only; exact Kd.own_blk (Kd.V_away HO_0.out (fun _ hk => hk.2)))) _).trans (((cell_far (p := ⟨gb233, _, none⟩) (by first | exact Kd.own_blk (Kd.V_away HO_0.out (fun _ hk => hk.2)) | (rw [add_block]; exact Kd.own_blk (Kd.V_away HO_0.out (fun _ hk => hk.2))) | (show (Addr.add _ _).block ≠ _; rw [add_block]; exact Kd.own_blk (Kd.V_away HO_0.out (fun _ hk => hk.2))) | (dsimp only; exact Kd.own_blk (Kd.V_away HO_0.out (fun _ hk => hk.2)))) _).trans (((cell_far (p := ⟨gb233, _, none⟩) (by first | exact Kd.own_blk (Kd.V_away HO_0.out (fun _ hk => hk.2)) | (rw [add_block]; exact Kd.own_blk (Kd.V_away HO_0.out (fun _ hk => hk.2))) | (show (Addr.add _ _).block ≠ _; rw [add_block]; exact Kd.own_blk (Kd.V_away HO_0.out (fun _ hk => hk.2))) | (dsimp only; exact Kd.own_blk (Kd.V_away HO_0.out (fun _ hk => hk.2)))) _).trans (hHeld.2.2.1)))))))), ((cell_far (p := ⟨gb233, _, none⟩) (by first | exact Kd.own_blk (Kd.V_away HO_0.out (fun _ hk => hk.2)) | (rw [add_block]; exact Kd.own_blk (Kd.V_away HO_0.out (fun _ hk => hk.2))) | (show (Addr.add _ _).block ≠ _; rw [add_block]; exact Kd.own_blk (Kd.V_away HO_0.out (fun _ hk => hk.2))) | (dsimp only; exact Kd.own_blk (Kd.V_away HO_0.out (fun _ hk => hk.2)))) _).trans (((cell_far (p := ⟨gb233, _, none⟩) (by first | exact Kd.own_blk (Kd.V_away HO_0.out (fun _ hk => hk.2)) | (rw [add_block]; exact Kd.own_blk (Kd.V_away HO_0.out (fun _ hk => hk.2))) | (show (Addr.add _ _).block ≠ _; rw [add_block]; exact Kd.own_blk (Kd.V_away HO_0.out (fun _ hk => hk.2))) | (dsimp only; exact Kd.own_blk (Kd.V_away HO_0.out (fun _ hk => hk.2)))) _).trans (((cell_far (p := ⟨gb233, _, none⟩) (by first | exact Kd.own_blk (Kd.V_away HO_0.out (fun _ hk => hk.2)) | (rw [add_block]; exact Kd.own_blk (Kd.V_away HO_0.out (fun _ hk => hk.2))) | (show (Addr.add _ _).block ≠ _; rw [add_block]; exact Kd.own_blk (Kd.V_away HO_0.out (fun _ hk => hk.2))) | (dsimp only; exact Kd.own_blk (Kd.V_away HO_0.out (fun _ hk => hk.2)))) _).trans (((cell_far (p := ⟨gb233, _, none⟩) (by first | exact Kd.own_blk (Kd.V_away HO_0.out (fun _ hk => hk.2)) | (rw [add_block]; exact Kd.own_blk (Kd.V_away HO_0.out (fun _ hk => hk.2))) | (show (Addr.add _ _).block ≠ _; rw [add_block]; exact Kd.own_blk (Kd.V_away HO_0.out (fun _ hk => hk.2))) | (dsimp only; exact Kd.own_blk (Kd.V_away HO_0.out (fun _ hk => hk.2)))) _).trans (hHeld.2.2.2))))))))⟩ (fun hHeld => ?_)
          clear hK K
          refine done_ (done_of HT_.out (by kernel_rfl)) ?_
          try go_wp2
          go_loopg [40] k1 (fun kq v40 w' => ∃ (x40_2 : Int) (x234003_2 : Int), v40 = .int .i64 x40_2 ∧ Aside0 (codec_Decode.l1 kq x0_1 x4_1 x40_2 (Go.bits .or .i64 (wrap64 (rd x0_1 0)) (wrap64 ((wrap64 (rd x0_1 1)) * 256))) (wrap64 (rd x0_1 2)) (wrap64 (rd x0_1 3)) x234003_2 = some (r1, r2)) ∧ Aside0 (kq ≤ k1) ∧ Aside0 (Kd.V (Kd.int .u8) 5 w' w.heap.size (fun k_ => (P0_ k_ ∨ w.heap.size ≤ k_) ∧ some k_ ≠ (u4 : Value).ownBlock ∧ k_ ≠ gb233) (.slice (some ad229) x0_1.length co9) x0_1) ∧ Aside0 (Kd.R k59 59 w' w.heap.size (fun k_ => (w.heap.size ≤ k_) ∧ k_ ≠ gb233) u4 x4_1) ∧ Aside0 (w'.heap[gb233]? = some (.cells #[.int .i64 (Go.bits .or .i64 (wrap64 (rd x0_1 0)) (wrap64 ((wrap64 (rd x0_1 1)) * 256))), .int .i64 (wrap64 (rd x0_1 2)), .int .i64 (wrap64 (rd x0_1 3)), .int .u32 x234003_2] 59 (0, 0))) ∧ Aside0 (Below w.heap.size w w'))
          case atStart => exact ⟨(0), (0), jS, H', ⟨Nat.le_refl _⟩, ⟨by (with_reducible repeat (first | apply Kd.V_alloc | apply Kd.V_drewN | apply Kd.V_drew)); exact Kd.V_mono (Kd.V_far (p := ⟨gb233, 3, none⟩) (Kd.V_far (p := ⟨gb233, 2, none⟩) (Kd.V_far (p := ⟨gb233, 1, none⟩) (Kd.V_far (p := ⟨gb233, 0, none⟩) (Kd.V_mono HO_0.out (fun k_ hk => (⟨hk, hk.2⟩ : _ ∧ k_ ≠ gb233))) (fun _ hk => hk.2) (.int .i64 (Go.bits .or .i64 (wrap64 (rd x0_1 0)) (wrap64 ((wrap64 (rd x0_1 1)) * 256))))) (fun _ hk => hk.2) (.int .i64 (wrap64 (rd x0_1 2)))) (fun _ hk => hk.2) (.int .i64 (wrap64 (rd x0_1 3)))) (fun _ hk => hk.2) (.int .u32 0)) (fun _ hk => ⟨hk.1.1.1, ⟨hk.1.1.2, hk.1.2⟩⟩)⟩, ⟨by (with_reducible repeat (first | apply Kd.R_alloc | apply Kd.R_drewN | apply Kd.R_drew)); exact Kd.R_mono (Kd.R_far (p := ⟨gb233, 3, none⟩) (Kd.R_far (p := ⟨gb233, 2, none⟩) (Kd.R_far (p := ⟨gb233, 1, none⟩) (Kd.R_far (p := ⟨gb233, 0, none⟩) (Kd.R_mono HO_4.out (fun k_ hk => (⟨hk, hk.2⟩ : _ ∧ k_ ≠ gb233))) (fun _ hk => hk.2) (.int .i64 (Go.bits .or .i64 (wrap64 (rd x0_1 0)) (wrap64 ((wrap64 (rd x0_1 1)) * 256))))) (fun _ hk => hk.2) (.int .i64 (wrap64 (rd x0_1 2)))) (fun _ hk => hk.2) (.int .i64 (wrap64 (rd x0_1 3)))) (fun _ hk => hk.2) (.int .u32 0)) (fun _ hk => ⟨hk.1.1, hk.1.2⟩)⟩, ⟨by (with_reducible repeat (first | refine kN ?_ _ | refine kD ?_ | refine kA ?_ _)); refine kP (cs := #[.int .i64 (Go.bits .or .i64 (wrap64 (rd x0_1 0)) (wrap64 ((wrap64 (rd x0_1 1)) * 256))), .int .i64 (wrap64 (rd x0_1 2)), .int .i64 (wrap64 (rd x0_1 3)), .int .u32 0]) ?_ 3 _ rfl; (with_reducible repeat (first | refine kN ?_ _ | refine kD ?_ | refine kA ?_ _)); refine kP (cs := #[.int .i64 (Go.bits .or .i64 (wrap64 (rd x0_1 0)) (wrap64 ((wrap64 (rd x0_1 1)) * 256))), .int .i64 (wrap64 (rd x0_1 2)), .int .i64 0, .int .u32 0]) ?_ 2 _ rfl; (with_reducible repeat (first | refine kN ?_ _ | refine kD ?_ | refine kA ?_ _)); refine kP (cs := #[.int .i64 (Go.bits .or .i64 (wrap64 (rd x0_1 0)) (wrap64 ((wrap64 (rd x0_1 1)) * 256))), .int .i64 0, .int .i64 0, .int .u32 0]) ?_ 1 _ rfl; (with_reducible repeat (first | refine kN ?_ _ | refine kD ?_ | refine kA ?_ _)); refine kP (cs := #[.int .i64 0, .int .i64 0, .int .i64 0, .int .u32 0]) ?_ 0 _ rfl; (with_reducible repeat (first | refine kN ?_ _ | refine kD ?_ | refine kA ?_ _)); exact BK233.out⟩, ⟨jH HB⟩⟩
          case round =>
           clear H'
           obtain ⟨x40_2, x234003_2, rfl, HA, HK2, HO_0, HO_4, BK233, HB⟩ := hrel
           cases gk with
           | zero => exact absurd HA.out (by simp [codec_Decode.l1])
           | succ k2 =>
            have H := HA.out
            clear HA
            simp only [codec_Decode.l1] at H
            by_cases c16 : x40_2 < 4
            ·rw [if_pos c16] at H
             have c16b0 := dT c16
             clear c16
             obtain ⟨ji17, hji17⟩ : ∃ j_ : Int, (wrap64 (4 + x40_2)) = j_ := ⟨_, rfl⟩
             first | rw [hji17] at H | simp only [hji17] at H
             have hji17w : (IntKind.i64.wrap (4 + x40_2)) = ji17 := (i64_w _).trans hji17
             by_cases c18 : 0 ≤ (ji17)
             ·rw [if_pos c18] at H
              have c18b0 := dT c18
              clear c18
              by_cases c19 : (ji17) < (x0_1.length : Int)
              ·rw [if_pos c19] at H
               have c19b0 := dT c19
               clear c19
               obtain ⟨ji20, hji20⟩ : ∃ j_ : Int, (wrap64 (8 * x40_2)) = j_ := ⟨_, rfl⟩
               first | rw [hji20] at H | simp only [hji20] at H
               have hji20w : (IntKind.i64.wrap (8 * x40_2)) = ji20 := (i64_w _).trans hji20
               by_cases c21 : 0 ≤ (ji20)
               ·rw [if_pos c21] at H
                have c21b0 := eq_true c21
                have c21b1 := dT c21
                clear c21
                obtain ⟨ji22, hji22⟩ : ∃ j_ : Int, (shl .u32 ((rd x0_1 (ji17)) % 4294967296) (ji20)) = j_ := ⟨_, rfl⟩
                first | rw [hji22] at H | simp only [hji22] at H
                have hji22_ : (IntKind.u32.wrap (((rd x0_1 (ji17)) % 4294967296) * 2 ^ min (ji20).toNat 32)) = ji22 := hji22
                have hji22z : (ji20) ≤ 32 → (IntKind.u32.wrap (((rd x0_1 (ji17)) % 4294967296) * 2 ^ (ji20).toNat)) = ji22 := shl_small hji22
                have hji22m : ((((rd x0_1 (ji17)) % 4294967296) * 2 ^ min (ji20).toNat 32) % 4294967296) = ji22 := (IntKind.wrap_u32 _).symm.trans hji22_
                have H' := Aside0.mk H
                clear H
                try go_wp2
                replace HO_0 := Aside0.mk (Kd.V_drew HO_0.out)
                replace HO_4 := Aside0.mk (Kd.R_drew HO_4.out)
                replace BK233 := Aside0.mk (kD BK233.out)
                replace HB := Aside0.mk (zD HB.out)
                have p234 : 0 ≤ ((ji17) : Int) := oD (jA)
                have q234 : (ji17) < (x0_1.length : Int) := oD (jA)
                obtain ⟨ad234, e234, hx234_0⟩ := Kd.at_int (Kd.V_reads' HO_0.out).2.2 (ji17) p234 q234
                obtain rfl : ad229 = ad234 := (by injection e234)
                replace p234 := eq_true p234
                replace q234 := eq_true q234
                refine start_ (n := 14) (S := fun w' => w'.cell? ⟨gb233, 0, none⟩ = some (.int .i64 (Go.bits .or .i64 (wrap64 (rd x0_1 0)) (wrap64 ((wrap64 (rd x0_1 1)) * 256)))) ∧ w'.cell? ⟨gb233, 1, none⟩ = some (.int .i64 (wrap64 (rd x0_1 2))) ∧ w'.cell? ⟨gb233, 2, none⟩ = some (.int .i64 (wrap64 (rd x0_1 3))) ∧ w'.cell? ⟨gb233, 3, none⟩ = some (.int .u32 x234003_2) ∧ w'.cell? (ad229.add ((ji17)).toNat) = some (.int .u8 (rd x0_1 (ji17)))) (ds := [13]) #[false, false, false, false, false, false, false, false, false, false, false, false, false, false] (by kernel_rfl) rfl rfl ⟨(kC BK233.out 0).trans rfl, (kC BK233.out 1).trans rfl, (kC BK233.out 2).trans rfl, (kC BK233.out 3).trans rfl, hx234_0⟩ (fun hHeld => ?_); refine with_tabW codec_Decode.tab12 codec_Decode.bits12 (fun HT_ HW_ => ?_)
                generalize wr.drew = w23 at HO_0 HO_4 BK233 HB hx234_0 hHeld ⊢
                refine qP 0 43 (tB 14 1) ?_
                refine qP 2 45 (tB 14 5) ?_
                refine qP 3 46 (tB 14 13) ?_
                refine qP 4 47 (tB 14 29) ?_
                refine qP 5 48 (tB 14 61) ?_
                refine qP 8 51 (tB 14 317) ?_
                refine qP 9 52 (tB 14 829) ?_
                refine qT 1 44 (tB 14 831) hHeld ?_ (hv := by rintro w' ⟨s0, s1, s2, s3, s4⟩; go_simp; with_reducible rfl)
                refine qT 6 49 (tB 14 895) hHeld ?_ (hv := by rintro w' ⟨s0, s1, s2, s3, s4⟩; go_simp; with_reducible rfl)
                refine qP 7 50 (tB 14 1023) ?_
                refine qP 10 53 (tB 14 2047) ?_
                refine qP 11 54 (tB 14 4095) ?_
                refine qP 12 55 (tB 14 8191) ?_
                refine last_ (i := 13) (N := none) (tB 14 16383) rfl rfl (one_of HT_.out (by kernel_rfl)) (by decide) (fun K hK => ?_)
                have hs24 : w23.cell? ⟨gb233, 3, none⟩ = some (.int .u32 x234003_2) := (kC BK233.out 3).trans rfl
                have hfs24 := kF BK233.out 3
                refine skip_ (w1 := ?_) (by rfl) rfl ?_ ?_
                rotate_left
                ·go_simp
                 rfl
                refine hK.out _ _ ?_
                clear hK K
                refine done_ (done_of HT_.out (by kernel_rfl)) ?_
                try go_wp2
                go_roundg k2
                case measure => have := HK1.out; have := HK2.out; omega
                case rel => exact ⟨(wrap64 (x40_2 + 1)), (Go.bits .or .u32 x234003_2 (ji22)), jS, H', ⟨by have := HK1.out; have := HK2.out; omega⟩, ⟨by (with_reducible repeat (first | apply Kd.V_alloc | apply Kd.V_drewN | apply Kd.V_drew)); exact Kd.V_mono (Kd.V_far (p := ⟨gb233, 3, none⟩) (Kd.V_mono HO_0.out (fun k_ hk => (⟨hk, hk.2.2⟩ : _ ∧ k_ ≠ gb233))) (fun _ hk => hk.2) (.int .u32 (Go.bits .or .u32 x234003_2 (ji22)))) (fun _ hk => ⟨hk.1.1, ⟨hk.1.2.1, hk.1.2.2⟩⟩)⟩, ⟨by (with_reducible repeat (first | apply Kd.R_alloc | apply Kd.R_drewN | apply Kd.R_drew)); exact Kd.R_mono (Kd.R_far (p := ⟨gb233, 3, none⟩) (Kd.R_mono HO_4.out (fun k_ hk => (⟨hk, hk.2⟩ : _ ∧ k_ ≠ gb233))) (fun _ hk => hk.2) (.int .u32 (Go.bits .or .u32 x234003_2 (ji22)))) (fun _ hk => ⟨hk.1.1, hk.1.2⟩)⟩, ⟨by (with_reducible repeat (first | refine kN ?_ _ | refine kD ?_ | refine kA ?_ _)); refine kP (cs := #[.int .i64 (Go.bits .or .i64 (wrap64 (rd x0_1 0)) (wrap64 ((wrap64 (rd x0_1 1)) * 256))), .int .i64 (wrap64 (rd x0_1 2)), .int .i64 (wrap64 (rd x0_1 3)), .int .u32 x234003_2]) ?_ 3 _ rfl; (with_reducible repeat (first | refine kN ?_ _ | refine kD ?_ | refine kA ?_ _)); exact BK233.out⟩, ⟨jH HB⟩⟩
               ·rw [if_neg c21] at H
                exact absurd H (by simp)
              ·rw [if_neg c19] at H
               exact absurd H (by simp)
             ·rw [if_neg c18] at H
              exact absurd H (by simp)
            ·rw [if_neg c16] at H
             have c16b0 := dF c16
             clear c16
             replace H := Option.bind_eq_some_iff.mp H
             obtain ⟨t235, A250, H⟩ := H
             try dsimp only at H
             have A25 := Aside0.mk A250
             clear A250
             by_cases c26 : t235 = true
             ·subst c26
              rw [if_pos rfl] at H
              by_cases c27 : x4_1.length < 4398046511104
              ·rw [if_pos c27] at H
               have LMc27 := Aside0.mk c27
               clear c27
               obtain ⟨y236, hy236⟩ : ∃ y_ : List (S59), y_ = (x4_1 ++ [(⟨(Go.bits .or .i64 (wrap64 (rd x0_1 0)) (wrap64 ((wrap64 (rd x0_1 1)) * 256))), (wrap64 (rd x0_1 2)), (wrap64 (rd x0_1 3)), x234003_2⟩ : S59)]) := ⟨_, rfl⟩
               simp only [Option.bind_some, ← hy236] at H
               have Ny236 := Aside0.mk hy236
               clear hy236
               by_cases c28 : 8 ≤ (x0_1.length : Int)
               ·rw [if_pos c28] at H
                have c28b0 := eq_true c28
                have c28b1 := dT c28
                clear c28
                obtain ⟨y239, hy239⟩ : ∃ y_ : List Int, y_ = (x0_1.drop 8) := ⟨_, rfl⟩
                simp only [Option.bind_some, ← hy239] at H
                have Ny239 := Aside0.mk hy239
                clear hy239
                have H' := Aside0.mk H
                clear H
                obtain ⟨hcz29_0, hcz29_1, hcz29_2, hcz29_3, hfz29_0, hfz29_1, hfz29_2, hfz29_3⟩ := kQ4 BK233.out
                go_wp2_with (first | ((with_reducible refine gate_callee (f := 59) rfl ?_); refine goesL_ (some 58) rfl rfl Tryd.func59 (by kernel_rfl) rfl #[.agg #[.int .i64 (Go.bits .or .i64 (wrap64 (rd x0_1 0)) (wrap64 ((wrap64 (rd x0_1 1)) * 256))), .int .i64 (wrap64 (rd x0_1 2)), .int .i64 (wrap64 (rd x0_1 3)), .int .u32 x234003_2]] rfl jZ ?_; (with_reducible refine (ins_Right.calls k2 (Go.bits .or .i64 (wrap64 (rd x0_1 0)) (wrap64 ((wrap64 (rd x0_1 1)) * 256))) (wrap64 (rd x0_1 2)) (wrap64 (rd x0_1 3)) x234003_2 true _ ?side1 A25.out).mono ?_); (case side1 => exact Glob.below HG.out (jH HB)); rintro e w30 ⟨rfl, hb⟩; refine ⟨_, rfl, ?_⟩; replace HO_0 := Aside0.mk (Kd.V_below (jV HO_0) hb); replace HO_4 := Aside0.mk (Kd.R_below (jR HO_4) hb); replace BK233 := Aside0.mk (jB BK233 hb); replace HB := Aside0.mk (zT (jH HB) hb); (try clear hb); (try clear hb2); (try clear hk); (try clear hi); obtain ⟨hcz31_0, hcz31_1, hcz31_2, hcz31_3, hfz31_0, hfz31_1, hfz31_2, hfz31_3⟩ := kQ4 BK233.out) | ((with_reducible refine gate_builtin (b := .append) (xs := #[.tmp 60, .tmp 62]) rfl ?_); at_builtin; refine Kd.R_append k59 (w0 := w) w.heap.size rfl (.tmp 60) (.tmp 62) 39 59 (.agg #[(.int .i64 0), (.int .i64 0), (.int .i64 0), (.int .u32 0)]) 32 rfl Tryd.underlying39 info59 rfl (by decide) (by omega) u4 x4_1 (⟨(Go.bits .or .i64 (wrap64 (rd x0_1 0)) (wrap64 ((wrap64 (rd x0_1 1)) * 256))), (wrap64 (rd x0_1 2)), (wrap64 (rd x0_1 3)), x234003_2⟩ : S59) [.int .i64 (Go.bits .or .i64 (wrap64 (rd x0_1 0)) (wrap64 ((wrap64 (rd x0_1 1)) * 256))), .int .i64 (wrap64 (rd x0_1 2)), .int .i64 (wrap64 (rd x0_1 3)), .int .u32 x234003_2] (fun k_ => (w.heap.size ≤ k_) ∧ k_ ≠ gb233) (fun _ => False) rfl rfl ?aP (fun _ hk => hk.elim) ?aF ?aO ?aB ?aS ?aL ?_; (case aP => exact k59_mkM _ _ _ (⟨(Go.bits .or .i64 (wrap64 (rd x0_1 0)) (wrap64 ((wrap64 (rd x0_1 1)) * 256))), (wrap64 (rd x0_1 2)), (wrap64 (rd x0_1 3)), x234003_2⟩ : S59)); (case aB => exact (jH HB)); (case aF => exact (fun k_ hk => ⟨(Nat.le_trans (zZ (jH HB)) hk), Kd.freshB (g := gb233) (o := .cells #[.int .i64 (Go.bits .or .i64 (wrap64 (rd x0_1 0)) (wrap64 ((wrap64 (rd x0_1 1)) * 256))), .int .i64 (wrap64 (rd x0_1 2)), .int .i64 (wrap64 (rd x0_1 3)), .int .u32 x234003_2] 59 (0, 0)) (jK BK233) k_ hk⟩)); (case aO => exact (jR HO_4)); (case aS => exact (zZ (jH HB))); (case aL => have := LMc27.out; omega); intro v237 w32 ho hb hg hat; rw [← Ny236.out] at ho; have HO238 := Aside0.mk (ho); replace HO_0 := Aside0.mk (Kd.V_afterv (ok := (fun k_ => (P0_ k_ ∨ w.heap.size ≤ k_) ∧ k_ ≠ gb233)) (by (with_reducible repeat (first | apply Kd.V_alloc | apply Kd.V_drewN | apply Kd.V_drew)); exact Kd.V_mono HO_0.out (fun _ hk => ⟨⟨hk.1, hk.2.2⟩, hk.2.1⟩)) hg hat); replace BK233 := Aside0.mk (kG (g := gb233) (o := .cells #[.int .i64 (Go.bits .or .i64 (wrap64 (rd x0_1 0)) (wrap64 ((wrap64 (rd x0_1 1)) * 256))), .int .i64 (wrap64 (rd x0_1 2)), .int .i64 (wrap64 (rd x0_1 3)), .int .u32 x234003_2] 59 (0, 0)) (jK BK233) hg (Kd.R_away HO_4.out (fun _ hk => hk.2))); replace HB := Aside0.mk (hb); clear HO_4; clear ho hb hg hat; have q33 : (8 : Int) ≤ ((x0_1.length : Int) : Int) := oD (jA); obtain ⟨i033, hi033, _, hsz33, _⟩ := info_parts info5; have hroom33 : x0_1.length ≤ co9 := (Kd.V_reads' HO_0.out).2.1; have hC33 : Kd.F (Kd.int .u8) _ _ (some ad229) x0_1.length x0_1 := (Kd.V_at (base := w.heap.size) HO_0.out).2.2; have hcut33 := cut_from (P := Tryd.prog) 25 5 .i64 Tryd.underlying25 hi033 1 hsz33 (some ad229) x0_1.length co9 8 (by omega) q33; have hr33 := Kd.F_cut (m := (8 : Int).toNat) (c := co9) hC33 (by omega) hroom33; obtain ⟨A33, hA33⟩ : ∃ A1, A1 = (if co9 = (8 : Int).toNat then (some ad229) else ((some ad229) : Option Addr).map (·.add ((8 : Int).toNat * 1))) := ⟨_, rfl⟩; obtain ⟨c33, hc33⟩ : ∃ c1, c1 = co9 - (8 : Int).toNat := ⟨_, rfl⟩; have hy33 : y239.length = x0_1.length - (8 : Int).toNat := (by rw [Ny239.out, List.length_drop] <;> omega); rw [show (x0_1).drop (8 : Int).toNat = y239 from Ny239.out.symm] at hr33; replace hr33 : Kd.F (Kd.int .u8) _ _ A33 y239.length y239 := (by rw [hA33]; exact hr33); rw [← hy33, ← hA33, ← hc33] at hcut33; have HO243 := Aside0.mk (show Kd.V (Kd.int .u8) 5 _ w.heap.size _ (.slice A33 y239.length c33) y239 from Kd.V_mk (by rw [hy33, hc33]; exact Nat.sub_le_sub_right hroom33 _) hr33); have HC243 := Aside0.mk (show y239.length ≤ c33 from by rw [hy33, hc33]; exact Nat.sub_le_sub_right hroom33 _); clear hr33 hC33 hroom33 hi033 hsz33 hc33; have KY33 := Aside0.mk hy33; have KA33 := Aside0.mk hA33; clear hy33 hA33; replace q33 := eq_true q33))
                go_roundg k2
                case measure => have := HK1.out; have := HK2.out; omega
                case rel => exact ⟨(y239), (y236), H', ⟨by have := HK1.out; have := HK2.out; omega⟩, ⟨by (with_reducible repeat (first | apply Kd.V_alloc | apply Kd.V_drewN | apply Kd.V_drew)); exact Kd.V_mono HO243.out (fun _ hk => ⟨hk.1.1, hk.2⟩)⟩, ⟨by (with_reducible repeat (first | apply Kd.R_alloc | apply Kd.R_drewN | apply Kd.R_drew)); exact Kd.R_mono HO238.out (fun _ hk => hk.1)⟩, ⟨jH HB⟩⟩
               ·rw [if_neg c28] at H
                exact absurd H (by simp)
              ·rw [if_neg c27] at H
               exact absurd H (by simp)
             ·replace c26 := Bool.eq_false_iff.mpr c26
              subst c26
              rw [if_neg (show ¬ (false = true) by decide)] at H
              simp only [Option.some.injEq, Prod.mk.injEq] at H
              obtain ⟨rfl, rfl⟩ := H
              obtain ⟨hcz34_0, hcz34_1, hcz34_2, hcz34_3, hfz34_0, hfz34_1, hfz34_2, hfz34_3⟩ := kQ4 BK233.out
              go_wp2_with (first | ((with_reducible refine gate_callee (f := 59) rfl ?_); refine goesL_ (some 58) rfl rfl Tryd.func59 (by kernel_rfl) rfl #[.agg #[.int .i64 (Go.bits .or .i64 (wrap64 (rd x0_1 0)) (wrap64 ((wrap64 (rd x0_1 1)) * 256))), .int .i64 (wrap64 (rd x0_1 2)), .int .i64 (wrap64 (rd x0_1 3)), .int .u32 x234003_2]] rfl jZ ?_; (with_reducible refine (ins_Right.calls k2 (Go.bits .or .i64 (wrap64 (rd x0_1 0)) (wrap64 ((wrap64 (rd x0_1 1)) * 256))) (wrap64 (rd x0_1 2)) (wrap64 (rd x0_1 3)) x234003_2 false _ ?side1 A25.out).mono ?_); (case side1 => exact Glob.below HG.out (jH HB)); rintro e w35 ⟨rfl, hb⟩; refine ⟨_, rfl, ?_⟩; replace HO_0 := Aside0.mk (Kd.V_below (jV HO_0) hb); replace HO_4 := Aside0.mk (Kd.R_below (jR HO_4) hb); replace BK233 := Aside0.mk (jB BK233 hb); replace HB := Aside0.mk (zT (jH HB) hb); (try clear hb); (try clear hb2); (try clear hk); (try clear hi)))
              go_ret2
              exact ⟨_, jE, by first | exact Kd.R_nil _ _ _ _ _ | exact Kd.N_nil _ _ _ _ _ | exact Kd.V_nil _ _ _ _ _ | exact Kd.Q_nil _ _ _ _ _ | exact Kd.S_nil _ _ _ _ _, jH HB⟩
         ·rw [if_neg c8] at H
          exact absurd H (by simp)
        ·rw [if_neg c7] at H
         exact absurd H (by simp)
       ·rw [if_neg c6] at H
        exact absurd H (by simp)
      ·rw [if_neg c5] at H
       exact absurd H (by simp)
     ·rw [if_neg c4] at H
      have c4b0 : decide (0 < (x0_1.length : Int)) = false := dF c4
      have c4b1 : decide (0 < x0_1.length) = false := dF (by omega)
      clear c4
      simp only [Option.some.injEq, Prod.mk.injEq] at H
      obtain ⟨rfl, rfl⟩ := H
      obtain ⟨Ao36, co36, eo36⟩ := Kd.V_slice HO_0.out
      subst eo36
      go_wp2
      go_ret2
      exact ⟨_, jE, by (with_reducible repeat (first | apply Kd.R_alloc | apply Kd.R_drewN | apply Kd.R_drew)); exact HO_4.out, jH HB⟩
  ·rw [if_neg c3] at H
   have c3b0 : (((l0.length : Int) % 8) == 0) = false := bF.mpr c3
   have c3b1 : (((l0.length : Int) % 8) != 0) = true := nI.mpr c3
   simp only [Option.some.injEq, Prod.mk.injEq] at H
   obtain ⟨rfl, rfl⟩ := H
   go_enter Tryd.func46, Tryd.ntmps46
   go_wp2
   go_ret2
   exact ⟨_, jE, by first | exact Kd.R_nil _ _ _ _ _ | exact Kd.N_nil _ _ _ _ _ | exact Kd.V_nil _ _ _ _ _ | exact Kd.Q_nil _ _ _ _ _ | exact Kd.S_nil _ _ _ _ _, jH HB⟩
end Go.Proofs.YtahacmdhhfmhiaaDoor.M
