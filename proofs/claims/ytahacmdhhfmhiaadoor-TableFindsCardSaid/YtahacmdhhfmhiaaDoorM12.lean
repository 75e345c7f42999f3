/- What Go functions compute; their calls come to it. No condition. -/
import Derived.Test.YtahacmdhhfmhiaaDoorM0
import Derived.Test.YtahacmdhhfmhiaaDoorM7
import Derived.Test.YtahacmdhhfmhiaaDoorMB
namespace Go.Proofs.YtahacmdhhfmhiaaDoor.M
open Go.RowKit Go.Proofs.YtahacmdhhfmhiaaDoorW.PrintWords Go.Proofs.YtahacmdhhfmhiaaDoorW.PrintLast Go.Proofs.YtahacmdhhfmhiaaDoorW.PrintMore
attribute [local go_sem] max2_int min2_int max_two min_two max_three min_three max_four min_four   -- for this text's walks alone
set_option linter.unusedVariables false
set_option linter.unusedSimpArgs false
def table_Right.l0 : Nat → List (S42) → List (S42) → Int → Int → Option (Bool)
 | 0, _, _, _, _ => none
 | k + 1, x0, x5, x6, x7 => if x7 < x6 then (if 0 ≤ x7 then (if x7 < (x5.length : Int) then ((table_Rule_right.f k ((rd_T42 x5 x7).f0) ((rd_T42 x5 x7).f1) ((rd_T42 x5 x7).f2)).bind fun t184 => (if t184 = true then (if x7 > 0 then (if 0 ≤ (wrap64 (x7 - 1)) then (if (wrap64 (x7 - 1)) < (x0.length : Int) then ((table_Rule_bytes.f k ((rd_T42 x0 (wrap64 (x7 - 1))).f0) ((rd_T42 x0 (wrap64 (x7 - 1))).f1) ((rd_T42 x0 (wrap64 (x7 - 1))).f2)).bind fun t186 => ((table_Rule_bytes.f k ((rd_T42 x5 x7).f0) ((rd_T42 x5 x7).f1) ((rd_T42 x5 x7).f2)).bind fun t187 => (if ((Op.bytesLess t186.toList t187.toList) = true) then (table_Right.l0 k x0 x5 x6 (wrap64 (x7 + 1))) else (some false)))) else (none)) else (none)) else (table_Right.l0 k x0 x5 x6 (wrap64 (x7 + 1)))) else (some false))) else (none)) else (none)) else (some (decide ((x0.length : Int) ≤ 64)))
def table_Right.f (k : Nat) (l0 : List (S42)) : Option (Bool) := table_Right.l0 k l0 l0 (l0.length : Int) 0
theorem table_Right.mono_l : ∀ k, (∀ y0 y1 y2 y3, LeO (table_Right.l0 k y0 y1 y2 y3) (table_Right.l0 (k + 1) y0 y1 y2 y3))
 | 0 => fun _ _ _ _ r h => by simp [table_Right.l0] at h
 | k + 1 => by
  have ih0 := table_Right.mono_l k
  ·intro y0 y1 y2 y3
   unfold table_Right.l0
   repeat' first
   | (with_reducible apply ih0)
   | (with_reducible apply table_Rule_bytes.mono)
   | (with_reducible apply table_Rule_right.mono)
   | (with_reducible exact LeO.refl _)
   | (with_reducible exact LeO.none _)
   | (with_reducible refine LeO.ite ?_ ?_)
   | (with_reducible refine LeO.bind ?_ (fun _ => ?_))
   | apply ih0
   | apply table_Rule_bytes.mono
   | apply table_Rule_right.mono
   | exact LeO.none _
   | refine LeO.ite ?_ ?_
   | refine LeO.bind ?_ (fun _ => ?_)
theorem table_Right.mono : ∀ a0 k, LeO (table_Right.f k a0) (table_Right.f (k + 1) a0) := by
 intro a0 k
 have ih0 := table_Right.mono_l k
 unfold table_Right.f
 repeat' first
   | (with_reducible apply ih0)
   | (with_reducible apply table_Rule_bytes.mono)
   | (with_reducible apply table_Rule_right.mono)
   | (with_reducible exact LeO.refl _)
   | (with_reducible exact LeO.none _)
   | (with_reducible refine LeO.ite ?_ ?_)
   | (with_reducible refine LeO.bind ?_ (fun _ => ?_))
   | apply ih0
   | apply table_Rule_bytes.mono
   | apply table_Rule_right.mono
   | exact LeO.none _
   | refine LeO.ite ?_ ?_
   | refine LeO.bind ?_ (fun _ => ?_)
def table_Right.T4 : Bool × List (List Nat × List Nat) := (true, [([], []), ([0], [0]), ([1], [1]), ([2, 1], [2]), ([3], [3]), ([4, 3], [3, 4]), ([5, 3, 3], [3, 5]), ([6], [6]), ([6], [6]), ([8, 6], [6, 8]), ([7, 9, 6], [6, 7, 9]), ([10, 6], [6, 10]), ([11, 6, 6], [6, 11]), ([6], [6]), ([13, 12, 6], [6, 13]), ([12, 14, 6], [6, 12, 14]), ([6, 15, 3], [3, 6, 15]), ([3, 16], [3, 16])])
def table_Right.B4 : List Nat := [0, 1, 3, 7, 15, 31, 63, 127, 127, 383, 1023, 2047, 4095, 127, 16383, 32767, 65535, 131071]
theorem table_Right.tab4 : rtab .any (opsOf Tryd.f15 4) = table_Right.T4 := by kernel_rfl
theorem table_Right.bits4 : waitsOk table_Right.T4.2 table_Right.B4 = true := by kernel_rfl
set_option maxHeartbeats 8000000 in
set_option maxRecDepth 100000 in
theorem table_Right.calls (k : Nat) (A0 : Option Addr) (c0 : Nat) (l0 : List (S42)) (r : Bool) (w : World) (hr0 : Kd.C k42 w A0 l0.length l0) (hc0 : l0.length ≤ c0) (hG : Glob w) (h : table_Right.f k l0 = some r) :
  Calls Tryd.prog 15 #[.slice A0 l0.length c0] w fun e w' => e = .returned (.bool r) ∧ Below w.heap.size w w' := by
 have hu42 := Tryd.underlying42
 have HG := Aside0.mk hG
 clear hG
 have HR0 := Aside0.mk hr0
 have HC0 := Aside0.mk hc0
 clear hr0 hc0
 have HB := Aside0.mk (Below.refl w.heap.size w)
 have H : (table_Right.l0 k l0 l0 (l0.length : Int) 0) = some r := h
 clear h
 have H' := Aside0.mk H
 clear H
 go_enter Tryd.func15, Tryd.ntmps15
 go_wp2
 go_loopg [7] k (fun kq v7 w' => ∃ (x7_1 : Int), v7 = .int .i64 x7_1 ∧ Aside0 (table_Right.l0 kq l0 l0 (l0.length : Int) x7_1 = some r) ∧ Aside0 (kq ≤ k) ∧ Aside0 (Below w.heap.size w w'))
 case atStart => exact ⟨(0), jS, H', ⟨Nat.le_refl _⟩, ⟨jH HB⟩⟩
 case round =>
  clear H'
  obtain ⟨x7_1, rfl, HA, HK1, HB⟩ := hrel
  cases gk with
  | zero => exact absurd HA.out (by simp [table_Right.l0])
  | succ k1 =>
   have H := HA.out
   clear HA
   simp only [table_Right.l0] at H
   by_cases c2 : x7_1 < (l0.length : Int)
   ·rw [if_pos c2] at H
    have c2b0 : decide (x7_1 < (l0.length : Int)) = true := dT c2
    clear c2
    by_cases c3 : 0 ≤ x7_1
    ·rw [if_pos c3] at H
     have c3b0 : decide (0 ≤ x7_1) = true := dT c3
     clear c3
     by_cases c4 : x7_1 < (l0.length : Int)
     ·rw [if_pos c4] at H
      have c4b0 : decide (x7_1 < (l0.length : Int)) = true := dT c4
      clear c4
      replace H := Option.bind_eq_some_iff.mp H
      obtain ⟨t184, A50, H⟩ := H
      try dsimp only at H
      have A5 := Aside0.mk A50
      clear A50
      by_cases c6 : t184 = true
      ·subst c6
       rw [if_pos rfl] at H
       by_cases c7 : x7_1 > 0
       ·rw [if_pos c7] at H
        have c7b0 : decide (0 < x7_1) = true := dT c7
        clear c7
        obtain ⟨ji8, hji8⟩ : ∃ j_ : Int, (wrap64 (x7_1 - 1)) = j_ := ⟨_, rfl⟩
        replace H : (if 0 ≤ (ji8) then (if (ji8) < (l0.length : Int) then ((table_Rule_bytes.f k1 ((rd_T42 l0 (ji8)).f0) ((rd_T42 l0 (ji8)).f1) ((rd_T42 l0 (ji8)).f2)).bind fun t186 => ((table_Rule_bytes.f k1 ((rd_T42 l0 x7_1).f0) ((rd_T42 l0 x7_1).f1) ((rd_T42 l0 x7_1).f2)).bind fun t187 => (if ((Op.bytesLess t186.toList t187.toList) = true) then (table_Right.l0 k1 l0 l0 (l0.length : Int) (wrap64 (x7_1 + 1))) else (some false)))) else (none)) else (none)) = some r := by first | (rw [hji8] at H; exact H) | (simp only [hji8] at H ⊢; exact H)
        (try rw [hji8] at A5)
        have hji8w : (IntKind.i64.wrap (x7_1 - 1)) = ji8 := (i64_w _).trans hji8
        by_cases c9 : 0 ≤ (ji8)
        ·rw [if_pos c9] at H
         have c9b0 : decide (0 ≤ (ji8)) = true := dT c9
         clear c9
         by_cases c10 : (ji8) < (l0.length : Int)
         ·rw [if_pos c10] at H
          have c10b0 : decide ((ji8) < (l0.length : Int)) = true := dT c10
          clear c10
          replace H := Option.bind_eq_some_iff.mp H
          obtain ⟨t186, A110, H⟩ := H
          try dsimp only at H
          have A11 := Aside0.mk A110
          clear A110
          replace H := Option.bind_eq_some_iff.mp H
          obtain ⟨t187, A120, H⟩ := H
          try dsimp only at H
          have A12 := Aside0.mk A120
          clear A120
          by_cases c13 : ((Op.bytesLess t186.toList t187.toList) = true)
          ·rw [if_pos c13] at H
           have c13b0 : (Op.bytesLess t186.toList t187.toList) = true := c13
           clear c13
           have H' := Aside0.mk H
           clear H
           have p182 : 0 ≤ (x7_1 : Int) := oD (jA)
           have q182 : x7_1 < (l0.length : Int) := oD (jA)
           obtain ⟨ad182, A182_0, c182_0, A182_1, c182_1, e182, hx182_0, hx182_1, hx182_2, hl182_0, hi182_0, hl182_1, hi182_1⟩ := at_T42 HR0.out x7_1 p182 q182
           cases e182
           replace hx182_0 := (HB.out.cell (bL w _ hx182_0)).trans hx182_0
           replace hx182_1 := (HB.out.cell (bL w _ hx182_1)).trans hx182_1
           replace hx182_2 := (HB.out.cell (bL w _ hx182_2)).trans hx182_2
           have HR182_0 := Aside0.mk hi182_0
           have HC182_0 := Aside0.mk hl182_0
           clear hi182_0 hl182_0
           have HR182_1 := Aside0.mk hi182_1
           have HC182_1 := Aside0.mk hl182_1
           clear hi182_1 hl182_1
           replace p182 := eq_true p182
           replace q182 := eq_true q182
           try go_wp2_with (first | ((with_reducible refine gate_dst (N := 4) rfl ?_); refine box_event rfl (N := 4) rfl (cs := #[.slice none 0 0, .slice none 0 0, .int .u32 0]) (t := 42) jW ?_; intro gb183 hg w14 hbox hb; have BK183 := Aside0.mk hbox; have GW183 := Aside0.mk (jG hg HB); have GE183 := Aside0.mk (jG hg HB); replace HB := Aside0.mk (zT (jH HB) hb); clear hb hbox hg; obtain ⟨hcz15_0, hcz15_1, hcz15_2, hfz15_0, hfz15_1, hfz15_2⟩ := kQ3 BK183.out))
           have n0_ : Aside0 ((((w14.setCell ⟨gb183, 0, none⟩ (.slice A182_0 ((rd_T42 l0 x7_1).f0).length c182_0)).setCell ⟨gb183, 1, none⟩ (.slice A182_1 ((rd_T42 l0 x7_1).f1).length c182_1)).setCell ⟨gb183, 2, none⟩ (.int .u32 ((rd_T42 l0 x7_1).f2))).heap[gb183]? = some (.cells #[.slice A182_0 ((rd_T42 l0 x7_1).f0).length c182_0, .slice A182_1 ((rd_T42 l0 x7_1).f1).length c182_1, .int .u32 ((rd_T42 l0 x7_1).f2)] 42 (0, 0))) := ⟨by (with_reducible repeat (first | refine kN ?_ _ | refine kD ?_ | refine kA ?_ _)); refine kP (cs := #[.slice A182_0 ((rd_T42 l0 x7_1).f0).length c182_0, .slice A182_1 ((rd_T42 l0 x7_1).f1).length c182_1, .int .u32 0]) ?_ 2 _ rfl; (with_reducible repeat (first | refine kN ?_ _ | refine kD ?_ | refine kA ?_ _)); refine kP (cs := #[.slice A182_0 ((rd_T42 l0 x7_1).f0).length c182_0, .slice none 0 0, .int .u32 0]) ?_ 1 _ rfl; (with_reducible repeat (first | refine kN ?_ _ | refine kD ?_ | refine kA ?_ _)); refine kP (cs := #[.slice none 0 0, .slice none 0 0, .int .u32 0]) ?_ 0 _ rfl; (with_reducible repeat (first | refine kN ?_ _ | refine kD ?_ | refine kA ?_ _)); exact BK183.out⟩
           have n1_ : Aside0 (Below w.heap.size w (((w14.setCell ⟨gb183, 0, none⟩ (.slice A182_0 ((rd_T42 l0 x7_1).f0).length c182_0)).setCell ⟨gb183, 1, none⟩ (.slice A182_1 ((rd_T42 l0 x7_1).f1).length c182_1)).setCell ⟨gb183, 2, none⟩ (.int .u32 ((rd_T42 l0 x7_1).f2)))) := ⟨jH HB⟩
           (try clear BK183)
           (try clear HB)
           generalize (((w14.setCell ⟨gb183, 0, none⟩ (.slice A182_0 ((rd_T42 l0 x7_1).f0).length c182_0)).setCell ⟨gb183, 1, none⟩ (.slice A182_1 ((rd_T42 l0 x7_1).f1).length c182_1)).setCell ⟨gb183, 2, none⟩ (.int .u32 ((rd_T42 l0 x7_1).f2))) = w16 at n0_ n1_ ⊢
           have BK183 := n0_
           have HB := n1_
           clear n0_ n1_
           replace BK183 := Aside0.mk (kD BK183.out)
           replace HB := Aside0.mk (zD HB.out)
           have p185 : 0 ≤ ((ji8) : Int) := oD (jA)
           have q185 : (ji8) < (l0.length : Int) := oD (jA)
           obtain ⟨ad185, A185_0, c185_0, A185_1, c185_1, e185, hx185_0, hx185_1, hx185_2, hl185_0, hi185_0, hl185_1, hi185_1⟩ := at_T42 HR0.out (ji8) p185 q185
           have hw185_2 := hx185_2
           have hw185_1 := hx185_1
           have hw185_0 := hx185_0
           obtain rfl : ad182 = ad185 := (by injection e185)
           replace hx185_0 := (HB.out.cell (bL w _ hx185_0)).trans hx185_0
           replace hx185_1 := (HB.out.cell (bL w _ hx185_1)).trans hx185_1
           replace hx185_2 := (HB.out.cell (bL w _ hx185_2)).trans hx185_2
           have HR185_0 := Aside0.mk hi185_0
           have HC185_0 := Aside0.mk hl185_0
           clear hi185_0 hl185_0
           have HR185_1 := Aside0.mk hi185_1
           have HC185_1 := Aside0.mk hl185_1
           clear hi185_1 hl185_1
           replace p185 := eq_true p185
           replace q185 := eq_true q185
           have hgeq_ := fun W => str_geq (P := Tryd.prog) W 9 t186 t187
           refine start_ (n := 18) (S := fun w' => w'.cell? ⟨gb183, 0, none⟩ = some (.slice A182_0 ((rd_T42 l0 x7_1).f0).length c182_0) ∧ w'.cell? ⟨gb183, 1, none⟩ = some (.slice A182_1 ((rd_T42 l0 x7_1).f1).length c182_1) ∧ w'.cell? ⟨gb183, 2, none⟩ = some (.int .u32 ((rd_T42 l0 x7_1).f2)) ∧ w'.cell? (ad182.add (((ji8)).toNat * 3)) = some (.slice A185_0 ((rd_T42 l0 (ji8)).f0).length c185_0) ∧ w'.cell? ⟨(ad182.add (((ji8)).toNat * 3)).block, (ad182.add (((ji8)).toNat * 3)).off + 1, none⟩ = some (.slice A185_1 ((rd_T42 l0 (ji8)).f1).length c185_1) ∧ w'.cell? ⟨(ad182.add (((ji8)).toNat * 3)).block, (ad182.add (((ji8)).toNat * 3)).off + 2, none⟩ = some (.int .u32 ((rd_T42 l0 (ji8)).f2))) (ds := []) #[false, false, false, false, false, false, false, false, false, false, false, false, false, false, false, false, false, false] (by kernel_rfl) rfl rfl ⟨(kC BK183.out 0).trans rfl, (kC BK183.out 1).trans rfl, (kC BK183.out 2).trans rfl, ((HB.out.cell (bL w _ hw185_0)).trans hw185_0), ((HB.out.cell (bL w _ hw185_1)).trans hw185_1), ((HB.out.cell (bL w _ hw185_2)).trans hw185_2)⟩ (fun hHeld => ?_); refine with_tabW table_Right.tab4 table_Right.bits4 (fun HT_ HW_ => ?_)
           generalize w16.drew = w17 at BK183 HB HR185_0 HR185_1 hx185_0 hx185_1 hx185_2 hHeld ⊢
           refine qT 0 12 (tB 18 1) hHeld ?_ (hv := by rintro w' ⟨s0, s1, s2, s3, s4, s5⟩; go_simp; with_reducible rfl)
           refine one_ (i := 1) (N := some 13) (tB 18 3) rfl rfl (one_of HT_.out (by kernel_rfl)) (by decide) (fun K hK => ?_)
           refine goes_ Tryd.func32 (by kernel_rfl) rfl #[.agg #[.slice A182_0 ((rd_T42 l0 x7_1).f0).length c182_0, .slice A182_1 ((rd_T42 l0 x7_1).f1).length c182_1, .int .u32 ((rd_T42 l0 x7_1).f2)]] (by rfl) rfl rfl jZ ?_
           with_reducible refine (table_Rule_right.calls k1 _ _ ((rd_T42 l0 x7_1).f0) _ _ ((rd_T42 l0 x7_1).f1) ((rd_T42 l0 x7_1).f2) true _ ?side1 ?side2 ?side3 ?side4 ?side5 A5.out).mono ?_
           (case side1 => exact jC (Kd.C_below HR182_0.out HB.out))
           (case side2 => exact HC182_0.out)
           (case side3 => exact jC (Kd.C_below HR182_1.out HB.out))
           (case side4 => exact HC182_1.out)
           (case side5 => exact Glob.below HG.out (jH HB))
           rintro e w18 ⟨rfl, hb⟩
           refine ⟨_, rfl, ?_⟩
           replace BK183 := Aside0.mk (jB BK183 hb)
           replace HB := Aside0.mk (zT (jH HB) hb)
           (try clear hb)
           (try clear hb2)
           (try clear hk)
           (try clear hi)
           refine hK.out _ _ ⟨(kC BK183.out 0).trans rfl, (kC BK183.out 1).trans rfl, (kC BK183.out 2).trans rfl, ((HB.out.cell (bL w _ hw185_0)).trans hw185_0), ((HB.out.cell (bL w _ hw185_1)).trans hw185_1), ((HB.out.cell (bL w _ hw185_2)).trans hw185_2)⟩ (fun hHeld => ?_)
           clear hK K
           refine qN 13 ?_
           refine qP 2 14 (tB 18 7) ?_
           refine qP 3 15 (tB 18 15) ?_
           refine qP 4 16 (tB 18 31) ?_
           refine qP 5 17 (tB 18 63) ?_
           refine qP 6 18 (tB 18 127) ?_
           refine qP 7 19 (tB 18 255) ?_
           refine qP 8 20 (tB 18 511) ?_
           refine qP 9 21 (tB 18 1023) ?_
           refine qP 10 22 (tB 18 2047) ?_
           refine qT 11 23 (tB 18 4095) hHeld ?_ (hv := by rintro w' ⟨s0, s1, s2, s3, s4, s5⟩; go_simp; with_reducible rfl)
           refine qT 13 25 (tB 18 12287) hHeld ?_ (hv := by rintro w' ⟨s0, s1, s2, s3, s4, s5⟩; go_simp; with_reducible rfl)
           refine one_ (i := 12) (N := some 24) (tB 18 16383) rfl rfl (one_of HT_.out (by kernel_rfl)) (by decide) (fun K hK => ?_)
           refine goes_ Tryd.func28 (by kernel_rfl) rfl #[.agg #[.slice A185_0 ((rd_T42 l0 (ji8)).f0).length c185_0, .slice A185_1 ((rd_T42 l0 (ji8)).f1).length c185_1, .int .u32 ((rd_T42 l0 (ji8)).f2)]] (by rfl) rfl rfl (by (try simp only [List.map_toArray, List.map_cons, List.map_nil]); first | done | (simp only [hji8]; rfl) | rfl | (simp only [List.length_drop, List.length_take]; rfl)) ?_
           with_reducible refine (table_Rule_bytes.calls k1 _ _ ((rd_T42 l0 (ji8)).f0) _ _ ((rd_T42 l0 (ji8)).f1) ((rd_T42 l0 (ji8)).f2) t186 _ ?side1 ?side2 ?side3 ?side4 ?side5 A11.out).mono ?_
           (case side1 => exact jC (Kd.C_below HR185_0.out HB.out))
           (case side2 => exact HC185_0.out)
           (case side3 => exact jC (Kd.C_below HR185_1.out HB.out))
           (case side4 => exact HC185_1.out)
           (case side5 => exact Glob.below HG.out (jH HB))
           rintro e w19 ⟨rfl, hb⟩
           refine ⟨_, rfl, ?_⟩
           replace BK183 := Aside0.mk (jB BK183 hb)
           replace HB := Aside0.mk (zT (jH HB) hb)
           (try clear hb)
           (try clear hb2)
           (try clear hk)
           (try clear hi)
           refine hK.out _ _ ⟨(kC BK183.out 0).trans rfl, (kC BK183.out 1).trans rfl, (kC BK183.out 2).trans rfl, ((HB.out.cell (bL w _ hw185_0)).trans hw185_0), ((HB.out.cell (bL w _ hw185_1)).trans hw185_1), ((HB.out.cell (bL w _ hw185_2)).trans hw185_2)⟩ (fun hHeld => ?_)
           clear hK K
           refine qN 24 ?_
           refine one_ (i := 14) (N := some 26) (tB 18 32767) rfl rfl (one_of HT_.out (by kernel_rfl)) (by decide) (fun K hK => ?_)
           refine goes_ Tryd.func28 (by kernel_rfl) rfl #[.agg #[.slice A182_0 ((rd_T42 l0 x7_1).f0).length c182_0, .slice A182_1 ((rd_T42 l0 x7_1).f1).length c182_1, .int .u32 ((rd_T42 l0 x7_1).f2)]] (by rfl) rfl rfl jZ ?_
           with_reducible refine (table_Rule_bytes.calls k1 _ _ ((rd_T42 l0 x7_1).f0) _ _ ((rd_T42 l0 x7_1).f1) ((rd_T42 l0 x7_1).f2) t187 _ ?side1 ?side2 ?side3 ?side4 ?side5 A12.out).mono ?_
           (case side1 => exact jC (Kd.C_below HR182_0.out HB.out))
           (case side2 => exact HC182_0.out)
           (case side3 => exact jC (Kd.C_below HR182_1.out HB.out))
           (case side4 => exact HC182_1.out)
           (case side5 => exact Glob.below HG.out (jH HB))
           rintro e w20 ⟨rfl, hb⟩
           refine ⟨_, rfl, ?_⟩
           replace BK183 := Aside0.mk (jB BK183 hb)
           replace HB := Aside0.mk (zT (jH HB) hb)
           (try clear hb)
           (try clear hb2)
           (try clear hk)
           (try clear hi)
           refine hK.out _ _ ⟨(kC BK183.out 0).trans rfl, (kC BK183.out 1).trans rfl, (kC BK183.out 2).trans rfl, ((HB.out.cell (bL w _ hw185_0)).trans hw185_0), ((HB.out.cell (bL w _ hw185_1)).trans hw185_1), ((HB.out.cell (bL w _ hw185_2)).trans hw185_2)⟩ (fun hHeld => ?_)
           clear hK K
           refine qN 26 ?_
           refine qP 15 27 (tB 18 65535) ?_
           refine qP 16 28 (tB 18 131071) ?_
           refine qP 17 29 (tB 18 262143) ?_
           refine done_ (done_of HT_.out (by kernel_rfl)) ?_
           try go_wp2
           go_roundg k1
           case measure => have := HK1.out; omega
           case rel => exact ⟨(wrap64 (x7_1 + 1)), jS, H', ⟨by have := HK1.out; omega⟩, ⟨jH HB⟩⟩
          ·rw [if_neg c13] at H
           have c13b0 : (Op.bytesLess t186.toList t187.toList) = false := by simpa using c13
           clear c13
           obtain rfl := Option.some.inj H
           have p182 : 0 ≤ (x7_1 : Int) := oD (jA)
           have q182 : x7_1 < (l0.length : Int) := oD (jA)
           obtain ⟨ad182, A182_0, c182_0, A182_1, c182_1, e182, hx182_0, hx182_1, hx182_2, hl182_0, hi182_0, hl182_1, hi182_1⟩ := at_T42 HR0.out x7_1 p182 q182
           cases e182
           replace hx182_0 := (HB.out.cell (bL w _ hx182_0)).trans hx182_0
           replace hx182_1 := (HB.out.cell (bL w _ hx182_1)).trans hx182_1
           replace hx182_2 := (HB.out.cell (bL w _ hx182_2)).trans hx182_2
           have HR182_0 := Aside0.mk hi182_0
           have HC182_0 := Aside0.mk hl182_0
           clear hi182_0 hl182_0
           have HR182_1 := Aside0.mk hi182_1
           have HC182_1 := Aside0.mk hl182_1
           clear hi182_1 hl182_1
           replace p182 := eq_true p182
           replace q182 := eq_true q182
           try go_wp2_with (first | ((with_reducible refine gate_dst (N := 4) rfl ?_); refine box_event rfl (N := 4) rfl (cs := #[.slice none 0 0, .slice none 0 0, .int .u32 0]) (t := 42) jW ?_; intro gb183 hg w21 hbox hb; have BK183 := Aside0.mk hbox; have GW183 := Aside0.mk (jG hg HB); have GE183 := Aside0.mk (jG hg HB); replace HB := Aside0.mk (zT (jH HB) hb); clear hb hbox hg; obtain ⟨hcz22_0, hcz22_1, hcz22_2, hfz22_0, hfz22_1, hfz22_2⟩ := kQ3 BK183.out))
           have n0_ : Aside0 ((((w21.setCell ⟨gb183, 0, none⟩ (.slice A182_0 ((rd_T42 l0 x7_1).f0).length c182_0)).setCell ⟨gb183, 1, none⟩ (.slice A182_1 ((rd_T42 l0 x7_1).f1).length c182_1)).setCell ⟨gb183, 2, none⟩ (.int .u32 ((rd_T42 l0 x7_1).f2))).heap[gb183]? = some (.cells #[.slice A182_0 ((rd_T42 l0 x7_1).f0).length c182_0, .slice A182_1 ((rd_T42 l0 x7_1).f1).length c182_1, .int .u32 ((rd_T42 l0 x7_1).f2)] 42 (0, 0))) := ⟨by (with_reducible repeat (first | refine kN ?_ _ | refine kD ?_ | refine kA ?_ _)); refine kP (cs := #[.slice A182_0 ((rd_T42 l0 x7_1).f0).length c182_0, .slice A182_1 ((rd_T42 l0 x7_1).f1).length c182_1, .int .u32 0]) ?_ 2 _ rfl; (with_reducible repeat (first | refine kN ?_ _ | refine kD ?_ | refine kA ?_ _)); refine kP (cs := #[.slice A182_0 ((rd_T42 l0 x7_1).f0).length c182_0, .slice none 0 0, .int .u32 0]) ?_ 1 _ rfl; (with_reducible repeat (first | refine kN ?_ _ | refine kD ?_ | refine kA ?_ _)); refine kP (cs := #[.slice none 0 0, .slice none 0 0, .int .u32 0]) ?_ 0 _ rfl; (with_reducible repeat (first | refine kN ?_ _ | refine kD ?_ | refine kA ?_ _)); exact BK183.out⟩
           have n1_ : Aside0 (Below w.heap.size w (((w21.setCell ⟨gb183, 0, none⟩ (.slice A182_0 ((rd_T42 l0 x7_1).f0).length c182_0)).setCell ⟨gb183, 1, none⟩ (.slice A182_1 ((rd_T42 l0 x7_1).f1).length c182_1)).setCell ⟨gb183, 2, none⟩ (.int .u32 ((rd_T42 l0 x7_1).f2)))) := ⟨jH HB⟩
           (try clear BK183)
           (try clear HB)
           generalize (((w21.setCell ⟨gb183, 0, none⟩ (.slice A182_0 ((rd_T42 l0 x7_1).f0).length c182_0)).setCell ⟨gb183, 1, none⟩ (.slice A182_1 ((rd_T42 l0 x7_1).f1).length c182_1)).setCell ⟨gb183, 2, none⟩ (.int .u32 ((rd_T42 l0 x7_1).f2))) = w23 at n0_ n1_ ⊢
           have BK183 := n0_
           have HB := n1_
           clear n0_ n1_
           replace BK183 := Aside0.mk (kD BK183.out)
           replace HB := Aside0.mk (zD HB.out)
           have p185 : 0 ≤ ((ji8) : Int) := oD (jA)
           have q185 : (ji8) < (l0.length : Int) := oD (jA)
           obtain ⟨ad185, A185_0, c185_0, A185_1, c185_1, e185, hx185_0, hx185_1, hx185_2, hl185_0, hi185_0, hl185_1, hi185_1⟩ := at_T42 HR0.out (ji8) p185 q185
           have hw185_2 := hx185_2
           have hw185_1 := hx185_1
           have hw185_0 := hx185_0
           obtain rfl : ad182 = ad185 := (by injection e185)
           replace hx185_0 := (HB.out.cell (bL w _ hx185_0)).trans hx185_0
           replace hx185_1 := (HB.out.cell (bL w _ hx185_1)).trans hx185_1
           replace hx185_2 := (HB.out.cell (bL w _ hx185_2)).trans hx185_2
           have HR185_0 := Aside0.mk hi185_0
           have HC185_0 := Aside0.mk hl185_0
           clear hi185_0 hl185_0
           have HR185_1 := Aside0.mk hi185_1
           have HC185_1 := Aside0.mk hl185_1
           clear hi185_1 hl185_1
           replace p185 := eq_true p185
           replace q185 := eq_true q185
           have hgeq_ := fun W => str_geq (P := Tryd.prog) W 9 t186 t187
           refine start_ (n := 18) (S := fun w' => w'.cell? ⟨gb183, 0, none⟩ = some (.slice A182_0 ((rd_T42 l0 x7_1).f0).length c182_0) ∧ w'.cell? ⟨gb183, 1, none⟩ = some (.slice A182_1 ((rd_T42 l0 x7_1).f1).length c182_1) ∧ w'.cell? ⟨gb183, 2, none⟩ = some (.int .u32 ((rd_T42 l0 x7_1).f2)) ∧ w'.cell? (ad182.add (((ji8)).toNat * 3)) = some (.slice A185_0 ((rd_T42 l0 (ji8)).f0).length c185_0) ∧ w'.cell? ⟨(ad182.add (((ji8)).toNat * 3)).block, (ad182.add (((ji8)).toNat * 3)).off + 1, none⟩ = some (.slice A185_1 ((rd_T42 l0 (ji8)).f1).length c185_1) ∧ w'.cell? ⟨(ad182.add (((ji8)).toNat * 3)).block, (ad182.add (((ji8)).toNat * 3)).off + 2, none⟩ = some (.int .u32 ((rd_T42 l0 (ji8)).f2))) (ds := []) #[false, false, false, false, false, false, false, false, false, false, false, false, false, false, false, false, false, false] (by kernel_rfl) rfl rfl ⟨(kC BK183.out 0).trans rfl, (kC BK183.out 1).trans rfl, (kC BK183.out 2).trans rfl, ((HB.out.cell (bL w _ hw185_0)).trans hw185_0), ((HB.out.cell (bL w _ hw185_1)).trans hw185_1), ((HB.out.cell (bL w _ hw185_2)).trans hw185_2)⟩ (fun hHeld => ?_); refine with_tabW table_Right.tab4 table_Right.bits4 (fun HT_ HW_ => ?_)
           generalize w23.drew = w24 at BK183 HB HR185_0 HR185_1 hx185_0 hx185_1 hx185_2 hHeld ⊢
           refine qT 0 12 (tB 18 1) hHeld ?_ (hv := by rintro w' ⟨s0, s1, s2, s3, s4, s5⟩; go_simp; with_reducible rfl)
           refine one_ (i := 1) (N := some 13) (tB 18 3) rfl rfl (one_of HT_.out (by kernel_rfl)) (by decide) (fun K hK => ?_)
           refine goes_ Tryd.func32 (by kernel_rfl) rfl #[.agg #[.slice A182_0 ((rd_T42 l0 x7_1).f0).length c182_0, .slice A182_1 ((rd_T42 l0 x7_1).f1).length c182_1, .int .u32 ((rd_T42 l0 x7_1).f2)]] (by rfl) rfl rfl jZ ?_
           with_reducible refine (table_Rule_right.calls k1 _ _ ((rd_T42 l0 x7_1).f0) _ _ ((rd_T42 l0 x7_1).f1) ((rd_T42 l0 x7_1).f2) true _ ?side1 ?side2 ?side3 ?side4 ?side5 A5.out).mono ?_
           (case side1 => exact jC (Kd.C_below HR182_0.out HB.out))
           (case side2 => exact HC182_0.out)
           (case side3 => exact jC (Kd.C_below HR182_1.out HB.out))
           (case side4 => exact HC182_1.out)
           (case side5 => exact Glob.below HG.out (jH HB))
           rintro e w25 ⟨rfl, hb⟩
           refine ⟨_, rfl, ?_⟩
           replace BK183 := Aside0.mk (jB BK183 hb)
           replace HB := Aside0.mk (zT (jH HB) hb)
           (try clear hb)
           (try clear hb2)
           (try clear hk)
           (try clear hi)
           refine hK.out _ _ ⟨(kC BK183.out 0).trans rfl, (kC BK183.out 1).trans rfl, (kC BK183.out 2).trans rfl, ((HB.out.cell (bL w _ hw185_0)).trans hw185_0), ((HB.out.cell (bL w _ hw185_1)).trans hw185_1), ((HB.out.cell (bL w _ hw185_2)).trans hw185_2)⟩ (fun hHeld => ?_)
           clear hK K
           refine qN 13 ?_
           refine qP 2 14 (tB 18 7) ?_
           refine qP 3 15 (tB 18 15) ?_
           refine qP 4 16 (tB 18 31) ?_
           refine qP 5 17 (tB 18 63) ?_
           refine qP 6 18 (tB 18 127) ?_
           refine qP 7 19 (tB 18 255) ?_
           refine qP 8 20 (tB 18 511) ?_
           refine qP 9 21 (tB 18 1023) ?_
           refine qP 10 22 (tB 18 2047) ?_
           refine qT 11 23 (tB 18 4095) hHeld ?_ (hv := by rintro w' ⟨s0, s1, s2, s3, s4, s5⟩; go_simp; with_reducible rfl)
           refine qT 13 25 (tB 18 12287) hHeld ?_ (hv := by rintro w' ⟨s0, s1, s2, s3, s4, s5⟩; go_simp; with_reducible rfl)
           refine one_ (i := 12) (N := some 24) (tB 18 16383) rfl rfl (one_of HT_.out (by kernel_rfl)) (by decide) (fun K hK => ?_)
           refine goes_ Tryd.func28 (by kernel_rfl) rfl #[.agg #[.slice A185_0 ((rd_T42 l0 (ji8)).f0).length c185_0, .slice A185_1 ((rd_T42 l0 (ji8)).f1).length c185_1, .int .u32 ((rd_T42 l0 (ji8)).f2)]] (by rfl) rfl rfl (by (try simp only [List.map_toArray, List.map_cons, List.map_nil]); first | done | (simp only [hji8]; rfl) | rfl | (simp only [List.length_drop, List.length_take]; rfl)) ?_
           with_reducible refine (table_Rule_bytes.calls k1 _ _ ((rd_T42 l0 (ji8)).f0) _ _ ((rd_T42 l0 (ji8)).f1) ((rd_T42 l0 (ji8)).f2) t186 _ ?side1 ?side2 ?side3 ?side4 ?side5 A11.out).mono ?_
           (case side1 => exact jC (Kd.C_below HR185_0.out HB.out))
           (case side2 => exact HC185_0.out)
           (case side3 => exact jC (Kd.C_below HR185_1.out HB.out))
           (case side4 => exact HC185_1.out)
           (case side5 => exact Glob.below HG.out (jH HB))
           rintro e w26 ⟨rfl, hb⟩
           refine ⟨_, rfl, ?_⟩
           replace BK183 := Aside0.mk (jB BK183 hb)
           replace HB := Aside0.mk (zT (jH HB) hb)
           (try clear hb)
           (try clear hb2)
           (try clear hk)
           (try clear hi)
           refine hK.out _ _ ⟨(kC BK183.out 0).trans rfl, (kC BK183.out 1).trans rfl, (kC BK183.out 2).trans rfl, ((HB.out.cell (bL w _ hw185_0)).trans hw185_0), ((HB.out.cell (bL w _ hw185_1)).trans hw185_1), ((HB.out.cell (bL w _ hw185_2)).trans hw185_2)⟩ (fun hHeld => ?_)
           clear hK K
           refine qN 24 ?_
           refine one_ (i := 14) (N := some 26) (tB 18 32767) rfl rfl (one_of HT_.out (by kernel_rfl)) (by decide) (fun K hK => ?_)
           refine goes_ Tryd.func28 (by kernel_rfl) rfl #[.agg #[.slice A182_0 ((rd_T42 l0 x7_1).f0).length c182_0, .slice A182_1 ((rd_T42 l0 x7_1).f1).length c182_1, .int .u32 ((rd_T42 l0 x7_1).f2)]] (by rfl) rfl rfl jZ ?_
           with_reducible refine (table_Rule_bytes.calls k1 _ _ ((rd_T42 l0 x7_1).f0) _ _ ((rd_T42 l0 x7_1).f1) ((rd_T42 l0 x7_1).f2) t187 _ ?side1 ?side2 ?side3 ?side4 ?side5 A12.out).mono ?_
           (case side1 => exact jC (Kd.C_below HR182_0.out HB.out))
           (case side2 => exact HC182_0.out)
           (case side3 => exact jC (Kd.C_below HR182_1.out HB.out))
           (case side4 => exact HC182_1.out)
           (case side5 => exact Glob.below HG.out (jH HB))
           rintro e w27 ⟨rfl, hb⟩
           refine ⟨_, rfl, ?_⟩
           replace BK183 := Aside0.mk (jB BK183 hb)
           replace HB := Aside0.mk (zT (jH HB) hb)
           (try clear hb)
           (try clear hb2)
           (try clear hk)
           (try clear hi)
           refine hK.out _ _ ⟨(kC BK183.out 0).trans rfl, (kC BK183.out 1).trans rfl, (kC BK183.out 2).trans rfl, ((HB.out.cell (bL w _ hw185_0)).trans hw185_0), ((HB.out.cell (bL w _ hw185_1)).trans hw185_1), ((HB.out.cell (bL w _ hw185_2)).trans hw185_2)⟩ (fun hHeld => ?_)
           clear hK K
           refine qN 26 ?_
           refine qP 15 27 (tB 18 65535) ?_
           refine qP 16 28 (tB 18 131071) ?_
           refine qP 17 29 (tB 18 262143) ?_
           refine done_ (done_of HT_.out (by kernel_rfl)) ?_
           try go_wp2
           go_ret
           exact ⟨by first | rfl | (simp [errW_none, errW_some] <;> rfl) | (simp only [← hji8]; first | rfl | (simp [errW_none, errW_some] <;> rfl)) | (simp [*, errW_none, errW_some] <;> rfl), jH HB⟩
         ·rw [if_neg c10] at H
          exact absurd H (by simp)
        ·rw [if_neg c9] at H
         exact absurd H (by simp)
       ·rw [if_neg c7] at H
        have c7b0 : decide (0 < x7_1) = false := dF c7
        clear c7
        have H' := Aside0.mk H
        clear H
        have p182 : 0 ≤ (x7_1 : Int) := oD (jA)
        have q182 : x7_1 < (l0.length : Int) := oD (jA)
        obtain ⟨ad182, A182_0, c182_0, A182_1, c182_1, e182, hx182_0, hx182_1, hx182_2, hl182_0, hi182_0, hl182_1, hi182_1⟩ := at_T42 HR0.out x7_1 p182 q182
        cases e182
        replace hx182_0 := (HB.out.cell (bL w _ hx182_0)).trans hx182_0
        replace hx182_1 := (HB.out.cell (bL w _ hx182_1)).trans hx182_1
        replace hx182_2 := (HB.out.cell (bL w _ hx182_2)).trans hx182_2
        have HR182_0 := Aside0.mk hi182_0
        have HC182_0 := Aside0.mk hl182_0
        clear hi182_0 hl182_0
        have HR182_1 := Aside0.mk hi182_1
        have HC182_1 := Aside0.mk hl182_1
        clear hi182_1 hl182_1
        replace p182 := eq_true p182
        replace q182 := eq_true q182
        try go_wp2_with (first | ((with_reducible refine gate_dst (N := 4) rfl ?_); refine box_event rfl (N := 4) rfl (cs := #[.slice none 0 0, .slice none 0 0, .int .u32 0]) (t := 42) jW ?_; intro gb183 hg w28 hbox hb; have BK183 := Aside0.mk hbox; have GW183 := Aside0.mk (jG hg HB); have GE183 := Aside0.mk (jG hg HB); replace HB := Aside0.mk (zT (jH HB) hb); clear hb hbox hg; obtain ⟨hcz29_0, hcz29_1, hcz29_2, hfz29_0, hfz29_1, hfz29_2⟩ := kQ3 BK183.out))
        have n0_ : Aside0 ((((w28.setCell ⟨gb183, 0, none⟩ (.slice A182_0 ((rd_T42 l0 x7_1).f0).length c182_0)).setCell ⟨gb183, 1, none⟩ (.slice A182_1 ((rd_T42 l0 x7_1).f1).length c182_1)).setCell ⟨gb183, 2, none⟩ (.int .u32 ((rd_T42 l0 x7_1).f2))).heap[gb183]? = some (.cells #[.slice A182_0 ((rd_T42 l0 x7_1).f0).length c182_0, .slice A182_1 ((rd_T42 l0 x7_1).f1).length c182_1, .int .u32 ((rd_T42 l0 x7_1).f2)] 42 (0, 0))) := ⟨by (with_reducible repeat (first | refine kN ?_ _ | refine kD ?_ | refine kA ?_ _)); refine kP (cs := #[.slice A182_0 ((rd_T42 l0 x7_1).f0).length c182_0, .slice A182_1 ((rd_T42 l0 x7_1).f1).length c182_1, .int .u32 0]) ?_ 2 _ rfl; (with_reducible repeat (first | refine kN ?_ _ | refine kD ?_ | refine kA ?_ _)); refine kP (cs := #[.slice A182_0 ((rd_T42 l0 x7_1).f0).length c182_0, .slice none 0 0, .int .u32 0]) ?_ 1 _ rfl; (with_reducible repeat (first | refine kN ?_ _ | refine kD ?_ | refine kA ?_ _)); refine kP (cs := #[.slice none 0 0, .slice none 0 0, .int .u32 0]) ?_ 0 _ rfl; (with_reducible repeat (first | refine kN ?_ _ | refine kD ?_ | refine kA ?_ _)); exact BK183.out⟩
        have n1_ : Aside0 (Below w.heap.size w (((w28.setCell ⟨gb183, 0, none⟩ (.slice A182_0 ((rd_T42 l0 x7_1).f0).length c182_0)).setCell ⟨gb183, 1, none⟩ (.slice A182_1 ((rd_T42 l0 x7_1).f1).length c182_1)).setCell ⟨gb183, 2, none⟩ (.int .u32 ((rd_T42 l0 x7_1).f2)))) := ⟨jH HB⟩
        (try clear BK183)
        (try clear HB)
        generalize (((w28.setCell ⟨gb183, 0, none⟩ (.slice A182_0 ((rd_T42 l0 x7_1).f0).length c182_0)).setCell ⟨gb183, 1, none⟩ (.slice A182_1 ((rd_T42 l0 x7_1).f1).length c182_1)).setCell ⟨gb183, 2, none⟩ (.int .u32 ((rd_T42 l0 x7_1).f2))) = w30 at n0_ n1_ ⊢
        have BK183 := n0_
        have HB := n1_
        clear n0_ n1_
        replace BK183 := Aside0.mk (kD BK183.out)
        replace HB := Aside0.mk (zD HB.out)
        refine start_ (n := 18) (S := fun w' => w'.cell? ⟨gb183, 0, none⟩ = some (.slice A182_0 ((rd_T42 l0 x7_1).f0).length c182_0) ∧ w'.cell? ⟨gb183, 1, none⟩ = some (.slice A182_1 ((rd_T42 l0 x7_1).f1).length c182_1) ∧ w'.cell? ⟨gb183, 2, none⟩ = some (.int .u32 ((rd_T42 l0 x7_1).f2))) (ds := []) #[false, false, false, false, false, false, false, false, false, false, false, false, false, false, false, false, false, false] (by kernel_rfl) rfl rfl ⟨(kC BK183.out 0).trans rfl, (kC BK183.out 1).trans rfl, (kC BK183.out 2).trans rfl⟩ (fun hHeld => ?_); refine with_tabW table_Right.tab4 table_Right.bits4 (fun HT_ HW_ => ?_)
        generalize w30.drew = w31 at BK183 HB hHeld ⊢
        refine qT 0 12 (tB 18 1) hHeld ?_ (hv := by rintro w' ⟨s0, s1, s2⟩; go_simp; with_reducible rfl)
        refine one_ (i := 1) (N := some 13) (tB 18 3) rfl rfl (one_of HT_.out (by kernel_rfl)) (by decide) (fun K hK => ?_)
        refine goes_ Tryd.func32 (by kernel_rfl) rfl #[.agg #[.slice A182_0 ((rd_T42 l0 x7_1).f0).length c182_0, .slice A182_1 ((rd_T42 l0 x7_1).f1).length c182_1, .int .u32 ((rd_T42 l0 x7_1).f2)]] (by rfl) rfl rfl jZ ?_
        with_reducible refine (table_Rule_right.calls k1 _ _ ((rd_T42 l0 x7_1).f0) _ _ ((rd_T42 l0 x7_1).f1) ((rd_T42 l0 x7_1).f2) true _ ?side1 ?side2 ?side3 ?side4 ?side5 A5.out).mono ?_
        (case side1 => exact jC (Kd.C_below HR182_0.out HB.out))
        (case side2 => exact HC182_0.out)
        (case side3 => exact jC (Kd.C_below HR182_1.out HB.out))
        (case side4 => exact HC182_1.out)
        (case side5 => exact Glob.below HG.out (jH HB))
        rintro e w32 ⟨rfl, hb⟩
        refine ⟨_, rfl, ?_⟩
        replace BK183 := Aside0.mk (jB BK183 hb)
        replace HB := Aside0.mk (zT (jH HB) hb)
        (try clear hb)
        (try clear hb2)
        (try clear hk)
        (try clear hi)
        refine hK.out _ _ ⟨(kC BK183.out 0).trans rfl, (kC BK183.out 1).trans rfl, (kC BK183.out 2).trans rfl⟩ (fun hHeld => ?_)
        clear hK K
        refine qN 13 ?_
        refine qP 2 14 (tB 18 7) ?_
        refine qP 3 15 (tB 18 15) ?_
        refine qP 4 16 (tB 18 31) ?_
        refine qP 5 17 (tB 18 63) ?_
        refine qP 6 18 (tB 18 127) ?_
        refine qU 7 19 (tB 18 255) ?_
        refine qU 8 20 (tB 18 511) ?_
        refine qU 9 21 (tB 18 1023) ?_
        refine qU 10 22 (tB 18 2047) ?_
        refine qU 11 23 (tB 18 4095) ?_
        refine qU 12 24 (tB 18 8191) ?_
        refine qU 13 25 (tB 18 16383) ?_
        refine qU 14 26 (tB 18 32767) ?_
        refine qU 15 27 (tB 18 65535) ?_
        refine qP 16 28 (tB 18 131071) ?_
        refine qP 17 29 (tB 18 262143) ?_
        refine done_ (done_of HT_.out (by kernel_rfl)) ?_
        try go_wp2
        go_roundg k1
        case measure => have := HK1.out; omega
        case rel => exact ⟨(wrap64 (x7_1 + 1)), jS, H', ⟨by have := HK1.out; omega⟩, ⟨jH HB⟩⟩
      ·replace c6 := Bool.eq_false_iff.mpr c6
       subst c6
       rw [if_neg (show ¬ (false = true) by decide)] at H
       obtain rfl := Option.some.inj H
       have p182 : 0 ≤ (x7_1 : Int) := oD (jA)
       have q182 : x7_1 < (l0.length : Int) := oD (jA)
       obtain ⟨ad182, A182_0, c182_0, A182_1, c182_1, e182, hx182_0, hx182_1, hx182_2, hl182_0, hi182_0, hl182_1, hi182_1⟩ := at_T42 HR0.out x7_1 p182 q182
       cases e182
       replace hx182_0 := (HB.out.cell (bL w _ hx182_0)).trans hx182_0
       replace hx182_1 := (HB.out.cell (bL w _ hx182_1)).trans hx182_1
       replace hx182_2 := (HB.out.cell (bL w _ hx182_2)).trans hx182_2
       have HR182_0 := Aside0.mk hi182_0
       have HC182_0 := Aside0.mk hl182_0
       clear hi182_0 hl182_0
       have HR182_1 := Aside0.mk hi182_1
       have HC182_1 := Aside0.mk hl182_1
       clear hi182_1 hl182_1
       replace p182 := eq_true p182
       replace q182 := eq_true q182
       try go_wp2_with (first | ((with_reducible refine gate_dst (N := 4) rfl ?_); refine box_event rfl (N := 4) rfl (cs := #[.slice none 0 0, .slice none 0 0, .int .u32 0]) (t := 42) jW ?_; intro gb183 hg w33 hbox hb; have BK183 := Aside0.mk hbox; have GW183 := Aside0.mk (jG hg HB); have GE183 := Aside0.mk (jG hg HB); replace HB := Aside0.mk (zT (jH HB) hb); clear hb hbox hg; obtain ⟨hcz34_0, hcz34_1, hcz34_2, hfz34_0, hfz34_1, hfz34_2⟩ := kQ3 BK183.out))
       have n0_ : Aside0 ((((w33.setCell ⟨gb183, 0, none⟩ (.slice A182_0 ((rd_T42 l0 x7_1).f0).length c182_0)).setCell ⟨gb183, 1, none⟩ (.slice A182_1 ((rd_T42 l0 x7_1).f1).length c182_1)).setCell ⟨gb183, 2, none⟩ (.int .u32 ((rd_T42 l0 x7_1).f2))).heap[gb183]? = some (.cells #[.slice A182_0 ((rd_T42 l0 x7_1).f0).length c182_0, .slice A182_1 ((rd_T42 l0 x7_1).f1).length c182_1, .int .u32 ((rd_T42 l0 x7_1).f2)] 42 (0, 0))) := ⟨by (with_reducible repeat (first | refine kN ?_ _ | refine kD ?_ | refine kA ?_ _)); refine kP (cs := #[.slice A182_0 ((rd_T42 l0 x7_1).f0).length c182_0, .slice A182_1 ((rd_T42 l0 x7_1).f1).length c182_1, .int .u32 0]) ?_ 2 _ rfl; (with_reducible repeat (first | refine kN ?_ _ | refine kD ?_ | refine kA ?_ _)); refine kP (cs := #[.slice A182_0 ((rd_T42 l0 x7_1).f0).length c182_0, .slice none 0 0, .int .u32 0]) ?_ 1 _ rfl; (with_reducible repeat (first | refine kN ?_ _ | refine kD ?_ | refine kA ?_ _)); refine kP (cs := #[.slice none 0 0, .slice none 0 0, .int .u32 0]) ?_ 0 _ rfl; (with_reducible repeat (first | refine kN ?_ _ | refine kD ?_ | refine kA ?_ _)); exact BK183.out⟩
       have n1_ : Aside0 (Below w.heap.size w (((w33.setCell ⟨gb183, 0, none⟩ (.slice A182_0 ((rd_T42 l0 x7_1).f0).length c182_0)).setCell ⟨gb183, 1, none⟩ (.slice A182_1 ((rd_T42 l0 x7_1).f1).length c182_1)).setCell ⟨gb183, 2, none⟩ (.int .u32 ((rd_T42 l0 x7_1).f2)))) := ⟨jH HB⟩
       (try clear BK183)
       (try clear HB)
       generalize (((w33.setCell ⟨gb183, 0, none⟩ (.slice A182_0 ((rd_T42 l0 x7_1).f0).length c182_0)).setCell ⟨gb183, 1, none⟩ (.slice A182_1 ((rd_T42 l0 x7_1).f1).length c182_1)).setCell ⟨gb183, 2, none⟩ (.int .u32 ((rd_T42 l0 x7_1).f2))) = w35 at n0_ n1_ ⊢
       have BK183 := n0_
       have HB := n1_
       clear n0_ n1_
       replace BK183 := Aside0.mk (kD BK183.out)
       replace HB := Aside0.mk (zD HB.out)
       refine start_ (n := 18) (S := fun w' => w'.cell? ⟨gb183, 0, none⟩ = some (.slice A182_0 ((rd_T42 l0 x7_1).f0).length c182_0) ∧ w'.cell? ⟨gb183, 1, none⟩ = some (.slice A182_1 ((rd_T42 l0 x7_1).f1).length c182_1) ∧ w'.cell? ⟨gb183, 2, none⟩ = some (.int .u32 ((rd_T42 l0 x7_1).f2))) (ds := []) #[false, false, false, false, false, false, false, false, false, false, false, false, false, false, false, false, false, false] (by kernel_rfl) rfl rfl ⟨(kC BK183.out 0).trans rfl, (kC BK183.out 1).trans rfl, (kC BK183.out 2).trans rfl⟩ (fun hHeld => ?_); refine with_tabW table_Right.tab4 table_Right.bits4 (fun HT_ HW_ => ?_)
       generalize w35.drew = w36 at BK183 HB hHeld ⊢
       refine qT 0 12 (tB 18 1) hHeld ?_ (hv := by rintro w' ⟨s0, s1, s2⟩; go_simp; with_reducible rfl)
       refine one_ (i := 1) (N := some 13) (tB 18 3) rfl rfl (one_of HT_.out (by kernel_rfl)) (by decide) (fun K hK => ?_)
       refine goes_ Tryd.func32 (by kernel_rfl) rfl #[.agg #[.slice A182_0 ((rd_T42 l0 x7_1).f0).length c182_0, .slice A182_1 ((rd_T42 l0 x7_1).f1).length c182_1, .int .u32 ((rd_T42 l0 x7_1).f2)]] (by rfl) rfl rfl jZ ?_
       with_reducible refine (table_Rule_right.calls k1 _ _ ((rd_T42 l0 x7_1).f0) _ _ ((rd_T42 l0 x7_1).f1) ((rd_T42 l0 x7_1).f2) false _ ?side1 ?side2 ?side3 ?side4 ?side5 A5.out).mono ?_
       (case side1 => exact jC (Kd.C_below HR182_0.out HB.out))
       (case side2 => exact HC182_0.out)
       (case side3 => exact jC (Kd.C_below HR182_1.out HB.out))
       (case side4 => exact HC182_1.out)
       (case side5 => exact Glob.below HG.out (jH HB))
       rintro e w37 ⟨rfl, hb⟩
       refine ⟨_, rfl, ?_⟩
       replace BK183 := Aside0.mk (jB BK183 hb)
       replace HB := Aside0.mk (zT (jH HB) hb)
       (try clear hb)
       (try clear hb2)
       (try clear hk)
       (try clear hi)
       refine hK.out _ _ ⟨(kC BK183.out 0).trans rfl, (kC BK183.out 1).trans rfl, (kC BK183.out 2).trans rfl⟩ (fun hHeld => ?_)
       clear hK K
       refine qN 13 ?_
       refine qP 2 14 (tB 18 7) ?_
       refine qP 3 15 (tB 18 15) ?_
       refine qU 4 16 (tB 18 31) ?_
       refine qU 5 17 (tB 18 63) ?_
       refine qU 6 18 (tB 18 127) ?_
       refine qU 7 19 (tB 18 255) ?_
       refine qU 8 20 (tB 18 511) ?_
       refine qU 9 21 (tB 18 1023) ?_
       refine qU 10 22 (tB 18 2047) ?_
       refine qU 11 23 (tB 18 4095) ?_
       refine qU 12 24 (tB 18 8191) ?_
       refine qU 13 25 (tB 18 16383) ?_
       refine qU 14 26 (tB 18 32767) ?_
       refine qU 15 27 (tB 18 65535) ?_
       refine qU 16 28 (tB 18 131071) ?_
       refine qP 17 29 (tB 18 262143) ?_
       refine done_ (done_of HT_.out (by kernel_rfl)) ?_
       try go_wp2
       go_ret
       exact ⟨jE, jH HB⟩
     ·rw [if_neg c4] at H
      exact absurd H (by simp)
    ·rw [if_neg c3] at H
     exact absurd H (by simp)
   ·rw [if_neg c2] at H
    have c2b0 : decide (x7_1 < (l0.length : Int)) = false := dF c2
    clear c2
    obtain rfl := Option.some.inj H
    go_wp2
    go_ret
    exact ⟨jE, jH HB⟩
end Go.Proofs.YtahacmdhhfmhiaaDoor.M
