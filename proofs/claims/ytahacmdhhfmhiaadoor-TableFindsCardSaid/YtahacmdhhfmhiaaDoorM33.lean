/- What Go functions compute; their calls come to it. No condition. -/
import Derived.Test.YtahacmdhhfmhiaaDoorM0
import Derived.Test.YtahacmdhhfmhiaaDoorMF
namespace Go.Proofs.YtahacmdhhfmhiaaDoor.M
open Go.RowKit Go.Proofs.YtahacmdhhfmhiaaDoorW.PrintWords Go.Proofs.YtahacmdhhfmhiaaDoorW.PrintLast Go.Proofs.YtahacmdhhfmhiaaDoorW.PrintMore
attribute [local go_sem] max2_int min2_int max_two min_two max_three min_three max_four min_four   -- for this text's walks alone
set_option linter.unusedVariables false
set_option linter.unusedSimpArgs false
def r21_Right.l0 : Nat → List (S45) → Int → Option (Bool)
 | 0, _, _ => none
 | k + 1, x0, x3 => if x3 < (x0.length : Int) then (if 0 ≤ x3 then ((r21_May.f k ((rd_T45 x0 x3).f0) ((rd_T45 x0 x3).f1) ((rd_T45 x0 x3).f2)).bind fun t472 => (if t472 = true then (if x3 > 0 then (if 0 ≤ (wrap64 (x3 - 1)) then (if (wrap64 (x3 - 1)) < (x0.length : Int) then ((r21_Bytes.f k ((rd_T45 x0 (wrap64 (x3 - 1))).f0) ((rd_T45 x0 (wrap64 (x3 - 1))).f1) ((rd_T45 x0 (wrap64 (x3 - 1))).f2)).bind fun t474 => ((r21_Bytes.f k ((rd_T45 x0 x3).f0) ((rd_T45 x0 x3).f1) ((rd_T45 x0 x3).f2)).bind fun t478 => ((r21_less.f k t474 t478).bind fun t481 => (if t481 = true then (r21_Right.l0 k x0 (wrap64 (x3 + 1))) else (some false))))) else (none)) else (none)) else (r21_Right.l0 k x0 (wrap64 (x3 + 1)))) else (some false))) else (none)) else (some (decide ((x0.length : Int) ≤ 64)))
def r21_Right.f (k : Nat) (l0 : List (S45)) : Option (Bool) := r21_Right.l0 k l0 0
theorem r21_Right.mono_l : ∀ k, (∀ y0 y1, LeO (r21_Right.l0 k y0 y1) (r21_Right.l0 (k + 1) y0 y1))
 | 0 => fun _ _ r h => by simp [r21_Right.l0] at h
 | k + 1 => by
  have ih0 := r21_Right.mono_l k
  ·intro y0 y1
   unfold r21_Right.l0
   repeat' first
   | (with_reducible apply ih0)
   | (with_reducible apply r21_Bytes.mono)
   | (with_reducible apply r21_May.mono)
   | (with_reducible apply r21_less.mono)
   | (with_reducible exact LeO.refl _)
   | (with_reducible exact LeO.none _)
   | (with_reducible refine LeO.ite ?_ ?_)
   | (with_reducible refine LeO.bind ?_ (fun _ => ?_))
   | apply ih0
   | apply r21_Bytes.mono
   | apply r21_May.mono
   | apply r21_less.mono
   | exact LeO.none _
   | refine LeO.ite ?_ ?_
   | refine LeO.bind ?_ (fun _ => ?_)
theorem r21_Right.mono : ∀ a0 k, LeO (r21_Right.f k a0) (r21_Right.f (k + 1) a0) := by
 intro a0 k
 have ih0 := r21_Right.mono_l k
 unfold r21_Right.f
 repeat' first
   | (with_reducible apply ih0)
   | (with_reducible apply r21_Bytes.mono)
   | (with_reducible apply r21_May.mono)
   | (with_reducible apply r21_less.mono)
   | (with_reducible exact LeO.refl _)
   | (with_reducible exact LeO.none _)
   | (with_reducible refine LeO.ite ?_ ?_)
   | (with_reducible refine LeO.bind ?_ (fun _ => ?_))
   | apply ih0
   | apply r21_Bytes.mono
   | apply r21_May.mono
   | apply r21_less.mono
   | exact LeO.none _
   | refine LeO.ite ?_ ?_
   | refine LeO.bind ?_ (fun _ => ?_)
def r21_Right.T4 : Bool × List (List Nat × List Nat) := (true, [([], []), ([], []), ([0, 1], [0, 1]), ([2], [2]), ([3], [3]), ([4], [4]), ([5, 4], [5]), ([6], [6]), ([7, 6], [6, 7]), ([8, 6, 6], [6, 8]), ([9], [9]), ([9], [9]), ([11, 9], [9, 11]), ([10, 12, 9], [9, 10, 12]), ([13, 9], [9, 13]), ([14, 9, 9], [9, 14]), ([9], [9]), ([9], [9]), ([16, 17, 9], [9, 16, 17]), ([18, 9], [9, 18]), ([19, 15, 9], [9, 19]), ([15, 20, 20, 9], [9, 15, 20]), ([21, 9], [9, 21]), ([9, 22, 6], [6, 9, 22]), ([6, 23], [6, 23])])
def r21_Right.B4 : List Nat := [0, 0, 3, 7, 15, 31, 63, 127, 255, 511, 1023, 1023, 3071, 8191, 16383, 32767, 1023, 1023, 197631, 459775, 1048575, 2097151, 4194303, 8388607, 16777215]
theorem r21_Right.tab4 : rtab .any (opsOf Tryd.f13 4) = r21_Right.T4 := by kernel_rfl
theorem r21_Right.bits4 : waitsOk r21_Right.T4.2 r21_Right.B4 = true := by kernel_rfl
set_option maxHeartbeats 8000000 in
set_option maxRecDepth 100000 in
theorem r21_Right.calls (k : Nat) (A0 : Option Addr) (c0 : Nat) (l0 : List (S45)) (r : Bool) (w : World) (hr0 : Kd.C k45 w A0 l0.length l0) (hc0 : l0.length ≤ c0) (h : r21_Right.f k l0 = some r) :
  Calls Tryd.prog 13 #[.slice A0 l0.length c0] w fun e w' => e = .returned (.bool r) ∧ Below w.heap.size w w' := by
 have hu45 := Tryd.underlying45
 have HR0 := Aside0.mk hr0
 have HC0 := Aside0.mk hc0
 clear hr0 hc0
 have HB := Aside0.mk (Below.refl w.heap.size w)
 have H : (r21_Right.l0 k l0 0) = some r := h
 clear h
 have H' := Aside0.mk H
 clear H
 go_enter Tryd.func13, Tryd.ntmps13
 go_wp2
 go_loopg [3] k (fun kq v3 w' => ∃ (x3_1 : Int), v3 = .int .i64 x3_1 ∧ Aside0 (r21_Right.l0 kq l0 x3_1 = some r) ∧ Aside0 (kq ≤ k) ∧ Aside0 (Below w.heap.size w w'))
 case atStart => exact ⟨(0), jS, H', ⟨Nat.le_refl _⟩, ⟨jH HB⟩⟩
 case round =>
  clear H'
  obtain ⟨x3_1, rfl, HA, HK1, HB⟩ := hrel
  cases gk with
  | zero => exact absurd HA.out (by simp [r21_Right.l0])
  | succ k1 =>
   have H := HA.out
   clear HA
   simp only [r21_Right.l0] at H
   by_cases c2 : x3_1 < (l0.length : Int)
   ·rw [if_pos c2] at H
    have c2b0 : decide (x3_1 < (l0.length : Int)) = true := dT c2
    clear c2
    by_cases c3 : 0 ≤ x3_1
    ·rw [if_pos c3] at H
     have c3b0 : decide (0 ≤ x3_1) = true := dT c3
     clear c3
     replace H := Option.bind_eq_some_iff.mp H
     obtain ⟨t472, A40, H⟩ := H
     try dsimp only at H
     have A4 := Aside0.mk A40
     clear A40
     by_cases c5 : t472 = true
     ·subst c5
      rw [if_pos rfl] at H
      by_cases c6 : x3_1 > 0
      ·rw [if_pos c6] at H
       have c6b0 : decide (0 < x3_1) = true := dT c6
       clear c6
       obtain ⟨ji7, hji7⟩ : ∃ j_ : Int, (wrap64 (x3_1 - 1)) = j_ := ⟨_, rfl⟩
       replace H : (if 0 ≤ (ji7) then (if (ji7) < (l0.length : Int) then ((r21_Bytes.f k1 ((rd_T45 l0 (ji7)).f0) ((rd_T45 l0 (ji7)).f1) ((rd_T45 l0 (ji7)).f2)).bind fun t474 => ((r21_Bytes.f k1 ((rd_T45 l0 x3_1).f0) ((rd_T45 l0 x3_1).f1) ((rd_T45 l0 x3_1).f2)).bind fun t478 => ((r21_less.f k1 t474 t478).bind fun t481 => (if t481 = true then (r21_Right.l0 k1 l0 (wrap64 (x3_1 + 1))) else (some false))))) else (none)) else (none)) = some r := by first | (rw [hji7] at H; exact H) | (simp only [hji7] at H ⊢; exact H)
       (try rw [hji7] at A4)
       have hji7w : (IntKind.i64.wrap (x3_1 - 1)) = ji7 := (i64_w _).trans hji7
       by_cases c8 : 0 ≤ (ji7)
       ·rw [if_pos c8] at H
        have c8b0 : decide (0 ≤ (ji7)) = true := dT c8
        clear c8
        by_cases c9 : (ji7) < (l0.length : Int)
        ·rw [if_pos c9] at H
         have c9b0 : decide ((ji7) < (l0.length : Int)) = true := dT c9
         clear c9
         replace H := Option.bind_eq_some_iff.mp H
         obtain ⟨t474, A100, H⟩ := H
         try dsimp only at H
         have A10 := Aside0.mk A100
         clear A100
         replace H := Option.bind_eq_some_iff.mp H
         obtain ⟨t478, A110, H⟩ := H
         try dsimp only at H
         have A11 := Aside0.mk A110
         clear A110
         replace H := Option.bind_eq_some_iff.mp H
         obtain ⟨t481, A120, H⟩ := H
         try dsimp only at H
         have A12 := Aside0.mk A120
         clear A120
         by_cases c13 : t481 = true
         ·subst c13
          rw [if_pos rfl] at H
          have H' := Aside0.mk H
          clear H
          try go_wp2
          replace HB := Aside0.mk (zD HB.out)
          have p471 : 0 ≤ (x3_1 : Int) := oD (jA)
          have q471 : x3_1 < (l0.length : Int) := oD (jA)
          obtain ⟨ad471, A471_0, c471_0, A471_1, c471_1, e471, hx471_0, hx471_1, hx471_2, hl471_0, hi471_0, hl471_1, hi471_1⟩ := at_T45 HR0.out x3_1 p471 q471
          have hw471_2 := hx471_2
          have hw471_1 := hx471_1
          have hw471_0 := hx471_0
          cases e471
          replace hx471_0 := (HB.out.cell (bL w _ hx471_0)).trans hx471_0
          replace hx471_1 := (HB.out.cell (bL w _ hx471_1)).trans hx471_1
          replace hx471_2 := (HB.out.cell (bL w _ hx471_2)).trans hx471_2
          have HR471_0 := Aside0.mk hi471_0
          have HC471_0 := Aside0.mk hl471_0
          clear hi471_0 hl471_0
          have HR471_1 := Aside0.mk hi471_1
          have HC471_1 := Aside0.mk hl471_1
          clear hi471_1 hl471_1
          replace p471 := eq_true p471
          replace q471 := eq_true q471
          have p473 : 0 ≤ ((ji7) : Int) := oD (jA)
          have q473 : (ji7) < (l0.length : Int) := oD (jA)
          obtain ⟨ad473, A473_0, c473_0, A473_1, c473_1, e473, hx473_0, hx473_1, hx473_2, hl473_0, hi473_0, hl473_1, hi473_1⟩ := at_T45 HR0.out (ji7) p473 q473
          have hw473_2 := hx473_2
          have hw473_1 := hx473_1
          have hw473_0 := hx473_0
          obtain rfl : ad471 = ad473 := (by injection e473)
          replace hx473_0 := (HB.out.cell (bL w _ hx473_0)).trans hx473_0
          replace hx473_1 := (HB.out.cell (bL w _ hx473_1)).trans hx473_1
          replace hx473_2 := (HB.out.cell (bL w _ hx473_2)).trans hx473_2
          have HR473_0 := Aside0.mk hi473_0
          have HC473_0 := Aside0.mk hl473_0
          clear hi473_0 hl473_0
          have HR473_1 := Aside0.mk hi473_1
          have HC473_1 := Aside0.mk hl473_1
          clear hi473_1 hl473_1
          replace p473 := eq_true p473
          replace q473 := eq_true q473
          have p477 : 0 ≤ (x3_1 : Int) := oD (jA)
          have q477 : x3_1 < (l0.length : Int) := oD (jA)
          obtain ⟨ad477, A477_0, c477_0, A477_1, c477_1, e477, hx477_0, hx477_1, hx477_2, hl477_0, hi477_0, hl477_1, hi477_1⟩ := at_T45 HR0.out x3_1 p477 q477
          have hw477_2 := hx477_2
          have hw477_1 := hx477_1
          have hw477_0 := hx477_0
          obtain rfl : ad471 = ad477 := (by injection e477)
          replace hx477_0 := (HB.out.cell (bL w _ hx477_0)).trans hx477_0
          replace hx477_1 := (HB.out.cell (bL w _ hx477_1)).trans hx477_1
          replace hx477_2 := (HB.out.cell (bL w _ hx477_2)).trans hx477_2
          have HR477_0 := Aside0.mk hi477_0
          have HC477_0 := Aside0.mk hl477_0
          clear hi477_0 hl477_0
          have HR477_1 := Aside0.mk hi477_1
          have HC477_1 := Aside0.mk hl477_1
          clear hi477_1 hl477_1
          replace p477 := eq_true p477
          replace q477 := eq_true q477
          refine start_ (n := 25) (S := fun w' => w'.cell? (ad471.add ((x3_1).toNat * 3)) = some (.slice A471_0 ((rd_T45 l0 x3_1).f0).length c471_0) ∧ w'.cell? ⟨(ad471.add ((x3_1).toNat * 3)).block, (ad471.add ((x3_1).toNat * 3)).off + 1, none⟩ = some (.slice A471_1 ((rd_T45 l0 x3_1).f1).length c471_1) ∧ w'.cell? ⟨(ad471.add ((x3_1).toNat * 3)).block, (ad471.add ((x3_1).toNat * 3)).off + 2, none⟩ = some (.int .u32 ((rd_T45 l0 x3_1).f2)) ∧ w'.cell? (ad471.add (((ji7)).toNat * 3)) = some (.slice A473_0 ((rd_T45 l0 (ji7)).f0).length c473_0) ∧ w'.cell? ⟨(ad471.add (((ji7)).toNat * 3)).block, (ad471.add (((ji7)).toNat * 3)).off + 1, none⟩ = some (.slice A473_1 ((rd_T45 l0 (ji7)).f1).length c473_1) ∧ w'.cell? ⟨(ad471.add (((ji7)).toNat * 3)).block, (ad471.add (((ji7)).toNat * 3)).off + 2, none⟩ = some (.int .u32 ((rd_T45 l0 (ji7)).f2)) ∧ w'.cell? (ad471.add ((x3_1).toNat * 3)) = some (.slice A477_0 ((rd_T45 l0 x3_1).f0).length c477_0) ∧ w'.cell? ⟨(ad471.add ((x3_1).toNat * 3)).block, (ad471.add ((x3_1).toNat * 3)).off + 1, none⟩ = some (.slice A477_1 ((rd_T45 l0 x3_1).f1).length c477_1) ∧ w'.cell? ⟨(ad471.add ((x3_1).toNat * 3)).block, (ad471.add ((x3_1).toNat * 3)).off + 2, none⟩ = some (.int .u32 ((rd_T45 l0 x3_1).f2))) (ds := []) #[false, false, false, false, false, false, false, false, false, false, false, false, false, false, false, false, false, false, false, false, false, false, false, false, false] (by kernel_rfl) rfl rfl ⟨((HB.out.cell (bL w _ hw471_0)).trans hw471_0), ((HB.out.cell (bL w _ hw471_1)).trans hw471_1), ((HB.out.cell (bL w _ hw471_2)).trans hw471_2), ((HB.out.cell (bL w _ hw473_0)).trans hw473_0), ((HB.out.cell (bL w _ hw473_1)).trans hw473_1), ((HB.out.cell (bL w _ hw473_2)).trans hw473_2), ((HB.out.cell (bL w _ hw477_0)).trans hw477_0), ((HB.out.cell (bL w _ hw477_1)).trans hw477_1), ((HB.out.cell (bL w _ hw477_2)).trans hw477_2)⟩ (fun hHeld => ?_); refine with_tabW r21_Right.tab4 r21_Right.bits4 (fun HT_ HW_ => ?_)
          generalize wr.drew = w14 at HB HR471_0 HR471_1 HR473_0 HR473_1 HR477_0 HR477_1 hx471_0 hx471_1 hx471_2 hx473_0 hx473_1 hx473_2 hx477_0 hx477_1 hx477_2 hHeld ⊢
          refine qP 0 10 (tB 25 1) ?_
          refine qP 1 11 (tB 25 3) ?_
          refine qP 2 12 (tB 25 7) ?_
          refine qT 3 13 (tB 25 15) hHeld ?_ (hv := by rintro w' ⟨s0, s1, s2, s3, s4, s5, s6, s7, s8⟩; go_simp; with_reducible rfl)
          refine one_ (i := 4) (N := some 14) (tB 25 31) rfl rfl (one_of HT_.out (by kernel_rfl)) (by decide) (fun K hK => ?_)
          refine goes_ Tryd.func27 (by kernel_rfl) rfl #[.agg #[.slice A471_0 ((rd_T45 l0 x3_1).f0).length c471_0, .slice A471_1 ((rd_T45 l0 x3_1).f1).length c471_1, .int .u32 ((rd_T45 l0 x3_1).f2)]] (by rfl) rfl rfl jZ ?_
          with_reducible refine (r21_May.calls k1 _ _ ((rd_T45 l0 x3_1).f0) _ _ ((rd_T45 l0 x3_1).f1) ((rd_T45 l0 x3_1).f2) true _ ?side1 ?side2 ?side3 ?side4 A4.out).mono ?_
          (case side1 => exact jC (Kd.C_below HR471_0.out HB.out))
          (case side2 => exact HC471_0.out)
          (case side3 => exact jC (Kd.C_below HR471_1.out HB.out))
          (case side4 => exact HC471_1.out)
          rintro e w15 ⟨rfl, hb⟩
          refine ⟨_, rfl, ?_⟩
          replace HB := Aside0.mk (zT (jH HB) hb)
          (try clear hb)
          (try clear hb2)
          (try clear hk)
          (try clear hi)
          refine hK.out _ _ ⟨((HB.out.cell (bL w _ hw471_0)).trans hw471_0), ((HB.out.cell (bL w _ hw471_1)).trans hw471_1), ((HB.out.cell (bL w _ hw471_2)).trans hw471_2), ((HB.out.cell (bL w _ hw473_0)).trans hw473_0), ((HB.out.cell (bL w _ hw473_1)).trans hw473_1), ((HB.out.cell (bL w _ hw473_2)).trans hw473_2), ((HB.out.cell (bL w _ hw477_0)).trans hw477_0), ((HB.out.cell (bL w _ hw477_1)).trans hw477_1), ((HB.out.cell (bL w _ hw477_2)).trans hw477_2)⟩ (fun hHeld => ?_)
          clear hK K
          refine qN 14 ?_
          refine qP 5 15 (tB 25 63) ?_
          refine qP 6 16 (tB 25 127) ?_
          refine qP 7 17 (tB 25 255) ?_
          refine qP 8 18 (tB 25 511) ?_
          refine qP 9 19 (tB 25 1023) ?_
          refine qP 10 20 (tB 25 2047) ?_
          refine qP 11 21 (tB 25 4095) ?_
          refine qP 12 22 (tB 25 8191) ?_
          refine qP 13 23 (tB 25 16383) ?_
          refine qP 16 26 (tB 25 81919) ?_
          refine qP 17 27 (tB 25 212991) ?_
          refine qP 18 28 (tB 25 475135) ?_
          refine qT 14 24 (tB 25 491519) hHeld ?_ (hv := by rintro w' ⟨s0, s1, s2, s3, s4, s5, s6, s7, s8⟩; go_simp; with_reducible rfl)
          refine qT 19 29 (tB 25 1015807) hHeld ?_ (hv := by rintro w' ⟨s0, s1, s2, s3, s4, s5, s6, s7, s8⟩; go_simp; with_reducible rfl)
          refine one_ (i := 15) (N := some 25) (tB 25 1048575) rfl rfl (one_of HT_.out (by kernel_rfl)) (by decide) (fun K hK => ?_)
          refine goes_ Tryd.func31 (by kernel_rfl) rfl #[.agg #[.slice A473_0 ((rd_T45 l0 (ji7)).f0).length c473_0, .slice A473_1 ((rd_T45 l0 (ji7)).f1).length c473_1, .int .u32 ((rd_T45 l0 (ji7)).f2)]] (by rfl) rfl rfl (by (try simp only [List.map_toArray, List.map_cons, List.map_nil]); first | done | (simp only [hji7]; rfl) | rfl | (simp only [List.length_drop, List.length_take]; rfl)) ?_
          with_reducible refine (r21_Bytes.calls k1 _ _ ((rd_T45 l0 (ji7)).f0) _ _ ((rd_T45 l0 (ji7)).f1) ((rd_T45 l0 (ji7)).f2) t474 _ ?side1 ?side2 ?side3 ?side4 A10.out).mono ?_
          (case side1 => exact jC (Kd.C_below HR473_0.out HB.out))
          (case side2 => exact HC473_0.out)
          (case side3 => exact jC (Kd.C_below HR473_1.out HB.out))
          (case side4 => exact HC473_1.out)
          rintro e w16 ⟨v475, rfl, ho0, hb⟩
          refine ⟨_, rfl, ?_⟩
          have HO476 := Aside0.mk (Kd.R_lower ho0 (zZ (jH HB)))
          replace HB := Aside0.mk (zT (jH HB) hb)
          (try clear hb)
          (try clear hb2)
          (try clear hk)
          (try clear hi)
          (try clear ho0)
          refine hK.out _ _ ⟨((HB.out.cell (bL w _ hw471_0)).trans hw471_0), ((HB.out.cell (bL w _ hw471_1)).trans hw471_1), ((HB.out.cell (bL w _ hw471_2)).trans hw471_2), ((HB.out.cell (bL w _ hw473_0)).trans hw473_0), ((HB.out.cell (bL w _ hw473_1)).trans hw473_1), ((HB.out.cell (bL w _ hw473_2)).trans hw473_2), ((HB.out.cell (bL w _ hw477_0)).trans hw477_0), ((HB.out.cell (bL w _ hw477_1)).trans hw477_1), ((HB.out.cell (bL w _ hw477_2)).trans hw477_2)⟩ (fun hHeld => ?_)
          clear hK K
          refine qN 25 ?_
          refine one_ (i := 20) (N := some 30) (tB 25 2097151) rfl rfl (one_of HT_.out (by kernel_rfl)) (by decide) (fun K hK => ?_)
          refine goes_ Tryd.func31 (by kernel_rfl) rfl #[.agg #[.slice A471_0 ((rd_T45 l0 x3_1).f0).length c471_0, .slice A471_1 ((rd_T45 l0 x3_1).f1).length c471_1, .int .u32 ((rd_T45 l0 x3_1).f2)]] (by rfl) rfl rfl jZ ?_
          with_reducible refine (r21_Bytes.calls k1 _ _ ((rd_T45 l0 x3_1).f0) _ _ ((rd_T45 l0 x3_1).f1) ((rd_T45 l0 x3_1).f2) t478 _ ?side1 ?side2 ?side3 ?side4 A11.out).mono ?_
          (case side1 => exact jC (Kd.C_below HR471_0.out HB.out))
          (case side2 => exact HC471_0.out)
          (case side3 => exact jC (Kd.C_below HR471_1.out HB.out))
          (case side4 => exact HC471_1.out)
          rintro e w17 ⟨v479, rfl, ho0, hb⟩
          refine ⟨_, rfl, ?_⟩
          have HO480 := Aside0.mk (Kd.R_lower (Kd.R_new' ho0 (Kd.R_lt (jR HO476))) (zZ (jH HB)))
          replace HO476 := Aside0.mk (Kd.R_elder' (jR HO476) (Kd.R_base ho0) hb)
          replace HB := Aside0.mk (zT (jH HB) hb)
          (try clear hb)
          (try clear hb2)
          (try clear hk)
          (try clear hi)
          (try clear ho0)
          obtain ⟨Ao18, co18, eo18⟩ := Kd.R_slice HO476.out
          (first | subst eo18 | (injection eo18 with f1_ f2_ f3_; have f4_ := f1_.symm; have f5_ := f3_.symm; clear f1_ f2_ f3_; subst f4_; subst f5_))
          obtain ⟨Ao19, co19, eo19⟩ := Kd.R_slice HO480.out
          (first | subst eo19 | (injection eo19 with f1_ f2_ f3_; have f4_ := f1_.symm; have f5_ := f3_.symm; clear f1_ f2_ f3_; subst f4_; subst f5_))
          refine hK.out _ _ ⟨((HB.out.cell (bL w _ hw471_0)).trans hw471_0), ((HB.out.cell (bL w _ hw471_1)).trans hw471_1), ((HB.out.cell (bL w _ hw471_2)).trans hw471_2), ((HB.out.cell (bL w _ hw473_0)).trans hw473_0), ((HB.out.cell (bL w _ hw473_1)).trans hw473_1), ((HB.out.cell (bL w _ hw473_2)).trans hw473_2), ((HB.out.cell (bL w _ hw477_0)).trans hw477_0), ((HB.out.cell (bL w _ hw477_1)).trans hw477_1), ((HB.out.cell (bL w _ hw477_2)).trans hw477_2)⟩ (fun hHeld => ?_)
          clear hK K
          refine qN 30 ?_
          refine one_ (i := 21) (N := some 31) (tB 25 4194303) rfl rfl (one_of HT_.out (by kernel_rfl)) (by decide) (fun K hK => ?_)
          refine goes_ Tryd.func30 (by kernel_rfl) rfl #[.slice Ao18 t474.length co18, .slice Ao19 t478.length co19] (by rfl) rfl rfl jZ ?_
          with_reducible refine (r21_less.calls k1 _ _ t474 _ _ t478 true _ ?side1 ?side2 ?side3 ?side4 A12.out).mono ?_
          (case side1 => exact jC (Kd.R_reads' HO476.out).2.2)
          (case side2 => exact (Kd.R_reads' HO476.out).2.1)
          (case side3 => exact jC (Kd.R_reads' HO480.out).2.2)
          (case side4 => exact (Kd.R_reads' HO480.out).2.1)
          rintro e w' ⟨rfl, ⟨nd, rfl⟩⟩
          refine ⟨_, rfl, ?_⟩
          refine hK.out _ _ ⟨((HB.out.cell (bL w _ hw471_0)).trans hw471_0), ((HB.out.cell (bL w _ hw471_1)).trans hw471_1), ((HB.out.cell (bL w _ hw471_2)).trans hw471_2), ((HB.out.cell (bL w _ hw473_0)).trans hw473_0), ((HB.out.cell (bL w _ hw473_1)).trans hw473_1), ((HB.out.cell (bL w _ hw473_2)).trans hw473_2), ((HB.out.cell (bL w _ hw477_0)).trans hw477_0), ((HB.out.cell (bL w _ hw477_1)).trans hw477_1), ((HB.out.cell (bL w _ hw477_2)).trans hw477_2)⟩ (fun hHeld => ?_)
          clear hK K
          refine qN 31 ?_
          refine qP 22 32 (tB 25 8388607) ?_
          refine qP 23 33 (tB 25 16777215) ?_
          refine qP 24 34 (tB 25 33554431) ?_
          refine done_ (done_of HT_.out (by kernel_rfl)) ?_
          try go_wp2
          go_roundg k1
          case measure => have := HK1.out; omega
          case rel => exact ⟨(wrap64 (x3_1 + 1)), jS, H', ⟨by have := HK1.out; omega⟩, ⟨jH HB⟩⟩
         ·replace c13 := Bool.eq_false_iff.mpr c13
          subst c13
          rw [if_neg (show ¬ (false = true) by decide)] at H
          obtain rfl := Option.some.inj H
          try go_wp2
          replace HB := Aside0.mk (zD HB.out)
          have p471 : 0 ≤ (x3_1 : Int) := oD (jA)
          have q471 : x3_1 < (l0.length : Int) := oD (jA)
          obtain ⟨ad471, A471_0, c471_0, A471_1, c471_1, e471, hx471_0, hx471_1, hx471_2, hl471_0, hi471_0, hl471_1, hi471_1⟩ := at_T45 HR0.out x3_1 p471 q471
          have hw471_2 := hx471_2
          have hw471_1 := hx471_1
          have hw471_0 := hx471_0
          cases e471
          replace hx471_0 := (HB.out.cell (bL w _ hx471_0)).trans hx471_0
          replace hx471_1 := (HB.out.cell (bL w _ hx471_1)).trans hx471_1
          replace hx471_2 := (HB.out.cell (bL w _ hx471_2)).trans hx471_2
          have HR471_0 := Aside0.mk hi471_0
          have HC471_0 := Aside0.mk hl471_0
          clear hi471_0 hl471_0
          have HR471_1 := Aside0.mk hi471_1
          have HC471_1 := Aside0.mk hl471_1
          clear hi471_1 hl471_1
          replace p471 := eq_true p471
          replace q471 := eq_true q471
          have p473 : 0 ≤ ((ji7) : Int) := oD (jA)
          have q473 : (ji7) < (l0.length : Int) := oD (jA)
          obtain ⟨ad473, A473_0, c473_0, A473_1, c473_1, e473, hx473_0, hx473_1, hx473_2, hl473_0, hi473_0, hl473_1, hi473_1⟩ := at_T45 HR0.out (ji7) p473 q473
          have hw473_2 := hx473_2
          have hw473_1 := hx473_1
          have hw473_0 := hx473_0
          obtain rfl : ad471 = ad473 := (by injection e473)
          replace hx473_0 := (HB.out.cell (bL w _ hx473_0)).trans hx473_0
          replace hx473_1 := (HB.out.cell (bL w _ hx473_1)).trans hx473_1
          replace hx473_2 := (HB.out.cell (bL w _ hx473_2)).trans hx473_2
          have HR473_0 := Aside0.mk hi473_0
          have HC473_0 := Aside0.mk hl473_0
          clear hi473_0 hl473_0
          have HR473_1 := Aside0.mk hi473_1
          have HC473_1 := Aside0.mk hl473_1
          clear hi473_1 hl473_1
          replace p473 := eq_true p473
          replace q473 := eq_true q473
          have p477 : 0 ≤ (x3_1 : Int) := oD (jA)
          have q477 : x3_1 < (l0.length : Int) := oD (jA)
          obtain ⟨ad477, A477_0, c477_0, A477_1, c477_1, e477, hx477_0, hx477_1, hx477_2, hl477_0, hi477_0, hl477_1, hi477_1⟩ := at_T45 HR0.out x3_1 p477 q477
          have hw477_2 := hx477_2
          have hw477_1 := hx477_1
          have hw477_0 := hx477_0
          obtain rfl : ad471 = ad477 := (by injection e477)
          replace hx477_0 := (HB.out.cell (bL w _ hx477_0)).trans hx477_0
          replace hx477_1 := (HB.out.cell (bL w _ hx477_1)).trans hx477_1
          replace hx477_2 := (HB.out.cell (bL w _ hx477_2)).trans hx477_2
          have HR477_0 := Aside0.mk hi477_0
          have HC477_0 := Aside0.mk hl477_0
          clear hi477_0 hl477_0
          have HR477_1 := Aside0.mk hi477_1
          have HC477_1 := Aside0.mk hl477_1
          clear hi477_1 hl477_1
          replace p477 := eq_true p477
          replace q477 := eq_true q477
          refine start_ (n := 25) (S := fun w' => w'.cell? (ad471.add ((x3_1).toNat * 3)) = some (.slice A471_0 ((rd_T45 l0 x3_1).f0).length c471_0) ∧ w'.cell? ⟨(ad471.add ((x3_1).toNat * 3)).block, (ad471.add ((x3_1).toNat * 3)).off + 1, none⟩ = some (.slice A471_1 ((rd_T45 l0 x3_1).f1).length c471_1) ∧ w'.cell? ⟨(ad471.add ((x3_1).toNat * 3)).block, (ad471.add ((x3_1).toNat * 3)).off + 2, none⟩ = some (.int .u32 ((rd_T45 l0 x3_1).f2)) ∧ w'.cell? (ad471.add (((ji7)).toNat * 3)) = some (.slice A473_0 ((rd_T45 l0 (ji7)).f0).length c473_0) ∧ w'.cell? ⟨(ad471.add (((ji7)).toNat * 3)).block, (ad471.add (((ji7)).toNat * 3)).off + 1, none⟩ = some (.slice A473_1 ((rd_T45 l0 (ji7)).f1).length c473_1) ∧ w'.cell? ⟨(ad471.add (((ji7)).toNat * 3)).block, (ad471.add (((ji7)).toNat * 3)).off + 2, none⟩ = some (.int .u32 ((rd_T45 l0 (ji7)).f2)) ∧ w'.cell? (ad471.add ((x3_1).toNat * 3)) = some (.slice A477_0 ((rd_T45 l0 x3_1).f0).length c477_0) ∧ w'.cell? ⟨(ad471.add ((x3_1).toNat * 3)).block, (ad471.add ((x3_1).toNat * 3)).off + 1, none⟩ = some (.slice A477_1 ((rd_T45 l0 x3_1).f1).length c477_1) ∧ w'.cell? ⟨(ad471.add ((x3_1).toNat * 3)).block, (ad471.add ((x3_1).toNat * 3)).off + 2, none⟩ = some (.int .u32 ((rd_T45 l0 x3_1).f2))) (ds := []) #[false, false, false, false, false, false, false, false, false, false, false, false, false, false, false, false, false, false, false, false, false, false, false, false, false] (by kernel_rfl) rfl rfl ⟨((HB.out.cell (bL w _ hw471_0)).trans hw471_0), ((HB.out.cell (bL w _ hw471_1)).trans hw471_1), ((HB.out.cell (bL w _ hw471_2)).trans hw471_2), ((HB.out.cell (bL w _ hw473_0)).trans hw473_0), ((HB.out.cell (bL w _ hw473_1)).trans hw473_1), ((HB.out.cell (bL w _ hw473_2)).trans hw473_2), ((HB.out.cell (bL w _ hw477_0)).trans hw477_0), ((HB.out.cell (bL w _ hw477_1)).trans hw477_1), ((HB.out.cell (bL w _ hw477_2)).trans hw477_2)⟩ (fun hHeld => ?_); refine with_tabW r21_Right.tab4 r21_Right.bits4 (fun HT_ HW_ => ?_)
          generalize wr.drew = w20 at HB HR471_0 HR471_1 HR473_0 HR473_1 HR477_0 HR477_1 hx471_0 hx471_1 hx471_2 hx473_0 hx473_1 hx473_2 hx477_0 hx477_1 hx477_2 hHeld ⊢
          refine qP 0 10 (tB 25 1) ?_
          refine qP 1 11 (tB 25 3) ?_
          refine qP 2 12 (tB 25 7) ?_
          refine qT 3 13 (tB 25 15) hHeld ?_ (hv := by rintro w' ⟨s0, s1, s2, s3, s4, s5, s6, s7, s8⟩; go_simp; with_reducible rfl)
          refine one_ (i := 4) (N := some 14) (tB 25 31) rfl rfl (one_of HT_.out (by kernel_rfl)) (by decide) (fun K hK => ?_)
          refine goes_ Tryd.func27 (by kernel_rfl) rfl #[.agg #[.slice A471_0 ((rd_T45 l0 x3_1).f0).length c471_0, .slice A471_1 ((rd_T45 l0 x3_1).f1).length c471_1, .int .u32 ((rd_T45 l0 x3_1).f2)]] (by rfl) rfl rfl jZ ?_
          with_reducible refine (r21_May.calls k1 _ _ ((rd_T45 l0 x3_1).f0) _ _ ((rd_T45 l0 x3_1).f1) ((rd_T45 l0 x3_1).f2) true _ ?side1 ?side2 ?side3 ?side4 A4.out).mono ?_
          (case side1 => exact jC (Kd.C_below HR471_0.out HB.out))
          (case side2 => exact HC471_0.out)
          (case side3 => exact jC (Kd.C_below HR471_1.out HB.out))
          (case side4 => exact HC471_1.out)
          rintro e w21 ⟨rfl, hb⟩
          refine ⟨_, rfl, ?_⟩
          replace HB := Aside0.mk (zT (jH HB) hb)
          (try clear hb)
          (try clear hb2)
          (try clear hk)
          (try clear hi)
          refine hK.out _ _ ⟨((HB.out.cell (bL w _ hw471_0)).trans hw471_0), ((HB.out.cell (bL w _ hw471_1)).trans hw471_1), ((HB.out.cell (bL w _ hw471_2)).trans hw471_2), ((HB.out.cell (bL w _ hw473_0)).trans hw473_0), ((HB.out.cell (bL w _ hw473_1)).trans hw473_1), ((HB.out.cell (bL w _ hw473_2)).trans hw473_2), ((HB.out.cell (bL w _ hw477_0)).trans hw477_0), ((HB.out.cell (bL w _ hw477_1)).trans hw477_1), ((HB.out.cell (bL w _ hw477_2)).trans hw477_2)⟩ (fun hHeld => ?_)
          clear hK K
          refine qN 14 ?_
          refine qP 5 15 (tB 25 63) ?_
          refine qP 6 16 (tB 25 127) ?_
          refine qP 7 17 (tB 25 255) ?_
          refine qP 8 18 (tB 25 511) ?_
          refine qP 9 19 (tB 25 1023) ?_
          refine qP 10 20 (tB 25 2047) ?_
          refine qP 11 21 (tB 25 4095) ?_
          refine qP 12 22 (tB 25 8191) ?_
          refine qP 13 23 (tB 25 16383) ?_
          refine qP 16 26 (tB 25 81919) ?_
          refine qP 17 27 (tB 25 212991) ?_
          refine qP 18 28 (tB 25 475135) ?_
          refine qT 14 24 (tB 25 491519) hHeld ?_ (hv := by rintro w' ⟨s0, s1, s2, s3, s4, s5, s6, s7, s8⟩; go_simp; with_reducible rfl)
          refine qT 19 29 (tB 25 1015807) hHeld ?_ (hv := by rintro w' ⟨s0, s1, s2, s3, s4, s5, s6, s7, s8⟩; go_simp; with_reducible rfl)
          refine one_ (i := 15) (N := some 25) (tB 25 1048575) rfl rfl (one_of HT_.out (by kernel_rfl)) (by decide) (fun K hK => ?_)
          refine goes_ Tryd.func31 (by kernel_rfl) rfl #[.agg #[.slice A473_0 ((rd_T45 l0 (ji7)).f0).length c473_0, .slice A473_1 ((rd_T45 l0 (ji7)).f1).length c473_1, .int .u32 ((rd_T45 l0 (ji7)).f2)]] (by rfl) rfl rfl (by (try simp only [List.map_toArray, List.map_cons, List.map_nil]); first | done | (simp only [hji7]; rfl) | rfl | (simp only [List.length_drop, List.length_take]; rfl)) ?_
          with_reducible refine (r21_Bytes.calls k1 _ _ ((rd_T45 l0 (ji7)).f0) _ _ ((rd_T45 l0 (ji7)).f1) ((rd_T45 l0 (ji7)).f2) t474 _ ?side1 ?side2 ?side3 ?side4 A10.out).mono ?_
          (case side1 => exact jC (Kd.C_below HR473_0.out HB.out))
          (case side2 => exact HC473_0.out)
          (case side3 => exact jC (Kd.C_below HR473_1.out HB.out))
          (case side4 => exact HC473_1.out)
          rintro e w22 ⟨v475, rfl, ho0, hb⟩
          refine ⟨_, rfl, ?_⟩
          have HO476 := Aside0.mk (Kd.R_lower ho0 (zZ (jH HB)))
          replace HB := Aside0.mk (zT (jH HB) hb)
          (try clear hb)
          (try clear hb2)
          (try clear hk)
          (try clear hi)
          (try clear ho0)
          refine hK.out _ _ ⟨((HB.out.cell (bL w _ hw471_0)).trans hw471_0), ((HB.out.cell (bL w _ hw471_1)).trans hw471_1), ((HB.out.cell (bL w _ hw471_2)).trans hw471_2), ((HB.out.cell (bL w _ hw473_0)).trans hw473_0), ((HB.out.cell (bL w _ hw473_1)).trans hw473_1), ((HB.out.cell (bL w _ hw473_2)).trans hw473_2), ((HB.out.cell (bL w _ hw477_0)).trans hw477_0), ((HB.out.cell (bL w _ hw477_1)).trans hw477_1), ((HB.out.cell (bL w _ hw477_2)).trans hw477_2)⟩ (fun hHeld => ?_)
          clear hK K
          refine qN 25 ?_
          refine one_ (i := 20) (N := some 30) (tB 25 2097151) rfl rfl (one_of HT_.out (by kernel_rfl)) (by decide) (fun K hK => ?_)
          refine goes_ Tryd.func31 (by kernel_rfl) rfl #[.agg #[.slice A471_0 ((rd_T45 l0 x3_1).f0).length c471_0, .slice A471_1 ((rd_T45 l0 x3_1).f1).length c471_1, .int .u32 ((rd_T45 l0 x3_1).f2)]] (by rfl) rfl rfl jZ ?_
          with_reducible refine (r21_Bytes.calls k1 _ _ ((rd_T45 l0 x3_1).f0) _ _ ((rd_T45 l0 x3_1).f1) ((rd_T45 l0 x3_1).f2) t478 _ ?side1 ?side2 ?side3 ?side4 A11.out).mono ?_
          (case side1 => exact jC (Kd.C_below HR471_0.out HB.out))
          (case side2 => exact HC471_0.out)
          (case side3 => exact jC (Kd.C_below HR471_1.out HB.out))
          (case side4 => exact HC471_1.out)
          rintro e w23 ⟨v479, rfl, ho0, hb⟩
          refine ⟨_, rfl, ?_⟩
          have HO480 := Aside0.mk (Kd.R_lower (Kd.R_new' ho0 (Kd.R_lt (jR HO476))) (zZ (jH HB)))
          replace HO476 := Aside0.mk (Kd.R_elder' (jR HO476) (Kd.R_base ho0) hb)
          replace HB := Aside0.mk (zT (jH HB) hb)
          (try clear hb)
          (try clear hb2)
          (try clear hk)
          (try clear hi)
          (try clear ho0)
          obtain ⟨Ao24, co24, eo24⟩ := Kd.R_slice HO476.out
          (first | subst eo24 | (injection eo24 with f1_ f2_ f3_; have f4_ := f1_.symm; have f5_ := f3_.symm; clear f1_ f2_ f3_; subst f4_; subst f5_))
          obtain ⟨Ao25, co25, eo25⟩ := Kd.R_slice HO480.out
          (first | subst eo25 | (injection eo25 with f1_ f2_ f3_; have f4_ := f1_.symm; have f5_ := f3_.symm; clear f1_ f2_ f3_; subst f4_; subst f5_))
          refine hK.out _ _ ⟨((HB.out.cell (bL w _ hw471_0)).trans hw471_0), ((HB.out.cell (bL w _ hw471_1)).trans hw471_1), ((HB.out.cell (bL w _ hw471_2)).trans hw471_2), ((HB.out.cell (bL w _ hw473_0)).trans hw473_0), ((HB.out.cell (bL w _ hw473_1)).trans hw473_1), ((HB.out.cell (bL w _ hw473_2)).trans hw473_2), ((HB.out.cell (bL w _ hw477_0)).trans hw477_0), ((HB.out.cell (bL w _ hw477_1)).trans hw477_1), ((HB.out.cell (bL w _ hw477_2)).trans hw477_2)⟩ (fun hHeld => ?_)
          clear hK K
          refine qN 30 ?_
          refine one_ (i := 21) (N := some 31) (tB 25 4194303) rfl rfl (one_of HT_.out (by kernel_rfl)) (by decide) (fun K hK => ?_)
          refine goes_ Tryd.func30 (by kernel_rfl) rfl #[.slice Ao24 t474.length co24, .slice Ao25 t478.length co25] (by rfl) rfl rfl jZ ?_
          with_reducible refine (r21_less.calls k1 _ _ t474 _ _ t478 false _ ?side1 ?side2 ?side3 ?side4 A12.out).mono ?_
          (case side1 => exact jC (Kd.R_reads' HO476.out).2.2)
          (case side2 => exact (Kd.R_reads' HO476.out).2.1)
          (case side3 => exact jC (Kd.R_reads' HO480.out).2.2)
          (case side4 => exact (Kd.R_reads' HO480.out).2.1)
          rintro e w' ⟨rfl, ⟨nd, rfl⟩⟩
          refine ⟨_, rfl, ?_⟩
          refine hK.out _ _ ⟨((HB.out.cell (bL w _ hw471_0)).trans hw471_0), ((HB.out.cell (bL w _ hw471_1)).trans hw471_1), ((HB.out.cell (bL w _ hw471_2)).trans hw471_2), ((HB.out.cell (bL w _ hw473_0)).trans hw473_0), ((HB.out.cell (bL w _ hw473_1)).trans hw473_1), ((HB.out.cell (bL w _ hw473_2)).trans hw473_2), ((HB.out.cell (bL w _ hw477_0)).trans hw477_0), ((HB.out.cell (bL w _ hw477_1)).trans hw477_1), ((HB.out.cell (bL w _ hw477_2)).trans hw477_2)⟩ (fun hHeld => ?_)
          clear hK K
          refine qN 31 ?_
          refine qP 22 32 (tB 25 8388607) ?_
          refine qP 23 33 (tB 25 16777215) ?_
          refine qP 24 34 (tB 25 33554431) ?_
          refine done_ (done_of HT_.out (by kernel_rfl)) ?_
          try go_wp2
          go_ret
          exact ⟨by first | rfl | (simp [errW_none, errW_some] <;> rfl) | (simp only [← hji7]; first | rfl | (simp [errW_none, errW_some] <;> rfl)) | (simp [*, errW_none, errW_some] <;> rfl), jH HB⟩
        ·rw [if_neg c9] at H
         exact absurd H (by simp)
       ·rw [if_neg c8] at H
        exact absurd H (by simp)
      ·rw [if_neg c6] at H
       have c6b0 : decide (0 < x3_1) = false := dF c6
       clear c6
       have H' := Aside0.mk H
       clear H
       try go_wp2
       replace HB := Aside0.mk (zD HB.out)
       have p471 : 0 ≤ (x3_1 : Int) := oD (jA)
       have q471 : x3_1 < (l0.length : Int) := oD (jA)
       obtain ⟨ad471, A471_0, c471_0, A471_1, c471_1, e471, hx471_0, hx471_1, hx471_2, hl471_0, hi471_0, hl471_1, hi471_1⟩ := at_T45 HR0.out x3_1 p471 q471
       have hw471_2 := hx471_2
       have hw471_1 := hx471_1
       have hw471_0 := hx471_0
       cases e471
       replace hx471_0 := (HB.out.cell (bL w _ hx471_0)).trans hx471_0
       replace hx471_1 := (HB.out.cell (bL w _ hx471_1)).trans hx471_1
       replace hx471_2 := (HB.out.cell (bL w _ hx471_2)).trans hx471_2
       have HR471_0 := Aside0.mk hi471_0
       have HC471_0 := Aside0.mk hl471_0
       clear hi471_0 hl471_0
       have HR471_1 := Aside0.mk hi471_1
       have HC471_1 := Aside0.mk hl471_1
       clear hi471_1 hl471_1
       replace p471 := eq_true p471
       replace q471 := eq_true q471
       refine start_ (n := 25) (S := fun w' => w'.cell? (ad471.add ((x3_1).toNat * 3)) = some (.slice A471_0 ((rd_T45 l0 x3_1).f0).length c471_0) ∧ w'.cell? ⟨(ad471.add ((x3_1).toNat * 3)).block, (ad471.add ((x3_1).toNat * 3)).off + 1, none⟩ = some (.slice A471_1 ((rd_T45 l0 x3_1).f1).length c471_1) ∧ w'.cell? ⟨(ad471.add ((x3_1).toNat * 3)).block, (ad471.add ((x3_1).toNat * 3)).off + 2, none⟩ = some (.int .u32 ((rd_T45 l0 x3_1).f2))) (ds := []) #[false, false, false, false, false, false, false, false, false, false, false, false, false, false, false, false, false, false, false, false, false, false, false, false, false] (by kernel_rfl) rfl rfl ⟨((HB.out.cell (bL w _ hw471_0)).trans hw471_0), ((HB.out.cell (bL w _ hw471_1)).trans hw471_1), ((HB.out.cell (bL w _ hw471_2)).trans hw471_2)⟩ (fun hHeld => ?_); refine with_tabW r21_Right.tab4 r21_Right.bits4 (fun HT_ HW_ => ?_)
       generalize wr.drew = w26 at HB HR471_0 HR471_1 hx471_0 hx471_1 hx471_2 hHeld ⊢
       refine qP 0 10 (tB 25 1) ?_
       refine qP 1 11 (tB 25 3) ?_
       refine qP 2 12 (tB 25 7) ?_
       refine qT 3 13 (tB 25 15) hHeld ?_ (hv := by rintro w' ⟨s0, s1, s2⟩; go_simp; with_reducible rfl)
       refine one_ (i := 4) (N := some 14) (tB 25 31) rfl rfl (one_of HT_.out (by kernel_rfl)) (by decide) (fun K hK => ?_)
       refine goes_ Tryd.func27 (by kernel_rfl) rfl #[.agg #[.slice A471_0 ((rd_T45 l0 x3_1).f0).length c471_0, .slice A471_1 ((rd_T45 l0 x3_1).f1).length c471_1, .int .u32 ((rd_T45 l0 x3_1).f2)]] (by rfl) rfl rfl jZ ?_
       with_reducible refine (r21_May.calls k1 _ _ ((rd_T45 l0 x3_1).f0) _ _ ((rd_T45 l0 x3_1).f1) ((rd_T45 l0 x3_1).f2) true _ ?side1 ?side2 ?side3 ?side4 A4.out).mono ?_
       (case side1 => exact jC (Kd.C_below HR471_0.out HB.out))
       (case side2 => exact HC471_0.out)
       (case side3 => exact jC (Kd.C_below HR471_1.out HB.out))
       (case side4 => exact HC471_1.out)
       rintro e w27 ⟨rfl, hb⟩
       refine ⟨_, rfl, ?_⟩
       replace HB := Aside0.mk (zT (jH HB) hb)
       (try clear hb)
       (try clear hb2)
       (try clear hk)
       (try clear hi)
       refine hK.out _ _ ⟨((HB.out.cell (bL w _ hw471_0)).trans hw471_0), ((HB.out.cell (bL w _ hw471_1)).trans hw471_1), ((HB.out.cell (bL w _ hw471_2)).trans hw471_2)⟩ (fun hHeld => ?_)
       clear hK K
       refine qN 14 ?_
       refine qP 5 15 (tB 25 63) ?_
       refine qP 6 16 (tB 25 127) ?_
       refine qP 7 17 (tB 25 255) ?_
       refine qP 8 18 (tB 25 511) ?_
       refine qP 9 19 (tB 25 1023) ?_
       refine qU 10 20 (tB 25 2047) ?_
       refine qU 11 21 (tB 25 4095) ?_
       refine qU 12 22 (tB 25 8191) ?_
       refine qU 13 23 (tB 25 16383) ?_
       refine qU 14 24 (tB 25 32767) ?_
       refine qU 15 25 (tB 25 65535) ?_
       refine qU 16 26 (tB 25 131071) ?_
       refine qU 17 27 (tB 25 262143) ?_
       refine qU 18 28 (tB 25 524287) ?_
       refine qU 19 29 (tB 25 1048575) ?_
       refine qU 20 30 (tB 25 2097151) ?_
       refine qU 21 31 (tB 25 4194303) ?_
       refine qU 22 32 (tB 25 8388607) ?_
       refine qP 23 33 (tB 25 16777215) ?_
       refine qP 24 34 (tB 25 33554431) ?_
       refine done_ (done_of HT_.out (by kernel_rfl)) ?_
       try go_wp2
       go_roundg k1
       case measure => have := HK1.out; omega
       case rel => exact ⟨(wrap64 (x3_1 + 1)), jS, H', ⟨by have := HK1.out; omega⟩, ⟨jH HB⟩⟩
     ·replace c5 := Bool.eq_false_iff.mpr c5
      subst c5
      rw [if_neg (show ¬ (false = true) by decide)] at H
      obtain rfl := Option.some.inj H
      try go_wp2
      replace HB := Aside0.mk (zD HB.out)
      have p471 : 0 ≤ (x3_1 : Int) := oD (jA)
      have q471 : x3_1 < (l0.length : Int) := oD (jA)
      obtain ⟨ad471, A471_0, c471_0, A471_1, c471_1, e471, hx471_0, hx471_1, hx471_2, hl471_0, hi471_0, hl471_1, hi471_1⟩ := at_T45 HR0.out x3_1 p471 q471
      have hw471_2 := hx471_2
      have hw471_1 := hx471_1
      have hw471_0 := hx471_0
      cases e471
      replace hx471_0 := (HB.out.cell (bL w _ hx471_0)).trans hx471_0
      replace hx471_1 := (HB.out.cell (bL w _ hx471_1)).trans hx471_1
      replace hx471_2 := (HB.out.cell (bL w _ hx471_2)).trans hx471_2
      have HR471_0 := Aside0.mk hi471_0
      have HC471_0 := Aside0.mk hl471_0
      clear hi471_0 hl471_0
      have HR471_1 := Aside0.mk hi471_1
      have HC471_1 := Aside0.mk hl471_1
      clear hi471_1 hl471_1
      replace p471 := eq_true p471
      replace q471 := eq_true q471
      refine start_ (n := 25) (S := fun w' => w'.cell? (ad471.add ((x3_1).toNat * 3)) = some (.slice A471_0 ((rd_T45 l0 x3_1).f0).length c471_0) ∧ w'.cell? ⟨(ad471.add ((x3_1).toNat * 3)).block, (ad471.add ((x3_1).toNat * 3)).off + 1, none⟩ = some (.slice A471_1 ((rd_T45 l0 x3_1).f1).length c471_1) ∧ w'.cell? ⟨(ad471.add ((x3_1).toNat * 3)).block, (ad471.add ((x3_1).toNat * 3)).off + 2, none⟩ = some (.int .u32 ((rd_T45 l0 x3_1).f2))) (ds := []) #[false, false, false, false, false, false, false, false, false, false, false, false, false, false, false, false, false, false, false, false, false, false, false, false, false] (by kernel_rfl) rfl rfl ⟨((HB.out.cell (bL w _ hw471_0)).trans hw471_0), ((HB.out.cell (bL w _ hw471_1)).trans hw471_1), ((HB.out.cell (bL w _ hw471_2)).trans hw471_2)⟩ (fun hHeld => ?_); refine with_tabW r21_Right.tab4 r21_Right.bits4 (fun HT_ HW_ => ?_)
      generalize wr.drew = w28 at HB HR471_0 HR471_1 hx471_0 hx471_1 hx471_2 hHeld ⊢
      refine qP 0 10 (tB 25 1) ?_
      refine qP 1 11 (tB 25 3) ?_
      refine qP 2 12 (tB 25 7) ?_
      refine qT 3 13 (tB 25 15) hHeld ?_ (hv := by rintro w' ⟨s0, s1, s2⟩; go_simp; with_reducible rfl)
      refine one_ (i := 4) (N := some 14) (tB 25 31) rfl rfl (one_of HT_.out (by kernel_rfl)) (by decide) (fun K hK => ?_)
      refine goes_ Tryd.func27 (by kernel_rfl) rfl #[.agg #[.slice A471_0 ((rd_T45 l0 x3_1).f0).length c471_0, .slice A471_1 ((rd_T45 l0 x3_1).f1).length c471_1, .int .u32 ((rd_T45 l0 x3_1).f2)]] (by rfl) rfl rfl jZ ?_
      with_reducible refine (r21_May.calls k1 _ _ ((rd_T45 l0 x3_1).f0) _ _ ((rd_T45 l0 x3_1).f1) ((rd_T45 l0 x3_1).f2) false _ ?side1 ?side2 ?side3 ?side4 A4.out).mono ?_
      (case side1 => exact jC (Kd.C_below HR471_0.out HB.out))
      (case side2 => exact HC471_0.out)
      (case side3 => exact jC (Kd.C_below HR471_1.out HB.out))
      (case side4 => exact HC471_1.out)
      rintro e w29 ⟨rfl, hb⟩
      refine ⟨_, rfl, ?_⟩
      replace HB := Aside0.mk (zT (jH HB) hb)
      (try clear hb)
      (try clear hb2)
      (try clear hk)
      (try clear hi)
      refine hK.out _ _ ⟨((HB.out.cell (bL w _ hw471_0)).trans hw471_0), ((HB.out.cell (bL w _ hw471_1)).trans hw471_1), ((HB.out.cell (bL w _ hw471_2)).trans hw471_2)⟩ (fun hHeld => ?_)
      clear hK K
      refine qN 14 ?_
      refine qP 5 15 (tB 25 63) ?_
      refine qP 6 16 (tB 25 127) ?_
      refine qU 7 17 (tB 25 255) ?_
      refine qU 8 18 (tB 25 511) ?_
      refine qU 9 19 (tB 25 1023) ?_
      refine qU 10 20 (tB 25 2047) ?_
      refine qU 11 21 (tB 25 4095) ?_
      refine qU 12 22 (tB 25 8191) ?_
      refine qU 13 23 (tB 25 16383) ?_
      refine qU 14 24 (tB 25 32767) ?_
      refine qU 15 25 (tB 25 65535) ?_
      refine qU 16 26 (tB 25 131071) ?_
      refine qU 17 27 (tB 25 262143) ?_
      refine qU 18 28 (tB 25 524287) ?_
      refine qU 19 29 (tB 25 1048575) ?_
      refine qU 20 30 (tB 25 2097151) ?_
      refine qU 21 31 (tB 25 4194303) ?_
      refine qU 22 32 (tB 25 8388607) ?_
      refine qU 23 33 (tB 25 16777215) ?_
      refine qP 24 34 (tB 25 33554431) ?_
      refine done_ (done_of HT_.out (by kernel_rfl)) ?_
      try go_wp2
      go_ret
      exact ⟨jE, jH HB⟩
    ·rw [if_neg c3] at H
     exact absurd H (by simp)
   ·rw [if_neg c2] at H
    have c2b0 : decide (x3_1 < (l0.length : Int)) = false := dF c2
    clear c2
    obtain rfl := Option.some.inj H
    go_wp2
    go_ret
    exact ⟨jE, jH HB⟩
end Go.Proofs.YtahacmdhhfmhiaaDoor.M
-- rr_turned
