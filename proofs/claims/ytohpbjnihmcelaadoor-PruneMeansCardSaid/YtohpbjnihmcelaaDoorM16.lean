/- What Go functions compute; their calls come to it. No condition. -/
import Derived.Test.YtohpbjnihmcelaaDoorM0
import Derived.Test.YtohpbjnihmcelaaDoorM15
namespace Go.Proofs.YtohpbjnihmcelaaDoor.M
open Go.RowKit Go.Proofs.YtohpbjnihmcelaaDoorW.PrintWords Go.Proofs.YtohpbjnihmcelaaDoorW.PrintLast Go.Proofs.YtohpbjnihmcelaaDoorW.PrintMore
attribute [local go_sem] max2_int min2_int max_two min_two max_three min_three max_four min_four   -- for this text's walks alone
set_option linter.unusedVariables false
set_option linter.unusedSimpArgs false
def r02_Ends.f (a0_0 : Int) (a0_1 : Int) (a0_2 : Int) (a0_3 : Int) : Option (Bool) := if a0_0 = 6 then (some true) else (some (a0_0 == 22))
set_option maxHeartbeats 8000000 in
set_option maxRecDepth 100000 in
theorem r02_Ends.calls (a0_0 : Int) (a0_1 : Int) (a0_2 : Int) (a0_3 : Int) (r : Bool) (w : World) (h : r02_Ends.f a0_0 a0_1 a0_2 a0_3 = some r) :
  Calls Tryd.prog 31 #[.agg #[.int .i64 a0_0, .int .i64 a0_1, .int .i64 a0_2, .int .u32 a0_3]] w fun e w' => e = .returned (.bool r) ∧ Below w.heap.size w w' := by
 have hu45 := Tryd.underlying45
 have HB := Aside0.mk (Below.refl w.heap.size w)
 have H : (if a0_0 = 6 then (some true) else (some (a0_0 == 22))) = some r := h
 clear h
 by_cases c2 : a0_0 = 6
 ·rw [if_pos c2] at H
  have c2b0 : (a0_0 == 6) = true := bI.mpr c2
  have c2b1 : (a0_0 != 6) = false := nF.mpr c2
  clear c2
  obtain rfl := Option.some.inj H
  go_enter Tryd.func31, Tryd.ntmps31
  go_wp2_with (first | ((with_reducible refine gate_dst (N := 1) rfl ?_); refine box_event rfl (N := 1) rfl (cs := #[.int .i64 a0_0, .int .i64 a0_1, .int .i64 a0_2, .int .u32 a0_3]) (t := 45) jW ?_; intro gb173 hg w3 hbox hb; have n0_ := Aside0.mk (zT (jH HB) hb); have n1_ := Aside0.mk hbox; have n2_ := Aside0.mk (jG hg HB); have n3_ := Aside0.mk (jG hg HB); clear HB; have HB := n0_; have BK173 := n1_; have GW173 := n2_; have GE173 := n3_; clear n0_ n1_ n2_ n3_; clear hb hbox hg; have hcz4_0 : w3.cell? ⟨gb173, 0, none⟩ = some (.int .i64 a0_0) := (kC BK173.out 0).trans rfl; have hcz4_1 : w3.cell? ⟨gb173, 1, none⟩ = some (.int .i64 a0_1) := (kC BK173.out 1).trans rfl; have hcz4_2 : w3.cell? ⟨gb173, 2, none⟩ = some (.int .i64 a0_2) := (kC BK173.out 2).trans rfl; have hcz4_3 : w3.cell? ⟨gb173, 3, none⟩ = some (.int .u32 a0_3) := (kC BK173.out 3).trans rfl; have hfz4_0 := kF BK173.out 0; have hfz4_1 := kF BK173.out 1; have hfz4_2 := kF BK173.out 2; have hfz4_3 := kF BK173.out 3))
  go_ret
  exact ⟨jE, jH HB⟩
 ·rw [if_neg c2] at H
  have c2b0 : (a0_0 == 6) = false := bF.mpr c2
  have c2b1 : (a0_0 != 6) = true := nI.mpr c2
  obtain rfl := Option.some.inj H
  go_enter Tryd.func31, Tryd.ntmps31
  go_wp2_with (first | ((with_reducible refine gate_dst (N := 1) rfl ?_); refine box_event rfl (N := 1) rfl (cs := #[.int .i64 a0_0, .int .i64 a0_1, .int .i64 a0_2, .int .u32 a0_3]) (t := 45) jW ?_; intro gb173 hg w5 hbox hb; have n0_ := Aside0.mk (zT (jH HB) hb); have n1_ := Aside0.mk hbox; have n2_ := Aside0.mk (jG hg HB); have n3_ := Aside0.mk (jG hg HB); clear HB; have HB := n0_; have BK173 := n1_; have GW173 := n2_; have GE173 := n3_; clear n0_ n1_ n2_ n3_; clear hb hbox hg; have hcz6_0 : w5.cell? ⟨gb173, 0, none⟩ = some (.int .i64 a0_0) := (kC BK173.out 0).trans rfl; have hcz6_1 : w5.cell? ⟨gb173, 1, none⟩ = some (.int .i64 a0_1) := (kC BK173.out 1).trans rfl; have hcz6_2 : w5.cell? ⟨gb173, 2, none⟩ = some (.int .i64 a0_2) := (kC BK173.out 2).trans rfl; have hcz6_3 : w5.cell? ⟨gb173, 3, none⟩ = some (.int .u32 a0_3) := (kC BK173.out 3).trans rfl; have hfz6_0 := kF BK173.out 0; have hfz6_1 := kF BK173.out 1; have hfz6_2 := kF BK173.out 2; have hfz6_3 := kF BK173.out 3))
  go_ret
  exact ⟨jE, jH HB⟩
def r05_Check.l0 : Nat → List (S45) → Int → Option (Int × Int)
 | 0, _, _ => none
 | k + 1, x0, x4 => if x4 < (x0.length : Int) then (if 0 ≤ x4 then ((r05_One.f k ((rd_T45 x0 x4).f0) ((rd_T45 x0 x4).f1) ((rd_T45 x0 x4).f2) ((rd_T45 x0 x4).f3) x4 (x0.length : Int)).bind fun t175 => (if t175 = 0 then (r05_Check.l0 k x0 (wrap64 (x4 + 1))) else (some (x4, t175)))) else (none)) else (if 0 ≤ (wrap64 ((x0.length : Int) - 1)) then (if (wrap64 ((x0.length : Int) - 1)) < (x0.length : Int) then ((r02_Ends.f ((rd_T45 x0 (wrap64 ((x0.length : Int) - 1))).f0) ((rd_T45 x0 (wrap64 ((x0.length : Int) - 1))).f1) ((rd_T45 x0 (wrap64 ((x0.length : Int) - 1))).f2) ((rd_T45 x0 (wrap64 ((x0.length : Int) - 1))).f3)).bind fun t177 => (if t177 = true then (some (0, 0)) else (some (wrap64 ((x0.length : Int) - 1), 5)))) else (none)) else (none))
def r05_Check.f (k : Nat) (l0 : List (S45)) : Option (Int × Int) := if (l0.length : Int) = 0 then (some (0, 5)) else (if (l0.length : Int) > 4096 then (some (0, 3)) else (r05_Check.l0 k l0 0))
theorem r05_Check.mono_l : ∀ k, (∀ y0 y1, LeO (r05_Check.l0 k y0 y1) (r05_Check.l0 (k + 1) y0 y1))
 | 0 => fun _ _ r h => by simp [r05_Check.l0] at h
 | k + 1 => by
  have ih0 := r05_Check.mono_l k
  ·intro y0 y1
   unfold r05_Check.l0
   repeat' first
   | (with_reducible apply ih0)
   | (with_reducible apply r05_One.mono)
   | (with_reducible exact LeO.refl _)
   | (with_reducible exact LeO.none _)
   | (with_reducible refine LeO.ite ?_ ?_)
   | (with_reducible refine LeO.bind ?_ (fun _ => ?_))
   | apply ih0
   | apply r05_One.mono
   | exact LeO.none _
   | refine LeO.ite ?_ ?_
   | refine LeO.bind ?_ (fun _ => ?_)
theorem r05_Check.mono : ∀ a0 k, LeO (r05_Check.f k a0) (r05_Check.f (k + 1) a0) := by
 intro a0 k
 have ih0 := r05_Check.mono_l k
 unfold r05_Check.f
 repeat' first
   | (with_reducible apply ih0)
   | (with_reducible apply r05_One.mono)
   | (with_reducible exact LeO.refl _)
   | (with_reducible exact LeO.none _)
   | (with_reducible refine LeO.ite ?_ ?_)
   | (with_reducible refine LeO.bind ?_ (fun _ => ?_))
   | apply ih0
   | apply r05_One.mono
   | exact LeO.none _
   | refine LeO.ite ?_ ?_
   | refine LeO.bind ?_ (fun _ => ?_)
set_option maxHeartbeats 8000000 in
set_option maxRecDepth 100000 in
theorem r05_Check.calls (k : Nat) (A0 : Option Addr) (c0 : Nat) (l0 : List (S45)) (r1 : Int) (r2 : Int) (w : World) (hr0 : Kd.C k45 w A0 l0.length l0) (hc0 : l0.length ≤ c0) (h : r05_Check.f k l0 = some (r1, r2)) :
  Calls Tryd.prog 22 #[.slice A0 l0.length c0] w fun e w' => e = .returned (.tuple #[.int .i64 r1, .int .i64 r2]) ∧ Below w.heap.size w w' := by
 have hu45 := Tryd.underlying45
 have HR0 := Aside0.mk hr0
 have HC0 := Aside0.mk hc0
 clear hr0 hc0
 have HB := Aside0.mk (Below.refl w.heap.size w)
 have H : (if (l0.length : Int) = 0 then (some (0, 5)) else (if (l0.length : Int) > 4096 then (some (0, 3)) else (r05_Check.l0 k l0 0))) = some (r1, r2) := h
 clear h
 by_cases c2 : (l0.length : Int) = 0
 ·rw [if_pos c2] at H
  have c2b0 : ((l0.length : Int) == 0) = true := bI.mpr c2
  have c2b1 : ((l0.length : Int) != 0) = false := nF.mpr c2
  clear c2
  simp only [Option.some.injEq, Prod.mk.injEq] at H
  obtain ⟨rfl, rfl⟩ := H
  go_enter Tryd.func22, Tryd.ntmps22
  go_wp2
  go_ret2
  exact ⟨jE, jH HB⟩
 ·rw [if_neg c2] at H
  have c2b0 : ((l0.length : Int) == 0) = false := bF.mpr c2
  have c2b1 : ((l0.length : Int) != 0) = true := nI.mpr c2
  have c2b2 : ¬ (l0 = []) := fun h_ => c2 (by rw [h_]; rfl)
  by_cases c3 : (l0.length : Int) > 4096
  ·rw [if_pos c3] at H
   have c3b0 : decide (4096 < (l0.length : Int)) = true := dT c3
   have c3b1 : decide (4096 < l0.length) = true := dT (by omega)
   clear c3
   simp only [Option.some.injEq, Prod.mk.injEq] at H
   obtain ⟨rfl, rfl⟩ := H
   go_enter Tryd.func22, Tryd.ntmps22
   go_wp2
   go_ret2
   exact ⟨jE, jH HB⟩
  ·rw [if_neg c3] at H
   have c3b0 : decide (4096 < (l0.length : Int)) = false := dF c3
   have c3b1 : decide (4096 < l0.length) = false := dF (by omega)
   clear c3
   have H' := Aside0.mk H
   clear H
   go_enter Tryd.func22, Tryd.ntmps22
   go_wp2
   go_loopg [4] k (fun kq v4 w' => ∃ (x4_1 : Int), v4 = .int .i64 x4_1 ∧ Aside0 (r05_Check.l0 kq l0 x4_1 = some (r1, r2)) ∧ Aside0 (kq ≤ k) ∧ Aside0 (Below w.heap.size w w'))
   case atStart => exact ⟨(0), jS, H', ⟨Nat.le_refl _⟩, ⟨jH HB⟩⟩
   case round =>
    clear H'
    obtain ⟨x4_1, rfl, HA, HK1, HB⟩ := hrel
    cases gk with
    | zero => exact absurd HA.out (by simp [r05_Check.l0])
    | succ k1 =>
     have H := HA.out
     clear HA
     simp only [r05_Check.l0] at H
     by_cases c4 : x4_1 < (l0.length : Int)
     ·rw [if_pos c4] at H
      have c4b0 : decide (x4_1 < (l0.length : Int)) = true := dT c4
      clear c4
      by_cases c5 : 0 ≤ x4_1
      ·rw [if_pos c5] at H
       have c5b0 : decide (0 ≤ x4_1) = true := dT c5
       clear c5
       replace H := Option.bind_eq_some_iff.mp H
       obtain ⟨t175, A60, H⟩ := H
       try dsimp only at H
       have A6 := Aside0.mk A60
       clear A60
       by_cases c7 : t175 = 0
       ·rw [if_pos c7] at H
        have c7b0 : (t175 == 0) = true := bI.mpr c7
        have c7b1 : (t175 != 0) = false := nF.mpr c7
        clear c7
        have H' := Aside0.mk H
        clear H
        have p174 : 0 ≤ (x4_1 : Int) := oD (jA)
        have q174 : x4_1 < (l0.length : Int) := oD (jA)
        obtain ⟨ad174, e174, hx174_0, hx174_1, hx174_2, hx174_3⟩ := at_T45 HR0.out x4_1 p174 q174
        cases e174
        replace hx174_0 := (HB.out.cell (bL w _ hx174_0)).trans hx174_0
        replace hx174_1 := (HB.out.cell (bL w _ hx174_1)).trans hx174_1
        replace hx174_2 := (HB.out.cell (bL w _ hx174_2)).trans hx174_2
        replace hx174_3 := (HB.out.cell (bL w _ hx174_3)).trans hx174_3
        replace p174 := eq_true p174
        replace q174 := eq_true q174
        go_wp2_with (first | ((with_reducible refine gate_callee (f := 30) rfl ?_); refine goesL_ (some 25) rfl rfl Tryd.func30 (by kernel_rfl) rfl #[.agg #[.int .i64 ((rd_T45 l0 x4_1).f0), .int .i64 ((rd_T45 l0 x4_1).f1), .int .i64 ((rd_T45 l0 x4_1).f2), .int .u32 ((rd_T45 l0 x4_1).f3)], .int .i64 x4_1, .int .i64 (l0.length : Int)] rfl jZ ?_; (with_reducible refine (r05_One.calls k1 ((rd_T45 l0 x4_1).f0) ((rd_T45 l0 x4_1).f1) ((rd_T45 l0 x4_1).f2) ((rd_T45 l0 x4_1).f3) x4_1 (l0.length : Int) t175 _ A6.out).mono ?_); rintro e w8 ⟨rfl, hb⟩; refine ⟨_, rfl, ?_⟩; have n0_ := Aside0.mk (zT (jH HB) hb); clear HB; have HB := n0_; clear n0_; (try clear hb); (try clear hb2); (try clear hk); (try clear hi)))
        go_roundg k1
        case measure => have := HK1.out; omega
        case rel => exact ⟨(wrap64 (x4_1 + 1)), jS, H', ⟨by have := HK1.out; omega⟩, ⟨jH HB⟩⟩
       ·rw [if_neg c7] at H
        have c7b0 : (t175 == 0) = false := bF.mpr c7
        have c7b1 : (t175 != 0) = true := nI.mpr c7
        simp only [Option.some.injEq, Prod.mk.injEq] at H
        obtain ⟨rfl, rfl⟩ := H
        have p174 : 0 ≤ (x4_1 : Int) := oD (jA)
        have q174 : x4_1 < (l0.length : Int) := oD (jA)
        obtain ⟨ad174, e174, hx174_0, hx174_1, hx174_2, hx174_3⟩ := at_T45 HR0.out x4_1 p174 q174
        cases e174
        replace hx174_0 := (HB.out.cell (bL w _ hx174_0)).trans hx174_0
        replace hx174_1 := (HB.out.cell (bL w _ hx174_1)).trans hx174_1
        replace hx174_2 := (HB.out.cell (bL w _ hx174_2)).trans hx174_2
        replace hx174_3 := (HB.out.cell (bL w _ hx174_3)).trans hx174_3
        replace p174 := eq_true p174
        replace q174 := eq_true q174
        go_wp2_with (first | ((with_reducible refine gate_callee (f := 30) rfl ?_); refine goesL_ (some 25) rfl rfl Tryd.func30 (by kernel_rfl) rfl #[.agg #[.int .i64 ((rd_T45 l0 x4_1).f0), .int .i64 ((rd_T45 l0 x4_1).f1), .int .i64 ((rd_T45 l0 x4_1).f2), .int .u32 ((rd_T45 l0 x4_1).f3)], .int .i64 x4_1, .int .i64 (l0.length : Int)] rfl jZ ?_; (with_reducible refine (r05_One.calls k1 ((rd_T45 l0 x4_1).f0) ((rd_T45 l0 x4_1).f1) ((rd_T45 l0 x4_1).f2) ((rd_T45 l0 x4_1).f3) x4_1 (l0.length : Int) t175 _ A6.out).mono ?_); rintro e w9 ⟨rfl, hb⟩; refine ⟨_, rfl, ?_⟩; have n0_ := Aside0.mk (zT (jH HB) hb); clear HB; have HB := n0_; clear n0_; (try clear hb); (try clear hb2); (try clear hk); (try clear hi)))
        go_ret2
        exact ⟨jE, jH HB⟩
      ·rw [if_neg c5] at H
       exact absurd H (by simp)
     ·rw [if_neg c4] at H
      have c4b0 : decide (x4_1 < (l0.length : Int)) = false := dF c4
      clear c4
      obtain ⟨ji10, hji10⟩ : ∃ j_ : Int, (wrap64 ((l0.length : Int) - 1)) = j_ := ⟨_, rfl⟩
      replace H : (if 0 ≤ (ji10) then (if (ji10) < (l0.length : Int) then ((r02_Ends.f ((rd_T45 l0 (ji10)).f0) ((rd_T45 l0 (ji10)).f1) ((rd_T45 l0 (ji10)).f2) ((rd_T45 l0 (ji10)).f3)).bind fun t177 => (if t177 = true then (some (0, 0)) else (some (ji10, 5)))) else (none)) else (none)) = some (r1, r2) := by first | (rw [hji10] at H; exact H) | (simp only [hji10] at H ⊢; exact H)
      have hji10w : (IntKind.i64.wrap ((l0.length : Int) - 1)) = ji10 := (i64_w _).trans hji10
      by_cases c11 : 0 ≤ (ji10)
      ·rw [if_pos c11] at H
       have c11b0 : decide (0 ≤ (ji10)) = true := dT c11
       clear c11
       by_cases c12 : (ji10) < (l0.length : Int)
       ·rw [if_pos c12] at H
        have c12b0 : decide ((ji10) < (l0.length : Int)) = true := dT c12
        clear c12
        replace H := Option.bind_eq_some_iff.mp H
        obtain ⟨t177, A130, H⟩ := H
        try dsimp only at H
        have A13 := Aside0.mk A130
        clear A130
        by_cases c14 : t177 = true
        ·subst c14
         rw [if_pos rfl] at H
         simp only [Option.some.injEq, Prod.mk.injEq] at H
         obtain ⟨rfl, rfl⟩ := H
         have p176 : 0 ≤ ((ji10) : Int) := oD (jA)
         have q176 : (ji10) < (l0.length : Int) := oD (jA)
         obtain ⟨ad176, e176, hx176_0, hx176_1, hx176_2, hx176_3⟩ := at_T45 HR0.out (ji10) p176 q176
         cases e176
         replace hx176_0 := (HB.out.cell (bL w _ hx176_0)).trans hx176_0
         replace hx176_1 := (HB.out.cell (bL w _ hx176_1)).trans hx176_1
         replace hx176_2 := (HB.out.cell (bL w _ hx176_2)).trans hx176_2
         replace hx176_3 := (HB.out.cell (bL w _ hx176_3)).trans hx176_3
         replace p176 := eq_true p176
         replace q176 := eq_true q176
         go_wp2_with (first | ((with_reducible refine gate_callee (f := 31) rfl ?_); refine goesL_ (some 36) rfl rfl Tryd.func31 (by kernel_rfl) rfl #[.agg #[.int .i64 ((rd_T45 l0 (ji10)).f0), .int .i64 ((rd_T45 l0 (ji10)).f1), .int .i64 ((rd_T45 l0 (ji10)).f2), .int .u32 ((rd_T45 l0 (ji10)).f3)]] rfl (by (try simp only [List.map_toArray, List.map_cons, List.map_nil]); first | done | (simp only [hji10]; rfl) | rfl | (simp only [List.length_drop, List.length_take]; rfl)) ?_; (with_reducible refine (r02_Ends.calls ((rd_T45 l0 (ji10)).f0) ((rd_T45 l0 (ji10)).f1) ((rd_T45 l0 (ji10)).f2) ((rd_T45 l0 (ji10)).f3) true _ A13.out).mono ?_); rintro e w15 ⟨rfl, hb⟩; refine ⟨_, rfl, ?_⟩; have n0_ := Aside0.mk (zT (jH HB) hb); clear HB; have HB := n0_; clear n0_; (try clear hb); (try clear hb2); (try clear hk); (try clear hi)))
         go_ret2
         exact ⟨by first | rfl | (simp [errW_none, errW_some] <;> rfl) | (simp only [← hji10]; first | rfl | (simp [errW_none, errW_some] <;> rfl)) | (simp [*, errW_none, errW_some] <;> rfl), jH HB⟩
        ·replace c14 := Bool.eq_false_iff.mpr c14
         subst c14
         rw [if_neg (show ¬ (false = true) by decide)] at H
         simp only [Option.some.injEq, Prod.mk.injEq] at H
         obtain ⟨rfl, rfl⟩ := H
         have p176 : 0 ≤ ((ji10) : Int) := oD (jA)
         have q176 : (ji10) < (l0.length : Int) := oD (jA)
         obtain ⟨ad176, e176, hx176_0, hx176_1, hx176_2, hx176_3⟩ := at_T45 HR0.out (ji10) p176 q176
         cases e176
         replace hx176_0 := (HB.out.cell (bL w _ hx176_0)).trans hx176_0
         replace hx176_1 := (HB.out.cell (bL w _ hx176_1)).trans hx176_1
         replace hx176_2 := (HB.out.cell (bL w _ hx176_2)).trans hx176_2
         replace hx176_3 := (HB.out.cell (bL w _ hx176_3)).trans hx176_3
         replace p176 := eq_true p176
         replace q176 := eq_true q176
         go_wp2_with (first | ((with_reducible refine gate_callee (f := 31) rfl ?_); refine goesL_ (some 36) rfl rfl Tryd.func31 (by kernel_rfl) rfl #[.agg #[.int .i64 ((rd_T45 l0 (ji10)).f0), .int .i64 ((rd_T45 l0 (ji10)).f1), .int .i64 ((rd_T45 l0 (ji10)).f2), .int .u32 ((rd_T45 l0 (ji10)).f3)]] rfl (by (try simp only [List.map_toArray, List.map_cons, List.map_nil]); first | done | (simp only [hji10]; rfl) | rfl | (simp only [List.length_drop, List.length_take]; rfl)) ?_; (with_reducible refine (r02_Ends.calls ((rd_T45 l0 (ji10)).f0) ((rd_T45 l0 (ji10)).f1) ((rd_T45 l0 (ji10)).f2) ((rd_T45 l0 (ji10)).f3) false _ A13.out).mono ?_); rintro e w16 ⟨rfl, hb⟩; refine ⟨_, rfl, ?_⟩; have n0_ := Aside0.mk (zT (jH HB) hb); clear HB; have HB := n0_; clear n0_; (try clear hb); (try clear hb2); (try clear hk); (try clear hi)))
         go_ret2
         exact ⟨by first | rfl | (simp [errW_none, errW_some] <;> rfl) | (simp only [← hji10]; first | rfl | (simp [errW_none, errW_some] <;> rfl)) | (simp [*, errW_none, errW_some] <;> rfl), jH HB⟩
       ·rw [if_neg c12] at H
        exact absurd H (by simp)
      ·rw [if_neg c11] at H
       exact absurd H (by simp)
end Go.Proofs.YtohpbjnihmcelaaDoor.M
