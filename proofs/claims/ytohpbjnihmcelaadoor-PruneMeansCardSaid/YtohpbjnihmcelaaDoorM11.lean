/- What Go functions compute; their calls come to it. No condition. -/
import Derived.Test.YtohpbjnihmcelaaDoorM0
import Derived.Test.YtohpbjnihmcelaaDoorM10
namespace Go.Proofs.YtohpbjnihmcelaaDoor.M
open Go.RowKit Go.Proofs.YtohpbjnihmcelaaDoorW.PrintWords Go.Proofs.YtohpbjnihmcelaaDoorW.PrintLast Go.Proofs.YtohpbjnihmcelaaDoorW.PrintMore
attribute [local go_sem] max2_int min2_int max_two min_two max_three min_three max_four min_four   -- for this text's walks alone
set_option linter.unusedVariables false
set_option linter.unusedSimpArgs false
def codec_Parse.l0 : Nat → ByteArray → List (S45) → Int → Int → Int → Option ((List (S45)) × Int × Int)
 | 0, _, _, _, _, _ => none
 | k + 1, x0, x5, x6, x11, x12 => if x12 < x11 then (if 0 ≤ x12 then (if x12 < (x0.size : Int) then (if (bt x0 x12) = 10 then (if (x5.length : Int) = 4096 then (some (([] : List (S45)), (x5.length : Int), 3)) else (if 0 ≤ x6 then (if x6 ≤ x12 then (if x12 ≤ (x0.size : Int) then ((ins_Parse.f (x0.extract (x6 : Int).toNat (x12 : Int).toNat)).bind fun bt130 => (if bt130.2.2.2.2 = 0 then (if x5.length < 4398046511104 then (codec_Parse.l0 k x0 (x5 ++ [(⟨bt130.1, bt130.2.1, bt130.2.2.1, bt130.2.2.2.1⟩ : S45)]) (wrap64 (x12 + 1)) x11 (wrap64 (x12 + 1))) else (none)) else (some (([] : List (S45)), (x5.length : Int), 2)))) else (none)) else (none)) else (none))) else (codec_Parse.l0 k x0 x5 x6 x11 (wrap64 (x12 + 1)))) else (none)) else (none)) else (if x6 < (x0.size : Int) then (if (x5.length : Int) = 4096 then (some (([] : List (S45)), (x5.length : Int), 3)) else (some (([] : List (S45)), (x5.length : Int), 2))) else (some (x5, 0, 0)))
def codec_Parse.f (k : Nat) (a0 : ByteArray) : Option ((List (S45)) × Int × Int) := codec_Parse.l0 k a0 ([] : List (S45)) 0 (a0.size : Int) 0
theorem codec_Parse.mono_l : ∀ k, (∀ y0 y1 y2 y3 y4, LeO (codec_Parse.l0 k y0 y1 y2 y3 y4) (codec_Parse.l0 (k + 1) y0 y1 y2 y3 y4))
 | 0 => fun _ _ _ _ _ r h => by simp [codec_Parse.l0] at h
 | k + 1 => by
  have ih0 := codec_Parse.mono_l k
  ·intro y0 y1 y2 y3 y4
   unfold codec_Parse.l0
   repeat' first
   | (with_reducible apply ih0)
   | (with_reducible exact LeO.refl _)
   | (with_reducible exact LeO.none _)
   | (with_reducible refine LeO.ite ?_ ?_)
   | (with_reducible refine LeO.bind ?_ (fun _ => ?_))
   | apply ih0
   | exact LeO.none _
   | refine LeO.ite ?_ ?_
   | refine LeO.bind ?_ (fun _ => ?_)
theorem codec_Parse.mono : ∀ a0 k, LeO (codec_Parse.f k a0) (codec_Parse.f (k + 1) a0) := by
 intro a0 k
 have ih0 := codec_Parse.mono_l k
 unfold codec_Parse.f
 repeat' first
   | (with_reducible apply ih0)
   | (with_reducible exact LeO.refl _)
   | (with_reducible exact LeO.none _)
   | (with_reducible refine LeO.ite ?_ ?_)
   | (with_reducible refine LeO.bind ?_ (fun _ => ?_))
   | apply ih0
   | exact LeO.none _
   | refine LeO.ite ?_ ?_
   | refine LeO.bind ?_ (fun _ => ?_)
set_option maxHeartbeats 8000000 in
set_option maxRecDepth 100000 in
theorem codec_Parse.calls (k : Nat) (a0 : ByteArray) (r1 : List (S45)) (r2 : Int) (r3 : Int) (w : World) (hG : Glob w) (h : codec_Parse.f k a0 = some (r1, r2, r3)) :
  Calls Tryd.prog 17 #[.string a0] w fun e w' => ∃ v0_ : Value, e = .returned (.tuple #[v0_, .int .i64 r2, .int .i64 r3]) ∧ Kd.R k45 45 w' w.heap.size (fun _ => True) v0_ r1 ∧ Below w.heap.size w w' := by
 have hu45 := Tryd.underlying45
 have HG := Aside0.mk hG
 clear hG
 have HB := Aside0.mk (Below.refl w.heap.size w)
 have H : (codec_Parse.l0 k a0 ([] : List (S45)) 0 (a0.size : Int) 0) = some (r1, r2, r3) := h
 clear h
 have H' := Aside0.mk H
 clear H
 go_enter Tryd.func17, Tryd.ntmps17
 go_wp2
 go_loopg [5, 6, 12] k (fun kq v5 v6 v12 w' => ∃ (x5_1 : List (S45)) (x6_1 : Int) (x12_1 : Int), v6 = .int .i64 x6_1 ∧ v12 = .int .i64 x12_1 ∧ Aside0 (codec_Parse.l0 kq a0 x5_1 x6_1 (a0.size : Int) x12_1 = some (r1, r2, r3)) ∧ Aside0 (kq ≤ k) ∧ Aside0 (Kd.R k45 45 w' w.heap.size (fun _ => True) v5 x5_1) ∧ Aside0 (Below w.heap.size w w'))
 case atStart => exact ⟨(([] : List (S45))), (0), (0), jS, jS, H', ⟨Nat.le_refl _⟩, ⟨by first | exact Kd.R_nil _ _ _ _ _ | exact Kd.N_nil _ _ _ _ _ | exact Kd.V_nil _ _ _ _ _ | exact Kd.Q_nil _ _ _ _ _ | exact Kd.S_nil _ _ _ _ _⟩, ⟨jH HB⟩⟩
 case round =>
  clear H'
  obtain ⟨x5_1, x6_1, x12_1, rfl, rfl, HA, HK1, HO_5, HB⟩ := hrel
  cases gk with
  | zero => exact absurd HA.out (by simp [codec_Parse.l0])
  | succ k1 =>
   have H := HA.out
   clear HA
   simp only [codec_Parse.l0] at H
   by_cases c2 : x12_1 < (a0.size : Int)
   ·rw [if_pos c2] at H
    have c2b0 : decide (x12_1 < (a0.size : Int)) = true := dT c2
    clear c2
    by_cases c3 : 0 ≤ x12_1
    ·rw [if_pos c3] at H
     have c3b0 : decide (0 ≤ x12_1) = true := dT c3
     clear c3
     by_cases c4 : x12_1 < (a0.size : Int)
     ·rw [if_pos c4] at H
      have c4b0 : decide (x12_1 < (a0.size : Int)) = true := dT c4
      clear c4
      by_cases c6 : (bt a0 x12_1) = 10
      ·rw [if_pos c6] at H
       have c6b0 : ((bt a0 x12_1) == 10) = true := bI.mpr c6
       have c6b1 : ((bt a0 x12_1) != 10) = false := nF.mpr c6
       clear c6
       by_cases c7 : (x5_1.length : Int) = 4096
       ·rw [if_pos c7] at H
        have c7b0 : ((x5_1.length : Int) == 4096) = true := bI.mpr c7
        have c7b1 : ((x5_1.length : Int) != 4096) = false := nF.mpr c7
        clear c7
        simp only [Option.some.injEq, Prod.mk.injEq] at H
        obtain ⟨rfl, rfl, rfl⟩ := H
        have p5 : 0 ≤ (x12_1 : Int) := oD (jA)
        have q5 : x12_1 < (a0.size : Int) := oD (jA)
        have hx5 := bt_at a0 x12_1
        replace p5 := eq_true p5
        replace q5 := eq_true q5
        obtain ⟨Ao8, co8, eo8⟩ := Kd.R_slice HO_5.out
        subst eo8
        go_wp2
        go_ret3
        exact ⟨_, jE, by first | exact Kd.R_nil _ _ _ _ _ | exact Kd.N_nil _ _ _ _ _ | exact Kd.V_nil _ _ _ _ _ | exact Kd.Q_nil _ _ _ _ _ | exact Kd.S_nil _ _ _ _ _, jH HB⟩
       ·rw [if_neg c7] at H
        have c7b0 : ((x5_1.length : Int) == 4096) = false := bF.mpr c7
        have c7b1 : ((x5_1.length : Int) != 4096) = true := nI.mpr c7
        by_cases c9 : 0 ≤ x6_1
        ·rw [if_pos c9] at H
         have c9b0 := eq_true c9
         have c9b1 : decide (0 ≤ x6_1) = true := dT c9
         clear c9
         by_cases c10 : x6_1 ≤ x12_1
         ·rw [if_pos c10] at H
          have c10b0 := eq_true c10
          have c10b1 : decide (x6_1 ≤ x12_1) = true := dT c10
          clear c10
          by_cases c11 : x12_1 ≤ (a0.size : Int)
          ·rw [if_pos c11] at H
           have c11b0 := eq_true c11
           have c11b1 : decide (x12_1 ≤ (a0.size : Int)) = true := dT c11
           clear c11
           replace H := Option.bind_eq_some_iff.mp H
           obtain ⟨⟨t130, t131, t132, t133, t134⟩, A120, H⟩ := H
           try dsimp only at H
           have A12 := Aside0.mk A120
           clear A120
           by_cases c13 : t134 = 0
           ·rw [if_pos c13] at H
            have c13b0 : (t134 == 0) = true := bI.mpr c13
            have c13b1 : (t134 != 0) = false := nF.mpr c13
            clear c13
            by_cases c14 : x5_1.length < 4398046511104
            ·rw [if_pos c14] at H
             have LMc14 := Aside0.mk c14
             clear c14
             obtain ⟨y136, hy136⟩ : ∃ y_ : List (S45), y_ = (x5_1 ++ [(⟨t130, t131, t132, t133⟩ : S45)]) := ⟨_, rfl⟩
             simp only [Option.bind_some, ← hy136] at H
             have Ny136 := Aside0.mk hy136
             clear hy136
             have H' := Aside0.mk H
             clear H
             have p5 : 0 ≤ (x12_1 : Int) := oD (jA)
             have q5 : x12_1 < (a0.size : Int) := oD (jA)
             have hx5 := bt_at a0 x12_1
             replace p5 := eq_true p5
             replace q5 := eq_true q5
             obtain ⟨Ao15, co15, eo15⟩ := Kd.R_slice HO_5.out
             subst eo15
             go_wp2_with (first | ((with_reducible refine gate_callee (f := 28) rfl ?_); refine goesL_ (some 29) rfl rfl Tryd.func28 (by kernel_rfl) rfl #[.string (a0.extract (x6_1 : Int).toNat (x12_1 : Int).toNat)] rfl jZ ?_; (with_reducible refine (ins_Parse.calls (a0.extract (x6_1 : Int).toNat (x12_1 : Int).toNat) t130 t131 t132 t133 t134 _ ?side1 A12.out).mono ?_); (case side1 => exact Glob.below HG.out (jH HB)); rintro e w16 ⟨rfl, hb⟩; refine ⟨_, rfl, ?_⟩; have n0_ := Aside0.mk (Kd.R_below (jR HO_5) hb); have n1_ := Aside0.mk (zT (jH HB) hb); clear HO_5; clear HB; have HO_5 := n0_; have HB := n1_; clear n0_ n1_; (try clear hb); (try clear hb2); (try clear hk); (try clear hi)) | ((with_reducible refine gate_dst (N := 8) rfl ?_); refine box_event rfl (N := 8) rfl (cs := #[.int .i64 0, .int .i64 0, .int .i64 0, .int .u32 0]) (t := 45) jW ?_; intro gb135 hg w17 hbox hb; have n0_ := Aside0.mk (Kd.R_below (Kd.R_elderB (jR HO_5) gb135 (Nat.le_of_eq hg.symm)) hb); have n1_ := Aside0.mk (zT (jH HB) hb); have n2_ := Aside0.mk hbox; have n3_ := Aside0.mk (jG hg HB); have n4_ := Aside0.mk (jG hg HB); clear HO_5; clear HB; have HO_5 := n0_; have HB := n1_; have BK135 := n2_; have GW135 := n3_; have GE135 := n4_; clear n0_ n1_ n2_ n3_ n4_; clear hb hbox hg; have hcz18_0 : w17.cell? ⟨gb135, 0, none⟩ = some (.int .i64 0) := (kC BK135.out 0).trans rfl; have hcz18_1 : w17.cell? ⟨gb135, 1, none⟩ = some (.int .i64 0) := (kC BK135.out 1).trans rfl; have hcz18_2 : w17.cell? ⟨gb135, 2, none⟩ = some (.int .i64 0) := (kC BK135.out 2).trans rfl; have hcz18_3 : w17.cell? ⟨gb135, 3, none⟩ = some (.int .u32 0) := (kC BK135.out 3).trans rfl; have hfz18_0 := kF BK135.out 0; have hfz18_1 := kF BK135.out 1; have hfz18_2 := kF BK135.out 2; have hfz18_3 := kF BK135.out 3) | ((with_reducible refine gate_builtin (b := .append) (xs := #[.tmp 36, .tmp 38]) rfl ?_); at_builtin; refine Kd.R_append k45 (w0 := w) w.heap.size rfl (.tmp 36) (.tmp 38) 22 45 (.agg #[(.int .i64 0), (.int .i64 0), (.int .i64 0), (.int .u32 0)]) 32 rfl Tryd.underlying22 info45 rfl (by decide) (by omega) (.slice Ao15 x5_1.length co15) x5_1 (⟨t130, t131, t132, t133⟩ : S45) [.int .i64 t130, .int .i64 t131, .int .i64 t132, .int .u32 t133] (fun k_ => k_ ≠ gb135) (fun _ => False) rfl (by first | (go_simp; done) | (go_simp; rfl)) ?aP (fun _ hk => hk.elim) ?aF ?aO ?aB ?aS ?aL ?_; (case aP => exact k45_mkM _ _ _ (⟨t130, t131, t132, t133⟩ : S45)); (case aB => exact (jH HB)); (case aF => exact (fun k_ hk => Kd.freshB (g := gb135) (o := .cells #[.int .i64 t130, .int .i64 t131, .int .i64 t132, .int .u32 t133] 45 (0, 0)) (by (with_reducible repeat (first | refine kN ?_ _ | refine kD ?_ | refine kA ?_ _)); refine kP (cs := #[.int .i64 t130, .int .i64 t131, .int .i64 t132, .int .u32 0]) ?_ 3 _ rfl; (with_reducible repeat (first | refine kN ?_ _ | refine kD ?_ | refine kA ?_ _)); refine kP (cs := #[.int .i64 t130, .int .i64 t131, .int .i64 0, .int .u32 0]) ?_ 2 _ rfl; (with_reducible repeat (first | refine kN ?_ _ | refine kD ?_ | refine kA ?_ _)); refine kP (cs := #[.int .i64 t130, .int .i64 0, .int .i64 0, .int .u32 0]) ?_ 1 _ rfl; (with_reducible repeat (first | refine kN ?_ _ | refine kD ?_ | refine kA ?_ _)); refine kP (cs := #[.int .i64 0, .int .i64 0, .int .i64 0, .int .u32 0]) ?_ 0 _ rfl; (with_reducible repeat (first | refine kN ?_ _ | refine kD ?_ | refine kA ?_ _)); exact BK135.out) k_ hk)); (case aO => exact (by (with_reducible repeat (first | apply Kd.R_alloc | apply Kd.R_drewN | apply Kd.R_drew)); exact Kd.R_mono (Kd.R_far (p := ⟨gb135, 3, none⟩) (Kd.R_far (p := ⟨gb135, 2, none⟩) (Kd.R_far (p := ⟨gb135, 1, none⟩) (Kd.R_far (p := ⟨gb135, 0, none⟩) (Kd.R_mono HO_5.out (fun k_ hk => (⟨hk, hk.2⟩ : _ ∧ k_ ≠ gb135))) (fun _ hk => hk.2) (.int .i64 t130)) (fun _ hk => hk.2) (.int .i64 t131)) (fun _ hk => hk.2) (.int .i64 t132)) (fun _ hk => hk.2) (.int .u32 t133)) (fun _ hk => hk.1.2))); (case aS => exact (zZ (jH HB))); (case aL => have := LMc14.out; omega); intro v137 w19 ho hb hg hat; rw [← Ny136.out] at ho; have n0_ := Aside0.mk (kG (g := gb135) (o := .cells #[.int .i64 t130, .int .i64 t131, .int .i64 t132, .int .u32 t133] 45 (0, 0)) (by (with_reducible repeat (first | refine kN ?_ _ | refine kD ?_ | refine kA ?_ _)); refine kP (cs := #[.int .i64 t130, .int .i64 t131, .int .i64 t132, .int .u32 0]) ?_ 3 _ rfl; (with_reducible repeat (first | refine kN ?_ _ | refine kD ?_ | refine kA ?_ _)); refine kP (cs := #[.int .i64 t130, .int .i64 t131, .int .i64 0, .int .u32 0]) ?_ 2 _ rfl; (with_reducible repeat (first | refine kN ?_ _ | refine kD ?_ | refine kA ?_ _)); refine kP (cs := #[.int .i64 t130, .int .i64 0, .int .i64 0, .int .u32 0]) ?_ 1 _ rfl; (with_reducible repeat (first | refine kN ?_ _ | refine kD ?_ | refine kA ?_ _)); refine kP (cs := #[.int .i64 0, .int .i64 0, .int .i64 0, .int .u32 0]) ?_ 0 _ rfl; (with_reducible repeat (first | refine kN ?_ _ | refine kD ?_ | refine kA ?_ _)); exact BK135.out) hg (Kd.R_away HO_5.out (fun _ hk => hk.2))); have n1_ := Aside0.mk (hb); have n2_ := Aside0.mk (ho); clear BK135; clear HB; clear HO_5; have BK135 := n0_; have HB := n1_; have HO138 := n2_; clear n0_ n1_ n2_; clear ho hb hg hat))
             go_roundg k1
             case measure => have := HK1.out; omega
             case rel => exact ⟨(y136), (wrap64 (x12_1 + 1)), (wrap64 (x12_1 + 1)), jS, jS, H', ⟨by have := HK1.out; omega⟩, ⟨by (with_reducible repeat (first | apply Kd.R_alloc | apply Kd.R_drewN | apply Kd.R_drew)); exact Kd.R_mono HO138.out (fun _ hk => trivial)⟩, ⟨jH HB⟩⟩
            ·rw [if_neg c14] at H
             exact absurd H (by simp)
           ·rw [if_neg c13] at H
            have c13b0 : (t134 == 0) = false := bF.mpr c13
            have c13b1 : (t134 != 0) = true := nI.mpr c13
            simp only [Option.some.injEq, Prod.mk.injEq] at H
            obtain ⟨rfl, rfl, rfl⟩ := H
            have p5 : 0 ≤ (x12_1 : Int) := oD (jA)
            have q5 : x12_1 < (a0.size : Int) := oD (jA)
            have hx5 := bt_at a0 x12_1
            replace p5 := eq_true p5
            replace q5 := eq_true q5
            obtain ⟨Ao20, co20, eo20⟩ := Kd.R_slice HO_5.out
            subst eo20
            go_wp2_with (first | ((with_reducible refine gate_callee (f := 28) rfl ?_); refine goesL_ (some 29) rfl rfl Tryd.func28 (by kernel_rfl) rfl #[.string (a0.extract (x6_1 : Int).toNat (x12_1 : Int).toNat)] rfl jZ ?_; (with_reducible refine (ins_Parse.calls (a0.extract (x6_1 : Int).toNat (x12_1 : Int).toNat) t130 t131 t132 t133 t134 _ ?side1 A12.out).mono ?_); (case side1 => exact Glob.below HG.out (jH HB)); rintro e w21 ⟨rfl, hb⟩; refine ⟨_, rfl, ?_⟩; have n0_ := Aside0.mk (Kd.R_below (jR HO_5) hb); have n1_ := Aside0.mk (zT (jH HB) hb); clear HO_5; clear HB; have HO_5 := n0_; have HB := n1_; clear n0_ n1_; (try clear hb); (try clear hb2); (try clear hk); (try clear hi)) | ((with_reducible refine gate_dst (N := 8) rfl ?_); refine box_event rfl (N := 8) rfl (cs := #[.int .i64 0, .int .i64 0, .int .i64 0, .int .u32 0]) (t := 45) jW ?_; intro gb135 hg w22 hbox hb; have n0_ := Aside0.mk (Kd.R_below (Kd.R_elderB (jR HO_5) gb135 (Nat.le_of_eq hg.symm)) hb); have n1_ := Aside0.mk (zT (jH HB) hb); have n2_ := Aside0.mk hbox; have n3_ := Aside0.mk (jG hg HB); have n4_ := Aside0.mk (jG hg HB); clear HO_5; clear HB; have HO_5 := n0_; have HB := n1_; have BK135 := n2_; have GW135 := n3_; have GE135 := n4_; clear n0_ n1_ n2_ n3_ n4_; clear hb hbox hg; have hcz23_0 : w22.cell? ⟨gb135, 0, none⟩ = some (.int .i64 0) := (kC BK135.out 0).trans rfl; have hcz23_1 : w22.cell? ⟨gb135, 1, none⟩ = some (.int .i64 0) := (kC BK135.out 1).trans rfl; have hcz23_2 : w22.cell? ⟨gb135, 2, none⟩ = some (.int .i64 0) := (kC BK135.out 2).trans rfl; have hcz23_3 : w22.cell? ⟨gb135, 3, none⟩ = some (.int .u32 0) := (kC BK135.out 3).trans rfl; have hfz23_0 := kF BK135.out 0; have hfz23_1 := kF BK135.out 1; have hfz23_2 := kF BK135.out 2; have hfz23_3 := kF BK135.out 3))
            go_ret3
            exact ⟨_, jE, by first | exact Kd.R_nil _ _ _ _ _ | exact Kd.N_nil _ _ _ _ _ | exact Kd.V_nil _ _ _ _ _ | exact Kd.Q_nil _ _ _ _ _ | exact Kd.S_nil _ _ _ _ _, jH HB⟩
          ·rw [if_neg c11] at H
           exact absurd H (by simp)
         ·rw [if_neg c10] at H
          exact absurd H (by simp)
        ·rw [if_neg c9] at H
         exact absurd H (by simp)
      ·rw [if_neg c6] at H
       have c6b0 : ((bt a0 x12_1) == 10) = false := bF.mpr c6
       have c6b1 : ((bt a0 x12_1) != 10) = true := nI.mpr c6
       have H' := Aside0.mk H
       clear H
       have p5 : 0 ≤ (x12_1 : Int) := oD (jA)
       have q5 : x12_1 < (a0.size : Int) := oD (jA)
       have hx5 := bt_at a0 x12_1
       replace p5 := eq_true p5
       replace q5 := eq_true q5
       go_wp2
       go_roundg k1
       case measure => have := HK1.out; omega
       case rel => exact ⟨(x5_1), (x6_1), (wrap64 (x12_1 + 1)), jS, jS, H', ⟨by have := HK1.out; omega⟩, ⟨jR HO_5⟩, ⟨jH HB⟩⟩
     ·rw [if_neg c4] at H
      exact absurd H (by simp)
    ·rw [if_neg c3] at H
     exact absurd H (by simp)
   ·rw [if_neg c2] at H
    have c2b0 : decide (x12_1 < (a0.size : Int)) = false := dF c2
    clear c2
    by_cases c24 : x6_1 < (a0.size : Int)
    ·rw [if_pos c24] at H
     have c24b0 : decide (x6_1 < (a0.size : Int)) = true := dT c24
     clear c24
     by_cases c25 : (x5_1.length : Int) = 4096
     ·rw [if_pos c25] at H
      have c25b0 : ((x5_1.length : Int) == 4096) = true := bI.mpr c25
      have c25b1 : ((x5_1.length : Int) != 4096) = false := nF.mpr c25
      clear c25
      simp only [Option.some.injEq, Prod.mk.injEq] at H
      obtain ⟨rfl, rfl, rfl⟩ := H
      obtain ⟨Ao26, co26, eo26⟩ := Kd.R_slice HO_5.out
      subst eo26
      go_wp2
      go_ret3
      exact ⟨_, jE, by first | exact Kd.R_nil _ _ _ _ _ | exact Kd.N_nil _ _ _ _ _ | exact Kd.V_nil _ _ _ _ _ | exact Kd.Q_nil _ _ _ _ _ | exact Kd.S_nil _ _ _ _ _, jH HB⟩
     ·rw [if_neg c25] at H
      have c25b0 : ((x5_1.length : Int) == 4096) = false := bF.mpr c25
      have c25b1 : ((x5_1.length : Int) != 4096) = true := nI.mpr c25
      simp only [Option.some.injEq, Prod.mk.injEq] at H
      obtain ⟨rfl, rfl, rfl⟩ := H
      obtain ⟨Ao27, co27, eo27⟩ := Kd.R_slice HO_5.out
      subst eo27
      go_wp2
      go_ret3
      exact ⟨_, jE, by first | exact Kd.R_nil _ _ _ _ _ | exact Kd.N_nil _ _ _ _ _ | exact Kd.V_nil _ _ _ _ _ | exact Kd.Q_nil _ _ _ _ _ | exact Kd.S_nil _ _ _ _ _, jH HB⟩
    ·rw [if_neg c24] at H
     have c24b0 : decide (x6_1 < (a0.size : Int)) = false := dF c24
     clear c24
     simp only [Option.some.injEq, Prod.mk.injEq] at H
     obtain ⟨rfl, rfl, rfl⟩ := H
     go_wp2
     go_ret3
     exact ⟨_, jE, by (with_reducible repeat (first | apply Kd.R_alloc | apply Kd.R_drewN | apply Kd.R_drew)); exact HO_5.out, jH HB⟩
end Go.Proofs.YtohpbjnihmcelaaDoor.M
