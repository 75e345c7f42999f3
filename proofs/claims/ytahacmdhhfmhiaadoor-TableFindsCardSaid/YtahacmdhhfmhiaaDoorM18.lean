/- What Go functions compute; their calls come to it. No condition. -/
import Derived.Test.YtahacmdhhfmhiaaDoorM0
import Derived.Test.YtahacmdhhfmhiaaDoorM12
import Derived.Test.YtahacmdhhfmhiaaDoorMC
import Derived.Test.YtahacmdhhfmhiaaDoorM17
namespace Go.Proofs.YtahacmdhhfmhiaaDoor.M
open Go.RowKit Go.Proofs.YtahacmdhhfmhiaaDoorW.PrintWords Go.Proofs.YtahacmdhhfmhiaaDoorW.PrintLast Go.Proofs.YtahacmdhhfmhiaaDoorW.PrintMore
attribute [local go_sem] max2_int min2_int max_two min_two max_three min_three max_four min_four   -- for this text's walks alone
set_option linter.unusedVariables false
set_option linter.unusedSimpArgs false
mutual
def table_Decode.j0 : Nat → List Int → Bool → Option ((List (S42)) × Int)
 | 0, _, _ => none
 | k + 1, x0, x26 => if x26 = true then (some (([] : List (S42)), 2)) else (if 4 < (x0.length : Int) then (if 5 ≤ (x0.length : Int) then (table_Decode.l0 k (x0.drop (5 : Int).toNat) ([] : List (S42)) (wrap64 (rd x0 4)) 0) else (none)) else (none))
def table_Decode.l0 : Nat → List Int → List (S42) → Int → Int → Option ((List (S42)) × Int)
 | 0, _, _, _, _ => none
 | k + 1, x0, x5, x33, x34 => if x34 < x33 then ((table_rule.f k x0).bind fun bt289 => (if bt289.2.2.2.2 = true then (if x5.length < 2513169434916 then (table_Decode.l0 k bt289.2.2.2.1 (x5 ++ [(⟨bt289.1, bt289.2.1, bt289.2.2.1⟩ : S42)]) x33 (wrap64 (x34 + 1))) else (none)) else (some (([] : List (S42)), 2)))) else (if (x0.length : Int) > 0 then (some (([] : List (S42)), 2)) else ((table_Right.f k x5).bind fun t304 => (if t304 = true then (some (x5, 0)) else (some (([] : List (S42)), 2)))))
end
def table_Decode.f (k : Nat) (l0 : List Int) : Option ((List (S42)) × Int) := (crc_Open.f k l0).bind fun bt277 => (if bt277.2 = 0 then (if (bt277.1.length : Int) ≤ 4 then (table_Decode.j0 k bt277.1 true) else (if 4 ≤ (bt277.1.length : Int) then (table_Decode.j0 k bt277.1 ((strOfNums (bt277.1.take 4)).toList != ([72, 82, 84, 49] : List UInt8))) else (none))) else (some (([] : List (S42)), bt277.2)))
theorem table_Decode.mono_l : ∀ k, (∀ y0 y1, LeO (table_Decode.j0 k y0 y1) (table_Decode.j0 (k + 1) y0 y1)) ∧ (∀ y0 y1 y2 y3, LeO (table_Decode.l0 k y0 y1 y2 y3) (table_Decode.l0 (k + 1) y0 y1 y2 y3))
 | 0 => ⟨fun _ _ r h => by simp [table_Decode.j0] at h, fun _ _ _ _ r h => by simp [table_Decode.l0] at h⟩
 | k + 1 => by
  obtain ⟨ih0, ih1⟩ := table_Decode.mono_l k
  refine ⟨?_, ?_⟩
  all_goals intros
  all_goals first | unfold table_Decode.j0 | unfold table_Decode.l0
  all_goals repeat' first
   | (with_reducible apply ih0)
   | (with_reducible apply ih1)
   | (with_reducible apply crc_Open.mono)
   | (with_reducible apply table_Right.mono)
   | (with_reducible apply table_rule.mono)
   | (with_reducible exact LeO.refl _)
   | (with_reducible exact LeO.none _)
   | (with_reducible refine LeO.ite ?_ ?_)
   | (with_reducible refine LeO.bind ?_ (fun _ => ?_))
   | apply ih0
   | apply ih1
   | apply crc_Open.mono
   | apply table_Right.mono
   | apply table_rule.mono
   | exact LeO.none _
   | refine LeO.ite ?_ ?_
   | refine LeO.bind ?_ (fun _ => ?_)
theorem table_Decode.mono : ∀ a0 k, LeO (table_Decode.f k a0) (table_Decode.f (k + 1) a0) := by
 intro a0 k
 obtain ⟨ih0, ih1⟩ := table_Decode.mono_l k
 unfold table_Decode.f
 repeat' first
   | (with_reducible apply ih0)
   | (with_reducible apply ih1)
   | (with_reducible apply crc_Open.mono)
   | (with_reducible apply table_Right.mono)
   | (with_reducible apply table_rule.mono)
   | (with_reducible exact LeO.refl _)
   | (with_reducible exact LeO.none _)
   | (with_reducible refine LeO.ite ?_ ?_)
   | (with_reducible refine LeO.bind ?_ (fun _ => ?_))
   | apply ih0
   | apply ih1
   | apply crc_Open.mono
   | apply table_Right.mono
   | apply table_rule.mono
   | exact LeO.none _
   | refine LeO.ite ?_ ?_
   | refine LeO.bind ?_ (fun _ => ?_)
set_option maxHeartbeats 8000000 in
set_option maxRecDepth 100000 in
theorem table_Decode.calls (k : Nat) (A0 : Option Addr) (c0 : Nat) (l0 : List Int) (r1 : List (S42)) (r2 : Int) (w : World) (hr0 : Kd.C (Kd.int .u8) w A0 l0.length l0) (hc0 : l0.length ≤ c0) (hG : Glob w) (h : table_Decode.f k l0 = some (r1, r2)) :
  Calls Tryd.prog 17 #[.slice A0 l0.length c0] w fun e w' => ∃ v0_ : Value, e = .returned (.tuple #[v0_, .int .i64 r2]) ∧ Kd.S k42 42 w' w.heap.size (fun _ => True) v0_ r1 ∧ Below w.heap.size w w' := by
 have hu42 := Tryd.underlying42
 have HG := Aside0.mk hG
 clear hG
 have HR0 := Aside0.mk hr0
 have HC0 := Aside0.mk hc0
 clear hr0 hc0
 have HB := Aside0.mk (Below.refl w.heap.size w)
 have H : ((crc_Open.f k l0).bind fun bt277 => (if bt277.2 = 0 then (if (bt277.1.length : Int) ≤ 4 then (table_Decode.j0 k bt277.1 true) else (if 4 ≤ (bt277.1.length : Int) then (table_Decode.j0 k bt277.1 ((strOfNums (bt277.1.take 4)).toList != ([72, 82, 84, 49] : List UInt8))) else (none))) else (some (([] : List (S42)), bt277.2)))) = some (r1, r2) := h
 clear h
 replace H := Option.bind_eq_some_iff.mp H
 obtain ⟨⟨t277, t278⟩, A20, H⟩ := H
 try dsimp only at H
 have A2 := Aside0.mk A20
 clear A20
 by_cases c3 : t278 = 0
 ·rw [if_pos c3] at H
  have c3b0 : (t278 == 0) = true := bI.mpr c3
  have c3b1 : (t278 != 0) = false := nF.mpr c3
  clear c3
  have HC4 := Aside0.mk H
  clear H
  go_enter Tryd.func17, Tryd.ntmps17
  go_upto_region 4 with (first | ((with_reducible refine gate_callee (f := 34) rfl ?_); refine goesL_ (some 12) rfl rfl Tryd.func34 (by kernel_rfl) rfl #[.slice A0 l0.length c0] rfl jZ ?_; (with_reducible refine (crc_Open.calls k _ _ l0 t277 t278 _ ?side1 ?side2 A2.out).mono ?_); (case side1 => repeat (first | exact HR0.out | (with_reducible refine Kd.C_alloc ?_ _) | (with_reducible refine Kd.C_drewN ?_ _) | (with_reducible refine Kd.C_drew ?_))); (case side2 => exact HC0.out); rintro e w5 ⟨v279, rfl, ho0, hb⟩; refine ⟨_, rfl, ?_⟩; have HO280 := Aside0.mk (Kd.R_lower ho0 (zZ (jH HB))); replace HB := Aside0.mk (zT (jH HB) hb); (try clear hb); (try clear hb2); (try clear hk); (try clear hi); (try clear ho0)))
  (try simp only [Act.put, List.setIfInBounds_toArray, List.set_cons_zero, List.set_cons_succ])
  go_cut [26] (fun v26 wc => ∃ (kq : Nat) (x26_3 : Bool), v26 = .bool x26_3 ∧ Aside0 (table_Decode.j0 kq t277 x26_3 = some (r1, r2)) ∧ Aside0 (kq ≤ k) ∧ Aside0 (Kd.Q (Kd.int .u8) 5 wc w.heap.size (fun _ => True) v279 t277) ∧ Aside0 (Below w.heap.size w wc))
  case first =>
   have H := HC4.out
   clear HC4
   by_cases c6 : (t277.length : Int) ≤ 4
   ·rw [if_pos c6] at H
    have c6b0 : decide ((t277.length : Int) ≤ 4) = true := dT c6
    have c6b1 : decide (t277.length ≤ 4) = true := dT (by omega)
    clear c6
    (first | rw [c6b0] | (simp only [i64_w, i32_w]; rw [c6b0]) | skip)
    have H' := Aside0.mk H
    clear H
    obtain ⟨Ao7, co7, eo7⟩ := Kd.R_slice HO280.out
    subst eo7
    go_wp2
    go_meet
    case rel => exact ⟨_, (true), jS, H', ⟨jO⟩, ⟨Kd.Q_of_R (jR HO280)⟩, ⟨jH HB⟩⟩
   ·rw [if_neg c6] at H
    have c6b0 : decide ((t277.length : Int) ≤ 4) = false := dF c6
    have c6b1 : decide (t277.length ≤ 4) = false := dF (by omega)
    clear c6
    (first | rw [c6b0] | (simp only [i64_w, i32_w]; rw [c6b0]) | skip)
    by_cases c8 : 4 ≤ (t277.length : Int)
    ·rw [if_pos c8] at H
     have c8b0 := eq_true c8
     have c8b1 : decide (4 ≤ (t277.length : Int)) = true := dT c8
     clear c8
     obtain ⟨y281, hy281⟩ : ∃ y_ : List Int, y_ = (t277.take 4) := ⟨_, rfl⟩
     simp only [Option.bind_some, ← hy281] at H
     have Ny281 := Aside0.mk hy281
     clear hy281
     have H' := Aside0.mk H
     clear H
     obtain ⟨Ao9, co9, eo9⟩ := Kd.R_slice HO280.out
     subst eo9
     have q10 : (4 : Int) ≤ ((t277.length : Int) : Int) := oD (jA)
     obtain ⟨i010, hi010, _, hsz10, _⟩ := info_parts info5
     have hroom10 : t277.length ≤ co9 := (Kd.R_reads' HO280.out).2.1
     have hC10 : Kd.C (Kd.int .u8) _ Ao9 t277.length t277 := (Kd.R_reads' HO280.out).2.2
     have hcut10 := cut_to (P := Tryd.prog) 25 5 .i64 Tryd.underlying25 hi010 Ao9 t277.length co9 4 (by omega) q10 hroom10
     have hr10 := Kd.C_take (m := 4) hC10 (by omega)
     have hy10 : y281.length = (4 : Int).toNat := (by rw [Ny281.out, List.length_take]; omega)
     rw [← Ny281.out] at hr10
     rw [← hy10] at hcut10
     have HR284 := Aside0.mk hr10
     have HC284 := Aside0.mk (show y281.length ≤ co9 from by omega)
     clear hr10 hC10 hroom10 hi010 hsz10
     have KY10 := Aside0.mk hy10
     clear hy10
     have KL10 := Aside0.mk (show 4 ≤ t277.length from by omega)
     replace q10 := eq_true q10
     have hcv11 := Kd.C_string (P := Tryd.prog) (A := Ao9) (c := co9) Tryd.underlying25 Tryd.underlying5 Tryd.underlying9 (by repeat (first | (with_reducible exact HR284.out) | (with_reducible refine Kd.C_alloc ?_ _) | (with_reducible refine Kd.C_drewN ?_ _) | (with_reducible refine Kd.C_drew ?_) | exact HR284.out))
     go_wp2
     go_meet
     case rel => exact ⟨_, (((strOfNums y281).toList != ([72, 82, 84, 49] : List UInt8))), jS, H', ⟨jO⟩, ⟨Kd.Q_of_R (jR HO280)⟩, ⟨jH HB⟩⟩
    ·rw [if_neg c8] at H
     exact absurd H (by simp)
  case rest =>
   clear HC4
   obtain ⟨kq, x26_3, rfl, HA, HJ3, HO_0, HB⟩ := hcut
   cases kq with
   | zero => exact absurd HA.out (by simp [table_Decode.j0])
   | succ kj3 =>
    have H := HA.out
    clear HA
    simp only [table_Decode.j0] at H
    by_cases c12 : x26_3 = true
    ·subst c12
     rw [if_pos rfl] at H
     simp only [Option.some.injEq, Prod.mk.injEq] at H
     obtain ⟨rfl, rfl⟩ := H
     go_wp2
     go_ret2
     exact ⟨_, jE, by first | exact Kd.S_nil _ _ _ _ _ | exact Kd.N_nil _ _ _ _ _ | exact Kd.V_nil _ _ _ _ _ | exact Kd.Q_nil _ _ _ _ _ | exact Kd.R_nil _ _ _ _ _, jH HB⟩
    ·replace c12 := Bool.eq_false_iff.mpr c12
     subst c12
     rw [if_neg (show ¬ (false = true) by decide)] at H
     by_cases c13 : 4 < (t277.length : Int)
     ·rw [if_pos c13] at H
      have c13b0 : decide (4 < (t277.length : Int)) = true := dT c13
      have c13b1 : decide (4 < t277.length) = true := dT (by omega)
      clear c13
      by_cases c14 : 5 ≤ (t277.length : Int)
      ·rw [if_pos c14] at H
       have c14b0 := eq_true c14
       have c14b1 : decide (5 ≤ (t277.length : Int)) = true := dT c14
       clear c14
       obtain ⟨y286, hy286⟩ : ∃ y_ : List Int, y_ = (t277.drop (5 : Int).toNat) := ⟨_, rfl⟩
       simp only [Option.bind_some, ← hy286] at H
       have Ny286 := Aside0.mk hy286
       clear hy286
       have H' := Aside0.mk H
       clear H
       obtain ⟨Ao15, co15, eo15, _⟩ := Kd.Q_slice HO_0.out
       subst eo15
       have p285 : 0 ≤ (4 : Int) := (by omega)
       have q285 : 4 < (t277.length : Int) := oD (jA)
       obtain ⟨ad285, e285, hx285_0⟩ := Kd.at_int (Kd.Q_reads' HO_0.out).2.2 4 p285 q285
       cases e285
       (try simp only [show (4 : Int).toNat = 4 from rfl, Nat.reduceMul, Nat.reduceEqDiff, Go.Addr.add, ↓reduceIte] at hx285_0)
       have qi285 : (4 < t277.length) = True := eq_true (by omega)
       (try rw [show ((4 : Int)).toNat = 4 from rfl] at hx285_0)
       replace p285 := eq_true p285
       replace q285 := eq_true q285
       have q16 : (5 : Int) ≤ ((t277.length : Int) : Int) := oD (jA)
       obtain ⟨i016, hi016, _, hsz16, _⟩ := info_parts info5
       have hcut16 := cut_from (P := Tryd.prog) 25 5 .i64 Tryd.underlying25 hi016 1 hsz16 (some ad285) t277.length co15 5 (by omega) q16
       have hr16 := Kd.Q_drop (k := (5 : Int).toNat) HO_0.out (by omega)
       obtain ⟨A16, hA16⟩ : ∃ A1, A1 = (if co15 = (5 : Int).toNat then (some ad285) else ((some ad285) : Option Addr).map (·.add ((5 : Int).toNat * 1))) := ⟨_, rfl⟩
       obtain ⟨c16, hc16⟩ : ∃ c1, c1 = co15 - (5 : Int).toNat := ⟨_, rfl⟩
       have hy16 : y286.length = t277.length - (5 : Int).toNat := (by rw [Ny286.out, List.length_drop])
       rw [← Ny286.out] at hr16
       rw [← hy16, ← hA16, ← hc16] at hcut16
       replace hr16 : Kd.Q (Kd.int .u8) 5 wc w.heap.size (fun _ => True) (.slice A16 y286.length c16) y286 := (by rw [hA16, hc16, hy16]; exact hr16)
       have HE16 : Aside0 ((Value.slice A16 y286.length c16).ownBlock = (.slice (some ad285) t277.length co15 : Value).ownBlock) := ⟨by rw [hA16]; split <;> (cases ((some ad285) : Option Addr) <;> rfl)⟩
       clear hy16 hi016 hsz16 HO_0 hA16 hc16
       have HO288 := Aside0.mk hr16
       clear hr16
       replace q16 := eq_true q16
       go_wp2
       go_loopg [0, 5, 34] kj3 (fun kq v0 v5 v34 w' => ∃ (x0_2 : List Int) (x5_2 : List (S42)) (x34_2 : Int), v34 = .int .i64 x34_2 ∧ Aside0 (table_Decode.l0 kq x0_2 x5_2 (wrap64 (rd t277 4)) x34_2 = some (r1, r2)) ∧ Aside0 (kq ≤ kj3) ∧ Aside0 (Kd.V (Kd.int .u8) 5 w' w.heap.size (fun k_ => some k_ ≠ (v5 : Value).ownBlock) v0 x0_2) ∧ Aside0 (Kd.S k42 42 w' w.heap.size (fun _ => True) v5 x5_2) ∧ Aside0 (Below w.heap.size w w'))
       case atStart => exact ⟨(y286), (([] : List (S42))), (0), jS, H', ⟨Nat.le_refl _⟩, ⟨Kd.Q_V (by (with_reducible repeat (first | apply Kd.Q_alloc | apply Kd.Q_drewN | apply Kd.Q_drew)); exact Kd.Q_mono HO288.out (fun _ hk => (by simp [Value.ownBlock])))⟩, ⟨by first | exact Kd.S_nil _ _ _ _ _ | exact Kd.N_nil _ _ _ _ _ | exact Kd.V_nil _ _ _ _ _ | exact Kd.Q_nil _ _ _ _ _ | exact Kd.R_nil _ _ _ _ _⟩, ⟨jH HB⟩⟩
       case round =>
        clear H'
        obtain ⟨x0_2, x5_2, x34_2, rfl, HA, HK2, HO_0, HO_5, HB⟩ := hrel
        cases gk with
        | zero => exact absurd HA.out (by simp [table_Decode.l0])
        | succ k2 =>
         have H := HA.out
         clear HA
         simp only [table_Decode.l0] at H
         by_cases c17 : x34_2 < (wrap64 (rd t277 4))
         ·rw [if_pos c17] at H
          have c17b0 : decide (x34_2 < (wrap64 (rd t277 4))) = true := dT c17
          clear c17
          replace H := Option.bind_eq_some_iff.mp H
          obtain ⟨⟨t289, t292, t295, t296, t299⟩, A180, H⟩ := H
          try dsimp only at H
          have A18 := Aside0.mk A180
          clear A180
          by_cases c19 : t299 = true
          ·subst c19
           rw [if_pos rfl] at H
           by_cases c20 : x5_2.length < 2513169434916
           ·rw [if_pos c20] at H
            have LMc20 := Aside0.mk c20
            clear c20
            obtain ⟨y301, hy301⟩ : ∃ y_ : List (S42), y_ = (x5_2 ++ [(⟨t289, t292, t295⟩ : S42)]) := ⟨_, rfl⟩
            simp only [Option.bind_some, ← hy301] at H
            have Ny301 := Aside0.mk hy301
            clear hy301
            have H' := Aside0.mk H
            clear H
            obtain ⟨Ao21, co21, eo21⟩ := Kd.V_slice HO_0.out
            subst eo21
            go_wp2_with (first | ((with_reducible refine gate_callee (f := 35) rfl ?_); refine goesL_ (some 38) rfl rfl Tryd.func35 (by kernel_rfl) rfl #[.slice Ao21 x0_2.length co21] rfl jZ ?_; (with_reducible refine (table_rule.calls k2 (fun k_ => some k_ ≠ (u5 : Value).ownBlock) _ _ x0_2 t289 t292 t295 t296 true _ ?side1 ?side2 A18.out).mono ?_); (case side1 => exact HO_0.out); (case side2 => exact Glob.below HG.out (jH HB)); rintro e w22 ⟨v290, v293, v297, rfl, ho0, ho1, ho2, hb⟩; refine ⟨_, rfl, ?_⟩; have n0_ := Aside0.mk (Kd.V_mono (Kd.V_told (Kd.V_told (Kd.V_old (jV HO_0) hb) (Kd.R_base ho0)) (Kd.R_base ho1)) (fun _ h_ => h_.1)); have n1_ := Aside0.mk (Kd.S_mono (Kd.S_told (Kd.S_told (Kd.S_old (by (with_reducible repeat (first | apply Kd.S_alloc | apply Kd.S_drewN | apply Kd.S_drew)); exact HO_5.out) hb) (Kd.R_base ho0)) (Kd.R_base ho1)) (fun _ h_ => h_.1)); have n2_ := Aside0.mk (Kd.R_lower (Kd.R_mono (ok' := fun k_ => some k_ ≠ (v293 : Value).ownBlock) ho0 (fun _ hk_ => hk_.2)) (zZ (jH HB))); have n3_ := Aside0.mk (Kd.R_lower (Kd.R_mono (ok' := fun k_ => some k_ ≠ (v290 : Value).ownBlock) ho1 (fun _ hk_ => hk_.2)) (zZ (jH HB))); have n4_ := Aside0.mk (Kd.V_lower (Kd.V_mono (ok' := fun k_ => some k_ ≠ (v290 : Value).ownBlock ∧ some k_ ≠ (v293 : Value).ownBlock ∧ some k_ ≠ (u5 : Value).ownBlock) ho2 (fun k_ hk_ => ⟨hk_.2.1, hk_.2.2, Or.elim hk_.1 (fun hs_ => hs_) (fun hn_ => (Kd.fresh' (Kd.S_lt (by (with_reducible repeat (first | apply Kd.S_alloc | apply Kd.S_drewN | apply Kd.S_drew)); exact HO_5.out)) k_ hn_))⟩)) (zZ (jH HB))); have n5_ := Aside0.mk (zT (jH HB) hb); clear HO_0; clear HO_5; clear HB; have HO_0 := n0_; have HO_5 := n1_; have HO291 := n2_; have HO294 := n3_; have HO298 := n4_; have HB := n5_; clear n0_ n1_ n2_ n3_ n4_ n5_; (try clear hb); (try clear hb2); (try clear hk); (try clear hi); (try clear ho0); (try clear ho1); (try clear ho2)) | ((with_reducible refine gate_dst (N := 7) rfl ?_); refine box_event rfl (N := 7) rfl (cs := #[.slice none 0 0, .slice none 0 0, .int .u32 0]) (t := 42) jW ?_; intro gb300 hg w23 hbox hb; have n0_ := Aside0.mk (Kd.V_below (Kd.V_elderB (jV HO_0) gb300 (Nat.le_of_eq hg.symm)) hb); have n1_ := Aside0.mk (Kd.S_below (Kd.S_elderB (by (with_reducible repeat (first | apply Kd.S_alloc | apply Kd.S_drewN | apply Kd.S_drew)); exact HO_5.out) gb300 (Nat.le_of_eq hg.symm)) hb); have n2_ := Aside0.mk (Kd.R_below (jR HO291) hb); have n3_ := Aside0.mk (Kd.R_below (jR HO294) hb); have n4_ := Aside0.mk (Kd.V_below (Kd.V_elderB (jV HO298) gb300 (Nat.le_of_eq hg.symm)) hb); have n5_ := Aside0.mk (zT (jH HB) hb); have n6_ := Aside0.mk hbox; have n7_ := Aside0.mk (jG hg HB); have n8_ := Aside0.mk (jG hg HB); clear HO_0; clear HO_5; clear HO291; clear HO294; clear HO298; clear HB; have HO_0 := n0_; have HO_5 := n1_; have HO291 := n2_; have HO294 := n3_; have HO298 := n4_; have HB := n5_; have BK300 := n6_; have GW300 := n7_; have GE300 := n8_; clear n0_ n1_ n2_ n3_ n4_ n5_ n6_ n7_ n8_; clear hb hbox hg; obtain ⟨Ao24, co24, eo24⟩ := Kd.R_slice HO291.out; subst eo24; obtain ⟨hcz25_0, hcz25_1, hcz25_2, hfz25_0, hfz25_1, hfz25_2⟩ := kQ3 BK300.out; obtain ⟨Ao26, co26, eo26⟩ := Kd.R_slice HO294.out; subst eo26) | ((with_reducible refine gate_store (t := 42) (p := 7) rfl ?_); refine store_event (t := 42) (p := 7) (v := ?vo_w27) (w1 := (((w23.setCell ⟨gb300, 0, none⟩ (.slice Ao24 t289.length co24)).setCell ⟨gb300, 1, none⟩ (.slice Ao26 t292.length co26)).setCell ⟨gb300, 2, none⟩ (.int .u32 t295))) ?hg ?ho ?hn ?hr ?_; (case ho => rfl); (case hg => rfl); (case hn => rfl); (case hr => first | (go_simp; done) | (go_simp; rfl)); intro w27 hw; have n0_ : Aside0 (Kd.V (Kd.int .u8) 5 w27 w.heap.size (fun k_ => some k_ ≠ (u5 : Value).ownBlock ∧ some k_ ≠ (.slice Ao24 t289.length co24 : Value).ownBlock ∧ some k_ ≠ (.slice Ao26 t292.length co26 : Value).ownBlock ∧ k_ ≠ gb300) (.slice Ao21 x0_2.length co21) x0_2) := ⟨(by rw [hw]; exact (by (with_reducible repeat (first | apply Kd.V_alloc | apply Kd.V_drewN | apply Kd.V_drew)); exact Kd.V_mono (Kd.V_far (p := ⟨gb300, 2, none⟩) (Kd.V_far (p := ⟨gb300, 1, none⟩) (Kd.V_far (p := ⟨gb300, 0, none⟩) (Kd.V_mono HO_0.out (fun k_ hk => (⟨hk, hk.2⟩ : _ ∧ k_ ≠ gb300))) (fun _ hk => hk.2) (.slice Ao24 t289.length co24)) (fun _ hk => hk.2) (.slice Ao26 t292.length co26)) (fun _ hk => hk.2) (.int .u32 t295)) (fun _ hk => ⟨hk.1.1.1.1, ⟨hk.1.1.1.2, ⟨hk.1.1.2, hk.1.2⟩⟩⟩)))⟩; have n1_ : Aside0 (Kd.S k42 42 w27 w.heap.size (fun k_ => some k_ ≠ (.slice Ao24 t289.length co24 : Value).ownBlock ∧ some k_ ≠ (.slice Ao26 t292.length co26 : Value).ownBlock ∧ k_ ≠ gb300) u5 x5_2) := ⟨(by rw [hw]; exact (by (with_reducible repeat (first | apply Kd.S_alloc | apply Kd.S_drewN | apply Kd.S_drew)); exact Kd.S_mono (Kd.S_far (p := ⟨gb300, 2, none⟩) (Kd.S_far (p := ⟨gb300, 1, none⟩) (Kd.S_far (p := ⟨gb300, 0, none⟩) (Kd.S_mono HO_5.out (fun k_ hk => (⟨hk, hk.2⟩ : _ ∧ k_ ≠ gb300))) (fun _ hk => hk.2) (.slice Ao24 t289.length co24)) (fun _ hk => hk.2) (.slice Ao26 t292.length co26)) (fun _ hk => hk.2) (.int .u32 t295)) (fun _ hk => ⟨hk.1.1.1.2, ⟨hk.1.1.2, hk.1.2⟩⟩)))⟩; have n2_ : Aside0 (Kd.R k59 59 w27 w.heap.size (fun k_ => some k_ ≠ (.slice Ao26 t292.length co26 : Value).ownBlock) (.slice Ao24 t289.length co24) t289) := ⟨(by rw [hw]; exact (by (with_reducible repeat (first | apply Kd.R_alloc | apply Kd.R_drewN | apply Kd.R_drew)); exact Kd.R_mono (Kd.R_far (p := ⟨gb300, 2, none⟩) (Kd.R_far (p := ⟨gb300, 1, none⟩) (Kd.R_far (p := ⟨gb300, 0, none⟩) (Kd.R_types HO291.out BK300.out (by decide)) (fun _ hk => hk.2) (.slice Ao24 t289.length co24)) (fun _ hk => hk.2) (.slice Ao26 t292.length co26)) (fun _ hk => hk.2) (.int .u32 t295)) (fun _ hk => hk.1)))⟩; have n3_ : Aside0 (Kd.R k59 59 w27 w.heap.size (fun k_ => some k_ ≠ (.slice Ao24 t289.length co24 : Value).ownBlock) (.slice Ao26 t292.length co26) t292) := ⟨(by rw [hw]; exact (by (with_reducible repeat (first | apply Kd.R_alloc | apply Kd.R_drewN | apply Kd.R_drew)); exact Kd.R_mono (Kd.R_far (p := ⟨gb300, 2, none⟩) (Kd.R_far (p := ⟨gb300, 1, none⟩) (Kd.R_far (p := ⟨gb300, 0, none⟩) (Kd.R_types HO294.out BK300.out (by decide)) (fun _ hk => hk.2) (.slice Ao24 t289.length co24)) (fun _ hk => hk.2) (.slice Ao26 t292.length co26)) (fun _ hk => hk.2) (.int .u32 t295)) (fun _ hk => hk.1)))⟩; have n4_ : Aside0 (Kd.V (Kd.int .u8) 5 w27 w.heap.size (fun k_ => some k_ ≠ (u5 : Value).ownBlock ∧ some k_ ≠ (.slice Ao24 t289.length co24 : Value).ownBlock ∧ some k_ ≠ (.slice Ao26 t292.length co26 : Value).ownBlock ∧ k_ ≠ gb300) v297 t296) := ⟨(by rw [hw]; exact (by (with_reducible repeat (first | apply Kd.V_alloc | apply Kd.V_drewN | apply Kd.V_drew)); exact Kd.V_mono (Kd.V_far (p := ⟨gb300, 2, none⟩) (Kd.V_far (p := ⟨gb300, 1, none⟩) (Kd.V_far (p := ⟨gb300, 0, none⟩) (Kd.V_mono HO298.out (fun k_ hk => (⟨hk, hk.2⟩ : _ ∧ k_ ≠ gb300))) (fun _ hk => hk.2) (.slice Ao24 t289.length co24)) (fun _ hk => hk.2) (.slice Ao26 t292.length co26)) (fun _ hk => hk.2) (.int .u32 t295)) (fun _ hk => ⟨hk.1.1.2.2, ⟨hk.1.1.1, ⟨hk.1.1.2.1, hk.1.2⟩⟩⟩)))⟩; have n5_ : Aside0 (w27.heap[gb300]? = some (.cells #[.slice Ao24 t289.length co24, .slice Ao26 t292.length co26, .int .u32 t295] 42 (0, 0))) := ⟨(by rw [hw]; exact (by (with_reducible repeat (first | refine kN ?_ _ | refine kD ?_ | refine kA ?_ _)); refine kP (cs := #[.slice Ao24 t289.length co24, .slice Ao26 t292.length co26, .int .u32 0]) ?_ 2 _ rfl; (with_reducible repeat (first | refine kN ?_ _ | refine kD ?_ | refine kA ?_ _)); refine kP (cs := #[.slice Ao24 t289.length co24, .slice none 0 0, .int .u32 0]) ?_ 1 _ rfl; (with_reducible repeat (first | refine kN ?_ _ | refine kD ?_ | refine kA ?_ _)); refine kP (cs := #[.slice none 0 0, .slice none 0 0, .int .u32 0]) ?_ 0 _ rfl; (with_reducible repeat (first | refine kN ?_ _ | refine kD ?_ | refine kA ?_ _)); exact BK300.out))⟩; have n6_ : Aside0 (Below w.heap.size w w27) := ⟨(by rw [hw]; exact (jH HB))⟩; clear hw; clear HO_0; clear HO_5; clear HO291; clear HO294; clear HO298; clear BK300; clear HB; have HO_0 := n0_; have HO_5 := n1_; have HO291 := n2_; have HO294 := n3_; have HO298 := n4_; have BK300 := n5_; have HB := n6_; clear n0_ n1_ n2_ n3_ n4_ n5_ n6_; obtain ⟨hcz28_0, hcz28_1, hcz28_2, hfz28_0, hfz28_1, hfz28_2⟩ := kQ3 BK300.out) | ((with_reducible refine gate_builtin (b := .append) (xs := #[.tmp 44, .tmp 46]) rfl ?_); at_builtin; refine Kd.S_append k42 (w0 := w) w.heap.size rfl (.tmp 44) (.tmp 46) 22 42 (.agg #[(.slice none 0 0), (.slice none 0 0), (.int .u32 0)]) 56 rfl Tryd.underlying22 info42 rfl (by decide) (by omega) u5 x5_2 (⟨t289, t292, t295⟩ : S42) [.slice Ao24 t289.length co24, .slice Ao26 t292.length co26, .int .u32 t295] (fun k_ => k_ ≠ gb300) (fun k_ => some k_ = (.slice Ao24 t289.length co24 : Value).ownBlock ∨ some k_ = (.slice Ao26 t292.length co26 : Value).ownBlock) rfl rfl ?aP (fun k_ hk_ => hk_.elim (fun h_ => ((Kd.R_mono (ok' := fun k_ => ((fun k_ => k_ ≠ gb300)) k_ ∧ some k_ ≠ (u5 : Value).ownBlock) (Kd.R_types (Kd.R_apart' (HO291.out) (Kd.S_typed HO_5.out) (by decide)) BK300.out (by decide)) (fun k_ hk => ⟨hk.2, hk.1.2⟩))).1 k_ h_.symm) (fun h_ => ((Kd.R_mono (ok' := fun k_ => ((fun k_ => k_ ≠ gb300)) k_ ∧ some k_ ≠ (u5 : Value).ownBlock) (Kd.R_types (Kd.R_apart' (HO294.out) (Kd.S_typed HO_5.out) (by decide)) BK300.out (by decide)) (fun k_ hk => ⟨hk.2, hk.1.2⟩))).1 k_ h_.symm)) ?aF ?aO ?aB ?aS ?aL ?_; (case aP => exact k42_mkM _ _ _ (⟨t289, t292, t295⟩ : S42) (Kd.R_mono (Kd.R_tight rfl (Kd.R_mono (ok' := fun k_ => ((fun k_ => k_ ≠ gb300)) k_ ∧ some k_ ≠ (u5 : Value).ownBlock) (Kd.R_types (Kd.R_apart' (HO291.out) (Kd.S_typed HO_5.out) (by decide)) BK300.out (by decide)) (fun k_ hk => ⟨hk.2, hk.1.2⟩))) (fun _ h_ => Or.inl h_)) (Kd.R_mono (Kd.R_tight rfl (Kd.R_mono (ok' := fun k_ => ((fun k_ => k_ ≠ gb300)) k_ ∧ some k_ ≠ (u5 : Value).ownBlock) (Kd.R_types (Kd.R_apart' (HO294.out) (Kd.S_typed HO_5.out) (by decide)) BK300.out (by decide)) (fun k_ hk => ⟨hk.2, hk.1.2⟩))) (fun _ h_ => Or.inr (h_)))); (case aB => exact (jH HB)); (case aF => exact (fun k_ hk => Kd.freshB (g := gb300) (o := .cells #[.slice Ao24 t289.length co24, .slice Ao26 t292.length co26, .int .u32 t295] 42 (0, 0)) (jK BK300) k_ hk)); (case aO => exact (by (with_reducible repeat (first | apply Kd.S_alloc | apply Kd.S_drewN | apply Kd.S_drew)); exact Kd.S_mono HO_5.out (fun k_ hk => ⟨hk.2.2, fun e_ => e_.elim (fun h_ => hk.1 h_) (fun h_ => hk.2.1 h_)⟩))); (case aS => exact (zZ (jH HB))); (case aL => have := LMc20.out; omega); intro v302 w29 ho hb hg hat; rw [← Ny301.out] at ho; have n0_ := Aside0.mk (Kd.V_afterv (ok := (fun k_ => some k_ ≠ (.slice Ao24 t289.length co24 : Value).ownBlock ∧ some k_ ≠ (.slice Ao26 t292.length co26 : Value).ownBlock ∧ k_ ≠ gb300)) (by (with_reducible repeat (first | apply Kd.V_alloc | apply Kd.V_drewN | apply Kd.V_drew)); exact Kd.V_mono HO_0.out (fun _ hk => ⟨⟨hk.2.1, ⟨hk.2.2.1, hk.2.2.2⟩⟩, hk.1⟩)) hg hat); have n1_ := Aside0.mk (Kd.V_afterv (ok := (fun k_ => some k_ ≠ (.slice Ao24 t289.length co24 : Value).ownBlock ∧ some k_ ≠ (.slice Ao26 t292.length co26 : Value).ownBlock ∧ k_ ≠ gb300)) (by (with_reducible repeat (first | apply Kd.V_alloc | apply Kd.V_drewN | apply Kd.V_drew)); exact Kd.V_mono HO298.out (fun _ hk => ⟨⟨hk.2.1, ⟨hk.2.2.1, hk.2.2.2⟩⟩, hk.1⟩)) hg hat); have n2_ := Aside0.mk (kG (g := gb300) (o := .cells #[.slice Ao24 t289.length co24, .slice Ao26 t292.length co26, .int .u32 t295] 42 (0, 0)) (jK BK300) hg (Kd.S_away HO_5.out (fun _ hk => hk.2.2))); have n3_ := Aside0.mk (hb); have n4_ := Aside0.mk (ho); clear HO_0; clear HO298; clear BK300; clear HB; clear HO_5; clear HO291; clear HO294; have HO_0 := n0_; have HO298 := n1_; have BK300 := n2_; have HB := n3_; have HO303 := n4_; clear n0_ n1_ n2_ n3_ n4_; clear ho hb hg hat))
            go_roundg k2
            case measure => have := HJ3.out; have := HK2.out; omega
            case rel => exact ⟨(t296), (y301), (wrap64 (x34_2 + 1)), jS, H', ⟨by have := HJ3.out; have := HK2.out; omega⟩, ⟨by (with_reducible repeat (first | apply Kd.V_alloc | apply Kd.V_drewN | apply Kd.V_drew)); exact Kd.V_mono HO298.out (fun _ hk => hk.2)⟩, ⟨by (with_reducible repeat (first | apply Kd.S_alloc | apply Kd.S_drewN | apply Kd.S_drew)); exact Kd.S_mono HO303.out (fun _ hk => trivial)⟩, ⟨jH HB⟩⟩
           ·rw [if_neg c20] at H
            exact absurd H (by simp)
          ·replace c19 := Bool.eq_false_iff.mpr c19
           subst c19
           rw [if_neg (show ¬ (false = true) by decide)] at H
           simp only [Option.some.injEq, Prod.mk.injEq] at H
           obtain ⟨rfl, rfl⟩ := H
           obtain ⟨Ao30, co30, eo30⟩ := Kd.V_slice HO_0.out
           subst eo30
           go_wp2_with (first | ((with_reducible refine gate_callee (f := 35) rfl ?_); refine goesL_ (some 38) rfl rfl Tryd.func35 (by kernel_rfl) rfl #[.slice Ao30 x0_2.length co30] rfl jZ ?_; (with_reducible refine (table_rule.calls k2 (fun k_ => some k_ ≠ (u5 : Value).ownBlock) _ _ x0_2 t289 t292 t295 t296 false _ ?side1 ?side2 A18.out).mono ?_); (case side1 => exact HO_0.out); (case side2 => exact Glob.below HG.out (jH HB)); rintro e w31 ⟨v290, v293, v297, rfl, ho0, ho1, ho2, hb⟩; refine ⟨_, rfl, ?_⟩; have n0_ := Aside0.mk (Kd.V_mono (Kd.V_told (Kd.V_told (Kd.V_old (jV HO_0) hb) (Kd.R_base ho0)) (Kd.R_base ho1)) (fun _ h_ => h_.1)); have n1_ := Aside0.mk (Kd.S_mono (Kd.S_told (Kd.S_told (Kd.S_old (by (with_reducible repeat (first | apply Kd.S_alloc | apply Kd.S_drewN | apply Kd.S_drew)); exact HO_5.out) hb) (Kd.R_base ho0)) (Kd.R_base ho1)) (fun _ h_ => h_.1)); have n2_ := Aside0.mk (Kd.R_lower (Kd.R_mono (ok' := fun k_ => some k_ ≠ (v293 : Value).ownBlock) ho0 (fun _ hk_ => hk_.2)) (zZ (jH HB))); have n3_ := Aside0.mk (Kd.R_lower (Kd.R_mono (ok' := fun k_ => some k_ ≠ (v290 : Value).ownBlock) ho1 (fun _ hk_ => hk_.2)) (zZ (jH HB))); have n4_ := Aside0.mk (Kd.V_lower (Kd.V_mono (ok' := fun k_ => some k_ ≠ (v290 : Value).ownBlock ∧ some k_ ≠ (v293 : Value).ownBlock ∧ some k_ ≠ (u5 : Value).ownBlock) ho2 (fun k_ hk_ => ⟨hk_.2.1, hk_.2.2, Or.elim hk_.1 (fun hs_ => hs_) (fun hn_ => (Kd.fresh' (Kd.S_lt (by (with_reducible repeat (first | apply Kd.S_alloc | apply Kd.S_drewN | apply Kd.S_drew)); exact HO_5.out)) k_ hn_))⟩)) (zZ (jH HB))); have n5_ := Aside0.mk (zT (jH HB) hb); clear HO_0; clear HO_5; clear HB; have HO_0 := n0_; have HO_5 := n1_; have HO291 := n2_; have HO294 := n3_; have HO298 := n4_; have HB := n5_; clear n0_ n1_ n2_ n3_ n4_ n5_; (try clear hb); (try clear hb2); (try clear hk); (try clear hi); (try clear ho0); (try clear ho1); (try clear ho2)) | ((with_reducible refine gate_dst (N := 7) rfl ?_); refine box_event rfl (N := 7) rfl (cs := #[.slice none 0 0, .slice none 0 0, .int .u32 0]) (t := 42) jW ?_; intro gb300 hg w32 hbox hb; have n0_ := Aside0.mk (Kd.V_below (Kd.V_elderB (jV HO_0) gb300 (Nat.le_of_eq hg.symm)) hb); have n1_ := Aside0.mk (Kd.S_below (Kd.S_elderB (by (with_reducible repeat (first | apply Kd.S_alloc | apply Kd.S_drewN | apply Kd.S_drew)); exact HO_5.out) gb300 (Nat.le_of_eq hg.symm)) hb); have n2_ := Aside0.mk (Kd.R_below (jR HO291) hb); have n3_ := Aside0.mk (Kd.R_below (jR HO294) hb); have n4_ := Aside0.mk (Kd.V_below (Kd.V_elderB (jV HO298) gb300 (Nat.le_of_eq hg.symm)) hb); have n5_ := Aside0.mk (zT (jH HB) hb); have n6_ := Aside0.mk hbox; have n7_ := Aside0.mk (jG hg HB); have n8_ := Aside0.mk (jG hg HB); clear HO_0; clear HO_5; clear HO291; clear HO294; clear HO298; clear HB; have HO_0 := n0_; have HO_5 := n1_; have HO291 := n2_; have HO294 := n3_; have HO298 := n4_; have HB := n5_; have BK300 := n6_; have GW300 := n7_; have GE300 := n8_; clear n0_ n1_ n2_ n3_ n4_ n5_ n6_ n7_ n8_; clear hb hbox hg; obtain ⟨Ao33, co33, eo33⟩ := Kd.R_slice HO291.out; subst eo33; obtain ⟨hcz34_0, hcz34_1, hcz34_2, hfz34_0, hfz34_1, hfz34_2⟩ := kQ3 BK300.out; obtain ⟨Ao35, co35, eo35⟩ := Kd.R_slice HO294.out; subst eo35))
           go_ret2
           exact ⟨_, jE, by first | exact Kd.S_nil _ _ _ _ _ | exact Kd.N_nil _ _ _ _ _ | exact Kd.V_nil _ _ _ _ _ | exact Kd.Q_nil _ _ _ _ _ | exact Kd.R_nil _ _ _ _ _, jH HB⟩
         ·rw [if_neg c17] at H
          have c17b0 : decide (x34_2 < (wrap64 (rd t277 4))) = false := dF c17
          clear c17
          by_cases c36 : (x0_2.length : Int) > 0
          ·rw [if_pos c36] at H
           have c36b0 : decide (0 < (x0_2.length : Int)) = true := dT c36
           have c36b1 : decide (0 < x0_2.length) = true := dT (by omega)
           clear c36
           simp only [Option.some.injEq, Prod.mk.injEq] at H
           obtain ⟨rfl, rfl⟩ := H
           obtain ⟨Ao37, co37, eo37⟩ := Kd.V_slice HO_0.out
           subst eo37
           go_wp2
           go_ret2
           exact ⟨_, jE, by first | exact Kd.S_nil _ _ _ _ _ | exact Kd.N_nil _ _ _ _ _ | exact Kd.V_nil _ _ _ _ _ | exact Kd.Q_nil _ _ _ _ _ | exact Kd.R_nil _ _ _ _ _, jH HB⟩
          ·rw [if_neg c36] at H
           have c36b0 : decide (0 < (x0_2.length : Int)) = false := dF c36
           have c36b1 : decide (0 < x0_2.length) = false := dF (by omega)
           clear c36
           replace H := Option.bind_eq_some_iff.mp H
           obtain ⟨t304, A380, H⟩ := H
           try dsimp only at H
           have A38 := Aside0.mk A380
           clear A380
           by_cases c39 : t304 = true
           ·subst c39
            rw [if_pos rfl] at H
            simp only [Option.some.injEq, Prod.mk.injEq] at H
            obtain ⟨rfl, rfl⟩ := H
            obtain ⟨Ao40, co40, eo40⟩ := Kd.V_slice HO_0.out
            subst eo40
            obtain ⟨Ao41, co41, eo41⟩ := Kd.S_slice HO_5.out
            subst eo41
            go_wp2_with (first | (go_at_call 15; (with_reducible refine (table_Right.calls k2 _ _ x5_2 true _ ?side1 ?side2 ?side3 A38.out).mono ?_); (case side1 => exact jC (Kd.S_reads' HO_5.out).2.2); (case side2 => exact (Kd.S_reads' HO_5.out).2.1); (case side3 => exact Glob.below HG.out (jH HB)); rintro e w42 ⟨rfl, hb⟩; have n0_ := Aside0.mk (Kd.V_below (jV HO_0) hb); have n1_ := Aside0.mk (Kd.S_below (by (with_reducible repeat (first | apply Kd.S_alloc | apply Kd.S_drewN | apply Kd.S_drew)); exact HO_5.out) hb); have n2_ := Aside0.mk (zT (jH HB) hb); clear HO_0; clear HO_5; clear HB; have HO_0 := n0_; have HO_5 := n1_; have HB := n2_; clear n0_ n1_ n2_; (try clear hb); (try clear hb2); (try clear hk); (try clear hi)))
            go_ret2
            exact ⟨_, jE, by (with_reducible repeat (first | apply Kd.S_alloc | apply Kd.S_drewN | apply Kd.S_drew)); exact HO_5.out, jH HB⟩
           ·replace c39 := Bool.eq_false_iff.mpr c39
            subst c39
            rw [if_neg (show ¬ (false = true) by decide)] at H
            simp only [Option.some.injEq, Prod.mk.injEq] at H
            obtain ⟨rfl, rfl⟩ := H
            obtain ⟨Ao43, co43, eo43⟩ := Kd.V_slice HO_0.out
            subst eo43
            obtain ⟨Ao44, co44, eo44⟩ := Kd.S_slice HO_5.out
            subst eo44
            go_wp2_with (first | (go_at_call 15; (with_reducible refine (table_Right.calls k2 _ _ x5_2 false _ ?side1 ?side2 ?side3 A38.out).mono ?_); (case side1 => exact jC (Kd.S_reads' HO_5.out).2.2); (case side2 => exact (Kd.S_reads' HO_5.out).2.1); (case side3 => exact Glob.below HG.out (jH HB)); rintro e w45 ⟨rfl, hb⟩; have n0_ := Aside0.mk (Kd.V_below (jV HO_0) hb); have n1_ := Aside0.mk (Kd.S_below (by (with_reducible repeat (first | apply Kd.S_alloc | apply Kd.S_drewN | apply Kd.S_drew)); exact HO_5.out) hb); have n2_ := Aside0.mk (zT (jH HB) hb); clear HO_0; clear HO_5; clear HB; have HO_0 := n0_; have HO_5 := n1_; have HB := n2_; clear n0_ n1_ n2_; (try clear hb); (try clear hb2); (try clear hk); (try clear hi)))
            go_ret2
            exact ⟨_, jE, by first | exact Kd.S_nil _ _ _ _ _ | exact Kd.N_nil _ _ _ _ _ | exact Kd.V_nil _ _ _ _ _ | exact Kd.Q_nil _ _ _ _ _ | exact Kd.R_nil _ _ _ _ _, jH HB⟩
      ·rw [if_neg c14] at H
       exact absurd H (by simp)
     ·rw [if_neg c13] at H
      exact absurd H (by simp)
 ·rw [if_neg c3] at H
  have c3b0 : (t278 == 0) = false := bF.mpr c3
  have c3b1 : (t278 != 0) = true := nI.mpr c3
  simp only [Option.some.injEq, Prod.mk.injEq] at H
  obtain ⟨rfl, rfl⟩ := H
  go_enter Tryd.func17, Tryd.ntmps17
  go_wp2_with (first | ((with_reducible refine gate_callee (f := 34) rfl ?_); refine goesL_ (some 12) rfl rfl Tryd.func34 (by kernel_rfl) rfl #[.slice A0 l0.length c0] rfl jZ ?_; (with_reducible refine (crc_Open.calls k _ _ l0 t277 t278 _ ?side1 ?side2 A2.out).mono ?_); (case side1 => repeat (first | exact HR0.out | (with_reducible refine Kd.C_alloc ?_ _) | (with_reducible refine Kd.C_drewN ?_ _) | (with_reducible refine Kd.C_drew ?_))); (case side2 => exact HC0.out); rintro e w46 ⟨v279, rfl, ho0, hb⟩; refine ⟨_, rfl, ?_⟩; have HO280 := Aside0.mk (Kd.R_lower ho0 (zZ (jH HB))); replace HB := Aside0.mk (zT (jH HB) hb); (try clear hb); (try clear hb2); (try clear hk); (try clear hi); (try clear ho0)))
  go_ret2
  exact ⟨_, jE, by first | exact Kd.S_nil _ _ _ _ _ | exact Kd.N_nil _ _ _ _ _ | exact Kd.V_nil _ _ _ _ _ | exact Kd.Q_nil _ _ _ _ _ | exact Kd.R_nil _ _ _ _ _, jH HB⟩
end Go.Proofs.YtahacmdhhfmhiaaDoor.M
