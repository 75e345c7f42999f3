/- What Go functions compute; their calls come to it. No condition. -/
import Derived.Test.YtohpbjnihmcelaaDoorM0
import Derived.Test.YtohpbjnihmcelaaDoorM2
namespace Go.Proofs.YtohpbjnihmcelaaDoor.M
open Go.RowKit Go.Proofs.YtohpbjnihmcelaaDoorW.PrintWords Go.Proofs.YtohpbjnihmcelaaDoorW.PrintLast Go.Proofs.YtohpbjnihmcelaaDoorW.PrintMore
attribute [local go_sem] max2_int min2_int max_two min_two max_three min_three max_four min_four   -- for this text's walks alone
set_option linter.unusedVariables false
set_option linter.unusedSimpArgs false
def ins_Right.j0 : Nat → Bool → Int → Int → Int → Int → Int → ByteArray → Bool → Bool → Option (Bool)
 | 0, _, _, _, _, _, _, _, _, _ => none
 | k + 1, x22, x110000, x110001, x110002, x110003, x116000, x116001, x116002, x116003 => if x22 = true then (some false) else (if x116003 = true then (if x110001 ≥ 0 then (if x110001 ≤ 255 then (if x110002 ≥ 0 then (some (decide (x110002 ≤ 255))) else (some false)) else (some false)) else (some false)) else (if x110001 = 0 then (some (x110002 == 0)) else (some false)))
def ins_Right.f (k : Nat) (a0_0 : Int) (a0_1 : Int) (a0_2 : Int) (a0_3 : Int) : Option (Bool) := (ins_of.f a0_0).bind fun bt110 => (if bt110.2.2.2.2 = true then (if bt110.2.2.1 = true then (ins_Right.j0 k false a0_0 a0_1 a0_2 a0_3 bt110.1 bt110.2.1 bt110.2.2.1 bt110.2.2.2.1) else (ins_Right.j0 k (a0_3 != 0) a0_0 a0_1 a0_2 a0_3 bt110.1 bt110.2.1 bt110.2.2.1 bt110.2.2.2.1)) else (ins_Right.j0 k true a0_0 a0_1 a0_2 a0_3 bt110.1 bt110.2.1 bt110.2.2.1 bt110.2.2.2.1))
theorem ins_Right.mono_l : ∀ k, (∀ y0 y1 y2 y3 y4 y5 y6 y7 y8, LeO (ins_Right.j0 k y0 y1 y2 y3 y4 y5 y6 y7 y8) (ins_Right.j0 (k + 1) y0 y1 y2 y3 y4 y5 y6 y7 y8))
 | 0 => fun _ _ _ _ _ _ _ _ _ r h => by simp [ins_Right.j0] at h
 | k + 1 => by
  have ih0 := ins_Right.mono_l k
  ·intro y0 y1 y2 y3 y4 y5 y6 y7 y8
   unfold ins_Right.j0
   repeat' first
   | (with_reducible apply ih0)
   | (with_reducible exact LeO.refl _)
   | (with_reducible exact LeO.none _)
   | (with_reducible refine LeO.ite ?_ ?_)
   | (with_reducible refine LeO.bind ?_ (fun _ => ?_))
   | apply ih0
   | exact LeO.none _
   | refine LeO.ite ?_ ?_
   | refine LeO.bind ?_ (fun _ => ?_)
theorem ins_Right.mono : ∀ a0 a1 a2 a3 k, LeO (ins_Right.f k a0 a1 a2 a3) (ins_Right.f (k + 1) a0 a1 a2 a3) := by
 intro a0 a1 a2 a3 k
 have ih0 := ins_Right.mono_l k
 unfold ins_Right.f
 repeat' first
   | (with_reducible apply ih0)
   | (with_reducible exact LeO.refl _)
   | (with_reducible exact LeO.none _)
   | (with_reducible refine LeO.ite ?_ ?_)
   | (with_reducible refine LeO.bind ?_ (fun _ => ?_))
   | apply ih0
   | exact LeO.none _
   | refine LeO.ite ?_ ?_
   | refine LeO.bind ?_ (fun _ => ?_)
set_option maxHeartbeats 8000000 in
set_option maxRecDepth 100000 in
theorem ins_Right.calls (k : Nat) (a0_0 : Int) (a0_1 : Int) (a0_2 : Int) (a0_3 : Int) (r : Bool) (w : World) (hG : Glob w) (h : ins_Right.f k a0_0 a0_1 a0_2 a0_3 = some r) :
  Calls Tryd.prog 35 #[.agg #[.int .i64 a0_0, .int .i64 a0_1, .int .i64 a0_2, .int .u32 a0_3]] w fun e w' => e = .returned (.bool r) ∧ Below w.heap.size w w' := by
 have hu45 := Tryd.underlying45
 have hu63 := Tryd.underlying63
 have HG := Aside0.mk hG
 clear hG
 have HB := Aside0.mk (Below.refl w.heap.size w)
 have H : ((ins_of.f a0_0).bind fun bt110 => (if bt110.2.2.2.2 = true then (if bt110.2.2.1 = true then (ins_Right.j0 k false a0_0 a0_1 a0_2 a0_3 bt110.1 bt110.2.1 bt110.2.2.1 bt110.2.2.2.1) else (ins_Right.j0 k (a0_3 != 0) a0_0 a0_1 a0_2 a0_3 bt110.1 bt110.2.1 bt110.2.2.1 bt110.2.2.2.1)) else (ins_Right.j0 k true a0_0 a0_1 a0_2 a0_3 bt110.1 bt110.2.1 bt110.2.2.1 bt110.2.2.2.1))) = some r := h
 clear h
 replace H := Option.bind_eq_some_iff.mp H
 obtain ⟨⟨t110, t111, t112, t113, t114⟩, A20, H⟩ := H
 try dsimp only at H
 have A2 := Aside0.mk A20
 clear A20
 have HC3 := Aside0.mk H
 clear H
 go_enter Tryd.func35, Tryd.ntmps35
 go_upto_region 2 with (first | ((with_reducible refine gate_dst (N := 1) rfl ?_); refine box_event rfl (N := 1) rfl (cs := #[.int .i64 a0_0, .int .i64 a0_1, .int .i64 a0_2, .int .u32 a0_3]) (t := 45) jW ?_; intro gb109 hg w4 hbox hb; have n0_ := Aside0.mk (zT (jH HB) hb); have n1_ := Aside0.mk hbox; have n2_ := Aside0.mk (jG hg HB); have n3_ := Aside0.mk (jG hg HB); clear HB; have HB := n0_; have BK109 := n1_; have GW109 := n2_; have GE109 := n3_; clear n0_ n1_ n2_ n3_; clear hb hbox hg; have hcz5_0 : w4.cell? ⟨gb109, 0, none⟩ = some (.int .i64 a0_0) := (kC BK109.out 0).trans rfl; have hcz5_1 : w4.cell? ⟨gb109, 1, none⟩ = some (.int .i64 a0_1) := (kC BK109.out 1).trans rfl; have hcz5_2 : w4.cell? ⟨gb109, 2, none⟩ = some (.int .i64 a0_2) := (kC BK109.out 2).trans rfl; have hcz5_3 : w4.cell? ⟨gb109, 3, none⟩ = some (.int .u32 a0_3) := (kC BK109.out 3).trans rfl; have hfz5_0 := kF BK109.out 0; have hfz5_1 := kF BK109.out 1; have hfz5_2 := kF BK109.out 2; have hfz5_3 := kF BK109.out 3) | ((with_reducible refine gate_callee (f := 29) rfl ?_); refine goesL_ (some 8) rfl rfl Tryd.func29 (by kernel_rfl) rfl #[.int .i64 a0_0] rfl jZ ?_; (with_reducible refine (ins_of.calls a0_0 t110 t111 t112 t113 t114 _ ?side1 A2.out).mono ?_); (case side1 => exact Glob.below HG.out (jH HB)); rintro e w6 ⟨rfl, hb⟩; refine ⟨_, rfl, ?_⟩; have n0_ := Aside0.mk (jB BK109 hb); have n1_ := Aside0.mk (zT (jH HB) hb); clear BK109; clear HB; have BK109 := n0_; have HB := n1_; clear n0_ n1_; (try clear hb); (try clear hb2); (try clear hk); (try clear hi)) | ((with_reducible refine gate_dst (N := 3) rfl ?_); refine box_event rfl (N := 3) rfl (cs := #[.int .i64 0, .string (⟨#[]⟩ : ByteArray), .bool false, .bool false]) (t := 63) jW ?_; intro gb115 hg w7 hbox hb; have n0_ := Aside0.mk (jB BK109 hb); have n1_ := Aside0.mk (zT (jH HB) hb); have n2_ := Aside0.mk hbox; have n3_ := Aside0.mk (jG hg HB); have n4_ := Aside0.mk (jG hg HB); have n5_ := Aside0.mk (jN hg BK109); have n6_ := Aside0.mk (jM hg BK109); clear BK109; clear HB; have BK109 := n0_; have HB := n1_; have BK115 := n2_; have GW115 := n3_; have GE115 := n4_; have NB109_115 := n5_; have NB115_109 := n6_; clear n0_ n1_ n2_ n3_ n4_ n5_ n6_; clear hb hbox hg; have hnb8 := NB115_109.out; have hnc8 := NB109_115.out; have hcz9_0 : w7.cell? ⟨gb115, 0, none⟩ = some (.int .i64 0) := (kC BK115.out 0).trans rfl; have hcz9_1 : w7.cell? ⟨gb115, 1, none⟩ = some (.string (⟨#[]⟩ : ByteArray)) := (kC BK115.out 1).trans rfl; have hcz9_2 : w7.cell? ⟨gb115, 2, none⟩ = some (.bool false) := (kC BK115.out 2).trans rfl; have hcz9_3 : w7.cell? ⟨gb115, 3, none⟩ = some (.bool false) := (kC BK115.out 3).trans rfl; have hfz9_0 := kF BK115.out 0; have hfz9_1 := kF BK115.out 1; have hfz9_2 := kF BK115.out 2; have hfz9_3 := kF BK115.out 3))
 (try simp only [Act.put, List.setIfInBounds_toArray, List.set_cons_zero, List.set_cons_succ])
 go_cut [22] (fun v22 wc => ∃ (kq : Nat) (x22_2 : Bool), v22 = .bool x22_2 ∧ Aside0 (ins_Right.j0 kq x22_2 a0_0 a0_1 a0_2 a0_3 t110 t111 t112 t113 = some r) ∧ Aside0 (kq ≤ k) ∧ Aside0 (wc.heap[gb109]? = some (.cells #[.int .i64 a0_0, .int .i64 a0_1, .int .i64 a0_2, .int .u32 a0_3] 45 (0, 0))) ∧ Aside0 (wc.heap[gb115]? = some (.cells #[.int .i64 t110, .string t111, .bool t112, .bool t113] 63 (0, 0))) ∧ Aside0 (Below w.heap.size w wc))
 case first =>
  have H := HC3.out
  clear HC3
  by_cases c10 : t114 = true
  ·subst c10
   rw [if_pos rfl] at H
   by_cases c11 : t112 = true
   ·subst c11
    rw [if_pos rfl] at H
    have H' := Aside0.mk H
    clear H
    have hnb12 := NB115_109.out
    have hnc12 := NB109_115.out
    have hcz13_0 : w7.cell? ⟨gb115, 0, none⟩ = some (.int .i64 0) := (kC BK115.out 0).trans rfl
    have hcz13_1 : w7.cell? ⟨gb115, 1, none⟩ = some (.string (⟨#[]⟩ : ByteArray)) := (kC BK115.out 1).trans rfl
    have hcz13_2 : w7.cell? ⟨gb115, 2, none⟩ = some (.bool false) := (kC BK115.out 2).trans rfl
    have hcz13_3 : w7.cell? ⟨gb115, 3, none⟩ = some (.bool false) := (kC BK115.out 3).trans rfl
    have hfz13_0 := kF BK115.out 0
    have hfz13_1 := kF BK115.out 1
    have hfz13_2 := kF BK115.out 2
    have hfz13_3 := kF BK115.out 3
    go_wp2
    go_meet
    case rel => exact ⟨_, (false), jS, H', ⟨jO⟩, ⟨by (with_reducible repeat (first | refine kN ?_ _ | refine kD ?_ | refine kA ?_ _)); refine kR ?_ NB109_115.out _; (with_reducible repeat (first | refine kN ?_ _ | refine kD ?_ | refine kA ?_ _)); refine kR ?_ NB109_115.out _; (with_reducible repeat (first | refine kN ?_ _ | refine kD ?_ | refine kA ?_ _)); refine kR ?_ NB109_115.out _; (with_reducible repeat (first | refine kN ?_ _ | refine kD ?_ | refine kA ?_ _)); refine kR ?_ NB109_115.out _; (with_reducible repeat (first | refine kN ?_ _ | refine kD ?_ | refine kA ?_ _)); exact BK109.out⟩, ⟨by (with_reducible repeat (first | refine kN ?_ _ | refine kD ?_ | refine kA ?_ _)); refine kP (cs := #[.int .i64 t110, .string t111, .bool true, .bool false]) ?_ 3 _ rfl; (with_reducible repeat (first | refine kN ?_ _ | refine kD ?_ | refine kA ?_ _)); refine kP (cs := #[.int .i64 t110, .string t111, .bool false, .bool false]) ?_ 2 _ rfl; (with_reducible repeat (first | refine kN ?_ _ | refine kD ?_ | refine kA ?_ _)); refine kP (cs := #[.int .i64 t110, .string (⟨#[]⟩ : ByteArray), .bool false, .bool false]) ?_ 1 _ rfl; (with_reducible repeat (first | refine kN ?_ _ | refine kD ?_ | refine kA ?_ _)); refine kP (cs := #[.int .i64 0, .string (⟨#[]⟩ : ByteArray), .bool false, .bool false]) ?_ 0 _ rfl; (with_reducible repeat (first | refine kN ?_ _ | refine kD ?_ | refine kA ?_ _)); exact BK115.out⟩, ⟨jH HB⟩⟩
   ·replace c11 := Bool.eq_false_iff.mpr c11
    subst c11
    rw [if_neg (show ¬ (false = true) by decide)] at H
    have H' := Aside0.mk H
    clear H
    have hnb14 := NB115_109.out
    have hnc14 := NB109_115.out
    have hcz15_0 : w7.cell? ⟨gb115, 0, none⟩ = some (.int .i64 0) := (kC BK115.out 0).trans rfl
    have hcz15_1 : w7.cell? ⟨gb115, 1, none⟩ = some (.string (⟨#[]⟩ : ByteArray)) := (kC BK115.out 1).trans rfl
    have hcz15_2 : w7.cell? ⟨gb115, 2, none⟩ = some (.bool false) := (kC BK115.out 2).trans rfl
    have hcz15_3 : w7.cell? ⟨gb115, 3, none⟩ = some (.bool false) := (kC BK115.out 3).trans rfl
    have hfz15_0 := kF BK115.out 0
    have hfz15_1 := kF BK115.out 1
    have hfz15_2 := kF BK115.out 2
    have hfz15_3 := kF BK115.out 3
    have hcz16_0 : w7.cell? ⟨gb109, 0, none⟩ = some (.int .i64 a0_0) := (kC BK109.out 0).trans rfl
    have hcz16_1 : w7.cell? ⟨gb109, 1, none⟩ = some (.int .i64 a0_1) := (kC BK109.out 1).trans rfl
    have hcz16_2 : w7.cell? ⟨gb109, 2, none⟩ = some (.int .i64 a0_2) := (kC BK109.out 2).trans rfl
    have hcz16_3 : w7.cell? ⟨gb109, 3, none⟩ = some (.int .u32 a0_3) := (kC BK109.out 3).trans rfl
    have hfz16_0 := kF BK109.out 0
    have hfz16_1 := kF BK109.out 1
    have hfz16_2 := kF BK109.out 2
    have hfz16_3 := kF BK109.out 3
    go_wp2
    go_meet
    case rel => exact ⟨_, ((a0_3 != 0)), jS, H', ⟨jO⟩, ⟨by (with_reducible repeat (first | refine kN ?_ _ | refine kD ?_ | refine kA ?_ _)); refine kR ?_ NB109_115.out _; (with_reducible repeat (first | refine kN ?_ _ | refine kD ?_ | refine kA ?_ _)); refine kR ?_ NB109_115.out _; (with_reducible repeat (first | refine kN ?_ _ | refine kD ?_ | refine kA ?_ _)); refine kR ?_ NB109_115.out _; (with_reducible repeat (first | refine kN ?_ _ | refine kD ?_ | refine kA ?_ _)); refine kR ?_ NB109_115.out _; (with_reducible repeat (first | refine kN ?_ _ | refine kD ?_ | refine kA ?_ _)); exact BK109.out⟩, ⟨by (with_reducible repeat (first | refine kN ?_ _ | refine kD ?_ | refine kA ?_ _)); refine kP (cs := #[.int .i64 t110, .string t111, .bool false, .bool false]) ?_ 3 _ rfl; (with_reducible repeat (first | refine kN ?_ _ | refine kD ?_ | refine kA ?_ _)); refine kP (cs := #[.int .i64 t110, .string t111, .bool false, .bool false]) ?_ 2 _ rfl; (with_reducible repeat (first | refine kN ?_ _ | refine kD ?_ | refine kA ?_ _)); refine kP (cs := #[.int .i64 t110, .string (⟨#[]⟩ : ByteArray), .bool false, .bool false]) ?_ 1 _ rfl; (with_reducible repeat (first | refine kN ?_ _ | refine kD ?_ | refine kA ?_ _)); refine kP (cs := #[.int .i64 0, .string (⟨#[]⟩ : ByteArray), .bool false, .bool false]) ?_ 0 _ rfl; (with_reducible repeat (first | refine kN ?_ _ | refine kD ?_ | refine kA ?_ _)); exact BK115.out⟩, ⟨jH HB⟩⟩
  ·replace c10 := Bool.eq_false_iff.mpr c10
   subst c10
   rw [if_neg (show ¬ (false = true) by decide)] at H
   have H' := Aside0.mk H
   clear H
   go_wp2
   go_meet
   case rel => exact ⟨_, (true), jS, H', ⟨jO⟩, ⟨by (with_reducible repeat (first | refine kN ?_ _ | refine kD ?_ | refine kA ?_ _)); refine kR ?_ NB109_115.out _; (with_reducible repeat (first | refine kN ?_ _ | refine kD ?_ | refine kA ?_ _)); refine kR ?_ NB109_115.out _; (with_reducible repeat (first | refine kN ?_ _ | refine kD ?_ | refine kA ?_ _)); refine kR ?_ NB109_115.out _; (with_reducible repeat (first | refine kN ?_ _ | refine kD ?_ | refine kA ?_ _)); refine kR ?_ NB109_115.out _; (with_reducible repeat (first | refine kN ?_ _ | refine kD ?_ | refine kA ?_ _)); exact BK109.out⟩, ⟨by (with_reducible repeat (first | refine kN ?_ _ | refine kD ?_ | refine kA ?_ _)); refine kP (cs := #[.int .i64 t110, .string t111, .bool t112, .bool false]) ?_ 3 _ rfl; (with_reducible repeat (first | refine kN ?_ _ | refine kD ?_ | refine kA ?_ _)); refine kP (cs := #[.int .i64 t110, .string t111, .bool false, .bool false]) ?_ 2 _ rfl; (with_reducible repeat (first | refine kN ?_ _ | refine kD ?_ | refine kA ?_ _)); refine kP (cs := #[.int .i64 t110, .string (⟨#[]⟩ : ByteArray), .bool false, .bool false]) ?_ 1 _ rfl; (with_reducible repeat (first | refine kN ?_ _ | refine kD ?_ | refine kA ?_ _)); refine kP (cs := #[.int .i64 0, .string (⟨#[]⟩ : ByteArray), .bool false, .bool false]) ?_ 0 _ rfl; (with_reducible repeat (first | refine kN ?_ _ | refine kD ?_ | refine kA ?_ _)); exact BK115.out⟩, ⟨jH HB⟩⟩
 case rest =>
  clear HC3
  obtain ⟨kq, x22_2, rfl, HA, HJ2, BK109, BK115, HB⟩ := hcut
  cases kq with
  | zero => exact absurd HA.out (by simp [ins_Right.j0])
  | succ kj2 =>
   have H := HA.out
   clear HA
   simp only [ins_Right.j0] at H
   by_cases c17 : x22_2 = true
   ·subst c17
    rw [if_pos rfl] at H
    obtain rfl := Option.some.inj H
    go_wp2
    go_ret
    exact ⟨jE, jH HB⟩
   ·replace c17 := Bool.eq_false_iff.mpr c17
    subst c17
    rw [if_neg (show ¬ (false = true) by decide)] at H
    by_cases c18 : t113 = true
    ·subst c18
     rw [if_pos rfl] at H
     by_cases c19 : a0_1 ≥ 0
     ·rw [if_pos c19] at H
      have c19b0 : decide (0 ≤ a0_1) = true := dT c19
      clear c19
      by_cases c20 : a0_1 ≤ 255
      ·rw [if_pos c20] at H
       have c20b0 : decide (a0_1 ≤ 255) = true := dT c20
       clear c20
       by_cases c21 : a0_2 ≥ 0
       ·rw [if_pos c21] at H
        have c21b0 : decide (0 ≤ a0_2) = true := dT c21
        clear c21
        obtain rfl := Option.some.inj H
        have hnb22 := NB115_109.out
        have hnc22 := NB109_115.out
        have hcz23_0 : wc.cell? ⟨gb115, 0, none⟩ = some (.int .i64 t110) := (kC BK115.out 0).trans rfl
        have hcz23_1 : wc.cell? ⟨gb115, 1, none⟩ = some (.string t111) := (kC BK115.out 1).trans rfl
        have hcz23_2 : wc.cell? ⟨gb115, 2, none⟩ = some (.bool t112) := (kC BK115.out 2).trans rfl
        have hcz23_3 : wc.cell? ⟨gb115, 3, none⟩ = some (.bool true) := (kC BK115.out 3).trans rfl
        have hfz23_0 := kF BK115.out 0
        have hfz23_1 := kF BK115.out 1
        have hfz23_2 := kF BK115.out 2
        have hfz23_3 := kF BK115.out 3
        have hcz24_0 : wc.cell? ⟨gb109, 0, none⟩ = some (.int .i64 a0_0) := (kC BK109.out 0).trans rfl
        have hcz24_1 : wc.cell? ⟨gb109, 1, none⟩ = some (.int .i64 a0_1) := (kC BK109.out 1).trans rfl
        have hcz24_2 : wc.cell? ⟨gb109, 2, none⟩ = some (.int .i64 a0_2) := (kC BK109.out 2).trans rfl
        have hcz24_3 : wc.cell? ⟨gb109, 3, none⟩ = some (.int .u32 a0_3) := (kC BK109.out 3).trans rfl
        have hfz24_0 := kF BK109.out 0
        have hfz24_1 := kF BK109.out 1
        have hfz24_2 := kF BK109.out 2
        have hfz24_3 := kF BK109.out 3
        go_wp2
        go_ret
        exact ⟨jE, jH HB⟩
       ·rw [if_neg c21] at H
        have c21b0 : decide (0 ≤ a0_2) = false := dF c21
        clear c21
        obtain rfl := Option.some.inj H
        have hnb25 := NB115_109.out
        have hnc25 := NB109_115.out
        have hcz26_0 : wc.cell? ⟨gb115, 0, none⟩ = some (.int .i64 t110) := (kC BK115.out 0).trans rfl
        have hcz26_1 : wc.cell? ⟨gb115, 1, none⟩ = some (.string t111) := (kC BK115.out 1).trans rfl
        have hcz26_2 : wc.cell? ⟨gb115, 2, none⟩ = some (.bool t112) := (kC BK115.out 2).trans rfl
        have hcz26_3 : wc.cell? ⟨gb115, 3, none⟩ = some (.bool true) := (kC BK115.out 3).trans rfl
        have hfz26_0 := kF BK115.out 0
        have hfz26_1 := kF BK115.out 1
        have hfz26_2 := kF BK115.out 2
        have hfz26_3 := kF BK115.out 3
        have hcz27_0 : wc.cell? ⟨gb109, 0, none⟩ = some (.int .i64 a0_0) := (kC BK109.out 0).trans rfl
        have hcz27_1 : wc.cell? ⟨gb109, 1, none⟩ = some (.int .i64 a0_1) := (kC BK109.out 1).trans rfl
        have hcz27_2 : wc.cell? ⟨gb109, 2, none⟩ = some (.int .i64 a0_2) := (kC BK109.out 2).trans rfl
        have hcz27_3 : wc.cell? ⟨gb109, 3, none⟩ = some (.int .u32 a0_3) := (kC BK109.out 3).trans rfl
        have hfz27_0 := kF BK109.out 0
        have hfz27_1 := kF BK109.out 1
        have hfz27_2 := kF BK109.out 2
        have hfz27_3 := kF BK109.out 3
        go_wp2
        go_ret
        exact ⟨jE, jH HB⟩
      ·rw [if_neg c20] at H
       have c20b0 : decide (a0_1 ≤ 255) = false := dF c20
       clear c20
       obtain rfl := Option.some.inj H
       have hnb28 := NB115_109.out
       have hnc28 := NB109_115.out
       have hcz29_0 : wc.cell? ⟨gb115, 0, none⟩ = some (.int .i64 t110) := (kC BK115.out 0).trans rfl
       have hcz29_1 : wc.cell? ⟨gb115, 1, none⟩ = some (.string t111) := (kC BK115.out 1).trans rfl
       have hcz29_2 : wc.cell? ⟨gb115, 2, none⟩ = some (.bool t112) := (kC BK115.out 2).trans rfl
       have hcz29_3 : wc.cell? ⟨gb115, 3, none⟩ = some (.bool true) := (kC BK115.out 3).trans rfl
       have hfz29_0 := kF BK115.out 0
       have hfz29_1 := kF BK115.out 1
       have hfz29_2 := kF BK115.out 2
       have hfz29_3 := kF BK115.out 3
       have hcz30_0 : wc.cell? ⟨gb109, 0, none⟩ = some (.int .i64 a0_0) := (kC BK109.out 0).trans rfl
       have hcz30_1 : wc.cell? ⟨gb109, 1, none⟩ = some (.int .i64 a0_1) := (kC BK109.out 1).trans rfl
       have hcz30_2 : wc.cell? ⟨gb109, 2, none⟩ = some (.int .i64 a0_2) := (kC BK109.out 2).trans rfl
       have hcz30_3 : wc.cell? ⟨gb109, 3, none⟩ = some (.int .u32 a0_3) := (kC BK109.out 3).trans rfl
       have hfz30_0 := kF BK109.out 0
       have hfz30_1 := kF BK109.out 1
       have hfz30_2 := kF BK109.out 2
       have hfz30_3 := kF BK109.out 3
       go_wp2
       go_ret
       exact ⟨jE, jH HB⟩
     ·rw [if_neg c19] at H
      have c19b0 : decide (0 ≤ a0_1) = false := dF c19
      clear c19
      obtain rfl := Option.some.inj H
      have hnb31 := NB115_109.out
      have hnc31 := NB109_115.out
      have hcz32_0 : wc.cell? ⟨gb115, 0, none⟩ = some (.int .i64 t110) := (kC BK115.out 0).trans rfl
      have hcz32_1 : wc.cell? ⟨gb115, 1, none⟩ = some (.string t111) := (kC BK115.out 1).trans rfl
      have hcz32_2 : wc.cell? ⟨gb115, 2, none⟩ = some (.bool t112) := (kC BK115.out 2).trans rfl
      have hcz32_3 : wc.cell? ⟨gb115, 3, none⟩ = some (.bool true) := (kC BK115.out 3).trans rfl
      have hfz32_0 := kF BK115.out 0
      have hfz32_1 := kF BK115.out 1
      have hfz32_2 := kF BK115.out 2
      have hfz32_3 := kF BK115.out 3
      have hcz33_0 : wc.cell? ⟨gb109, 0, none⟩ = some (.int .i64 a0_0) := (kC BK109.out 0).trans rfl
      have hcz33_1 : wc.cell? ⟨gb109, 1, none⟩ = some (.int .i64 a0_1) := (kC BK109.out 1).trans rfl
      have hcz33_2 : wc.cell? ⟨gb109, 2, none⟩ = some (.int .i64 a0_2) := (kC BK109.out 2).trans rfl
      have hcz33_3 : wc.cell? ⟨gb109, 3, none⟩ = some (.int .u32 a0_3) := (kC BK109.out 3).trans rfl
      have hfz33_0 := kF BK109.out 0
      have hfz33_1 := kF BK109.out 1
      have hfz33_2 := kF BK109.out 2
      have hfz33_3 := kF BK109.out 3
      go_wp2
      go_ret
      exact ⟨jE, jH HB⟩
    ·replace c18 := Bool.eq_false_iff.mpr c18
     subst c18
     rw [if_neg (show ¬ (false = true) by decide)] at H
     by_cases c34 : a0_1 = 0
     ·rw [if_pos c34] at H
      have c34b0 : (a0_1 == 0) = true := bI.mpr c34
      have c34b1 : (a0_1 != 0) = false := nF.mpr c34
      clear c34
      obtain rfl := Option.some.inj H
      have hnb35 := NB115_109.out
      have hnc35 := NB109_115.out
      have hcz36_0 : wc.cell? ⟨gb115, 0, none⟩ = some (.int .i64 t110) := (kC BK115.out 0).trans rfl
      have hcz36_1 : wc.cell? ⟨gb115, 1, none⟩ = some (.string t111) := (kC BK115.out 1).trans rfl
      have hcz36_2 : wc.cell? ⟨gb115, 2, none⟩ = some (.bool t112) := (kC BK115.out 2).trans rfl
      have hcz36_3 : wc.cell? ⟨gb115, 3, none⟩ = some (.bool false) := (kC BK115.out 3).trans rfl
      have hfz36_0 := kF BK115.out 0
      have hfz36_1 := kF BK115.out 1
      have hfz36_2 := kF BK115.out 2
      have hfz36_3 := kF BK115.out 3
      have hcz37_0 : wc.cell? ⟨gb109, 0, none⟩ = some (.int .i64 a0_0) := (kC BK109.out 0).trans rfl
      have hcz37_1 : wc.cell? ⟨gb109, 1, none⟩ = some (.int .i64 a0_1) := (kC BK109.out 1).trans rfl
      have hcz37_2 : wc.cell? ⟨gb109, 2, none⟩ = some (.int .i64 a0_2) := (kC BK109.out 2).trans rfl
      have hcz37_3 : wc.cell? ⟨gb109, 3, none⟩ = some (.int .u32 a0_3) := (kC BK109.out 3).trans rfl
      have hfz37_0 := kF BK109.out 0
      have hfz37_1 := kF BK109.out 1
      have hfz37_2 := kF BK109.out 2
      have hfz37_3 := kF BK109.out 3
      go_wp2
      go_ret
      exact ⟨jE, jH HB⟩
     ·rw [if_neg c34] at H
      have c34b0 : (a0_1 == 0) = false := bF.mpr c34
      have c34b1 : (a0_1 != 0) = true := nI.mpr c34
      obtain rfl := Option.some.inj H
      have hnb38 := NB115_109.out
      have hnc38 := NB109_115.out
      have hcz39_0 : wc.cell? ⟨gb115, 0, none⟩ = some (.int .i64 t110) := (kC BK115.out 0).trans rfl
      have hcz39_1 : wc.cell? ⟨gb115, 1, none⟩ = some (.string t111) := (kC BK115.out 1).trans rfl
      have hcz39_2 : wc.cell? ⟨gb115, 2, none⟩ = some (.bool t112) := (kC BK115.out 2).trans rfl
      have hcz39_3 : wc.cell? ⟨gb115, 3, none⟩ = some (.bool false) := (kC BK115.out 3).trans rfl
      have hfz39_0 := kF BK115.out 0
      have hfz39_1 := kF BK115.out 1
      have hfz39_2 := kF BK115.out 2
      have hfz39_3 := kF BK115.out 3
      have hcz40_0 : wc.cell? ⟨gb109, 0, none⟩ = some (.int .i64 a0_0) := (kC BK109.out 0).trans rfl
      have hcz40_1 : wc.cell? ⟨gb109, 1, none⟩ = some (.int .i64 a0_1) := (kC BK109.out 1).trans rfl
      have hcz40_2 : wc.cell? ⟨gb109, 2, none⟩ = some (.int .i64 a0_2) := (kC BK109.out 2).trans rfl
      have hcz40_3 : wc.cell? ⟨gb109, 3, none⟩ = some (.int .u32 a0_3) := (kC BK109.out 3).trans rfl
      have hfz40_0 := kF BK109.out 0
      have hfz40_1 := kF BK109.out 1
      have hfz40_2 := kF BK109.out 2
      have hfz40_3 := kF BK109.out 3
      go_wp2
      go_ret
      exact ⟨jE, jH HB⟩
end Go.Proofs.YtohpbjnihmcelaaDoor.M
