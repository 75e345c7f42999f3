/- What Go functions compute; their calls come to it. No condition. -/
import Derived.Test.YtahacmdhhfmhiaaDoorM0
import Derived.Test.YtahacmdhhfmhiaaDoorM8
import Derived.Test.YtahacmdhhfmhiaaDoorM7
namespace Go.Proofs.YtahacmdhhfmhiaaDoor.M
open Go.RowKit Go.Proofs.YtahacmdhhfmhiaaDoorW.PrintWords Go.Proofs.YtahacmdhhfmhiaaDoorW.PrintLast Go.Proofs.YtahacmdhhfmhiaaDoorW.PrintMore
attribute [local go_sem] max2_int min2_int max_two min_two max_three min_three max_four min_four   -- for this text's walks alone
set_option linter.unusedVariables false
set_option linter.unusedSimpArgs false
def check_Sound.f (k : Nat) (l0 : List (S59)) : Option (Bool) := (check_Check.f k l0).bind fun bt163 => (some (bt163.2 == 0))
theorem check_Sound.mono : ∀ a0 k, LeO (check_Sound.f k a0) (check_Sound.f (k + 1) a0) := by
 intro a0 k
 unfold check_Sound.f
 repeat' first
   | (with_reducible apply check_Check.mono)
   | (with_reducible exact LeO.refl _)
   | (with_reducible exact LeO.none _)
   | (with_reducible refine LeO.ite ?_ ?_)
   | (with_reducible refine LeO.bind ?_ (fun _ => ?_))
   | apply check_Check.mono
   | exact LeO.none _
   | refine LeO.ite ?_ ?_
   | refine LeO.bind ?_ (fun _ => ?_)
set_option maxHeartbeats 8000000 in
set_option maxRecDepth 100000 in
theorem check_Sound.calls (k : Nat) (A0 : Option Addr) (c0 : Nat) (l0 : List (S59)) (r : Bool) (w : World) (hr0 : Kd.C k59 w A0 l0.length l0) (hc0 : l0.length ≤ c0) (hG : Glob w) (h : check_Sound.f k l0 = some r) :
  Calls Tryd.prog 55 #[.slice A0 l0.length c0] w fun e w' => e = .returned (.bool r) ∧ Below w.heap.size w w' := by
 have HG := Aside0.mk hG
 clear hG
 have HR0 := Aside0.mk hr0
 have HC0 := Aside0.mk hc0
 clear hr0 hc0
 have HB := Aside0.mk (Below.refl w.heap.size w)
 have H : ((check_Check.f k l0).bind fun bt163 => (some (bt163.2 == 0))) = some r := h
 clear h
 replace H := Option.bind_eq_some_iff.mp H
 obtain ⟨⟨t163, t164⟩, A20, H⟩ := H
 try dsimp only at H
 have A2 := Aside0.mk A20
 clear A20
 obtain rfl := Option.some.inj H
 go_enter Tryd.func55, Tryd.ntmps55
 go_wp2_with (first | ((with_reducible refine gate_callee (f := 64) rfl ?_); refine goesL_ (some 7) rfl rfl Tryd.func64 (by kernel_rfl) rfl #[.slice A0 l0.length c0] rfl jZ ?_; (with_reducible refine (check_Check.calls k _ _ l0 t163 t164 _ ?side1 ?side2 ?side3 A2.out).mono ?_); (case side1 => repeat (first | exact HR0.out | (with_reducible refine Kd.C_alloc ?_ _) | (with_reducible refine Kd.C_drewN ?_ _) | (with_reducible refine Kd.C_drew ?_))); (case side2 => exact HC0.out); (case side3 => exact Glob.below HG.out (jH HB)); rintro e w3 ⟨rfl, hb⟩; refine ⟨_, rfl, ?_⟩; replace HB := Aside0.mk (zT (jH HB) hb); (try clear hb); (try clear hb2); (try clear hk); (try clear hi)))
 go_ret
 exact ⟨jE, jH HB⟩
end Go.Proofs.YtahacmdhhfmhiaaDoor.M

/- By a program of this session: what Go functions of the seat compute, as Lean functions, each with a proof that the call of the Go function comes to that. -/
namespace Go.Proofs.YtahacmdhhfmhiaaDoor.M
open Go.RowKit Go.Proofs.YtahacmdhhfmhiaaDoorW.PrintWords Go.Proofs.YtahacmdhhfmhiaaDoorW.PrintLast Go.Proofs.YtahacmdhhfmhiaaDoorW.PrintMore
attribute [local go_sem] max2_int min2_int max_two min_two max_three min_three max_four min_four   -- for this text's walks alone
set_option linter.unusedVariables false
set_option linter.unusedSimpArgs false
def window_Right.l0 : Nat → List (S59) → List (S59) → Int → Int → Option (Bool)
 | 0, _, _, _, _ => none
 | k + 1, x0, x8, x9, x10 => if x10 < x9 then (if 0 ≤ x10 then (if x10 < (x8.length : Int) then (if ((rd_T59 x8 x10).f0) = 5 then (some false) else ((ins_Branch.f ((rd_T59 x8 x10).f0) ((rd_T59 x8 x10).f1) ((rd_T59 x8 x10).f2) ((rd_T59 x8 x10).f3)).bind fun t177 => (if t177 = true then (some false) else ((ins_Ends.f ((rd_T59 x8 x10).f0) ((rd_T59 x8 x10).f1) ((rd_T59 x8 x10).f2) ((rd_T59 x8 x10).f3)).bind fun t178 => (if t178 = true then (some false) else (window_Right.l0 k x0 x8 x9 (wrap64 (x10 + 1)))))))) else (none)) else (none)) else ((some (([] : List (S59)) : List (S59))).bind fun y165 => (if y165.length + x0.length < 4398046511104 then ((some (y165 ++ x0 : List (S59))).bind fun y168 => (if y168.length < 4398046511104 then ((check_Sound.f k (y168 ++ [(⟨22, 0, 0, 0⟩ : S59)])).bind fun t174 => (some t174)) else (none))) else (none)))
def window_Right.f (k : Nat) (l0 : List (S59)) : Option (Bool) := if (l0.length : Int) > 32 then (some false) else (window_Right.l0 k l0 l0 (l0.length : Int) 0)
theorem window_Right.mono_l : ∀ k, (∀ y0 y1 y2 y3, LeO (window_Right.l0 k y0 y1 y2 y3) (window_Right.l0 (k + 1) y0 y1 y2 y3))
 | 0 => fun _ _ _ _ r h => by simp [window_Right.l0] at h
 | k + 1 => by
  have ih0 := window_Right.mono_l k
  ·intro y0 y1 y2 y3
   unfold window_Right.l0
   repeat' first
   | (with_reducible exact ih0 _ _ _ _)
   | (with_reducible exact check_Sound.mono _ _)
   | (with_reducible exact LeO.refl _)
   | (with_reducible exact LeO.none _)
   | (with_reducible refine LeO.ite ?_ ?_)
   | (with_reducible refine LeO.bind ?_ (fun _ => ?_))
   | exact ih0 _ _ _ _
   | exact check_Sound.mono _ _
   | exact LeO.none _
   | refine LeO.ite ?_ ?_
   | refine LeO.bind ?_ (fun _ => ?_)
theorem window_Right.mono : ∀ a0 k, LeO (window_Right.f k a0) (window_Right.f (k + 1) a0) := by
 intro a0 k
 have ih0 := window_Right.mono_l k
 unfold window_Right.f
 repeat' first
   | (with_reducible exact ih0 _ _ _ _)
   | (with_reducible exact check_Sound.mono _ _)
   | (with_reducible exact LeO.refl _)
   | (with_reducible exact LeO.none _)
   | (with_reducible refine LeO.ite ?_ ?_)
   | (with_reducible refine LeO.bind ?_ (fun _ => ?_))
   | exact ih0 _ _ _ _
   | exact check_Sound.mono _ _
   | exact LeO.none _
   | refine LeO.ite ?_ ?_
   | refine LeO.bind ?_ (fun _ => ?_)
set_option maxHeartbeats 8000000 in
set_option maxRecDepth 100000 in
theorem window_Right.calls (k : Nat) (A0 : Option Addr) (c0 : Nat) (l0 : List (S59)) (r : Bool) (w : World) (hr0 : Kd.C k59 w A0 l0.length l0) (hc0 : l0.length ≤ c0) (hG : Glob w) (h : window_Right.f k l0 = some r) :
  Calls Tryd.prog 44 #[.slice A0 l0.length c0] w fun e w' => e = .returned (.bool r) ∧ Below w.heap.size w w' := by
 have hu59 := Tryd.underlying59
 have HG := Aside0.mk hG
 clear hG
 have HR0 := Aside0.mk hr0
 have HC0 := Aside0.mk hc0
 clear hr0 hc0
 have HB := Aside0.mk (Below.refl w.heap.size w)
 have H : (if (l0.length : Int) > 32 then (some false) else (window_Right.l0 k l0 l0 (l0.length : Int) 0)) = some r := h
 clear h
 by_cases c2 : (l0.length : Int) > 32
 ·rw [if_pos c2] at H
  have c2b0 : decide (32 < (l0.length : Int)) = true := dT c2
  have c2b1 : decide (32 < l0.length) = true := dT (by omega)
  clear c2
  obtain rfl := Option.some.inj H
  go_enter Tryd.func44, Tryd.ntmps44
  go_wp2
  go_ret
  exact ⟨jE, jH HB⟩
 ·rw [if_neg c2] at H
  have c2b0 : decide (32 < (l0.length : Int)) = false := dF c2
  have c2b1 : decide (32 < l0.length) = false := dF (by omega)
  clear c2
  have H' := Aside0.mk H
  clear H
  go_enter Tryd.func44, Tryd.ntmps44
  go_wp2
  go_loopg [10] k (fun kq v10 w' => ∃ (x10_1 : Int), v10 = .int .i64 x10_1 ∧ Aside0 (window_Right.l0 kq l0 l0 (l0.length : Int) x10_1 = some r) ∧ Aside0 (kq ≤ k) ∧ Aside0 (Below w.heap.size w w'))
  case atStart => exact ⟨(0), jS, H', ⟨Nat.le_refl _⟩, ⟨jH HB⟩⟩
  case round =>
   clear H'
   obtain ⟨x10_1, rfl, HA, HK1, HB⟩ := hrel
   cases gk with
   | zero => exact absurd HA.out (by simp [window_Right.l0])
   | succ k1 =>
    have H := HA.out
    clear HA
    simp only [window_Right.l0] at H
    by_cases c3 : x10_1 < (l0.length : Int)
    ·rw [if_pos c3] at H
     have c3b0 : decide (x10_1 < (l0.length : Int)) = true := dT c3
     clear c3
     by_cases c4 : 0 ≤ x10_1
     ·rw [if_pos c4] at H
      have c4b0 : decide (0 ≤ x10_1) = true := dT c4
      clear c4
      by_cases c5 : x10_1 < (l0.length : Int)
      ·rw [if_pos c5] at H
       have c5b0 : decide (x10_1 < (l0.length : Int)) = true := dT c5
       clear c5
       by_cases c6 : ((rd_T59 l0 x10_1).f0) = 5
       ·rw [if_pos c6] at H
        have c6b0 : (((rd_T59 l0 x10_1).f0) == 5) = true := bI.mpr c6
        have c6b1 : (((rd_T59 l0 x10_1).f0) != 5) = false := nF.mpr c6
        clear c6
        obtain rfl := Option.some.inj H
        have p175 : 0 ≤ (x10_1 : Int) := oD (jA)
        have q175 : x10_1 < (l0.length : Int) := oD (jA)
        obtain ⟨ad175, e175, hx175_0, hx175_1, hx175_2, hx175_3⟩ := at_T59 HR0.out x10_1 p175 q175
        cases e175
        replace hx175_0 := (HB.out.cell (bL w _ hx175_0)).trans hx175_0
        replace hx175_1 := (HB.out.cell (bL w _ hx175_1)).trans hx175_1
        replace hx175_2 := (HB.out.cell (bL w _ hx175_2)).trans hx175_2
        replace hx175_3 := (HB.out.cell (bL w _ hx175_3)).trans hx175_3
        replace p175 := eq_true p175
        replace q175 := eq_true q175
        go_wp2_with (first | ((with_reducible refine gate_dst (N := 4) rfl ?_); refine box_event ?hg (N := 4) ?hd (cs := #[.int .i64 0, .int .i64 0, .int .i64 0, .int .u32 0]) (t := 59) ?hr ?_; (case hd => rfl); (case hg => rfl); (case hr => first | (go_simp; done) | (go_simp; rfl)); intro gb176 hg w7 hbox hb; have n0_ := Aside0.mk (zT (jH HB) hb); have n1_ := Aside0.mk (hbox); have n2_ := Aside0.mk ((by rw [hg]; exact (zZ (jH HB)) : w.heap.size ≤ gb176)); have n3_ := Aside0.mk ((by rw [hg]; exact (zZ (jH HB)) : w.heap.size ≤ gb176)); clear HB; have HB := n0_; have BK176 := n1_; have GW176 := n2_; have GE176 := n3_; clear n0_ n1_ n2_ n3_; clear hb hbox hg; obtain ⟨hcz8_0, hcz8_1, hcz8_2, hcz8_3, hfz8_0, hfz8_1, hfz8_2, hfz8_3⟩ := kQ4 BK176.out))
        go_ret
        exact ⟨jE, jH HB⟩
       ·rw [if_neg c6] at H
        have c6b0 : (((rd_T59 l0 x10_1).f0) == 5) = false := bF.mpr c6
        have c6b1 : (((rd_T59 l0 x10_1).f0) != 5) = true := nI.mpr c6
        replace H := Option.bind_eq_some_iff.mp H
        obtain ⟨t177, A90, H⟩ := H
        replace H : (if t177 = true then (some false) else ((ins_Ends.f ((rd_T59 l0 x10_1).f0) ((rd_T59 l0 x10_1).f1) ((rd_T59 l0 x10_1).f2) ((rd_T59 l0 x10_1).f3)).bind fun t178 => (if t178 = true then (some false) else (window_Right.l0 k1 l0 l0 (l0.length : Int) (wrap64 (x10_1 + 1)))))) = some r := H
        have A9 := Aside0.mk A90
        clear A90
        by_cases c10 : t177 = true
        ·subst c10
         rw [if_pos rfl] at H
         obtain rfl := Option.some.inj H
         have p175 : 0 ≤ (x10_1 : Int) := oD (jA)
         have q175 : x10_1 < (l0.length : Int) := oD (jA)
         obtain ⟨ad175, e175, hx175_0, hx175_1, hx175_2, hx175_3⟩ := at_T59 HR0.out x10_1 p175 q175
         cases e175
         replace hx175_0 := (HB.out.cell (bL w _ hx175_0)).trans hx175_0
         replace hx175_1 := (HB.out.cell (bL w _ hx175_1)).trans hx175_1
         replace hx175_2 := (HB.out.cell (bL w _ hx175_2)).trans hx175_2
         replace hx175_3 := (HB.out.cell (bL w _ hx175_3)).trans hx175_3
         replace p175 := eq_true p175
         replace q175 := eq_true q175
         go_wp2_with (first | ((with_reducible refine gate_dst (N := 4) rfl ?_); refine box_event ?hg (N := 4) ?hd (cs := #[.int .i64 0, .int .i64 0, .int .i64 0, .int .u32 0]) (t := 59) ?hr ?_; (case hd => rfl); (case hg => rfl); (case hr => first | (go_simp; done) | (go_simp; rfl)); intro gb176 hg w11 hbox hb; have n0_ := Aside0.mk (zT (jH HB) hb); have n1_ := Aside0.mk (hbox); have n2_ := Aside0.mk ((by rw [hg]; exact (zZ (jH HB)) : w.heap.size ≤ gb176)); have n3_ := Aside0.mk ((by rw [hg]; exact (zZ (jH HB)) : w.heap.size ≤ gb176)); clear HB; have HB := n0_; have BK176 := n1_; have GW176 := n2_; have GE176 := n3_; clear n0_ n1_ n2_ n3_; clear hb hbox hg; obtain ⟨hcz12_0, hcz12_1, hcz12_2, hcz12_3, hfz12_0, hfz12_1, hfz12_2, hfz12_3⟩ := kQ4 BK176.out) | (go_at_call 53; (with_reducible refine (ins_Branch.calls ((rd_T59 l0 x10_1).f0) ((rd_T59 l0 x10_1).f1) ((rd_T59 l0 x10_1).f2) ((rd_T59 l0 x10_1).f3) true _ ?side1 A9.out).mono ?_); (case side1 => exact Glob.below HG.out (jH HB)); rintro e w13 ⟨rfl, hb⟩; have n0_ := Aside0.mk (kB (g := gb176) (o := .cells #[.int .i64 ((rd_T59 l0 x10_1).f0), .int .i64 ((rd_T59 l0 x10_1).f1), .int .i64 ((rd_T59 l0 x10_1).f2), .int .u32 ((rd_T59 l0 x10_1).f3)] 59 (0, 0)) (by (with_reducible repeat (first | refine kN ?_ _ | refine kD ?_ | refine kA ?_ _)); refine kP (cs := #[.int .i64 ((rd_T59 l0 x10_1).f0), .int .i64 ((rd_T59 l0 x10_1).f1), .int .i64 ((rd_T59 l0 x10_1).f2), .int .u32 0]) ?_ 3 _ rfl; (with_reducible repeat (first | refine kN ?_ _ | refine kD ?_ | refine kA ?_ _)); refine kP (cs := #[.int .i64 ((rd_T59 l0 x10_1).f0), .int .i64 ((rd_T59 l0 x10_1).f1), .int .i64 0, .int .u32 0]) ?_ 2 _ rfl; (with_reducible repeat (first | refine kN ?_ _ | refine kD ?_ | refine kA ?_ _)); refine kP (cs := #[.int .i64 ((rd_T59 l0 x10_1).f0), .int .i64 0, .int .i64 0, .int .u32 0]) ?_ 1 _ rfl; (with_reducible repeat (first | refine kN ?_ _ | refine kD ?_ | refine kA ?_ _)); refine kP (cs := #[.int .i64 0, .int .i64 0, .int .i64 0, .int .u32 0]) ?_ 0 _ rfl; (with_reducible repeat (first | refine kN ?_ _ | refine kD ?_ | refine kA ?_ _)); exact BK176.out) hb); have n1_ := Aside0.mk (zT (jH HB) hb); clear BK176; clear HB; have BK176 := n0_; have HB := n1_; clear n0_ n1_; (try clear hb); (try clear hb2); (try clear hk); (try clear hi)))
         go_ret
         exact ⟨jE, jH HB⟩
        ·replace c10 := Bool.eq_false_iff.mpr c10
         subst c10
         rw [if_neg (show ¬ (false = true) by decide)] at H
         replace H := Option.bind_eq_some_iff.mp H
         obtain ⟨t178, A140, H⟩ := H
         replace H : (if t178 = true then (some false) else (window_Right.l0 k1 l0 l0 (l0.length : Int) (wrap64 (x10_1 + 1)))) = some r := H
         have A14 := Aside0.mk A140
         clear A140
         by_cases c15 : t178 = true
         ·subst c15
          rw [if_pos rfl] at H
          obtain rfl := Option.some.inj H
          have p175 : 0 ≤ (x10_1 : Int) := oD (jA)
          have q175 : x10_1 < (l0.length : Int) := oD (jA)
          obtain ⟨ad175, e175, hx175_0, hx175_1, hx175_2, hx175_3⟩ := at_T59 HR0.out x10_1 p175 q175
          cases e175
          replace hx175_0 := (HB.out.cell (bL w _ hx175_0)).trans hx175_0
          replace hx175_1 := (HB.out.cell (bL w _ hx175_1)).trans hx175_1
          replace hx175_2 := (HB.out.cell (bL w _ hx175_2)).trans hx175_2
          replace hx175_3 := (HB.out.cell (bL w _ hx175_3)).trans hx175_3
          replace p175 := eq_true p175
          replace q175 := eq_true q175
          go_wp2_with (first | ((with_reducible refine gate_dst (N := 4) rfl ?_); refine box_event ?hg (N := 4) ?hd (cs := #[.int .i64 0, .int .i64 0, .int .i64 0, .int .u32 0]) (t := 59) ?hr ?_; (case hd => rfl); (case hg => rfl); (case hr => first | (go_simp; done) | (go_simp; rfl)); intro gb176 hg w16 hbox hb; have n0_ := Aside0.mk (zT (jH HB) hb); have n1_ := Aside0.mk (hbox); have n2_ := Aside0.mk ((by rw [hg]; exact (zZ (jH HB)) : w.heap.size ≤ gb176)); have n3_ := Aside0.mk ((by rw [hg]; exact (zZ (jH HB)) : w.heap.size ≤ gb176)); clear HB; have HB := n0_; have BK176 := n1_; have GW176 := n2_; have GE176 := n3_; clear n0_ n1_ n2_ n3_; clear hb hbox hg; obtain ⟨hcz17_0, hcz17_1, hcz17_2, hcz17_3, hfz17_0, hfz17_1, hfz17_2, hfz17_3⟩ := kQ4 BK176.out) | (go_at_call 53; (with_reducible refine (ins_Branch.calls ((rd_T59 l0 x10_1).f0) ((rd_T59 l0 x10_1).f1) ((rd_T59 l0 x10_1).f2) ((rd_T59 l0 x10_1).f3) false _ ?side1 A9.out).mono ?_); (case side1 => exact Glob.below HG.out (jH HB)); rintro e w18 ⟨rfl, hb⟩; have n0_ := Aside0.mk (kB (g := gb176) (o := .cells #[.int .i64 ((rd_T59 l0 x10_1).f0), .int .i64 ((rd_T59 l0 x10_1).f1), .int .i64 ((rd_T59 l0 x10_1).f2), .int .u32 ((rd_T59 l0 x10_1).f3)] 59 (0, 0)) (by (with_reducible repeat (first | refine kN ?_ _ | refine kD ?_ | refine kA ?_ _)); refine kP (cs := #[.int .i64 ((rd_T59 l0 x10_1).f0), .int .i64 ((rd_T59 l0 x10_1).f1), .int .i64 ((rd_T59 l0 x10_1).f2), .int .u32 0]) ?_ 3 _ rfl; (with_reducible repeat (first | refine kN ?_ _ | refine kD ?_ | refine kA ?_ _)); refine kP (cs := #[.int .i64 ((rd_T59 l0 x10_1).f0), .int .i64 ((rd_T59 l0 x10_1).f1), .int .i64 0, .int .u32 0]) ?_ 2 _ rfl; (with_reducible repeat (first | refine kN ?_ _ | refine kD ?_ | refine kA ?_ _)); refine kP (cs := #[.int .i64 ((rd_T59 l0 x10_1).f0), .int .i64 0, .int .i64 0, .int .u32 0]) ?_ 1 _ rfl; (with_reducible repeat (first | refine kN ?_ _ | refine kD ?_ | refine kA ?_ _)); refine kP (cs := #[.int .i64 0, .int .i64 0, .int .i64 0, .int .u32 0]) ?_ 0 _ rfl; (with_reducible repeat (first | refine kN ?_ _ | refine kD ?_ | refine kA ?_ _)); exact BK176.out) hb); have n1_ := Aside0.mk (zT (jH HB) hb); clear BK176; clear HB; have BK176 := n0_; have HB := n1_; clear n0_ n1_; (try clear hb); (try clear hb2); (try clear hk); (try clear hi); obtain ⟨hcz19_0, hcz19_1, hcz19_2, hcz19_3, hfz19_0, hfz19_1, hfz19_2, hfz19_3⟩ := kQ4 BK176.out) | (go_at_call 54; (with_reducible refine (ins_Ends.calls ((rd_T59 l0 x10_1).f0) ((rd_T59 l0 x10_1).f1) ((rd_T59 l0 x10_1).f2) ((rd_T59 l0 x10_1).f3) true _ A14.out).mono ?_); rintro e w20 ⟨rfl, hb⟩; replace BK176 := Aside0.mk (jB BK176 hb); replace HB := Aside0.mk (zT (jH HB) hb); (try clear hb); (try clear hb2); (try clear hk); (try clear hi)))
          go_ret
          exact ⟨jE, jH HB⟩
         ·replace c15 := Bool.eq_false_iff.mpr c15
          subst c15
          rw [if_neg (show ¬ (false = true) by decide)] at H
          have H' := Aside0.mk H
          clear H
          have p175 : 0 ≤ (x10_1 : Int) := oD (jA)
          have q175 : x10_1 < (l0.length : Int) := oD (jA)
          obtain ⟨ad175, e175, hx175_0, hx175_1, hx175_2, hx175_3⟩ := at_T59 HR0.out x10_1 p175 q175
          cases e175
          replace hx175_0 := (HB.out.cell (bL w _ hx175_0)).trans hx175_0
          replace hx175_1 := (HB.out.cell (bL w _ hx175_1)).trans hx175_1
          replace hx175_2 := (HB.out.cell (bL w _ hx175_2)).trans hx175_2
          replace hx175_3 := (HB.out.cell (bL w _ hx175_3)).trans hx175_3
          replace p175 := eq_true p175
          replace q175 := eq_true q175
          go_wp2_with (first | ((with_reducible refine gate_dst (N := 4) rfl ?_); refine box_event ?hg (N := 4) ?hd (cs := #[.int .i64 0, .int .i64 0, .int .i64 0, .int .u32 0]) (t := 59) ?hr ?_; (case hd => rfl); (case hg => rfl); (case hr => first | (go_simp; done) | (go_simp; rfl)); intro gb176 hg w21 hbox hb; have n0_ := Aside0.mk (zT (jH HB) hb); have n1_ := Aside0.mk (hbox); have n2_ := Aside0.mk ((by rw [hg]; exact (zZ (jH HB)) : w.heap.size ≤ gb176)); have n3_ := Aside0.mk ((by rw [hg]; exact (zZ (jH HB)) : w.heap.size ≤ gb176)); clear HB; have HB := n0_; have BK176 := n1_; have GW176 := n2_; have GE176 := n3_; clear n0_ n1_ n2_ n3_; clear hb hbox hg; obtain ⟨hcz22_0, hcz22_1, hcz22_2, hcz22_3, hfz22_0, hfz22_1, hfz22_2, hfz22_3⟩ := kQ4 BK176.out) | (go_at_call 53; (with_reducible refine (ins_Branch.calls ((rd_T59 l0 x10_1).f0) ((rd_T59 l0 x10_1).f1) ((rd_T59 l0 x10_1).f2) ((rd_T59 l0 x10_1).f3) false _ ?side1 A9.out).mono ?_); (case side1 => exact Glob.below HG.out (jH HB)); rintro e w23 ⟨rfl, hb⟩; have n0_ := Aside0.mk (kB (g := gb176) (o := .cells #[.int .i64 ((rd_T59 l0 x10_1).f0), .int .i64 ((rd_T59 l0 x10_1).f1), .int .i64 ((rd_T59 l0 x10_1).f2), .int .u32 ((rd_T59 l0 x10_1).f3)] 59 (0, 0)) (by (with_reducible repeat (first | refine kN ?_ _ | refine kD ?_ | refine kA ?_ _)); refine kP (cs := #[.int .i64 ((rd_T59 l0 x10_1).f0), .int .i64 ((rd_T59 l0 x10_1).f1), .int .i64 ((rd_T59 l0 x10_1).f2), .int .u32 0]) ?_ 3 _ rfl; (with_reducible repeat (first | refine kN ?_ _ | refine kD ?_ | refine kA ?_ _)); refine kP (cs := #[.int .i64 ((rd_T59 l0 x10_1).f0), .int .i64 ((rd_T59 l0 x10_1).f1), .int .i64 0, .int .u32 0]) ?_ 2 _ rfl; (with_reducible repeat (first | refine kN ?_ _ | refine kD ?_ | refine kA ?_ _)); refine kP (cs := #[.int .i64 ((rd_T59 l0 x10_1).f0), .int .i64 0, .int .i64 0, .int .u32 0]) ?_ 1 _ rfl; (with_reducible repeat (first | refine kN ?_ _ | refine kD ?_ | refine kA ?_ _)); refine kP (cs := #[.int .i64 0, .int .i64 0, .int .i64 0, .int .u32 0]) ?_ 0 _ rfl; (with_reducible repeat (first | refine kN ?_ _ | refine kD ?_ | refine kA ?_ _)); exact BK176.out) hb); have n1_ := Aside0.mk (zT (jH HB) hb); clear BK176; clear HB; have BK176 := n0_; have HB := n1_; clear n0_ n1_; (try clear hb); (try clear hb2); (try clear hk); (try clear hi); obtain ⟨hcz24_0, hcz24_1, hcz24_2, hcz24_3, hfz24_0, hfz24_1, hfz24_2, hfz24_3⟩ := kQ4 BK176.out) | (go_at_call 54; (with_reducible refine (ins_Ends.calls ((rd_T59 l0 x10_1).f0) ((rd_T59 l0 x10_1).f1) ((rd_T59 l0 x10_1).f2) ((rd_T59 l0 x10_1).f3) false _ A14.out).mono ?_); rintro e w25 ⟨rfl, hb⟩; replace BK176 := Aside0.mk (jB BK176 hb); replace HB := Aside0.mk (zT (jH HB) hb); (try clear hb); (try clear hb2); (try clear hk); (try clear hi)))
          go_roundg k1
          case measure => have := HK1.out; omega
          case rel => exact ⟨(wrap64 (x10_1 + 1)), jS, H', ⟨by have := HK1.out; omega⟩, ⟨jH HB⟩⟩
      ·rw [if_neg c5] at H
       exact absurd H (by simp)
     ·rw [if_neg c4] at H
      exact absurd H (by simp)
    ·rw [if_neg c3] at H
     have c3b0 : decide (x10_1 < (l0.length : Int)) = false := dF c3
     clear c3
     obtain ⟨y165, hy165⟩ : ∃ y_ : List (S59), y_ = (([] : List (S59))) := ⟨_, rfl⟩
     replace H : (if y165.length + l0.length < 4398046511104 then ((some (y165 ++ l0 : List (S59))).bind fun y168 => (if y168.length < 4398046511104 then ((check_Sound.f k1 (y168 ++ [(⟨22, 0, 0, 0⟩ : S59)])).bind fun t174 => (some t174)) else (none))) else (none)) = some r := by first | (rw [hy165]; with_reducible exact H) | (have H2_ := (Option.bind_some _ _).symm.trans H; rw [hy165]; with_reducible exact H2_) | (have H2_ := (Option.bind_some _ _).symm.trans H; with_reducible exact H2_) | with_reducible exact H | (rw [hy165]; exact H) | exact H
     have Ny165 := Aside0.mk hy165
     clear hy165
     by_cases c26 : y165.length + l0.length < 4398046511104
     ·rw [if_pos c26] at H
      have LMc26 := Aside0.mk c26
      clear c26
      obtain ⟨y168, hy168⟩ : ∃ y_ : List (S59), y_ = (y165 ++ l0) := ⟨_, rfl⟩
      replace H : (if y168.length < 4398046511104 then ((check_Sound.f k1 (y168 ++ [(⟨22, 0, 0, 0⟩ : S59)])).bind fun t174 => (some t174)) else (none)) = some r := by first | (rw [hy168]; with_reducible exact H) | (have H2_ := (Option.bind_some _ _).symm.trans H; rw [hy168]; with_reducible exact H2_) | (have H2_ := (Option.bind_some _ _).symm.trans H; with_reducible exact H2_) | with_reducible exact H | (rw [hy168]; exact H) | exact H
      have Ny168 := Aside0.mk hy168
      clear hy168
      by_cases c27 : y168.length < 4398046511104
      ·rw [if_pos c27] at H
       have LMc27 := Aside0.mk c27
       clear c27
       obtain ⟨y171, hy171⟩ : ∃ y_ : List (S59), y_ = (y168 ++ [(⟨22, 0, 0, 0⟩ : S59)]) := ⟨_, rfl⟩
       replace H : ((check_Sound.f k1 y171).bind fun t174 => (some t174)) = some r := by first | (rw [hy171]; with_reducible exact H) | (have H2_ := (Option.bind_some _ _).symm.trans H; rw [hy171]; with_reducible exact H2_) | (have H2_ := (Option.bind_some _ _).symm.trans H; with_reducible exact H2_) | with_reducible exact H | (rw [hy171]; exact H) | exact H
       have Ny171 := Aside0.mk hy171
       clear hy171
       replace H := Option.bind_eq_some_iff.mp H
       obtain ⟨t174, A280, H⟩ := H
       replace H : (some t174) = some r := H
       have A28 := Aside0.mk A280
       clear A280
       obtain rfl := Option.some.inj H
       go_wp2_with (first | ((with_reducible refine gate_dst (N := 26) rfl ?_); refine Kd.R_lit k59 _ 59 ?hg (N := 26) ?hd (xs := ([] : List (S59))) (inner := []) (ok := fun _ => True) (okp := fun _ => True) ?hr ?hp (fun _ hk => hk) trivial (Below.refl _ _) (Nat.le_refl _) (by simp) ?_; (case hd => rfl); (case hg => rfl); (case hr => first | (go_simp; done) | (go_simp; rfl)); (case hp => exact (Reps.none _ _)); intro v166 w29 ho30 hb hg_ hnew_; clear hg_ hnew_; (first | rw [← Ny165.out] at ho30 | (simp only [Int.reduceToNat] at ho30; rw [← Ny165.out] at ho30)); have HO167 := Aside0.mk (Kd.R_lower ho30 (zZ (jH HB))); replace HB := Aside0.mk (zT (jH HB) hb); clear hb ho30) | ((with_reducible refine gate_builtin (b := .append) (xs := #[.tmp 26, .tmp 27]) rfl ?_); at_builtin; refine Kd.R_append_rows k59 (w0 := w) w.heap.size rfl (.tmp 26) (.tmp 27) 39 59 (.agg #[(.int .i64 0), (.int .i64 0), (.int .i64 0), (.int .u32 0)]) 32 rfl Tryd.underlying39 info59 rfl (by decide) (by omega) v166 y165 l0 _ _ _ (fun _ => True) (fun _ => False) rfl rfl ?aO ?aR (fun _ _ h => h) (fun _ h => h.elim) ?aF ?aB ?aS ?aL ?_; (case aR => repeat (first | exact (Kd.C_below HR0.out HB.out) | (with_reducible refine Kd.C_alloc ?_ _) | (with_reducible refine Kd.C_drewN ?_ _) | (with_reducible refine Kd.C_drew ?_))); (case aB => exact (jH HB)); (case aF => exact (fun _ _ => trivial)); (case aO => exact (jR HO167)); (case aS => exact (zZ (jH HB))); (case aL => have := LMc26.out; omega); intro v169 w31 ho hb hg hat; rw [← Ny168.out] at ho; have HO170 := Aside0.mk (ho); replace HB := Aside0.mk (hb); clear HO167; clear ho hb hg hat) | ((with_reducible refine gate_builtin (b := .append) (xs := #[.tmp 28, .tmp 30]) rfl ?_); at_builtin; refine Kd.R_append k59 (w0 := w) w.heap.size rfl (.tmp 28) (.tmp 30) 39 59 (.agg #[(.int .i64 0), (.int .i64 0), (.int .i64 0), (.int .u32 0)]) 32 rfl Tryd.underlying39 info59 rfl (by decide) (by omega) v169 y168 (⟨22, 0, 0, 0⟩ : S59) [.int .i64 22, .int .i64 0, .int .i64 0, .int .u32 0] (fun _ => True) (fun _ => False) rfl rfl ?aP (fun _ hk => hk.elim) ?aF ?aO ?aB ?aS ?aL ?_; (case aP => exact k59_mkM _ _ _ (⟨22, 0, 0, 0⟩ : S59)); (case aB => exact (jH HB)); (case aF => exact (fun _ _ => trivial)); (case aO => exact (jR HO170)); (case aS => exact (zZ (jH HB))); (case aL => have := LMc27.out; omega); intro v172 w32 ho hb hg hat; rw [← Ny171.out] at ho; have HO173 := Aside0.mk (ho); replace HB := Aside0.mk (hb); clear HO170; clear ho hb hg hat; obtain ⟨Ao33, co33, eo33⟩ := Kd.R_slice HO173.out; subst eo33) | ((with_reducible refine gate_callee (f := 55) rfl ?_); refine goesL_ (some 32) rfl rfl Tryd.func55 (by kernel_rfl) rfl #[.slice Ao33 y171.length co33] rfl jZ ?_; (with_reducible refine (check_Sound.calls k1 _ _ y171 t174 _ ?side1 ?side2 ?side3 A28.out).mono ?_); (case side1 => exact jC (Kd.R_reads' HO173.out).2.2); (case side2 => exact (Kd.R_reads' HO173.out).2.1); (case side3 => exact Glob.below HG.out (jH HB)); rintro e w34 ⟨rfl, hb⟩; refine ⟨_, rfl, ?_⟩; replace HO173 := Aside0.mk (Kd.R_below (jR HO173) hb); replace HB := Aside0.mk (zT (jH HB) hb); (try clear hb); (try clear hb2); (try clear hk); (try clear hi)))
       go_ret
       exact ⟨jE, jH HB⟩
      ·rw [if_neg c27] at H
       exact absurd H (by simp)
     ·rw [if_neg c26] at H
      exact absurd H (by simp)
end Go.Proofs.YtahacmdhhfmhiaaDoor.M

/- What Go functions compute; their calls come to it. No condition. -/
namespace Go.Proofs.YtahacmdhhfmhiaaDoor.M
open Go.RowKit Go.Proofs.YtahacmdhhfmhiaaDoorW.PrintWords Go.Proofs.YtahacmdhhfmhiaaDoorW.PrintLast Go.Proofs.YtahacmdhhfmhiaaDoorW.PrintMore
attribute [local go_sem] max2_int min2_int max_two min_two max_three min_three max_four min_four   -- for this text's walks alone
set_option linter.unusedVariables false
set_option linter.unusedSimpArgs false
def table_Rule_right.f (k : Nat) (l0_0 : List (S59)) (l0_1 : List (S59)) (a0_2 : Int) : Option (Bool) := (window_Right.f k l0_0).bind fun t180 => (if t180 = true then ((window_Right.f k l0_1).bind fun t181 => (if t181 = true then (if (l0_1.length : Int) < (l0_0.length : Int) then (some (decide (a0_2 < 262144))) else (some false)) else (some false))) else (some false))
theorem table_Rule_right.mono : ∀ a0 a1 a2 k, LeO (table_Rule_right.f k a0 a1 a2) (table_Rule_right.f (k + 1) a0 a1 a2) := by
 intro a0 a1 a2 k
 unfold table_Rule_right.f
 repeat' first
   | (with_reducible apply window_Right.mono)
   | (with_reducible exact LeO.refl _)
   | (with_reducible exact LeO.none _)
   | (with_reducible refine LeO.ite ?_ ?_)
   | (with_reducible refine LeO.bind ?_ (fun _ => ?_))
   | apply window_Right.mono
   | exact LeO.none _
   | refine LeO.ite ?_ ?_
   | refine LeO.bind ?_ (fun _ => ?_)
set_option maxHeartbeats 8000000 in
set_option maxRecDepth 100000 in
theorem table_Rule_right.calls (k : Nat) (A0_0 : Option Addr) (c0_0 : Nat) (l0_0 : List (S59)) (A0_1 : Option Addr) (c0_1 : Nat) (l0_1 : List (S59)) (a0_2 : Int) (r : Bool) (w : World) (hr0_0 : Kd.C k59 w A0_0 l0_0.length l0_0) (hc0_0 : l0_0.length ≤ c0_0) (hr0_1 : Kd.C k59 w A0_1 l0_1.length l0_1) (hc0_1 : l0_1.length ≤ c0_1) (hG : Glob w) (h : table_Rule_right.f k l0_0 l0_1 a0_2 = some r) :
  Calls Tryd.prog 32 #[.agg #[.slice A0_0 l0_0.length c0_0, .slice A0_1 l0_1.length c0_1, .int .u32 a0_2]] w fun e w' => e = .returned (.bool r) ∧ Below w.heap.size w w' := by
 have hu42 := Tryd.underlying42
 have HG := Aside0.mk hG
 clear hG
 have HR0_0 := Aside0.mk hr0_0
 have HC0_0 := Aside0.mk hc0_0
 clear hr0_0 hc0_0
 have HR0_1 := Aside0.mk hr0_1
 have HC0_1 := Aside0.mk hc0_1
 clear hr0_1 hc0_1
 have HB := Aside0.mk (Below.refl w.heap.size w)
 have H : ((window_Right.f k l0_0).bind fun t180 => (if t180 = true then ((window_Right.f k l0_1).bind fun t181 => (if t181 = true then (if (l0_1.length : Int) < (l0_0.length : Int) then (some (decide (a0_2 < 262144))) else (some false)) else (some false))) else (some false))) = some r := h
 clear h
 replace H := Option.bind_eq_some_iff.mp H
 obtain ⟨t180, A20, H⟩ := H
 try dsimp only at H
 have A2 := Aside0.mk A20
 clear A20
 by_cases c3 : t180 = true
 ·subst c3
  rw [if_pos rfl] at H
  replace H := Option.bind_eq_some_iff.mp H
  obtain ⟨t181, A40, H⟩ := H
  try dsimp only at H
  have A4 := Aside0.mk A40
  clear A40
  by_cases c5 : t181 = true
  ·subst c5
   rw [if_pos rfl] at H
   by_cases c6 : (l0_1.length : Int) < (l0_0.length : Int)
   ·rw [if_pos c6] at H
    have c6b0 : decide ((l0_1.length : Int) < (l0_0.length : Int)) = true := dT c6
    have c6b1 : decide (l0_1.length < l0_0.length) = true := dT (Int.ofNat_lt.mp c6)
    clear c6
    obtain rfl := Option.some.inj H
    go_enter Tryd.func32, Tryd.ntmps32
    go_wp2_with (first | ((with_reducible refine gate_dst (N := 1) rfl ?_); (try (refine gate_guard (by rfl) ?_; dsimp only)); refine box_event rfl (N := 1) rfl (cs := #[.slice A0_0 l0_0.length c0_0, .slice A0_1 l0_1.length c0_1, .int .u32 a0_2]) (t := 42) jW ?_; intro gb179 hg w7 hbox hb; have BK179 := Aside0.mk hbox; have GW179 := Aside0.mk (jG hg HB); have GE179 := Aside0.mk (jG hg HB); replace HB := Aside0.mk (zT (jH HB) hb); clear hb hbox hg; obtain ⟨hcz8_0, hcz8_1, hcz8_2, hfz8_0, hfz8_1, hfz8_2⟩ := kQ3 BK179.out) | ((with_reducible refine gate_callee (f := 44) rfl ?_); refine goesL_ (some 5) rfl rfl Tryd.func44 (by kernel_rfl) rfl #[.slice A0_0 l0_0.length c0_0] rfl jZ ?_; (with_reducible refine (window_Right.calls k _ _ l0_0 true _ ?side1 ?side2 ?side3 A2.out).mono ?_); (case side1 => exact jC (Kd.C_below HR0_0.out HB.out)); (case side2 => exact HC0_0.out); (case side3 => exact Glob.below HG.out (jH HB)); rintro e w9 ⟨rfl, hb⟩; refine ⟨_, rfl, ?_⟩; replace BK179 := Aside0.mk (jB BK179 hb); replace HB := Aside0.mk (zT (jH HB) hb); (try clear hb); (try clear hb2); (try clear hk); (try clear hi); obtain ⟨hcz10_0, hcz10_1, hcz10_2, hfz10_0, hfz10_1, hfz10_2⟩ := kQ3 BK179.out) | (go_at_call 44; (with_reducible refine (window_Right.calls k _ _ l0_1 true _ ?side1 ?side2 ?side3 A4.out).mono ?_); (case side1 => exact jC (Kd.C_below HR0_1.out HB.out)); (case side2 => exact HC0_1.out); (case side3 => exact Glob.below HG.out (jH HB)); rintro e w11 ⟨rfl, hb⟩; replace BK179 := Aside0.mk (jB BK179 hb); replace HB := Aside0.mk (zT (jH HB) hb); (try clear hb); (try clear hb2); (try clear hk); (try clear hi); obtain ⟨hcz12_0, hcz12_1, hcz12_2, hfz12_0, hfz12_1, hfz12_2⟩ := kQ3 BK179.out))
    go_ret
    exact ⟨jE, jH HB⟩
   ·rw [if_neg c6] at H
    have c6b0 : decide ((l0_1.length : Int) < (l0_0.length : Int)) = false := dF c6
    have c6b1 : decide (l0_1.length < l0_0.length) = false := dF (fun h => c6 (Int.ofNat_lt.mpr h))
    clear c6
    obtain rfl := Option.some.inj H
    go_enter Tryd.func32, Tryd.ntmps32
    go_wp2_with (first | ((with_reducible refine gate_dst (N := 1) rfl ?_); (try (refine gate_guard (by rfl) ?_; dsimp only)); refine box_event rfl (N := 1) rfl (cs := #[.slice A0_0 l0_0.length c0_0, .slice A0_1 l0_1.length c0_1, .int .u32 a0_2]) (t := 42) jW ?_; intro gb179 hg w13 hbox hb; have BK179 := Aside0.mk hbox; have GW179 := Aside0.mk (jG hg HB); have GE179 := Aside0.mk (jG hg HB); replace HB := Aside0.mk (zT (jH HB) hb); clear hb hbox hg; obtain ⟨hcz14_0, hcz14_1, hcz14_2, hfz14_0, hfz14_1, hfz14_2⟩ := kQ3 BK179.out) | ((with_reducible refine gate_callee (f := 44) rfl ?_); refine goesL_ (some 5) rfl rfl Tryd.func44 (by kernel_rfl) rfl #[.slice A0_0 l0_0.length c0_0] rfl jZ ?_; (with_reducible refine (window_Right.calls k _ _ l0_0 true _ ?side1 ?side2 ?side3 A2.out).mono ?_); (case side1 => exact jC (Kd.C_below HR0_0.out HB.out)); (case side2 => exact HC0_0.out); (case side3 => exact Glob.below HG.out (jH HB)); rintro e w15 ⟨rfl, hb⟩; refine ⟨_, rfl, ?_⟩; replace BK179 := Aside0.mk (jB BK179 hb); replace HB := Aside0.mk (zT (jH HB) hb); (try clear hb); (try clear hb2); (try clear hk); (try clear hi); obtain ⟨hcz16_0, hcz16_1, hcz16_2, hfz16_0, hfz16_1, hfz16_2⟩ := kQ3 BK179.out) | (go_at_call 44; (with_reducible refine (window_Right.calls k _ _ l0_1 true _ ?side1 ?side2 ?side3 A4.out).mono ?_); (case side1 => exact jC (Kd.C_below HR0_1.out HB.out)); (case side2 => exact HC0_1.out); (case side3 => exact Glob.below HG.out (jH HB)); rintro e w17 ⟨rfl, hb⟩; replace BK179 := Aside0.mk (jB BK179 hb); replace HB := Aside0.mk (zT (jH HB) hb); (try clear hb); (try clear hb2); (try clear hk); (try clear hi); obtain ⟨hcz18_0, hcz18_1, hcz18_2, hfz18_0, hfz18_1, hfz18_2⟩ := kQ3 BK179.out))
    go_ret
    exact ⟨jE, jH HB⟩
  ·replace c5 := Bool.eq_false_iff.mpr c5
   subst c5
   rw [if_neg (show ¬ (false = true) by decide)] at H
   obtain rfl := Option.some.inj H
   go_enter Tryd.func32, Tryd.ntmps32
   go_wp2_with (first | ((with_reducible refine gate_dst (N := 1) rfl ?_); (try (refine gate_guard (by rfl) ?_; dsimp only)); refine box_event rfl (N := 1) rfl (cs := #[.slice A0_0 l0_0.length c0_0, .slice A0_1 l0_1.length c0_1, .int .u32 a0_2]) (t := 42) jW ?_; intro gb179 hg w19 hbox hb; have BK179 := Aside0.mk hbox; have GW179 := Aside0.mk (jG hg HB); have GE179 := Aside0.mk (jG hg HB); replace HB := Aside0.mk (zT (jH HB) hb); clear hb hbox hg; obtain ⟨hcz20_0, hcz20_1, hcz20_2, hfz20_0, hfz20_1, hfz20_2⟩ := kQ3 BK179.out) | ((with_reducible refine gate_callee (f := 44) rfl ?_); refine goesL_ (some 5) rfl rfl Tryd.func44 (by kernel_rfl) rfl #[.slice A0_0 l0_0.length c0_0] rfl jZ ?_; (with_reducible refine (window_Right.calls k _ _ l0_0 true _ ?side1 ?side2 ?side3 A2.out).mono ?_); (case side1 => exact jC (Kd.C_below HR0_0.out HB.out)); (case side2 => exact HC0_0.out); (case side3 => exact Glob.below HG.out (jH HB)); rintro e w21 ⟨rfl, hb⟩; refine ⟨_, rfl, ?_⟩; replace BK179 := Aside0.mk (jB BK179 hb); replace HB := Aside0.mk (zT (jH HB) hb); (try clear hb); (try clear hb2); (try clear hk); (try clear hi); obtain ⟨hcz22_0, hcz22_1, hcz22_2, hfz22_0, hfz22_1, hfz22_2⟩ := kQ3 BK179.out) | (go_at_call 44; (with_reducible refine (window_Right.calls k _ _ l0_1 false _ ?side1 ?side2 ?side3 A4.out).mono ?_); (case side1 => exact jC (Kd.C_below HR0_1.out HB.out)); (case side2 => exact HC0_1.out); (case side3 => exact Glob.below HG.out (jH HB)); rintro e w23 ⟨rfl, hb⟩; replace BK179 := Aside0.mk (jB BK179 hb); replace HB := Aside0.mk (zT (jH HB) hb); (try clear hb); (try clear hb2); (try clear hk); (try clear hi)))
   go_ret
   exact ⟨jE, jH HB⟩
 ·replace c3 := Bool.eq_false_iff.mpr c3
  subst c3
  rw [if_neg (show ¬ (false = true) by decide)] at H
  obtain rfl := Option.some.inj H
  go_enter Tryd.func32, Tryd.ntmps32
  go_wp2_with (first | ((with_reducible refine gate_dst (N := 1) rfl ?_); (try (refine gate_guard (by rfl) ?_; dsimp only)); refine box_event rfl (N := 1) rfl (cs := #[.slice A0_0 l0_0.length c0_0, .slice A0_1 l0_1.length c0_1, .int .u32 a0_2]) (t := 42) jW ?_; intro gb179 hg w24 hbox hb; have BK179 := Aside0.mk hbox; have GW179 := Aside0.mk (jG hg HB); have GE179 := Aside0.mk (jG hg HB); replace HB := Aside0.mk (zT (jH HB) hb); clear hb hbox hg; obtain ⟨hcz25_0, hcz25_1, hcz25_2, hfz25_0, hfz25_1, hfz25_2⟩ := kQ3 BK179.out) | ((with_reducible refine gate_callee (f := 44) rfl ?_); refine goesL_ (some 5) rfl rfl Tryd.func44 (by kernel_rfl) rfl #[.slice A0_0 l0_0.length c0_0] rfl jZ ?_; (with_reducible refine (window_Right.calls k _ _ l0_0 false _ ?side1 ?side2 ?side3 A2.out).mono ?_); (case side1 => exact jC (Kd.C_below HR0_0.out HB.out)); (case side2 => exact HC0_0.out); (case side3 => exact Glob.below HG.out (jH HB)); rintro e w26 ⟨rfl, hb⟩; refine ⟨_, rfl, ?_⟩; replace BK179 := Aside0.mk (jB BK179 hb); replace HB := Aside0.mk (zT (jH HB) hb); (try clear hb); (try clear hb2); (try clear hk); (try clear hi)))
  go_ret
  exact ⟨jE, jH HB⟩
end Go.Proofs.YtahacmdhhfmhiaaDoor.M
