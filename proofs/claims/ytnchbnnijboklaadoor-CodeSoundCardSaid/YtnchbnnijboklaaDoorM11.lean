/- By a program of this session: what Go functions of the seat compute, as Lean functions, each with a proof that the call of the Go function comes to that. -/
import Derived.Test.YtnchbnnijboklaaDoorM0
import Derived.Test.YtnchbnnijboklaaDoorM10
namespace Go.Proofs.YtnchbnnijboklaaDoor.M
open Go.RowKit Go.Proofs.YtnchbnnijboklaaDoorW.PrintWords Go.Proofs.YtnchbnnijboklaaDoorW.PrintLast Go.Proofs.YtnchbnnijboklaaDoorW.PrintMore
attribute [local go_sem] max2_int min2_int max_two min_two max_three min_three max_four min_four   -- for this text's walks alone
set_option linter.unusedVariables false
set_option linter.unusedSimpArgs false
def hurdleref02_Right.j0 : Nat → Int → Bool → Int → Int → Int → Int → Option (Bool)
 | 0, _, _, _, _, _, _ => none
 | k + 1, x3, x17, x226000, x226001, x226002, x226003 => if x17 = true then (some false) else ((hurdleref02_branch.f x3).bind fun t228 => (if t228 = true then (if x226001 ≥ 0 then (if x226001 < 256 then (if x226002 ≥ 0 then (some (decide (x226002 < 256))) else (some false)) else (some false)) else (some false)) else (if x226001 = 0 then (some (x226002 == 0)) else (some false))))
def hurdleref02_Right.f (k : Nat) (a0_0 : Int) (a0_1 : Int) (a0_2 : Int) (a0_3 : Int) : Option (Bool) := (hurdleref02_place.f k a0_0).bind fun t226 => (if t226 < 0 then (hurdleref02_Right.j0 k t226 true a0_0 a0_1 a0_2 a0_3) else ((hurdleref02_plain.f t226).bind fun t227 => (if t227 = true then (hurdleref02_Right.j0 k t226 (a0_3 != 0) a0_0 a0_1 a0_2 a0_3) else (hurdleref02_Right.j0 k t226 false a0_0 a0_1 a0_2 a0_3))))
theorem hurdleref02_Right.mono_l : ∀ k, (∀ y0 y1 y2 y3 y4 y5, LeO (hurdleref02_Right.j0 k y0 y1 y2 y3 y4 y5) (hurdleref02_Right.j0 (k + 1) y0 y1 y2 y3 y4 y5))
 | 0 => fun _ _ _ _ _ _ r h => by simp [hurdleref02_Right.j0] at h
 | k + 1 => by
  have ih0 := hurdleref02_Right.mono_l k
  ·intro y0 y1 y2 y3 y4 y5
   unfold hurdleref02_Right.j0
   repeat' first
   | (with_reducible exact ih0 _ _ _ _ _ _)
   | (with_reducible exact hurdleref02_place.mono _ _)
   | (with_reducible exact LeO.refl _)
   | (with_reducible exact LeO.none _)
   | (with_reducible refine LeO.ite ?_ ?_)
   | (with_reducible refine LeO.bind ?_ (fun _ => ?_))
   | exact ih0 _ _ _ _ _ _
   | exact hurdleref02_place.mono _ _
   | exact LeO.none _
   | refine LeO.ite ?_ ?_
   | refine LeO.bind ?_ (fun _ => ?_)
theorem hurdleref02_Right.mono : ∀ a0 a1 a2 a3 k, LeO (hurdleref02_Right.f k a0 a1 a2 a3) (hurdleref02_Right.f (k + 1) a0 a1 a2 a3) := by
 intro a0 a1 a2 a3 k
 have ih0 := hurdleref02_Right.mono_l k
 unfold hurdleref02_Right.f
 repeat' first
   | (with_reducible exact ih0 _ _ _ _ _ _)
   | (with_reducible exact hurdleref02_place.mono _ _)
   | (with_reducible exact LeO.refl _)
   | (with_reducible exact LeO.none _)
   | (with_reducible refine LeO.ite ?_ ?_)
   | (with_reducible refine LeO.bind ?_ (fun _ => ?_))
   | exact ih0 _ _ _ _ _ _
   | exact hurdleref02_place.mono _ _
   | exact LeO.none _
   | refine LeO.ite ?_ ?_
   | refine LeO.bind ?_ (fun _ => ?_)
set_option maxHeartbeats 8000000 in
set_option maxRecDepth 100000 in
theorem hurdleref02_Right.calls (k : Nat) (a0_0 : Int) (a0_1 : Int) (a0_2 : Int) (a0_3 : Int) (r : Bool) (w : World) (h : hurdleref02_Right.f k a0_0 a0_1 a0_2 a0_3 = some r) :
  Calls Tryd.prog 31 #[.agg #[.int .i64 a0_0, .int .i64 a0_1, .int .i64 a0_2, .int .u32 a0_3]] w fun e w' => e = .returned (.bool r) ∧ Below w.heap.size w w' := by
 have hu30 := Tryd.underlying30
 have HB := Aside0.mk (Below.refl w.heap.size w)
 have H : ((hurdleref02_place.f k a0_0).bind fun t226 => (if t226 < 0 then (hurdleref02_Right.j0 k t226 true a0_0 a0_1 a0_2 a0_3) else ((hurdleref02_plain.f t226).bind fun t227 => (if t227 = true then (hurdleref02_Right.j0 k t226 (a0_3 != 0) a0_0 a0_1 a0_2 a0_3) else (hurdleref02_Right.j0 k t226 false a0_0 a0_1 a0_2 a0_3))))) = some r := h
 clear h
 replace H := Option.bind_eq_some_iff.mp H
 obtain ⟨t226, A20, H⟩ := H
 try dsimp only at H
 have A2 := Aside0.mk A20
 clear A20
 have HC3 := Aside0.mk H
 clear H
 go_enter Tryd.func31, Tryd.ntmps31
 go_upto_region 2 with (first | ((with_reducible refine gate_dst (N := 1) rfl ?_); refine box_event ?hg (N := 1) ?hd (cs := #[.int .i64 a0_0, .int .i64 a0_1, .int .i64 a0_2, .int .u32 a0_3]) (t := 30) ?hr ?_; (case hd => rfl); (case hg => rfl); (case hr => first | (go_simp; done) | (go_simp; rfl)); intro gb225 hg w4 hbox hb; have n0_ := Aside0.mk (zT (jH HB) hb); have n1_ := Aside0.mk (hbox); have n2_ := Aside0.mk ((by rw [hg]; exact (zZ (jH HB)) : w.heap.size ≤ gb225)); have n3_ := Aside0.mk ((by rw [hg]; exact (zZ (jH HB)) : w.heap.size ≤ gb225)); clear HB; have HB := n0_; have BK225 := n1_; have GW225 := n2_; have GE225 := n3_; clear n0_ n1_ n2_ n3_; clear hb hbox hg; have hcz5_0 : w4.cell? ⟨gb225, 0, none⟩ = some (.int .i64 a0_0) := (kC BK225.out 0).trans rfl; have hcz5_1 : w4.cell? ⟨gb225, 1, none⟩ = some (.int .i64 a0_1) := (kC BK225.out 1).trans rfl; have hcz5_2 : w4.cell? ⟨gb225, 2, none⟩ = some (.int .i64 a0_2) := (kC BK225.out 2).trans rfl; have hcz5_3 : w4.cell? ⟨gb225, 3, none⟩ = some (.int .u32 a0_3) := (kC BK225.out 3).trans rfl; have hfz5_0 := kF BK225.out 0; have hfz5_1 := kF BK225.out 1; have hfz5_2 := kF BK225.out 2; have hfz5_3 := kF BK225.out 3) | ((with_reducible refine gate_callee (f := 38) rfl ?_); refine goesL_ (some 6) rfl rfl Tryd.func38 (by kernel_rfl) rfl #[.int .i64 a0_0] rfl jZ ?_; (with_reducible refine (hurdleref02_place.calls k a0_0 t226 _ A2.out).mono ?_); rintro e w6 ⟨rfl, hb⟩; refine ⟨_, rfl, ?_⟩; have n0_ := Aside0.mk (jB BK225 hb); have n1_ := Aside0.mk (zT (jH HB) hb); clear BK225; clear HB; have BK225 := n0_; have HB := n1_; clear n0_ n1_; (try clear hb); (try clear hb2); (try clear hk); (try clear hi)))
 (try simp only [Act.put, List.setIfInBounds_toArray, List.set_cons_zero, List.set_cons_succ])
 go_cut [17] (fun v17 wc => ∃ (kq : Nat) (x17_2 : Bool), v17 = .bool x17_2 ∧ Aside0 (hurdleref02_Right.j0 kq t226 x17_2 a0_0 a0_1 a0_2 a0_3 = some r) ∧ Aside0 (kq ≤ k) ∧ Aside0 (wc.heap[gb225]? = some (.cells #[.int .i64 a0_0, .int .i64 a0_1, .int .i64 a0_2, .int .u32 a0_3] 30 (0, 0))) ∧ Aside0 (Below w.heap.size w wc))
 case first =>
  have H := HC3.out
  clear HC3
  by_cases c7 : t226 < 0
  ·rw [if_pos c7] at H
   have c7b0 : decide (t226 < 0) = true := dT c7
   clear c7
   (first | rw [c7b0] | (simp only [i64_w, i32_w]; rw [c7b0]) | skip)
   have H' := Aside0.mk H
   clear H
   go_wp2
   go_meet
   case rel => exact ⟨_, (true), jS, H', ⟨jO⟩, ⟨jK BK225⟩, ⟨jH HB⟩⟩
  ·rw [if_neg c7] at H
   have c7b0 : decide (t226 < 0) = false := dF c7
   clear c7
   (first | rw [c7b0] | (simp only [i64_w, i32_w]; rw [c7b0]) | skip)
   replace H := Option.bind_eq_some_iff.mp H
   obtain ⟨t227, A80, H⟩ := H
   try dsimp only at H
   have A8 := Aside0.mk A80
   clear A80
   by_cases c9 : t227 = true
   ·subst c9
    rw [if_pos rfl] at H
    have H' := Aside0.mk H
    clear H
    go_wp2_with (first | (go_at_call 39; (with_reducible refine (hurdleref02_plain.calls t226 true _ A8.out).mono ?_); rintro e w' ⟨rfl, ⟨nd, rfl⟩⟩; have hcz10_0 : w6.cell? ⟨gb225, 0, none⟩ = some (.int .i64 a0_0) := (kC BK225.out 0).trans rfl; have hcz10_1 : w6.cell? ⟨gb225, 1, none⟩ = some (.int .i64 a0_1) := (kC BK225.out 1).trans rfl; have hcz10_2 : w6.cell? ⟨gb225, 2, none⟩ = some (.int .i64 a0_2) := (kC BK225.out 2).trans rfl; have hcz10_3 : w6.cell? ⟨gb225, 3, none⟩ = some (.int .u32 a0_3) := (kC BK225.out 3).trans rfl; have hfz10_0 := kF BK225.out 0; have hfz10_1 := kF BK225.out 1; have hfz10_2 := kF BK225.out 2; have hfz10_3 := kF BK225.out 3))
    go_meet
    case rel => exact ⟨_, ((a0_3 != 0)), jS, H', ⟨jO⟩, ⟨jK BK225⟩, ⟨jH HB⟩⟩
   ·replace c9 := Bool.eq_false_iff.mpr c9
    subst c9
    rw [if_neg (show ¬ (false = true) by decide)] at H
    have H' := Aside0.mk H
    clear H
    go_wp2_with (first | (go_at_call 39; (with_reducible refine (hurdleref02_plain.calls t226 false _ A8.out).mono ?_); rintro e w' ⟨rfl, ⟨nd, rfl⟩⟩))
    go_meet
    case rel => exact ⟨_, (false), jS, H', ⟨jO⟩, ⟨jK BK225⟩, ⟨jH HB⟩⟩
 case rest =>
  clear HC3
  obtain ⟨kq, x17_2, rfl, HA, HJ2, BK225, HB⟩ := hcut
  cases kq with
  | zero => exact absurd HA.out (by simp [hurdleref02_Right.j0])
  | succ kj2 =>
   have H := HA.out
   clear HA
   simp only [hurdleref02_Right.j0] at H
   by_cases c11 : x17_2 = true
   ·subst c11
    rw [if_pos rfl] at H
    obtain rfl := Option.some.inj H
    go_wp2
    go_ret
    exact ⟨jE, jH HB⟩
   ·replace c11 := Bool.eq_false_iff.mpr c11
    subst c11
    rw [if_neg (show ¬ (false = true) by decide)] at H
    replace H := Option.bind_eq_some_iff.mp H
    obtain ⟨t228, A120, H⟩ := H
    try dsimp only at H
    have A12 := Aside0.mk A120
    clear A120
    by_cases c13 : t228 = true
    ·subst c13
     rw [if_pos rfl] at H
     by_cases c14 : a0_1 ≥ 0
     ·rw [if_pos c14] at H
      have c14b0 : decide (0 ≤ a0_1) = true := dT c14
      clear c14
      by_cases c15 : a0_1 < 256
      ·rw [if_pos c15] at H
       have c15b0 : decide (a0_1 < 256) = true := dT c15
       clear c15
       by_cases c16 : a0_2 ≥ 0
       ·rw [if_pos c16] at H
        have c16b0 : decide (0 ≤ a0_2) = true := dT c16
        clear c16
        obtain rfl := Option.some.inj H
        go_wp2_with (first | ((with_reducible refine gate_callee (f := 37) rfl ?_); refine goesL_ (some 19) rfl rfl Tryd.func37 (by kernel_rfl) rfl #[.int .i64 t226] rfl jZ ?_; (with_reducible refine (hurdleref02_branch.calls t226 true _ A12.out).mono ?_); rintro e w' ⟨rfl, ⟨nd, rfl⟩⟩; refine ⟨_, rfl, ?_⟩; have hcz17_0 : wc.cell? ⟨gb225, 0, none⟩ = some (.int .i64 a0_0) := (kC BK225.out 0).trans rfl; have hcz17_1 : wc.cell? ⟨gb225, 1, none⟩ = some (.int .i64 a0_1) := (kC BK225.out 1).trans rfl; have hcz17_2 : wc.cell? ⟨gb225, 2, none⟩ = some (.int .i64 a0_2) := (kC BK225.out 2).trans rfl; have hcz17_3 : wc.cell? ⟨gb225, 3, none⟩ = some (.int .u32 a0_3) := (kC BK225.out 3).trans rfl; have hfz17_0 := kF BK225.out 0; have hfz17_1 := kF BK225.out 1; have hfz17_2 := kF BK225.out 2; have hfz17_3 := kF BK225.out 3))
        go_ret
        exact ⟨jE, jH HB⟩
       ·rw [if_neg c16] at H
        have c16b0 : decide (0 ≤ a0_2) = false := dF c16
        clear c16
        obtain rfl := Option.some.inj H
        go_wp2_with (first | ((with_reducible refine gate_callee (f := 37) rfl ?_); refine goesL_ (some 19) rfl rfl Tryd.func37 (by kernel_rfl) rfl #[.int .i64 t226] rfl jZ ?_; (with_reducible refine (hurdleref02_branch.calls t226 true _ A12.out).mono ?_); rintro e w' ⟨rfl, ⟨nd, rfl⟩⟩; refine ⟨_, rfl, ?_⟩; have hcz18_0 : wc.cell? ⟨gb225, 0, none⟩ = some (.int .i64 a0_0) := (kC BK225.out 0).trans rfl; have hcz18_1 : wc.cell? ⟨gb225, 1, none⟩ = some (.int .i64 a0_1) := (kC BK225.out 1).trans rfl; have hcz18_2 : wc.cell? ⟨gb225, 2, none⟩ = some (.int .i64 a0_2) := (kC BK225.out 2).trans rfl; have hcz18_3 : wc.cell? ⟨gb225, 3, none⟩ = some (.int .u32 a0_3) := (kC BK225.out 3).trans rfl; have hfz18_0 := kF BK225.out 0; have hfz18_1 := kF BK225.out 1; have hfz18_2 := kF BK225.out 2; have hfz18_3 := kF BK225.out 3))
        go_ret
        exact ⟨jE, jH HB⟩
      ·rw [if_neg c15] at H
       have c15b0 : decide (a0_1 < 256) = false := dF c15
       clear c15
       obtain rfl := Option.some.inj H
       go_wp2_with (first | ((with_reducible refine gate_callee (f := 37) rfl ?_); refine goesL_ (some 19) rfl rfl Tryd.func37 (by kernel_rfl) rfl #[.int .i64 t226] rfl jZ ?_; (with_reducible refine (hurdleref02_branch.calls t226 true _ A12.out).mono ?_); rintro e w' ⟨rfl, ⟨nd, rfl⟩⟩; refine ⟨_, rfl, ?_⟩; have hcz19_0 : wc.cell? ⟨gb225, 0, none⟩ = some (.int .i64 a0_0) := (kC BK225.out 0).trans rfl; have hcz19_1 : wc.cell? ⟨gb225, 1, none⟩ = some (.int .i64 a0_1) := (kC BK225.out 1).trans rfl; have hcz19_2 : wc.cell? ⟨gb225, 2, none⟩ = some (.int .i64 a0_2) := (kC BK225.out 2).trans rfl; have hcz19_3 : wc.cell? ⟨gb225, 3, none⟩ = some (.int .u32 a0_3) := (kC BK225.out 3).trans rfl; have hfz19_0 := kF BK225.out 0; have hfz19_1 := kF BK225.out 1; have hfz19_2 := kF BK225.out 2; have hfz19_3 := kF BK225.out 3))
       go_ret
       exact ⟨jE, jH HB⟩
     ·rw [if_neg c14] at H
      have c14b0 : decide (0 ≤ a0_1) = false := dF c14
      clear c14
      obtain rfl := Option.some.inj H
      go_wp2_with (first | ((with_reducible refine gate_callee (f := 37) rfl ?_); refine goesL_ (some 19) rfl rfl Tryd.func37 (by kernel_rfl) rfl #[.int .i64 t226] rfl jZ ?_; (with_reducible refine (hurdleref02_branch.calls t226 true _ A12.out).mono ?_); rintro e w' ⟨rfl, ⟨nd, rfl⟩⟩; refine ⟨_, rfl, ?_⟩; have hcz20_0 : wc.cell? ⟨gb225, 0, none⟩ = some (.int .i64 a0_0) := (kC BK225.out 0).trans rfl; have hcz20_1 : wc.cell? ⟨gb225, 1, none⟩ = some (.int .i64 a0_1) := (kC BK225.out 1).trans rfl; have hcz20_2 : wc.cell? ⟨gb225, 2, none⟩ = some (.int .i64 a0_2) := (kC BK225.out 2).trans rfl; have hcz20_3 : wc.cell? ⟨gb225, 3, none⟩ = some (.int .u32 a0_3) := (kC BK225.out 3).trans rfl; have hfz20_0 := kF BK225.out 0; have hfz20_1 := kF BK225.out 1; have hfz20_2 := kF BK225.out 2; have hfz20_3 := kF BK225.out 3))
      go_ret
      exact ⟨jE, jH HB⟩
    ·replace c13 := Bool.eq_false_iff.mpr c13
     subst c13
     rw [if_neg (show ¬ (false = true) by decide)] at H
     by_cases c21 : a0_1 = 0
     ·rw [if_pos c21] at H
      have c21b0 : (a0_1 == 0) = true := bI.mpr c21
      have c21b1 : (a0_1 != 0) = false := nF.mpr c21
      clear c21
      obtain rfl := Option.some.inj H
      go_wp2_with (first | ((with_reducible refine gate_callee (f := 37) rfl ?_); refine goesL_ (some 19) rfl rfl Tryd.func37 (by kernel_rfl) rfl #[.int .i64 t226] rfl jZ ?_; (with_reducible refine (hurdleref02_branch.calls t226 false _ A12.out).mono ?_); rintro e w' ⟨rfl, ⟨nd, rfl⟩⟩; refine ⟨_, rfl, ?_⟩; have hcz22_0 : wc.cell? ⟨gb225, 0, none⟩ = some (.int .i64 a0_0) := (kC BK225.out 0).trans rfl; have hcz22_1 : wc.cell? ⟨gb225, 1, none⟩ = some (.int .i64 a0_1) := (kC BK225.out 1).trans rfl; have hcz22_2 : wc.cell? ⟨gb225, 2, none⟩ = some (.int .i64 a0_2) := (kC BK225.out 2).trans rfl; have hcz22_3 : wc.cell? ⟨gb225, 3, none⟩ = some (.int .u32 a0_3) := (kC BK225.out 3).trans rfl; have hfz22_0 := kF BK225.out 0; have hfz22_1 := kF BK225.out 1; have hfz22_2 := kF BK225.out 2; have hfz22_3 := kF BK225.out 3))
      go_ret
      exact ⟨jE, jH HB⟩
     ·rw [if_neg c21] at H
      have c21b0 : (a0_1 == 0) = false := bF.mpr c21
      have c21b1 : (a0_1 != 0) = true := nI.mpr c21
      obtain rfl := Option.some.inj H
      go_wp2_with (first | ((with_reducible refine gate_callee (f := 37) rfl ?_); refine goesL_ (some 19) rfl rfl Tryd.func37 (by kernel_rfl) rfl #[.int .i64 t226] rfl jZ ?_; (with_reducible refine (hurdleref02_branch.calls t226 false _ A12.out).mono ?_); rintro e w' ⟨rfl, ⟨nd, rfl⟩⟩; refine ⟨_, rfl, ?_⟩; have hcz23_0 : wc.cell? ⟨gb225, 0, none⟩ = some (.int .i64 a0_0) := (kC BK225.out 0).trans rfl; have hcz23_1 : wc.cell? ⟨gb225, 1, none⟩ = some (.int .i64 a0_1) := (kC BK225.out 1).trans rfl; have hcz23_2 : wc.cell? ⟨gb225, 2, none⟩ = some (.int .i64 a0_2) := (kC BK225.out 2).trans rfl; have hcz23_3 : wc.cell? ⟨gb225, 3, none⟩ = some (.int .u32 a0_3) := (kC BK225.out 3).trans rfl; have hfz23_0 := kF BK225.out 0; have hfz23_1 := kF BK225.out 1; have hfz23_2 := kF BK225.out 2; have hfz23_3 := kF BK225.out 3))
      go_ret
      exact ⟨jE, jH HB⟩
end Go.Proofs.YtnchbnnijboklaaDoor.M
