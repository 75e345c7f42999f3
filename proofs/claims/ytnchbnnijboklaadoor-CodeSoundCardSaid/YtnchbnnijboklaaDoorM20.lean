/- By a program of this session: what Go functions of the seat compute, as Lean functions, each with a proof that the call of the Go function comes to that. -/
import Derived.Test.YtnchbnnijboklaaDoorM0
import Derived.Test.YtnchbnnijboklaaDoorM10
namespace Go.Proofs.YtnchbnnijboklaaDoor.M
open Go.RowKit Go.Proofs.YtnchbnnijboklaaDoorW.PrintWords Go.Proofs.YtnchbnnijboklaaDoorW.PrintLast Go.Proofs.YtnchbnnijboklaaDoorW.PrintMore
attribute [local go_sem] max2_int min2_int max_two min_two max_three min_three max_four min_four   -- for this text's walks alone
set_option linter.unusedVariables false
set_option linter.unusedSimpArgs false
def hurdleref02_Alu.j0 : Nat → Int → Bool → Int → Int → Int → Int → Option (Int × Bool × Bool)
 | 0, _, _, _, _, _, _ => none
 | k + 1, x5, x14, x279000, x279001, x279002, x279003 => if x14 = true then (some (x279000, false, true)) else (if x5 ≥ 13 then (if x5 ≤ 21 then (some (wrap64 (x279000 - 8), true, true)) else (some (0, false, false))) else (some (0, false, false)))
def hurdleref02_Alu.f (k : Nat) (a0_0 : Int) (a0_1 : Int) (a0_2 : Int) (a0_3 : Int) : Option (Int × Bool × Bool) := (hurdleref02_place.f k a0_0).bind fun t279 => (if t279 ≥ 4 then (hurdleref02_Alu.j0 k t279 (decide (t279 ≤ 12)) a0_0 a0_1 a0_2 a0_3) else (hurdleref02_Alu.j0 k t279 false a0_0 a0_1 a0_2 a0_3))
theorem hurdleref02_Alu.mono_l : ∀ k, (∀ y0 y1 y2 y3 y4 y5, LeO (hurdleref02_Alu.j0 k y0 y1 y2 y3 y4 y5) (hurdleref02_Alu.j0 (k + 1) y0 y1 y2 y3 y4 y5))
 | 0 => fun _ _ _ _ _ _ r h => by simp [hurdleref02_Alu.j0] at h
 | k + 1 => by
  have ih0 := hurdleref02_Alu.mono_l k
  ·intro y0 y1 y2 y3 y4 y5
   unfold hurdleref02_Alu.j0
   repeat' first
   | (with_reducible exact ih0 _ _ _ _ _ _)
   | (with_reducible exact hurdleref02_place.mono _ _)
   | (with_reducible exact LeO.refl _)
   | (with_reducible exact LeO.none _)
   | (with_reducible refine LeO.ite ?_ ?_)
   | (with_reducible refine LeO.bind ?_ (fun _ => ?_))
   | exact ih0 _ _ _ _ _ _
   | exact hurdleref02_place.mono _ _
   | exact LeO.none _
   | refine LeO.ite ?_ ?_
   | refine LeO.bind ?_ (fun _ => ?_)
theorem hurdleref02_Alu.mono : ∀ a0 a1 a2 a3 k, LeO (hurdleref02_Alu.f k a0 a1 a2 a3) (hurdleref02_Alu.f (k + 1) a0 a1 a2 a3) := by
 intro a0 a1 a2 a3 k
 have ih0 := hurdleref02_Alu.mono_l k
 unfold hurdleref02_Alu.f
 repeat' first
   | (with_reducible exact ih0 _ _ _ _ _ _)
   | (with_reducible exact hurdleref02_place.mono _ _)
   | (with_reducible exact LeO.refl _)
   | (with_reducible exact LeO.none _)
   | (with_reducible refine LeO.ite ?_ ?_)
   | (with_reducible refine LeO.bind ?_ (fun _ => ?_))
   | exact ih0 _ _ _ _ _ _
   | exact hurdleref02_place.mono _ _
   | exact LeO.none _
   | refine LeO.ite ?_ ?_
   | refine LeO.bind ?_ (fun _ => ?_)
set_option maxHeartbeats 8000000 in
set_option maxRecDepth 100000 in
theorem hurdleref02_Alu.calls (k : Nat) (a0_0 : Int) (a0_1 : Int) (a0_2 : Int) (a0_3 : Int) (r1 : Int) (r2 : Bool) (r3 : Bool) (w : World) (h : hurdleref02_Alu.f k a0_0 a0_1 a0_2 a0_3 = some (r1, r2, r3)) :
  Calls Tryd.prog 46 #[.agg #[.int .i64 a0_0, .int .i64 a0_1, .int .i64 a0_2, .int .u32 a0_3]] w fun e w' => e = .returned (.tuple #[.int .i64 r1, .bool r2, .bool r3]) ∧ Below w.heap.size w w' := by
 have hu30 := Tryd.underlying30
 have HB := Aside0.mk (Below.refl w.heap.size w)
 have H : ((hurdleref02_place.f k a0_0).bind fun t279 => (if t279 ≥ 4 then (hurdleref02_Alu.j0 k t279 (decide (t279 ≤ 12)) a0_0 a0_1 a0_2 a0_3) else (hurdleref02_Alu.j0 k t279 false a0_0 a0_1 a0_2 a0_3))) = some (r1, r2, r3) := h
 clear h
 replace H := Option.bind_eq_some_iff.mp H
 obtain ⟨t279, A20, H⟩ := H
 try dsimp only at H
 have A2 := Aside0.mk A20
 clear A20
 have HC3 := Aside0.mk H
 clear H
 go_enter Tryd.func46, Tryd.ntmps46
 go_upto_region 2 with (first | ((with_reducible refine gate_dst (N := 1) rfl ?_); refine box_event ?hg (N := 1) ?hd (cs := #[.int .i64 a0_0, .int .i64 a0_1, .int .i64 a0_2, .int .u32 a0_3]) (t := 30) ?hr ?_; (case hd => rfl); (case hg => rfl); (case hr => first | (go_simp; done) | (go_simp; rfl)); intro gb278 hg w4 hbox hb; have n0_ := Aside0.mk (zT (jH HB) hb); have n1_ := Aside0.mk (hbox); have n2_ := Aside0.mk ((by rw [hg]; exact (zZ (jH HB)) : w.heap.size ≤ gb278)); have n3_ := Aside0.mk ((by rw [hg]; exact (zZ (jH HB)) : w.heap.size ≤ gb278)); clear HB; have HB := n0_; have BK278 := n1_; have GW278 := n2_; have GE278 := n3_; clear n0_ n1_ n2_ n3_; clear hb hbox hg; have hcz5_0 : w4.cell? ⟨gb278, 0, none⟩ = some (.int .i64 a0_0) := (kC BK278.out 0).trans rfl; have hcz5_1 : w4.cell? ⟨gb278, 1, none⟩ = some (.int .i64 a0_1) := (kC BK278.out 1).trans rfl; have hcz5_2 : w4.cell? ⟨gb278, 2, none⟩ = some (.int .i64 a0_2) := (kC BK278.out 2).trans rfl; have hcz5_3 : w4.cell? ⟨gb278, 3, none⟩ = some (.int .u32 a0_3) := (kC BK278.out 3).trans rfl; have hfz5_0 := kF BK278.out 0; have hfz5_1 := kF BK278.out 1; have hfz5_2 := kF BK278.out 2; have hfz5_3 := kF BK278.out 3) | ((with_reducible refine gate_callee (f := 38) rfl ?_); refine goesL_ (some 8) rfl rfl Tryd.func38 (by kernel_rfl) rfl #[.int .i64 a0_0] rfl jZ ?_; (with_reducible refine (hurdleref02_place.calls k a0_0 t279 _ A2.out).mono ?_); rintro e w6 ⟨rfl, hb⟩; refine ⟨_, rfl, ?_⟩; have n0_ := Aside0.mk (jB BK278 hb); have n1_ := Aside0.mk (zT (jH HB) hb); clear BK278; clear HB; have BK278 := n0_; have HB := n1_; clear n0_ n1_; (try clear hb); (try clear hb2); (try clear hk); (try clear hi)))
 (try simp only [Act.put, List.setIfInBounds_toArray, List.set_cons_zero, List.set_cons_succ])
 go_cut [14] (fun v14 wc => ∃ (kq : Nat) (x14_2 : Bool), v14 = .bool x14_2 ∧ Aside0 (hurdleref02_Alu.j0 kq t279 x14_2 a0_0 a0_1 a0_2 a0_3 = some (r1, r2, r3)) ∧ Aside0 (kq ≤ k) ∧ Aside0 (wc.heap[gb278]? = some (.cells #[.int .i64 a0_0, .int .i64 a0_1, .int .i64 a0_2, .int .u32 a0_3] 30 (0, 0))) ∧ Aside0 (Below w.heap.size w wc))
 case first =>
  have H := HC3.out
  clear HC3
  by_cases c7 : t279 ≥ 4
  ·rw [if_pos c7] at H
   have c7b0 : decide (4 ≤ t279) = true := dT c7
   clear c7
   (first | rw [c7b0] | (simp only [i64_w, i32_w]; rw [c7b0]) | skip)
   have H' := Aside0.mk H
   clear H
   go_wp2
   go_meet
   case rel => exact ⟨_, (decide (t279 ≤ 12)), jS, H', ⟨jO⟩, ⟨jK BK278⟩, ⟨jH HB⟩⟩
  ·rw [if_neg c7] at H
   have c7b0 : decide (4 ≤ t279) = false := dF c7
   clear c7
   (first | rw [c7b0] | (simp only [i64_w, i32_w]; rw [c7b0]) | skip)
   have H' := Aside0.mk H
   clear H
   go_wp2
   go_meet
   case rel => exact ⟨_, (false), jS, H', ⟨jO⟩, ⟨jK BK278⟩, ⟨jH HB⟩⟩
 case rest =>
  clear HC3
  obtain ⟨kq, x14_2, rfl, HA, HJ2, BK278, HB⟩ := hcut
  cases kq with
  | zero => exact absurd HA.out (by simp [hurdleref02_Alu.j0])
  | succ kj2 =>
   have H := HA.out
   clear HA
   simp only [hurdleref02_Alu.j0] at H
   by_cases c8 : x14_2 = true
   ·subst c8
    rw [if_pos rfl] at H
    simp only [Option.some.injEq, Prod.mk.injEq] at H
    obtain ⟨rfl, rfl, rfl⟩ := H
    have hcz9_0 : wc.cell? ⟨gb278, 0, none⟩ = some (.int .i64 a0_0) := (kC BK278.out 0).trans rfl
    have hcz9_1 : wc.cell? ⟨gb278, 1, none⟩ = some (.int .i64 a0_1) := (kC BK278.out 1).trans rfl
    have hcz9_2 : wc.cell? ⟨gb278, 2, none⟩ = some (.int .i64 a0_2) := (kC BK278.out 2).trans rfl
    have hcz9_3 : wc.cell? ⟨gb278, 3, none⟩ = some (.int .u32 a0_3) := (kC BK278.out 3).trans rfl
    have hfz9_0 := kF BK278.out 0
    have hfz9_1 := kF BK278.out 1
    have hfz9_2 := kF BK278.out 2
    have hfz9_3 := kF BK278.out 3
    go_wp2
    go_ret3
    exact ⟨jE, jH HB⟩
   ·replace c8 := Bool.eq_false_iff.mpr c8
    subst c8
    rw [if_neg (show ¬ (false = true) by decide)] at H
    by_cases c10 : t279 ≥ 13
    ·rw [if_pos c10] at H
     have c10b0 : decide (13 ≤ t279) = true := dT c10
     clear c10
     by_cases c11 : t279 ≤ 21
     ·rw [if_pos c11] at H
      have c11b0 : decide (t279 ≤ 21) = true := dT c11
      clear c11
      simp only [Option.some.injEq, Prod.mk.injEq] at H
      obtain ⟨rfl, rfl, rfl⟩ := H
      have hcz12_0 : wc.cell? ⟨gb278, 0, none⟩ = some (.int .i64 a0_0) := (kC BK278.out 0).trans rfl
      have hcz12_1 : wc.cell? ⟨gb278, 1, none⟩ = some (.int .i64 a0_1) := (kC BK278.out 1).trans rfl
      have hcz12_2 : wc.cell? ⟨gb278, 2, none⟩ = some (.int .i64 a0_2) := (kC BK278.out 2).trans rfl
      have hcz12_3 : wc.cell? ⟨gb278, 3, none⟩ = some (.int .u32 a0_3) := (kC BK278.out 3).trans rfl
      have hfz12_0 := kF BK278.out 0
      have hfz12_1 := kF BK278.out 1
      have hfz12_2 := kF BK278.out 2
      have hfz12_3 := kF BK278.out 3
      go_wp2
      go_ret3
      exact ⟨jE, jH HB⟩
     ·rw [if_neg c11] at H
      have c11b0 : decide (t279 ≤ 21) = false := dF c11
      clear c11
      simp only [Option.some.injEq, Prod.mk.injEq] at H
      obtain ⟨rfl, rfl, rfl⟩ := H
      go_wp2
      go_ret3
      exact ⟨jE, jH HB⟩
    ·rw [if_neg c10] at H
     have c10b0 : decide (13 ≤ t279) = false := dF c10
     clear c10
     simp only [Option.some.injEq, Prod.mk.injEq] at H
     obtain ⟨rfl, rfl, rfl⟩ := H
     go_wp2
     go_ret3
     exact ⟨jE, jH HB⟩
end Go.Proofs.YtnchbnnijboklaaDoor.M
