/- By a program of this session: what Go functions of the seat compute, as Lean functions, each with a proof that the call of the Go function comes to that. -/
import Derived.Test.YtnchbnnijboklaaDoorM0
import Derived.Test.YtnchbnnijboklaaDoorM1
import Derived.Test.YtnchbnnijboklaaDoorM2
import Derived.Test.YtnchbnnijboklaaDoorM3
import Derived.Test.YtnchbnnijboklaaDoorM4
import Derived.Test.YtnchbnnijboklaaDoorM6
namespace Go.Proofs.YtnchbnnijboklaaDoor.M
open Go.RowKit Go.Proofs.YtnchbnnijboklaaDoorW.PrintWords Go.Proofs.YtnchbnnijboklaaDoorW.PrintLast Go.Proofs.YtnchbnnijboklaaDoorW.PrintMore
attribute [local go_sem] max2_int min2_int max_two min_two max_three min_three max_four min_four   -- for this text's walks alone
set_option linter.unusedVariables false
set_option linter.unusedSimpArgs false
attribute [local go_sem high] eqA30
def code_Add.f (k : Nat) (l0 : List (S30)) (a1_0 : Int) (a1_1 : Int) (a1_2 : Int) (a1_3 : Int) : Option ((List (S30)) × Int × Int) := (ins_Right.f k a1_0 a1_1 a1_2 a1_3).bind fun t162 => (if t162 = true then (if a1_0 = 5 then (some (l0, 0, 1)) else ((ins_Branch.f a1_0 a1_1 a1_2 a1_3).bind fun t163 => (if t163 = true then (some (l0, 0, 1)) else ((code_ahead.f l0 (([(⟨a1_0, a1_1, a1_2, a1_3⟩ : S30)] : List (S30)))).bind fun bt167 => (some (bt167.1, bt167.2.1, bt167.2.2)))))) else (some (l0, 0, 1)))
theorem code_Add.mono : ∀ a0 a1 a2 a3 a4 k, LeO (code_Add.f k a0 a1 a2 a3 a4) (code_Add.f (k + 1) a0 a1 a2 a3 a4) := by
 intro a0 a1 a2 a3 a4 k
 unfold code_Add.f
 repeat' first
   | (with_reducible exact ins_Right.mono _ _ _ _ _)
   | (with_reducible exact LeO.refl _)
   | (with_reducible exact LeO.none _)
   | (with_reducible refine LeO.ite ?_ ?_)
   | (with_reducible refine LeO.bind ?_ (fun _ => ?_))
   | exact ins_Right.mono _ _ _ _ _
   | exact LeO.none _
   | refine LeO.ite ?_ ?_
   | refine LeO.bind ?_ (fun _ => ?_)
set_option maxHeartbeats 8000000 in
set_option maxRecDepth 100000 in
theorem code_Add.calls (k : Nat) (P0_ : Nat → Prop) (A0 : Option Addr) (c0 : Nat) (l0 : List (S30)) (a1_0 : Int) (a1_1 : Int) (a1_2 : Int) (a1_3 : Int) (r1 : List (S30)) (r2 : Int) (r3 : Int) (w : World) (hs0 : Kd.V k30 30 w w.heap.size (fun k_ => P0_ k_) (.slice A0 l0.length c0) l0) (hG : Glob w) (h : code_Add.f k l0 a1_0 a1_1 a1_2 a1_3 = some (r1, r2, r3)) :
  Calls Tryd.prog 22 #[.slice A0 l0.length c0, .agg #[.int .i64 a1_0, .int .i64 a1_1, .int .i64 a1_2, .int .u32 a1_3]] w fun e w' => ∃ v0_ : Value, e = .returned (.tuple #[v0_, .int .i64 r2, .int .i64 r3]) ∧ Kd.V k30 30 w' w.heap.size (fun k_ => (P0_ k_ ∨ w.heap.size ≤ k_)) v0_ r1 ∧ Below w.heap.size w w' := by
 have hu30 := Tryd.underlying30
 have HG := Aside0.mk hG
 clear hG
 have HO0 := Aside0.mk (show Kd.V k30 30 w w.heap.size (fun k_ => (P0_ k_ ∨ w.heap.size ≤ k_)) (.slice A0 l0.length c0) l0 from Kd.V_mono hs0 (fun k_ hk => .inl hk))
 have HB := Aside0.mk (Below.refl w.heap.size w)
 have H : ((ins_Right.f k a1_0 a1_1 a1_2 a1_3).bind fun t162 => (if t162 = true then (if a1_0 = 5 then (some (l0, 0, 1)) else ((ins_Branch.f a1_0 a1_1 a1_2 a1_3).bind fun t163 => (if t163 = true then (some (l0, 0, 1)) else ((code_ahead.f l0 (([(⟨a1_0, a1_1, a1_2, a1_3⟩ : S30)] : List (S30)))).bind fun bt167 => (some (bt167.1, bt167.2.1, bt167.2.2)))))) else (some (l0, 0, 1)))) = some (r1, r2, r3) := h
 clear h
 replace H := Option.bind_eq_some_iff.mp H
 obtain ⟨t162, A30, H⟩ := H
 try dsimp only at H
 have A3 := Aside0.mk A30
 clear A30
 by_cases c4 : t162 = true
 ·subst c4
  rw [if_pos rfl] at H
  by_cases c5 : a1_0 = 5
  ·rw [if_pos c5] at H
   have c5b0 : (a1_0 == 5) = true := bI.mpr c5
   have c5b1 : (a1_0 != 5) = false := nF.mpr c5
   clear c5
   simp only [Option.some.injEq, Prod.mk.injEq] at H
   obtain ⟨rfl, rfl, rfl⟩ := H
   go_enter Tryd.func22, Tryd.ntmps22
   go_wp2_with (first | ((with_reducible refine gate_dst (N := 3) rfl ?_); refine box_event ?hg (N := 3) ?hd (cs := #[.int .i64 a1_0, .int .i64 a1_1, .int .i64 a1_2, .int .u32 a1_3]) (t := 30) ?hr ?_; (case hd => rfl); (case hg => rfl); (case hr => first | (go_simp; done) | (go_simp; rfl)); intro gb161 hg w6 hbox hb; have n0_ := Aside0.mk (Kd.V_below (Kd.V_elderB (jV HO0) gb161 (Nat.le_of_eq hg.symm)) hb); have n1_ := Aside0.mk (zT (jH HB) hb); have n2_ := Aside0.mk (hbox); have n3_ := Aside0.mk ((by rw [hg]; exact (zZ (jH HB)) : w.heap.size ≤ gb161)); have n4_ := Aside0.mk ((by rw [hg]; exact (zZ (jH HB)) : w.heap.size ≤ gb161)); clear HO0; clear HB; have HO0 := n0_; have HB := n1_; have BK161 := n2_; have GW161 := n3_; have GE161 := n4_; clear n0_ n1_ n2_ n3_ n4_; clear hb hbox hg; have hcz7_0 : w6.cell? ⟨gb161, 0, none⟩ = some (.int .i64 a1_0) := (kC BK161.out 0).trans rfl; have hcz7_1 : w6.cell? ⟨gb161, 1, none⟩ = some (.int .i64 a1_1) := (kC BK161.out 1).trans rfl; have hcz7_2 : w6.cell? ⟨gb161, 2, none⟩ = some (.int .i64 a1_2) := (kC BK161.out 2).trans rfl; have hcz7_3 : w6.cell? ⟨gb161, 3, none⟩ = some (.int .u32 a1_3) := (kC BK161.out 3).trans rfl; have hfz7_0 := kF BK161.out 0; have hfz7_1 := kF BK161.out 1; have hfz7_2 := kF BK161.out 2; have hfz7_3 := kF BK161.out 3) | ((with_reducible refine gate_callee (f := 28) rfl ?_); refine goesL_ (some 8) rfl rfl Tryd.func28 (by kernel_rfl) rfl #[.agg #[.int .i64 a1_0, .int .i64 a1_1, .int .i64 a1_2, .int .u32 a1_3]] rfl jZ ?_; (with_reducible refine (ins_Right.calls k a1_0 a1_1 a1_2 a1_3 true _ ?side1 A3.out).mono ?_); (case side1 => exact Glob.below HG.out (jH HB)); rintro e w8 ⟨rfl, hb⟩; refine ⟨_, rfl, ?_⟩; have n0_ := Aside0.mk (Kd.V_below (jV HO0) hb); have n1_ := Aside0.mk (jB BK161 hb); have n2_ := Aside0.mk (zT (jH HB) hb); clear HO0; clear BK161; clear HB; have HO0 := n0_; have BK161 := n1_; have HB := n2_; clear n0_ n1_ n2_; (try clear hb); (try clear hb2); (try clear hk); (try clear hi); have hcz9_0 : w8.cell? ⟨gb161, 0, none⟩ = some (.int .i64 a1_0) := (kC BK161.out 0).trans rfl; have hcz9_1 : w8.cell? ⟨gb161, 1, none⟩ = some (.int .i64 a1_1) := (kC BK161.out 1).trans rfl; have hcz9_2 : w8.cell? ⟨gb161, 2, none⟩ = some (.int .i64 a1_2) := (kC BK161.out 2).trans rfl; have hcz9_3 : w8.cell? ⟨gb161, 3, none⟩ = some (.int .u32 a1_3) := (kC BK161.out 3).trans rfl; have hfz9_0 := kF BK161.out 0; have hfz9_1 := kF BK161.out 1; have hfz9_2 := kF BK161.out 2; have hfz9_3 := kF BK161.out 3))
   go_ret3
   exact ⟨_, jE, by (with_reducible repeat (first | apply Kd.V_alloc | apply Kd.V_drewN | apply Kd.V_drew)); exact Kd.V_mono HO0.out (fun _ hk => hk.1), jH HB⟩
  ·rw [if_neg c5] at H
   have c5b0 : (a1_0 == 5) = false := bF.mpr c5
   have c5b1 : (a1_0 != 5) = true := nI.mpr c5
   replace H := Option.bind_eq_some_iff.mp H
   obtain ⟨t163, A100, H⟩ := H
   try dsimp only at H
   have A10 := Aside0.mk A100
   clear A100
   by_cases c11 : t163 = true
   ·subst c11
    rw [if_pos rfl] at H
    simp only [Option.some.injEq, Prod.mk.injEq] at H
    obtain ⟨rfl, rfl, rfl⟩ := H
    go_enter Tryd.func22, Tryd.ntmps22
    go_wp2_with (first | ((with_reducible refine gate_dst (N := 3) rfl ?_); refine box_event ?hg (N := 3) ?hd (cs := #[.int .i64 a1_0, .int .i64 a1_1, .int .i64 a1_2, .int .u32 a1_3]) (t := 30) ?hr ?_; (case hd => rfl); (case hg => rfl); (case hr => first | (go_simp; done) | (go_simp; rfl)); intro gb161 hg w12 hbox hb; have n0_ := Aside0.mk (Kd.V_below (Kd.V_elderB (jV HO0) gb161 (Nat.le_of_eq hg.symm)) hb); have n1_ := Aside0.mk (zT (jH HB) hb); have n2_ := Aside0.mk (hbox); have n3_ := Aside0.mk ((by rw [hg]; exact (zZ (jH HB)) : w.heap.size ≤ gb161)); have n4_ := Aside0.mk ((by rw [hg]; exact (zZ (jH HB)) : w.heap.size ≤ gb161)); clear HO0; clear HB; have HO0 := n0_; have HB := n1_; have BK161 := n2_; have GW161 := n3_; have GE161 := n4_; clear n0_ n1_ n2_ n3_ n4_; clear hb hbox hg; have hcz13_0 : w12.cell? ⟨gb161, 0, none⟩ = some (.int .i64 a1_0) := (kC BK161.out 0).trans rfl; have hcz13_1 : w12.cell? ⟨gb161, 1, none⟩ = some (.int .i64 a1_1) := (kC BK161.out 1).trans rfl; have hcz13_2 : w12.cell? ⟨gb161, 2, none⟩ = some (.int .i64 a1_2) := (kC BK161.out 2).trans rfl; have hcz13_3 : w12.cell? ⟨gb161, 3, none⟩ = some (.int .u32 a1_3) := (kC BK161.out 3).trans rfl; have hfz13_0 := kF BK161.out 0; have hfz13_1 := kF BK161.out 1; have hfz13_2 := kF BK161.out 2; have hfz13_3 := kF BK161.out 3) | ((with_reducible refine gate_callee (f := 28) rfl ?_); refine goesL_ (some 8) rfl rfl Tryd.func28 (by kernel_rfl) rfl #[.agg #[.int .i64 a1_0, .int .i64 a1_1, .int .i64 a1_2, .int .u32 a1_3]] rfl jZ ?_; (with_reducible refine (ins_Right.calls k a1_0 a1_1 a1_2 a1_3 true _ ?side1 A3.out).mono ?_); (case side1 => exact Glob.below HG.out (jH HB)); rintro e w14 ⟨rfl, hb⟩; refine ⟨_, rfl, ?_⟩; have n0_ := Aside0.mk (Kd.V_below (jV HO0) hb); have n1_ := Aside0.mk (jB BK161 hb); have n2_ := Aside0.mk (zT (jH HB) hb); clear HO0; clear BK161; clear HB; have HO0 := n0_; have BK161 := n1_; have HB := n2_; clear n0_ n1_ n2_; (try clear hb); (try clear hb2); (try clear hk); (try clear hi); have hcz15_0 : w14.cell? ⟨gb161, 0, none⟩ = some (.int .i64 a1_0) := (kC BK161.out 0).trans rfl; have hcz15_1 : w14.cell? ⟨gb161, 1, none⟩ = some (.int .i64 a1_1) := (kC BK161.out 1).trans rfl; have hcz15_2 : w14.cell? ⟨gb161, 2, none⟩ = some (.int .i64 a1_2) := (kC BK161.out 2).trans rfl; have hcz15_3 : w14.cell? ⟨gb161, 3, none⟩ = some (.int .u32 a1_3) := (kC BK161.out 3).trans rfl; have hfz15_0 := kF BK161.out 0; have hfz15_1 := kF BK161.out 1; have hfz15_2 := kF BK161.out 2; have hfz15_3 := kF BK161.out 3) | (go_at_call 23; (with_reducible refine (ins_Branch.calls a1_0 a1_1 a1_2 a1_3 true _ ?side1 A10.out).mono ?_); (case side1 => exact Glob.below HG.out (jH HB)); rintro e w16 ⟨rfl, hb⟩; have n0_ := Aside0.mk (Kd.V_below (jV HO0) hb); have n1_ := Aside0.mk (jB BK161 hb); have n2_ := Aside0.mk (zT (jH HB) hb); clear HO0; clear BK161; clear HB; have HO0 := n0_; have BK161 := n1_; have HB := n2_; clear n0_ n1_ n2_; (try clear hb); (try clear hb2); (try clear hk); (try clear hi)))
    go_ret3
    exact ⟨_, jE, by (with_reducible repeat (first | apply Kd.V_alloc | apply Kd.V_drewN | apply Kd.V_drew)); exact Kd.V_mono HO0.out (fun _ hk => hk.1), jH HB⟩
   ·replace c11 := Bool.eq_false_iff.mpr c11
    subst c11
    rw [if_neg (show ¬ (false = true) by decide)] at H
    obtain ⟨y164, hy164⟩ : ∃ y_ : List (S30), y_ = (([(⟨a1_0, a1_1, a1_2, a1_3⟩ : S30)] : List (S30))) := ⟨_, rfl⟩
    simp only [Option.bind_some, ← hy164] at H
    have Ny164 := Aside0.mk hy164
    clear hy164
    replace H := Option.bind_eq_some_iff.mp H
    obtain ⟨⟨t167, t170, t171⟩, A170, H⟩ := H
    try dsimp only at H
    have A17 := Aside0.mk A170
    clear A170
    simp only [Option.some.injEq, Prod.mk.injEq] at H
    obtain ⟨rfl, rfl, rfl⟩ := H
    go_enter Tryd.func22, Tryd.ntmps22
    go_wp2_with (first | ((with_reducible refine gate_dst (N := 3) rfl ?_); refine box_event ?hg (N := 3) ?hd (cs := #[.int .i64 a1_0, .int .i64 a1_1, .int .i64 a1_2, .int .u32 a1_3]) (t := 30) ?hr ?_; (case hd => rfl); (case hg => rfl); (case hr => first | (go_simp; done) | (go_simp; rfl)); intro gb161 hg w18 hbox hb; have n0_ := Aside0.mk (Kd.V_below (Kd.V_elderB (jV HO0) gb161 (Nat.le_of_eq hg.symm)) hb); have n1_ := Aside0.mk (zT (jH HB) hb); have n2_ := Aside0.mk (hbox); have n3_ := Aside0.mk ((by rw [hg]; exact (zZ (jH HB)) : w.heap.size ≤ gb161)); have n4_ := Aside0.mk ((by rw [hg]; exact (zZ (jH HB)) : w.heap.size ≤ gb161)); clear HO0; clear HB; have HO0 := n0_; have HB := n1_; have BK161 := n2_; have GW161 := n3_; have GE161 := n4_; clear n0_ n1_ n2_ n3_ n4_; clear hb hbox hg; have hcz19_0 : w18.cell? ⟨gb161, 0, none⟩ = some (.int .i64 a1_0) := (kC BK161.out 0).trans rfl; have hcz19_1 : w18.cell? ⟨gb161, 1, none⟩ = some (.int .i64 a1_1) := (kC BK161.out 1).trans rfl; have hcz19_2 : w18.cell? ⟨gb161, 2, none⟩ = some (.int .i64 a1_2) := (kC BK161.out 2).trans rfl; have hcz19_3 : w18.cell? ⟨gb161, 3, none⟩ = some (.int .u32 a1_3) := (kC BK161.out 3).trans rfl; have hfz19_0 := kF BK161.out 0; have hfz19_1 := kF BK161.out 1; have hfz19_2 := kF BK161.out 2; have hfz19_3 := kF BK161.out 3) | ((with_reducible refine gate_callee (f := 28) rfl ?_); refine goesL_ (some 8) rfl rfl Tryd.func28 (by kernel_rfl) rfl #[.agg #[.int .i64 a1_0, .int .i64 a1_1, .int .i64 a1_2, .int .u32 a1_3]] rfl jZ ?_; (with_reducible refine (ins_Right.calls k a1_0 a1_1 a1_2 a1_3 true _ ?side1 A3.out).mono ?_); (case side1 => exact Glob.below HG.out (jH HB)); rintro e w20 ⟨rfl, hb⟩; refine ⟨_, rfl, ?_⟩; have n0_ := Aside0.mk (Kd.V_below (jV HO0) hb); have n1_ := Aside0.mk (jB BK161 hb); have n2_ := Aside0.mk (zT (jH HB) hb); clear HO0; clear BK161; clear HB; have HO0 := n0_; have BK161 := n1_; have HB := n2_; clear n0_ n1_ n2_; (try clear hb); (try clear hb2); (try clear hk); (try clear hi); have hcz21_0 : w20.cell? ⟨gb161, 0, none⟩ = some (.int .i64 a1_0) := (kC BK161.out 0).trans rfl; have hcz21_1 : w20.cell? ⟨gb161, 1, none⟩ = some (.int .i64 a1_1) := (kC BK161.out 1).trans rfl; have hcz21_2 : w20.cell? ⟨gb161, 2, none⟩ = some (.int .i64 a1_2) := (kC BK161.out 2).trans rfl; have hcz21_3 : w20.cell? ⟨gb161, 3, none⟩ = some (.int .u32 a1_3) := (kC BK161.out 3).trans rfl; have hfz21_0 := kF BK161.out 0; have hfz21_1 := kF BK161.out 1; have hfz21_2 := kF BK161.out 2; have hfz21_3 := kF BK161.out 3) | (go_at_call 23; (with_reducible refine (ins_Branch.calls a1_0 a1_1 a1_2 a1_3 false _ ?side1 A10.out).mono ?_); (case side1 => exact Glob.below HG.out (jH HB)); rintro e w22 ⟨rfl, hb⟩; have n0_ := Aside0.mk (Kd.V_below (jV HO0) hb); have n1_ := Aside0.mk (jB BK161 hb); have n2_ := Aside0.mk (zT (jH HB) hb); clear HO0; clear BK161; clear HB; have HO0 := n0_; have BK161 := n1_; have HB := n2_; clear n0_ n1_ n2_; (try clear hb); (try clear hb2); (try clear hk); (try clear hi); have hcz23_0 : w22.cell? ⟨gb161, 0, none⟩ = some (.int .i64 a1_0) := (kC BK161.out 0).trans rfl; have hcz23_1 : w22.cell? ⟨gb161, 1, none⟩ = some (.int .i64 a1_1) := (kC BK161.out 1).trans rfl; have hcz23_2 : w22.cell? ⟨gb161, 2, none⟩ = some (.int .i64 a1_2) := (kC BK161.out 2).trans rfl; have hcz23_3 : w22.cell? ⟨gb161, 3, none⟩ = some (.int .u32 a1_3) := (kC BK161.out 3).trans rfl; have hfz23_0 := kF BK161.out 0; have hfz23_1 := kF BK161.out 1; have hfz23_2 := kF BK161.out 2; have hfz23_3 := kF BK161.out 3) | ((with_reducible refine gate_dst (N := 22) rfl ?_); refine Kd.R_lit k30 _ 30 ?hg (N := 22) ?hd (xs := ([(⟨a1_0, a1_1, a1_2, a1_3⟩ : S30)] : List (S30))) (inner := [.int .i64 a1_0, .int .i64 a1_1, .int .i64 a1_2, .int .u32 a1_3]) (ok := fun _ => True) (okp := fun _ => True) ?hr ?hp (fun _ hk => hk) trivial (Below.refl _ _) (Nat.le_refl _) (by simp) ?_; (case hd => rfl); (case hg => rfl); (case hr => first | (go_simp; done) | (go_simp; rfl)); (case hp => exact (Reps.c4 (show Kd.M k30 _ _ _ (⟨a1_0, a1_1, a1_2, a1_3⟩ : S30) [.int .i64 a1_0, .int .i64 a1_1, .int .i64 a1_2, .int .u32 a1_3] from (k30_mkM _ _ _ (⟨a1_0, a1_1, a1_2, a1_3⟩ : S30) )) (Reps.none _ _))); intro v165 w24 ho25 hb hg_ hnew_; clear hg_ hnew_; (first | rw [← Ny164.out] at ho25 | (simp only [Int.reduceToNat] at ho25; rw [← Ny164.out] at ho25)); have n0_ := Aside0.mk (Kd.V_elder' (jV HO0) (Kd.R_base ho25) hb); have n1_ := Aside0.mk (Kd.R_lower (Kd.R_newB (Kd.R_newM (M := fun k_ => (w.heap.size ≤ k_)) ho25 (zZ (jH HB)) (fun k_ h_ => h_)) (g := gb161) (o := .cells #[.int .i64 a1_0, .int .i64 a1_1, .int .i64 a1_2, .int .u32 a1_3] 30 (0, 0)) (jK BK161)) (zZ (jH HB))); have n2_ := Aside0.mk (jB BK161 hb); have n3_ := Aside0.mk (zT (jH HB) hb); clear HO0; clear BK161; clear HB; have HO0 := n0_; have HO166 := n1_; have BK161 := n2_; have HB := n3_; clear n0_ n1_ n2_ n3_; clear hb ho25; obtain ⟨Ao26, co26, eo26⟩ := Kd.R_slice HO166.out; subst eo26) | ((with_reducible refine gate_callee (f := 26) rfl ?_); refine goesL_ (some 23) rfl rfl Tryd.func26 (by kernel_rfl) rfl #[.slice A0 l0.length c0, .slice Ao26 y164.length co26] rfl jZ ?_; (with_reducible refine (code_ahead.calls (fun k_ => (((P0_ k_ ∨ w.heap.size ≤ k_) ∧ k_ ≠ gb161) ∧ some k_ ≠ (.slice Ao26 y164.length co26 : Value).ownBlock)) _ _ l0 _ _ y164 t167 t170 t171 _ ?side1 ?side2 ?side3 A17.out).mono ?_); (case side1 => exact HO0.out); (case side2 => exact jC (Kd.R_reads' HO166.out).2.2); (case side3 => exact (Kd.R_reads' HO166.out).2.1); rintro e w27 ⟨v168, rfl, ho0, hb⟩; refine ⟨_, rfl, ?_⟩; have n0_ := Aside0.mk (Kd.V_below (jV HO0) hb); have n1_ := Aside0.mk (Kd.R_below (jR HO166) hb); have n2_ := Aside0.mk (Kd.V_lower (Kd.V_mono (ok' := fun k_ => (P0_ k_ ∨ w.heap.size ≤ k_) ∧ some k_ ≠ (.slice Ao26 y164.length co26 : Value).ownBlock ∧ k_ ≠ gb161) ho0 (fun k_ hk_ => ⟨Or.elim hk_ (fun hs_ => hs_.1.1) (fun hn_ => (.inr (Nat.le_trans (zZ (jH HB)) hn_))), Or.elim hk_ (fun hs_ => hs_.2) (fun hn_ => (Kd.fresh' (Kd.R_lt (jR HO166)) k_ hn_)), Or.elim hk_ (fun hs_ => hs_.1.2) (fun hn_ => (Kd.freshB (g := gb161) (o := .cells #[.int .i64 a1_0, .int .i64 a1_1, .int .i64 a1_2, .int .u32 a1_3] 30 (0, 0)) (jK BK161) k_ hn_))⟩)) (zZ (jH HB))); have n3_ := Aside0.mk (jB BK161 hb); have n4_ := Aside0.mk (zT (jH HB) hb); clear HO0; clear HO166; clear BK161; clear HB; have HO0 := n0_; have HO166 := n1_; have HO169 := n2_; have BK161 := n3_; have HB := n4_; clear n0_ n1_ n2_ n3_ n4_; (try clear hb); (try clear hb2); (try clear hk); (try clear hi); (try clear ho0)))
    go_ret3
    exact ⟨_, jE, by (with_reducible repeat (first | apply Kd.V_alloc | apply Kd.V_drewN | apply Kd.V_drew)); exact Kd.V_mono HO169.out (fun _ hk => hk.1), jH HB⟩
 ·replace c4 := Bool.eq_false_iff.mpr c4
  subst c4
  rw [if_neg (show ¬ (false = true) by decide)] at H
  simp only [Option.some.injEq, Prod.mk.injEq] at H
  obtain ⟨rfl, rfl, rfl⟩ := H
  go_enter Tryd.func22, Tryd.ntmps22
  go_wp2_with (first | ((with_reducible refine gate_dst (N := 3) rfl ?_); refine box_event ?hg (N := 3) ?hd (cs := #[.int .i64 a1_0, .int .i64 a1_1, .int .i64 a1_2, .int .u32 a1_3]) (t := 30) ?hr ?_; (case hd => rfl); (case hg => rfl); (case hr => first | (go_simp; done) | (go_simp; rfl)); intro gb161 hg w28 hbox hb; have n0_ := Aside0.mk (Kd.V_below (Kd.V_elderB (jV HO0) gb161 (Nat.le_of_eq hg.symm)) hb); have n1_ := Aside0.mk (zT (jH HB) hb); have n2_ := Aside0.mk (hbox); have n3_ := Aside0.mk ((by rw [hg]; exact (zZ (jH HB)) : w.heap.size ≤ gb161)); have n4_ := Aside0.mk ((by rw [hg]; exact (zZ (jH HB)) : w.heap.size ≤ gb161)); clear HO0; clear HB; have HO0 := n0_; have HB := n1_; have BK161 := n2_; have GW161 := n3_; have GE161 := n4_; clear n0_ n1_ n2_ n3_ n4_; clear hb hbox hg; have hcz29_0 : w28.cell? ⟨gb161, 0, none⟩ = some (.int .i64 a1_0) := (kC BK161.out 0).trans rfl; have hcz29_1 : w28.cell? ⟨gb161, 1, none⟩ = some (.int .i64 a1_1) := (kC BK161.out 1).trans rfl; have hcz29_2 : w28.cell? ⟨gb161, 2, none⟩ = some (.int .i64 a1_2) := (kC BK161.out 2).trans rfl; have hcz29_3 : w28.cell? ⟨gb161, 3, none⟩ = some (.int .u32 a1_3) := (kC BK161.out 3).trans rfl; have hfz29_0 := kF BK161.out 0; have hfz29_1 := kF BK161.out 1; have hfz29_2 := kF BK161.out 2; have hfz29_3 := kF BK161.out 3) | ((with_reducible refine gate_callee (f := 28) rfl ?_); refine goesL_ (some 8) rfl rfl Tryd.func28 (by kernel_rfl) rfl #[.agg #[.int .i64 a1_0, .int .i64 a1_1, .int .i64 a1_2, .int .u32 a1_3]] rfl jZ ?_; (with_reducible refine (ins_Right.calls k a1_0 a1_1 a1_2 a1_3 false _ ?side1 A3.out).mono ?_); (case side1 => exact Glob.below HG.out (jH HB)); rintro e w30 ⟨rfl, hb⟩; refine ⟨_, rfl, ?_⟩; have n0_ := Aside0.mk (Kd.V_below (jV HO0) hb); have n1_ := Aside0.mk (jB BK161 hb); have n2_ := Aside0.mk (zT (jH HB) hb); clear HO0; clear BK161; clear HB; have HO0 := n0_; have BK161 := n1_; have HB := n2_; clear n0_ n1_ n2_; (try clear hb); (try clear hb2); (try clear hk); (try clear hi)))
  go_ret3
  exact ⟨_, jE, by (with_reducible repeat (first | apply Kd.V_alloc | apply Kd.V_drewN | apply Kd.V_drew)); exact Kd.V_mono HO0.out (fun _ hk => hk.1), jH HB⟩
def hurdlelaw12_knows.f (k : Nat)  : Option (Bool) := (code_Add.f k ([] : List (S30)) 6 0 0 0).bind fun bt172 => ((code_Add.f k bt172.1 6 0 0 1).bind fun bt177 => ((code_Branch.f k bt177.1 21 5 bt177.2.1 bt172.2.1).bind fun bt182 => ((code_Jump.f bt182.1 bt182.2.1).bind fun bt187 => (if bt172.2.1 = 1 then (if bt177.2.1 = 2 then (if bt182.2.1 = 3 then (if bt182.2.2 = 0 then (if (bt182.1.length : Int) = 3 then (if 0 < (bt182.1.length : Int) then (if (((rd_T30 bt182.1 0).f0) == 21 && (((rd_T30 bt182.1 0).f1) == 0 && (((rd_T30 bt182.1 0).f2) == 1 && (((rd_T30 bt182.1 0).f3) == 5)))) = true then (if 1 < (bt182.1.length : Int) then (if ((rd_T30 bt182.1 1).f3) = 1 then (if bt187.2.1 = 3 then (if bt187.2.2 = 0 then ((ins_Branch.f ((rd_T30 bt182.1 0).f0) ((rd_T30 bt182.1 0).f1) ((rd_T30 bt182.1 0).f2) ((rd_T30 bt182.1 0).f3)).bind fun t195 => (some t195)) else (none)) else (none)) else (none)) else (none)) else (none)) else (none)) else (none)) else (none)) else (none)) else (none)) else (none)))))
theorem hurdlelaw12_knows.mono : ∀ k, LeO (hurdlelaw12_knows.f k ) (hurdlelaw12_knows.f (k + 1) ) := by
 intro  k
 unfold hurdlelaw12_knows.f
 repeat' first
   | (with_reducible exact code_Add.mono _ _ _ _ _ _)
   | (with_reducible exact code_Branch.mono _ _ _ _ _ _)
   | (with_reducible exact LeO.refl _)
   | (with_reducible exact LeO.none _)
   | (with_reducible refine LeO.ite ?_ ?_)
   | (with_reducible refine LeO.bind ?_ (fun _ => ?_))
   | exact code_Add.mono _ _ _ _ _ _
   | exact code_Branch.mono _ _ _ _ _ _
   | exact LeO.none _
   | refine LeO.ite ?_ ?_
   | refine LeO.bind ?_ (fun _ => ?_)
set_option maxHeartbeats 8000000 in
set_option maxRecDepth 100000 in
theorem hurdlelaw12_knows.calls (k : Nat)  (r : Bool) (w : World) (hG : Glob w) (h : hurdlelaw12_knows.f k  = some r) :
  Calls Tryd.prog 8 #[] w fun e w' => e = .returned (.bool r) ∧ Below w.heap.size w w' := by
 have hu30 := Tryd.underlying30
 have HG := Aside0.mk hG
 clear hG
 have HB := Aside0.mk (Below.refl w.heap.size w)
 have H : ((code_Add.f k ([] : List (S30)) 6 0 0 0).bind fun bt172 => ((code_Add.f k bt172.1 6 0 0 1).bind fun bt177 => ((code_Branch.f k bt177.1 21 5 bt177.2.1 bt172.2.1).bind fun bt182 => ((code_Jump.f bt182.1 bt182.2.1).bind fun bt187 => (if bt172.2.1 = 1 then (if bt177.2.1 = 2 then (if bt182.2.1 = 3 then (if bt182.2.2 = 0 then (if (bt182.1.length : Int) = 3 then (if 0 < (bt182.1.length : Int) then (if (((rd_T30 bt182.1 0).f0) == 21 && (((rd_T30 bt182.1 0).f1) == 0 && (((rd_T30 bt182.1 0).f2) == 1 && (((rd_T30 bt182.1 0).f3) == 5)))) = true then (if 1 < (bt182.1.length : Int) then (if ((rd_T30 bt182.1 1).f3) = 1 then (if bt187.2.1 = 3 then (if bt187.2.2 = 0 then ((ins_Branch.f ((rd_T30 bt182.1 0).f0) ((rd_T30 bt182.1 0).f1) ((rd_T30 bt182.1 0).f2) ((rd_T30 bt182.1 0).f3)).bind fun t195 => (some t195)) else (none)) else (none)) else (none)) else (none)) else (none)) else (none)) else (none)) else (none)) else (none)) else (none)) else (none)))))) = some r := h
 clear h
 replace H := Option.bind_eq_some_iff.mp H
 obtain ⟨⟨t172, t175, t176⟩, A10, H⟩ := H
 try dsimp only at H
 have A1 := Aside0.mk A10
 clear A10
 replace H := Option.bind_eq_some_iff.mp H
 obtain ⟨⟨t177, t180, t181⟩, A20, H⟩ := H
 try dsimp only at H
 have A2 := Aside0.mk A20
 clear A20
 replace H := Option.bind_eq_some_iff.mp H
 obtain ⟨⟨t182, t185, t186⟩, A30, H⟩ := H
 try dsimp only at H
 have A3 := Aside0.mk A30
 clear A30
 replace H := Option.bind_eq_some_iff.mp H
 obtain ⟨⟨t187, t190, t191⟩, A40, H⟩ := H
 try dsimp only at H
 have A4 := Aside0.mk A40
 clear A40
 by_cases c5 : t175 = 1
 ·rw [if_pos c5] at H
  have c5b0 : (t175 == 1) = true := bI.mpr c5
  have c5b1 : (t175 != 1) = false := nF.mpr c5
  clear c5
  by_cases c6 : t180 = 2
  ·rw [if_pos c6] at H
   have c6b0 : (t180 == 2) = true := bI.mpr c6
   have c6b1 : (t180 != 2) = false := nF.mpr c6
   clear c6
   by_cases c7 : t185 = 3
   ·rw [if_pos c7] at H
    have c7b0 : (t185 == 3) = true := bI.mpr c7
    have c7b1 : (t185 != 3) = false := nF.mpr c7
    clear c7
    by_cases c8 : t186 = 0
    ·rw [if_pos c8] at H
     have c8b0 : (t186 == 0) = true := bI.mpr c8
     have c8b1 : (t186 != 0) = false := nF.mpr c8
     clear c8
     by_cases c9 : (t182.length : Int) = 3
     ·rw [if_pos c9] at H
      have c9b0 : ((t182.length : Int) == 3) = true := bI.mpr c9
      have c9b1 : ((t182.length : Int) != 3) = false := nF.mpr c9
      clear c9
      by_cases c10 : 0 < (t182.length : Int)
      ·rw [if_pos c10] at H
       have c10b0 : decide (0 < (t182.length : Int)) = true := dT c10
       have c10b1 : decide (0 < t182.length) = true := dT (by omega)
       clear c10
       by_cases c11 : (((rd_T30 t182 0).f0) == 21 && (((rd_T30 t182 0).f1) == 0 && (((rd_T30 t182 0).f2) == 1 && (((rd_T30 t182 0).f3) == 5)))) = true
       ·rw [if_pos c11] at H
        have c11b0 : (((rd_T30 t182 0).f0) == 21 && (((rd_T30 t182 0).f1) == 0 && (((rd_T30 t182 0).f2) == 1 && (((rd_T30 t182 0).f3) == 5)))) = true := c11
        (try (have c11b1 : decide (((rd_T30 t182 0).f0) = 21 && (((rd_T30 t182 0).f1) == 0 && (((rd_T30 t182 0).f2) == 1 && (((rd_T30 t182 0).f3) == 5)))) = true := by simpa using c11))
        (try (have c11b2 : (((rd_T30 t182 0).f0) == 21 && (((rd_T30 t182 0).f1) == 0 && (((rd_T30 t182 0).f2) == 1 && (((rd_T30 t182 0).f3) == 5)))) = true := by simpa using c11))
        clear c11
        by_cases c12 : 1 < (t182.length : Int)
        ·rw [if_pos c12] at H
         have c12b0 : decide (1 < (t182.length : Int)) = true := dT c12
         have c12b1 : decide (1 < t182.length) = true := dT (by omega)
         clear c12
         by_cases c13 : ((rd_T30 t182 1).f3) = 1
         ·rw [if_pos c13] at H
          have c13b0 : (((rd_T30 t182 1).f3) == 1) = true := bI.mpr c13
          have c13b1 : (((rd_T30 t182 1).f3) != 1) = false := nF.mpr c13
          clear c13
          by_cases c14 : t190 = 3
          ·rw [if_pos c14] at H
           have c14b0 : (t190 == 3) = true := bI.mpr c14
           have c14b1 : (t190 != 3) = false := nF.mpr c14
           clear c14
           by_cases c15 : t191 = 0
           ·rw [if_pos c15] at H
            have c15b0 : (t191 == 0) = true := bI.mpr c15
            have c15b1 : (t191 != 0) = false := nF.mpr c15
            clear c15
            replace H := Option.bind_eq_some_iff.mp H
            obtain ⟨t195, A160, H⟩ := H
            try dsimp only at H
            have A16 := Aside0.mk A160
            clear A160
            obtain rfl := Option.some.inj H
            go_enter Tryd.func8, Tryd.ntmps8
            go_wp2_with (first | ((with_reducible refine gate_callee (f := 22) rfl ?_); refine goesL_ (some 13) rfl rfl Tryd.func22 (by kernel_rfl) rfl #[.slice none 0 0, .agg #[.int .i64 6, .int .i64 0, .int .i64 0, .int .u32 0]] rfl jZ ?_; (refine (code_Add.calls k (fun k_ => False) _ _ ([] : List (S30)) 6 0 0 0 t172 t175 t176 _ ?side1 ?side2 A1.out).mono ?_); (case side1 => exact Kd.V_nil _ _ _ _ _); (case side2 => exact Glob.below HG.out (jH HB)); rintro e w17 ⟨v173, rfl, ho0, hb⟩; refine ⟨_, rfl, ?_⟩; have n0_ := Aside0.mk (Kd.V_lower (Kd.V_mono (ok' := fun k_ => True) ho0 (fun k_ hk_ => trivial)) (zZ (jH HB))); have n1_ := Aside0.mk (zT (jH HB) hb); clear HB; have HO174 := n0_; have HB := n1_; clear n0_ n1_; (try clear hb); (try clear hb2); (try clear hk); (try clear hi); (try clear ho0); obtain ⟨Ao18, co18, eo18⟩ := Kd.V_slice HO174.out; subst eo18) | ((with_reducible refine gate_callee (f := 22) rfl ?_); refine goesL_ (some 20) rfl rfl Tryd.func22 (by kernel_rfl) rfl #[.slice Ao18 t172.length co18, .agg #[.int .i64 6, .int .i64 0, .int .i64 0, .int .u32 1]] rfl jZ ?_; (with_reducible refine (code_Add.calls k (fun k_ => True) _ _ t172 6 0 0 1 t177 t180 t181 _ ?side1 ?side2 A2.out).mono ?_); (case side1 => exact HO174.out); (case side2 => exact Glob.below HG.out (jH HB)); rintro e w19 ⟨v178, rfl, ho0, hb⟩; refine ⟨_, rfl, ?_⟩; have n0_ := Aside0.mk (Kd.V_below (jV HO174) hb); have n1_ := Aside0.mk (Kd.V_lower (Kd.V_mono (ok' := fun k_ => True) ho0 (fun k_ hk_ => trivial)) (zZ (jH HB))); have n2_ := Aside0.mk (zT (jH HB) hb); clear HO174; clear HB; have HO174 := n0_; have HO179 := n1_; have HB := n2_; clear n0_ n1_ n2_; (try clear hb); (try clear hb2); (try clear hk); (try clear hi); (try clear ho0); obtain ⟨Ao20, co20, eo20⟩ := Kd.V_slice HO179.out; subst eo20) | ((with_reducible refine gate_callee (f := 14) rfl ?_); refine goesL_ (some 28) rfl rfl Tryd.func14 (by kernel_rfl) rfl #[.slice Ao20 t177.length co20, .int .i64 21, .int .u32 5, .int .i64 t180, .int .i64 t175] rfl jZ ?_; (with_reducible refine (code_Branch.calls k (fun k_ => True) _ _ t177 21 5 t180 t175 t182 t185 t186 _ ?side1 ?side2 A3.out).mono ?_); (case side1 => exact HO179.out); (case side2 => exact Glob.below HG.out (jH HB)); rintro e w21 ⟨v183, rfl, ho0, hb⟩; refine ⟨_, rfl, ?_⟩; have n0_ := Aside0.mk (Kd.V_below (jV HO174) hb); have n1_ := Aside0.mk (Kd.V_below (jV HO179) hb); have n2_ := Aside0.mk (Kd.V_lower (Kd.V_mono (ok' := fun k_ => True) ho0 (fun k_ hk_ => trivial)) (zZ (jH HB))); have n3_ := Aside0.mk (zT (jH HB) hb); clear HO174; clear HO179; clear HB; have HO174 := n0_; have HO179 := n1_; have HO184 := n2_; have HB := n3_; clear n0_ n1_ n2_ n3_; (try clear hb); (try clear hb2); (try clear hk); (try clear hi); (try clear ho0); obtain ⟨Ao22, co22, eo22⟩ := Kd.V_slice HO184.out; subst eo22) | ((with_reducible refine gate_callee (f := 12) rfl ?_); refine goesL_ (some 35) rfl rfl Tryd.func12 (by kernel_rfl) rfl #[.slice Ao22 t182.length co22, .int .i64 t185] rfl jZ ?_; (with_reducible refine (code_Jump.calls (fun k_ => True) _ _ t182 t185 t187 t190 t191 _ ?side1 A4.out).mono ?_); (case side1 => exact HO184.out); rintro e w23 ⟨v188, rfl, ho0, hb⟩; refine ⟨_, rfl, ?_⟩; have n0_ := Aside0.mk (Kd.V_below (jV HO174) hb); have n1_ := Aside0.mk (Kd.V_below (jV HO179) hb); have n2_ := Aside0.mk (Kd.V_below (jV HO184) hb); have n3_ := Aside0.mk (Kd.V_lower (Kd.V_mono (ok' := fun k_ => True) ho0 (fun k_ hk_ => trivial)) (zZ (jH HB))); have n4_ := Aside0.mk (zT (jH HB) hb); clear HO174; clear HO179; clear HO184; clear HB; have HO174 := n0_; have HO179 := n1_; have HO184 := n2_; have HO189 := n3_; have HB := n4_; clear n0_ n1_ n2_ n3_ n4_; (try clear hb); (try clear hb2); (try clear hk); (try clear hi); (try clear ho0); have p192 : 0 ≤ (0 : Int) := (by omega); have q192 : 0 < (t182.length : Int) := oD (jA); obtain ⟨ad192, e192, hx192_0, hx192_1, hx192_2, hx192_3⟩ := at_T30 (Kd.V_reads' HO184.out).2.2 0 p192 q192; cases e192; have qi192 : (0 < t182.length) = True := eq_true (by omega); (try rw [show ((0 : Int)).toNat = 0 from rfl] at hx192_0); (try rw [show 0 * 4 = 0 from rfl] at hx192_0); (try rw [Addr.add_zero'] at hx192_0); (try rw [show ((0 : Int)).toNat = 0 from rfl] at hx192_1); (try rw [show 0 * 4 = 0 from rfl] at hx192_1); (try rw [Addr.add_zero'] at hx192_1); (try rw [show ((0 : Int)).toNat = 0 from rfl] at hx192_2); (try rw [show 0 * 4 = 0 from rfl] at hx192_2); (try rw [Addr.add_zero'] at hx192_2); (try rw [show ((0 : Int)).toNat = 0 from rfl] at hx192_3); (try rw [show 0 * 4 = 0 from rfl] at hx192_3); (try rw [Addr.add_zero'] at hx192_3); replace p192 := eq_true p192; replace q192 := eq_true q192; have p193 : 0 ≤ (1 : Int) := (by omega); have q193 : 1 < (t182.length : Int) := oD (jA); obtain ⟨ad193, e193, hx193_0, hx193_1, hx193_2, hx193_3⟩ := at_T30 (Kd.V_reads' HO184.out).2.2 1 p193 q193; obtain rfl : ad192 = ad193 := (by injection e193); (try simp only [show (1 : Int).toNat = 1 from rfl, Nat.reduceMul, Nat.reduceEqDiff, Go.Addr.add, ↓reduceIte] at hx193_0); (try simp only [show (1 : Int).toNat = 1 from rfl, Nat.reduceMul, Nat.reduceEqDiff, Go.Addr.add, ↓reduceIte] at hx193_1); (try simp only [show (1 : Int).toNat = 1 from rfl, Nat.reduceMul, Nat.reduceEqDiff, Go.Addr.add, ↓reduceIte] at hx193_2); (try simp only [show (1 : Int).toNat = 1 from rfl, Nat.reduceMul, Nat.reduceEqDiff, Go.Addr.add, ↓reduceIte] at hx193_3); have qi193 : (1 < t182.length) = True := eq_true (by omega); (try rw [show ((1 : Int)).toNat = 1 from rfl] at hx193_0); (try rw [show 1 * 4 = 4 from rfl] at hx193_0); (try rw [show ((1 : Int)).toNat = 1 from rfl] at hx193_1); (try rw [show 1 * 4 = 4 from rfl] at hx193_1); (try rw [show ((1 : Int)).toNat = 1 from rfl] at hx193_2); (try rw [show 1 * 4 = 4 from rfl] at hx193_2); (try rw [show ((1 : Int)).toNat = 1 from rfl] at hx193_3); (try rw [show 1 * 4 = 4 from rfl] at hx193_3); replace p193 := eq_true p193; replace q193 := eq_true q193; have p194 : 0 ≤ (0 : Int) := (by omega); have q194 : 0 < (t182.length : Int) := oD (jA); obtain ⟨ad194, e194, hx194_0, hx194_1, hx194_2, hx194_3⟩ := at_T30 (Kd.V_reads' HO184.out).2.2 0 p194 q194; obtain rfl : ad192 = ad194 := (by injection e194); have qi194 : (0 < t182.length) = True := eq_true (by omega); (try rw [show ((0 : Int)).toNat = 0 from rfl] at hx194_0); (try rw [show 0 * 4 = 0 from rfl] at hx194_0); (try rw [Addr.add_zero'] at hx194_0); (try rw [show ((0 : Int)).toNat = 0 from rfl] at hx194_1); (try rw [show 0 * 4 = 0 from rfl] at hx194_1); (try rw [Addr.add_zero'] at hx194_1); (try rw [show ((0 : Int)).toNat = 0 from rfl] at hx194_2); (try rw [show 0 * 4 = 0 from rfl] at hx194_2); (try rw [Addr.add_zero'] at hx194_2); (try rw [show ((0 : Int)).toNat = 0 from rfl] at hx194_3); (try rw [show 0 * 4 = 0 from rfl] at hx194_3); (try rw [Addr.add_zero'] at hx194_3); replace p194 := eq_true p194; replace q194 := eq_true q194) | (go_at_call 23; (with_reducible refine (ins_Branch.calls ((rd_T30 t182 0).f0) ((rd_T30 t182 0).f1) ((rd_T30 t182 0).f2) ((rd_T30 t182 0).f3) t195 _ ?side1 A16.out).mono ?_); (case side1 => exact Glob.below HG.out (jH HB)); rintro e w24 ⟨rfl, hb⟩; have n0_ := Aside0.mk (Kd.V_below (jV HO174) hb); have n1_ := Aside0.mk (Kd.V_below (jV HO179) hb); have n2_ := Aside0.mk (Kd.V_below (jV HO184) hb); have n3_ := Aside0.mk (Kd.V_below (jV HO189) hb); have n4_ := Aside0.mk (zT (jH HB) hb); clear HO174; clear HO179; clear HO184; clear HO189; clear HB; have HO174 := n0_; have HO179 := n1_; have HO184 := n2_; have HO189 := n3_; have HB := n4_; clear n0_ n1_ n2_ n3_ n4_; (try clear hb); (try clear hb2); (try clear hk); (try clear hi)))
            go_ret
            exact ⟨jE, jH HB⟩
           ·rw [if_neg c15] at H
            exact absurd H (by simp)
          ·rw [if_neg c14] at H
           exact absurd H (by simp)
         ·rw [if_neg c13] at H
          exact absurd H (by simp)
        ·rw [if_neg c12] at H
         exact absurd H (by simp)
       ·rw [if_neg c11] at H
        exact absurd H (by simp)
      ·rw [if_neg c10] at H
       exact absurd H (by simp)
     ·rw [if_neg c9] at H
      exact absurd H (by simp)
    ·rw [if_neg c8] at H
     exact absurd H (by simp)
   ·rw [if_neg c7] at H
    exact absurd H (by simp)
  ·rw [if_neg c6] at H
   exact absurd H (by simp)
 ·rw [if_neg c5] at H
  exact absurd H (by simp)
end Go.Proofs.YtnchbnnijboklaaDoor.M
