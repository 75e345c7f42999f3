/- By a program of this session: what Go functions of the seat compute, as Lean functions, each with a proof that the call of the Go function comes to that. -/
import Derived.Test.YtnchbnnijboklaaDoorM0
import Derived.Test.YtnchbnnijboklaaDoorM3
import Derived.Test.YtnchbnnijboklaaDoorM13
namespace Go.Proofs.YtnchbnnijboklaaDoor.M
open Go.RowKit Go.Proofs.YtnchbnnijboklaaDoorW.PrintWords Go.Proofs.YtnchbnnijboklaaDoorW.PrintLast Go.Proofs.YtnchbnnijboklaaDoorW.PrintMore
attribute [local go_sem] max2_int min2_int max_two min_two max_three min_three max_four min_four   -- for this text's walks alone
set_option linter.unusedVariables false
set_option linter.unusedSimpArgs false
def hurdleref05_Sound.f (k : Nat) (l0 : List (S30)) : Option (Bool) := (hurdleref05_Check.f k l0).bind fun bt237 => (some (bt237.2 == 0))
theorem hurdleref05_Sound.mono : ∀ a0 k, LeO (hurdleref05_Sound.f k a0) (hurdleref05_Sound.f (k + 1) a0) := by
 intro a0 k
 unfold hurdleref05_Sound.f
 repeat' first
   | (with_reducible exact hurdleref05_Check.mono _ _)
   | (with_reducible exact LeO.refl _)
   | (with_reducible exact LeO.none _)
   | (with_reducible refine LeO.ite ?_ ?_)
   | (with_reducible refine LeO.bind ?_ (fun _ => ?_))
   | exact hurdleref05_Check.mono _ _
   | exact LeO.none _
   | refine LeO.ite ?_ ?_
   | refine LeO.bind ?_ (fun _ => ?_)
set_option maxHeartbeats 8000000 in
set_option maxRecDepth 100000 in
theorem hurdleref05_Sound.calls (k : Nat) (A0 : Option Addr) (c0 : Nat) (l0 : List (S30)) (r : Bool) (w : World) (hr0 : Kd.C k30 w A0 l0.length l0) (hc0 : l0.length ≤ c0) (h : hurdleref05_Sound.f k l0 = some r) :
  Calls Tryd.prog 17 #[.slice A0 l0.length c0] w fun e w' => e = .returned (.bool r) ∧ Below w.heap.size w w' := by
 have HR0 := Aside0.mk hr0
 have HC0 := Aside0.mk hc0
 clear hr0 hc0
 have HB := Aside0.mk (Below.refl w.heap.size w)
 have H : ((hurdleref05_Check.f k l0).bind fun bt237 => (some (bt237.2 == 0))) = some r := h
 clear h
 replace H := Option.bind_eq_some_iff.mp H
 obtain ⟨⟨t237, t238⟩, A20, H⟩ := H
 try dsimp only at H
 have A2 := Aside0.mk A20
 clear A20
 obtain rfl := Option.some.inj H
 go_enter Tryd.func17, Tryd.ntmps17
 go_wp2_with (first | ((with_reducible refine gate_callee (f := 32) rfl ?_); refine goesL_ (some 7) rfl rfl Tryd.func32 (by kernel_rfl) rfl #[.slice A0 l0.length c0] rfl jZ ?_; (with_reducible refine (hurdleref05_Check.calls k _ _ l0 t237 t238 _ ?side1 ?side2 A2.out).mono ?_); (case side1 => repeat (first | exact HR0.out | (with_reducible refine Kd.C_alloc ?_ _) | (with_reducible refine Kd.C_drewN ?_ _) | (with_reducible refine Kd.C_drew ?_))); (case side2 => exact HC0.out); rintro e w3 ⟨rfl, hb⟩; refine ⟨_, rfl, ?_⟩; have n0_ := Aside0.mk (zT (jH HB) hb); clear HB; have HB := n0_; clear n0_; (try clear hb); (try clear hb2); (try clear hk); (try clear hi)))
 go_ret
 exact ⟨jE, jH HB⟩
-- NOT PRINTED: function 41 (check_rules)
def ins_Ends.f (a0_0 : Int) (a0_1 : Int) (a0_2 : Int) (a0_3 : Int) : Option (Bool) := if a0_0 = 6 then (some true) else (some (a0_0 == 22))
set_option maxHeartbeats 8000000 in
set_option maxRecDepth 100000 in
theorem ins_Ends.calls (a0_0 : Int) (a0_1 : Int) (a0_2 : Int) (a0_3 : Int) (r : Bool) (w : World) (h : ins_Ends.f a0_0 a0_1 a0_2 a0_3 = some r) :
  Calls Tryd.prog 43 #[.agg #[.int .i64 a0_0, .int .i64 a0_1, .int .i64 a0_2, .int .u32 a0_3]] w fun e w' => e = .returned (.bool r) ∧ Below w.heap.size w w' := by
 have hu30 := Tryd.underlying30
 have HB := Aside0.mk (Below.refl w.heap.size w)
 have H : (if a0_0 = 6 then (some true) else (some (a0_0 == 22))) = some r := h
 clear h
 by_cases c2 : a0_0 = 6
 ·rw [if_pos c2] at H
  have c2b0 : (a0_0 == 6) = true := bI.mpr c2
  have c2b1 : (a0_0 != 6) = false := nF.mpr c2
  clear c2
  obtain rfl := Option.some.inj H
  go_enter Tryd.func43, Tryd.ntmps43
  go_wp2_with (first | ((with_reducible refine gate_dst (N := 1) rfl ?_); refine box_event ?hg (N := 1) ?hd (cs := #[.int .i64 a0_0, .int .i64 a0_1, .int .i64 a0_2, .int .u32 a0_3]) (t := 30) ?hr ?_; (case hd => rfl); (case hg => rfl); (case hr => first | (go_simp; done) | (go_simp; rfl)); intro gb239 hg w3 hbox hb; have n0_ := Aside0.mk (zT (jH HB) hb); have n1_ := Aside0.mk (hbox); have n2_ := Aside0.mk ((by rw [hg]; exact (zZ (jH HB)) : w.heap.size ≤ gb239)); have n3_ := Aside0.mk ((by rw [hg]; exact (zZ (jH HB)) : w.heap.size ≤ gb239)); clear HB; have HB := n0_; have BK239 := n1_; have GW239 := n2_; have GE239 := n3_; clear n0_ n1_ n2_ n3_; clear hb hbox hg; have hcz4_0 : w3.cell? ⟨gb239, 0, none⟩ = some (.int .i64 a0_0) := (kC BK239.out 0).trans rfl; have hcz4_1 : w3.cell? ⟨gb239, 1, none⟩ = some (.int .i64 a0_1) := (kC BK239.out 1).trans rfl; have hcz4_2 : w3.cell? ⟨gb239, 2, none⟩ = some (.int .i64 a0_2) := (kC BK239.out 2).trans rfl; have hcz4_3 : w3.cell? ⟨gb239, 3, none⟩ = some (.int .u32 a0_3) := (kC BK239.out 3).trans rfl; have hfz4_0 := kF BK239.out 0; have hfz4_1 := kF BK239.out 1; have hfz4_2 := kF BK239.out 2; have hfz4_3 := kF BK239.out 3))
  go_ret
  exact ⟨jE, jH HB⟩
 ·rw [if_neg c2] at H
  have c2b0 : (a0_0 == 6) = false := bF.mpr c2
  have c2b1 : (a0_0 != 6) = true := nI.mpr c2
  obtain rfl := Option.some.inj H
  go_enter Tryd.func43, Tryd.ntmps43
  go_wp2_with (first | ((with_reducible refine gate_dst (N := 1) rfl ?_); refine box_event ?hg (N := 1) ?hd (cs := #[.int .i64 a0_0, .int .i64 a0_1, .int .i64 a0_2, .int .u32 a0_3]) (t := 30) ?hr ?_; (case hd => rfl); (case hg => rfl); (case hr => first | (go_simp; done) | (go_simp; rfl)); intro gb239 hg w5 hbox hb; have n0_ := Aside0.mk (zT (jH HB) hb); have n1_ := Aside0.mk (hbox); have n2_ := Aside0.mk ((by rw [hg]; exact (zZ (jH HB)) : w.heap.size ≤ gb239)); have n3_ := Aside0.mk ((by rw [hg]; exact (zZ (jH HB)) : w.heap.size ≤ gb239)); clear HB; have HB := n0_; have BK239 := n1_; have GW239 := n2_; have GE239 := n3_; clear n0_ n1_ n2_ n3_; clear hb hbox hg; have hcz6_0 : w5.cell? ⟨gb239, 0, none⟩ = some (.int .i64 a0_0) := (kC BK239.out 0).trans rfl; have hcz6_1 : w5.cell? ⟨gb239, 1, none⟩ = some (.int .i64 a0_1) := (kC BK239.out 1).trans rfl; have hcz6_2 : w5.cell? ⟨gb239, 2, none⟩ = some (.int .i64 a0_2) := (kC BK239.out 2).trans rfl; have hcz6_3 : w5.cell? ⟨gb239, 3, none⟩ = some (.int .u32 a0_3) := (kC BK239.out 3).trans rfl; have hfz6_0 := kF BK239.out 0; have hfz6_1 := kF BK239.out 1; have hfz6_2 := kF BK239.out 2; have hfz6_3 := kF BK239.out 3))
  go_ret
  exact ⟨jE, jH HB⟩
def check_ways.f (a0_0 : Int) (a0_1 : Int) (a0_2 : Int) (a0_3 : Int) (a1 : Int) : Option (List Int) := (ins_Ends.f a0_0 a0_1 a0_2 a0_3).bind fun t241 => (if t241 = true then (some ([] : List Int)) else (if a0_0 = 5 then (some (([wrap64 ((wrap64 (a1 + 1)) + (wrap64 (a0_3)))] : List Int))) else ((ins_Branch.f a0_0 a0_1 a0_2 a0_3).bind fun t245 => (if t245 = true then (some (([wrap64 ((wrap64 (a1 + 1)) + (mn a0_1 a0_2)), wrap64 ((wrap64 (a1 + 1)) + (mx a0_1 a0_2))] : List Int))) else (some (([wrap64 (a1 + 1)] : List Int)))))))
set_option maxHeartbeats 8000000 in
set_option maxRecDepth 100000 in
theorem check_ways.calls (a0_0 : Int) (a0_1 : Int) (a0_2 : Int) (a0_3 : Int) (a1 : Int) (r : List Int) (w : World) (hG : Glob w) (h : check_ways.f a0_0 a0_1 a0_2 a0_3 a1 = some r) :
  Calls Tryd.prog 42 #[.agg #[.int .i64 a0_0, .int .i64 a0_1, .int .i64 a0_2, .int .u32 a0_3], .int .i64 a1] w fun e w' => ∃ v0_ : Value, e = .returned (v0_) ∧ Kd.R (Kd.int .i64) 2 w' w.heap.size (fun _ => True) v0_ r ∧ Below w.heap.size w w' := by
 have hu30 := Tryd.underlying30
 have HG := Aside0.mk hG
 clear hG
 have HB := Aside0.mk (Below.refl w.heap.size w)
 have H : ((ins_Ends.f a0_0 a0_1 a0_2 a0_3).bind fun t241 => (if t241 = true then (some ([] : List Int)) else (if a0_0 = 5 then (some (([wrap64 ((wrap64 (a1 + 1)) + (wrap64 (a0_3)))] : List Int))) else ((ins_Branch.f a0_0 a0_1 a0_2 a0_3).bind fun t245 => (if t245 = true then (some (([wrap64 ((wrap64 (a1 + 1)) + (mn a0_1 a0_2)), wrap64 ((wrap64 (a1 + 1)) + (mx a0_1 a0_2))] : List Int))) else (some (([wrap64 (a1 + 1)] : List Int)))))))) = some r := h
 clear h
 replace H := Option.bind_eq_some_iff.mp H
 obtain ⟨t241, A30, H⟩ := H
 try dsimp only at H
 have A3 := Aside0.mk A30
 clear A30
 by_cases c4 : t241 = true
 ·subst c4
  rw [if_pos rfl] at H
  obtain rfl := Option.some.inj H
  go_enter Tryd.func42, Tryd.ntmps42
  go_wp2_with (first | ((with_reducible refine gate_dst (N := 2) rfl ?_); refine box_event ?hg (N := 2) ?hd (cs := #[.int .i64 a0_0, .int .i64 a0_1, .int .i64 a0_2, .int .u32 a0_3]) (t := 30) ?hr ?_; (case hd => rfl); (case hg => rfl); (case hr => first | (go_simp; done) | (go_simp; rfl)); intro gb240 hg w5 hbox hb; have n0_ := Aside0.mk (zT (jH HB) hb); have n1_ := Aside0.mk (hbox); have n2_ := Aside0.mk ((by rw [hg]; exact (zZ (jH HB)) : w.heap.size ≤ gb240)); have n3_ := Aside0.mk ((by rw [hg]; exact (zZ (jH HB)) : w.heap.size ≤ gb240)); clear HB; have HB := n0_; have BK240 := n1_; have GW240 := n2_; have GE240 := n3_; clear n0_ n1_ n2_ n3_; clear hb hbox hg; have hcz6_0 : w5.cell? ⟨gb240, 0, none⟩ = some (.int .i64 a0_0) := (kC BK240.out 0).trans rfl; have hcz6_1 : w5.cell? ⟨gb240, 1, none⟩ = some (.int .i64 a0_1) := (kC BK240.out 1).trans rfl; have hcz6_2 : w5.cell? ⟨gb240, 2, none⟩ = some (.int .i64 a0_2) := (kC BK240.out 2).trans rfl; have hcz6_3 : w5.cell? ⟨gb240, 3, none⟩ = some (.int .u32 a0_3) := (kC BK240.out 3).trans rfl; have hfz6_0 := kF BK240.out 0; have hfz6_1 := kF BK240.out 1; have hfz6_2 := kF BK240.out 2; have hfz6_3 := kF BK240.out 3) | ((with_reducible refine gate_callee (f := 43) rfl ?_); refine goesL_ (some 10) rfl rfl Tryd.func43 (by kernel_rfl) rfl #[.agg #[.int .i64 a0_0, .int .i64 a0_1, .int .i64 a0_2, .int .u32 a0_3]] rfl jZ ?_; (with_reducible refine (ins_Ends.calls a0_0 a0_1 a0_2 a0_3 true _ A3.out).mono ?_); rintro e w7 ⟨rfl, hb⟩; refine ⟨_, rfl, ?_⟩; have n0_ := Aside0.mk (jB BK240 hb); have n1_ := Aside0.mk (zT (jH HB) hb); clear BK240; clear HB; have BK240 := n0_; have HB := n1_; clear n0_ n1_; (try clear hb); (try clear hb2); (try clear hk); (try clear hi)))
  go_ret
  exact ⟨_, jE, by first | exact Kd.R_nil _ _ _ _ _ | exact Kd.N_nil _ _ _ _ _ | exact Kd.V_nil _ _ _ _ _ | exact Kd.Q_nil _ _ _ _ _ | exact Kd.S_nil _ _ _ _ _, jH HB⟩
 ·replace c4 := Bool.eq_false_iff.mpr c4
  subst c4
  rw [if_neg (show ¬ (false = true) by decide)] at H
  by_cases c8 : a0_0 = 5
  ·rw [if_pos c8] at H
   have c8b0 : (a0_0 == 5) = true := bI.mpr c8
   have c8b1 : (a0_0 != 5) = false := nF.mpr c8
   clear c8
   obtain ⟨y242, hy242⟩ : ∃ y_ : List Int, y_ = (([wrap64 ((wrap64 (a1 + 1)) + (wrap64 (a0_3)))] : List Int)) := ⟨_, rfl⟩
   simp only [Option.bind_some, ← hy242] at H
   have Ny242 := Aside0.mk hy242
   clear hy242
   obtain rfl := Option.some.inj H
   go_enter Tryd.func42, Tryd.ntmps42
   go_wp2_with (first | ((with_reducible refine gate_dst (N := 2) rfl ?_); refine box_event ?hg (N := 2) ?hd (cs := #[.int .i64 a0_0, .int .i64 a0_1, .int .i64 a0_2, .int .u32 a0_3]) (t := 30) ?hr ?_; (case hd => rfl); (case hg => rfl); (case hr => first | (go_simp; done) | (go_simp; rfl)); intro gb240 hg w9 hbox hb; have n0_ := Aside0.mk (zT (jH HB) hb); have n1_ := Aside0.mk (hbox); have n2_ := Aside0.mk ((by rw [hg]; exact (zZ (jH HB)) : w.heap.size ≤ gb240)); have n3_ := Aside0.mk ((by rw [hg]; exact (zZ (jH HB)) : w.heap.size ≤ gb240)); clear HB; have HB := n0_; have BK240 := n1_; have GW240 := n2_; have GE240 := n3_; clear n0_ n1_ n2_ n3_; clear hb hbox hg; have hcz10_0 : w9.cell? ⟨gb240, 0, none⟩ = some (.int .i64 a0_0) := (kC BK240.out 0).trans rfl; have hcz10_1 : w9.cell? ⟨gb240, 1, none⟩ = some (.int .i64 a0_1) := (kC BK240.out 1).trans rfl; have hcz10_2 : w9.cell? ⟨gb240, 2, none⟩ = some (.int .i64 a0_2) := (kC BK240.out 2).trans rfl; have hcz10_3 : w9.cell? ⟨gb240, 3, none⟩ = some (.int .u32 a0_3) := (kC BK240.out 3).trans rfl; have hfz10_0 := kF BK240.out 0; have hfz10_1 := kF BK240.out 1; have hfz10_2 := kF BK240.out 2; have hfz10_3 := kF BK240.out 3) | ((with_reducible refine gate_callee (f := 43) rfl ?_); refine goesL_ (some 10) rfl rfl Tryd.func43 (by kernel_rfl) rfl #[.agg #[.int .i64 a0_0, .int .i64 a0_1, .int .i64 a0_2, .int .u32 a0_3]] rfl jZ ?_; (with_reducible refine (ins_Ends.calls a0_0 a0_1 a0_2 a0_3 false _ A3.out).mono ?_); rintro e w11 ⟨rfl, hb⟩; refine ⟨_, rfl, ?_⟩; have n0_ := Aside0.mk (jB BK240 hb); have n1_ := Aside0.mk (zT (jH HB) hb); clear BK240; clear HB; have BK240 := n0_; have HB := n1_; clear n0_ n1_; (try clear hb); (try clear hb2); (try clear hk); (try clear hi); have hcz12_0 : w11.cell? ⟨gb240, 0, none⟩ = some (.int .i64 a0_0) := (kC BK240.out 0).trans rfl; have hcz12_1 : w11.cell? ⟨gb240, 1, none⟩ = some (.int .i64 a0_1) := (kC BK240.out 1).trans rfl; have hcz12_2 : w11.cell? ⟨gb240, 2, none⟩ = some (.int .i64 a0_2) := (kC BK240.out 2).trans rfl; have hcz12_3 : w11.cell? ⟨gb240, 3, none⟩ = some (.int .u32 a0_3) := (kC BK240.out 3).trans rfl; have hfz12_0 := kF BK240.out 0; have hfz12_1 := kF BK240.out 1; have hfz12_2 := kF BK240.out 2; have hfz12_3 := kF BK240.out 3) | ((with_reducible refine gate_dst (N := 20) rfl ?_); refine Kd.R_lit (Kd.int .i64) _ 2 ?hg (N := 20) ?hd (xs := ([wrap64 ((wrap64 (a1 + 1)) + (wrap64 (a0_3)))] : List Int)) (inner := [.int .i64 (wrap64 ((wrap64 (a1 + 1)) + (wrap64 (a0_3))))]) (ok := fun _ => True) (okp := fun _ => True) ?hr ?hp (fun _ hk => hk) trivial (Below.refl _ _) (Nat.le_refl _) (by simp) ?_; (case hd => rfl); (case hg => rfl); (case hr => first | (go_simp; done) | (go_simp; rfl)); (case hp => exact (Reps.one (show Kd.M (Kd.int .i64) _ _ _ (wrap64 ((wrap64 (a1 + 1)) + (wrap64 (a0_3)))) [.int .i64 (wrap64 ((wrap64 (a1 + 1)) + (wrap64 (a0_3))))] from rfl) (Reps.none _ _))); intro v243 w13 ho14 hb hg_ hnew_; clear hg_ hnew_; (first | rw [← Ny242.out] at ho14 | (simp only [Int.reduceToNat] at ho14; rw [← Ny242.out] at ho14)); have n0_ := Aside0.mk (Kd.R_lower ho14 (zZ (jH HB))); have n1_ := Aside0.mk (jB BK240 hb); have n2_ := Aside0.mk (zT (jH HB) hb); clear BK240; clear HB; have HO244 := n0_; have BK240 := n1_; have HB := n2_; clear n0_ n1_ n2_; clear hb ho14))
   go_ret
   exact ⟨_, jE, by (with_reducible repeat (first | apply Kd.R_alloc | apply Kd.R_drewN | apply Kd.R_drew)); exact HO244.out, jH HB⟩
  ·rw [if_neg c8] at H
   have c8b0 : (a0_0 == 5) = false := bF.mpr c8
   have c8b1 : (a0_0 != 5) = true := nI.mpr c8
   replace H := Option.bind_eq_some_iff.mp H
   obtain ⟨t245, A150, H⟩ := H
   try dsimp only at H
   have A15 := Aside0.mk A150
   clear A150
   by_cases c16 : t245 = true
   ·subst c16
    rw [if_pos rfl] at H
    obtain ⟨ji17, hji17⟩ : ∃ j_ : Int, (mn a0_1 a0_2) = j_ := ⟨_, rfl⟩
    replace H : (some (([wrap64 ((wrap64 (a1 + 1)) + (ji17)), wrap64 ((wrap64 (a1 + 1)) + (mx a0_1 a0_2))] : List Int))) = some r := by first | (rw [hji17] at H; exact H) | (simp only [hji17] at H ⊢; exact H)
    (try rw [hji17] at A3)
    (try rw [hji17] at A15)
    have hji17_ : (if a0_2 < a0_1 then a0_2 else a0_1) = ji17 := hji17
    obtain ⟨ji18, hji18⟩ : ∃ j_ : Int, (mx a0_1 a0_2) = j_ := ⟨_, rfl⟩
    replace H : (some (([wrap64 ((wrap64 (a1 + 1)) + (ji17)), wrap64 ((wrap64 (a1 + 1)) + (ji18))] : List Int))) = some r := by first | (rw [hji18] at H; exact H) | (simp only [hji18] at H ⊢; exact H)
    (try rw [hji18] at A3)
    (try rw [hji18] at A15)
    have hji18_ : (if a0_1 < a0_2 then a0_2 else a0_1) = ji18 := hji18
    obtain ⟨y246, hy246⟩ : ∃ y_ : List Int, y_ = (([wrap64 ((wrap64 (a1 + 1)) + (ji17)), wrap64 ((wrap64 (a1 + 1)) + (ji18))] : List Int)) := ⟨_, rfl⟩
    simp only [Option.bind_some, ← hy246] at H
    have Ny246 := Aside0.mk hy246
    clear hy246
    obtain rfl := Option.some.inj H
    go_enter Tryd.func42, Tryd.ntmps42
    go_wp2_with (first | ((with_reducible refine gate_dst (N := 2) rfl ?_); refine box_event ?hg (N := 2) ?hd (cs := #[.int .i64 a0_0, .int .i64 a0_1, .int .i64 a0_2, .int .u32 a0_3]) (t := 30) ?hr ?_; (case hd => rfl); (case hg => rfl); (case hr => first | (go_simp; done) | (go_simp; rfl)); intro gb240 hg w19 hbox hb; have n0_ := Aside0.mk (zT (jH HB) hb); have n1_ := Aside0.mk (hbox); have n2_ := Aside0.mk ((by rw [hg]; exact (zZ (jH HB)) : w.heap.size ≤ gb240)); have n3_ := Aside0.mk ((by rw [hg]; exact (zZ (jH HB)) : w.heap.size ≤ gb240)); clear HB; have HB := n0_; have BK240 := n1_; have GW240 := n2_; have GE240 := n3_; clear n0_ n1_ n2_ n3_; clear hb hbox hg; have hcz20_0 : w19.cell? ⟨gb240, 0, none⟩ = some (.int .i64 a0_0) := (kC BK240.out 0).trans rfl; have hcz20_1 : w19.cell? ⟨gb240, 1, none⟩ = some (.int .i64 a0_1) := (kC BK240.out 1).trans rfl; have hcz20_2 : w19.cell? ⟨gb240, 2, none⟩ = some (.int .i64 a0_2) := (kC BK240.out 2).trans rfl; have hcz20_3 : w19.cell? ⟨gb240, 3, none⟩ = some (.int .u32 a0_3) := (kC BK240.out 3).trans rfl; have hfz20_0 := kF BK240.out 0; have hfz20_1 := kF BK240.out 1; have hfz20_2 := kF BK240.out 2; have hfz20_3 := kF BK240.out 3) | ((with_reducible refine gate_callee (f := 43) rfl ?_); refine goesL_ (some 10) rfl rfl Tryd.func43 (by kernel_rfl) rfl #[.agg #[.int .i64 a0_0, .int .i64 a0_1, .int .i64 a0_2, .int .u32 a0_3]] rfl jZ ?_; (with_reducible refine (ins_Ends.calls a0_0 a0_1 a0_2 a0_3 false _ A3.out).mono ?_); rintro e w21 ⟨rfl, hb⟩; refine ⟨_, rfl, ?_⟩; have n0_ := Aside0.mk (jB BK240 hb); have n1_ := Aside0.mk (zT (jH HB) hb); clear BK240; clear HB; have BK240 := n0_; have HB := n1_; clear n0_ n1_; (try clear hb); (try clear hb2); (try clear hk); (try clear hi); have hcz22_0 : w21.cell? ⟨gb240, 0, none⟩ = some (.int .i64 a0_0) := (kC BK240.out 0).trans rfl; have hcz22_1 : w21.cell? ⟨gb240, 1, none⟩ = some (.int .i64 a0_1) := (kC BK240.out 1).trans rfl; have hcz22_2 : w21.cell? ⟨gb240, 2, none⟩ = some (.int .i64 a0_2) := (kC BK240.out 2).trans rfl; have hcz22_3 : w21.cell? ⟨gb240, 3, none⟩ = some (.int .u32 a0_3) := (kC BK240.out 3).trans rfl; have hfz22_0 := kF BK240.out 0; have hfz22_1 := kF BK240.out 1; have hfz22_2 := kF BK240.out 2; have hfz22_3 := kF BK240.out 3) | ((with_reducible refine gate_callee (f := 23) rfl ?_); refine goesL_ (some 23) rfl rfl Tryd.func23 (by kernel_rfl) rfl #[.agg #[.int .i64 a0_0, .int .i64 a0_1, .int .i64 a0_2, .int .u32 a0_3]] rfl jZ ?_; (with_reducible refine (ins_Branch.calls a0_0 a0_1 a0_2 a0_3 true _ ?side1 A15.out).mono ?_); (case side1 => exact Glob.below HG.out (jH HB)); rintro e w23 ⟨rfl, hb⟩; refine ⟨_, rfl, ?_⟩; have n0_ := Aside0.mk (jB BK240 hb); have n1_ := Aside0.mk (zT (jH HB) hb); clear BK240; clear HB; have BK240 := n0_; have HB := n1_; clear n0_ n1_; (try clear hb); (try clear hb2); (try clear hk); (try clear hi); have hcz24_0 : w23.cell? ⟨gb240, 0, none⟩ = some (.int .i64 a0_0) := (kC BK240.out 0).trans rfl; have hcz24_1 : w23.cell? ⟨gb240, 1, none⟩ = some (.int .i64 a0_1) := (kC BK240.out 1).trans rfl; have hcz24_2 : w23.cell? ⟨gb240, 2, none⟩ = some (.int .i64 a0_2) := (kC BK240.out 2).trans rfl; have hcz24_3 : w23.cell? ⟨gb240, 3, none⟩ = some (.int .u32 a0_3) := (kC BK240.out 3).trans rfl; have hfz24_0 := kF BK240.out 0; have hfz24_1 := kF BK240.out 1; have hfz24_2 := kF BK240.out 2; have hfz24_3 := kF BK240.out 3) | ((with_reducible refine gate_dst (N := 38) rfl ?_); refine Kd.R_lit (Kd.int .i64) _ 2 ?hg (N := 38) ?hd (xs := ([wrap64 ((wrap64 (a1 + 1)) + (ji17)), wrap64 ((wrap64 (a1 + 1)) + (ji18))] : List Int)) (inner := [.int .i64 (wrap64 ((wrap64 (a1 + 1)) + (ji17))), .int .i64 (wrap64 ((wrap64 (a1 + 1)) + (ji18)))]) (ok := fun _ => True) (okp := fun _ => True) ?hr ?hp (fun _ hk => hk) trivial (Below.refl _ _) (Nat.le_refl _) (by simp) ?_; (case hd => rfl); (case hg => rfl); (case hr => first | (go_simp; done) | (go_simp; rfl)); (case hp => exact (Reps.one (show Kd.M (Kd.int .i64) _ _ _ (wrap64 ((wrap64 (a1 + 1)) + (ji17))) [.int .i64 (wrap64 ((wrap64 (a1 + 1)) + (ji17)))] from rfl) (Reps.one (show Kd.M (Kd.int .i64) _ _ _ (wrap64 ((wrap64 (a1 + 1)) + (ji18))) [.int .i64 (wrap64 ((wrap64 (a1 + 1)) + (ji18)))] from rfl) (Reps.none _ _)))); intro v247 w25 ho26 hb hg_ hnew_; clear hg_ hnew_; (first | rw [← Ny246.out] at ho26 | (simp only [Int.reduceToNat] at ho26; rw [← Ny246.out] at ho26)); have n0_ := Aside0.mk (Kd.R_lower ho26 (zZ (jH HB))); have n1_ := Aside0.mk (jB BK240 hb); have n2_ := Aside0.mk (zT (jH HB) hb); clear BK240; clear HB; have HO248 := n0_; have BK240 := n1_; have HB := n2_; clear n0_ n1_ n2_; clear hb ho26))
    go_ret
    exact ⟨_, by first | rfl | (simp [errW_none, errW_some] <;> rfl) | (simp only [← hji17, ← hji18]; first | rfl | (simp [errW_none, errW_some] <;> rfl)) | (simp [*, errW_none, errW_some] <;> rfl), by (with_reducible repeat (first | apply Kd.R_alloc | apply Kd.R_drewN | apply Kd.R_drew)); exact HO248.out, jH HB⟩
   ·replace c16 := Bool.eq_false_iff.mpr c16
    subst c16
    rw [if_neg (show ¬ (false = true) by decide)] at H
    obtain ⟨y249, hy249⟩ : ∃ y_ : List Int, y_ = (([wrap64 (a1 + 1)] : List Int)) := ⟨_, rfl⟩
    simp only [Option.bind_some, ← hy249] at H
    have Ny249 := Aside0.mk hy249
    clear hy249
    obtain rfl := Option.some.inj H
    go_enter Tryd.func42, Tryd.ntmps42
    go_wp2_with (first | ((with_reducible refine gate_dst (N := 2) rfl ?_); refine box_event ?hg (N := 2) ?hd (cs := #[.int .i64 a0_0, .int .i64 a0_1, .int .i64 a0_2, .int .u32 a0_3]) (t := 30) ?hr ?_; (case hd => rfl); (case hg => rfl); (case hr => first | (go_simp; done) | (go_simp; rfl)); intro gb240 hg w27 hbox hb; have n0_ := Aside0.mk (zT (jH HB) hb); have n1_ := Aside0.mk (hbox); have n2_ := Aside0.mk ((by rw [hg]; exact (zZ (jH HB)) : w.heap.size ≤ gb240)); have n3_ := Aside0.mk ((by rw [hg]; exact (zZ (jH HB)) : w.heap.size ≤ gb240)); clear HB; have HB := n0_; have BK240 := n1_; have GW240 := n2_; have GE240 := n3_; clear n0_ n1_ n2_ n3_; clear hb hbox hg; have hcz28_0 : w27.cell? ⟨gb240, 0, none⟩ = some (.int .i64 a0_0) := (kC BK240.out 0).trans rfl; have hcz28_1 : w27.cell? ⟨gb240, 1, none⟩ = some (.int .i64 a0_1) := (kC BK240.out 1).trans rfl; have hcz28_2 : w27.cell? ⟨gb240, 2, none⟩ = some (.int .i64 a0_2) := (kC BK240.out 2).trans rfl; have hcz28_3 : w27.cell? ⟨gb240, 3, none⟩ = some (.int .u32 a0_3) := (kC BK240.out 3).trans rfl; have hfz28_0 := kF BK240.out 0; have hfz28_1 := kF BK240.out 1; have hfz28_2 := kF BK240.out 2; have hfz28_3 := kF BK240.out 3) | ((with_reducible refine gate_callee (f := 43) rfl ?_); refine goesL_ (some 10) rfl rfl Tryd.func43 (by kernel_rfl) rfl #[.agg #[.int .i64 a0_0, .int .i64 a0_1, .int .i64 a0_2, .int .u32 a0_3]] rfl jZ ?_; (with_reducible refine (ins_Ends.calls a0_0 a0_1 a0_2 a0_3 false _ A3.out).mono ?_); rintro e w29 ⟨rfl, hb⟩; refine ⟨_, rfl, ?_⟩; have n0_ := Aside0.mk (jB BK240 hb); have n1_ := Aside0.mk (zT (jH HB) hb); clear BK240; clear HB; have BK240 := n0_; have HB := n1_; clear n0_ n1_; (try clear hb); (try clear hb2); (try clear hk); (try clear hi); have hcz30_0 : w29.cell? ⟨gb240, 0, none⟩ = some (.int .i64 a0_0) := (kC BK240.out 0).trans rfl; have hcz30_1 : w29.cell? ⟨gb240, 1, none⟩ = some (.int .i64 a0_1) := (kC BK240.out 1).trans rfl; have hcz30_2 : w29.cell? ⟨gb240, 2, none⟩ = some (.int .i64 a0_2) := (kC BK240.out 2).trans rfl; have hcz30_3 : w29.cell? ⟨gb240, 3, none⟩ = some (.int .u32 a0_3) := (kC BK240.out 3).trans rfl; have hfz30_0 := kF BK240.out 0; have hfz30_1 := kF BK240.out 1; have hfz30_2 := kF BK240.out 2; have hfz30_3 := kF BK240.out 3) | ((with_reducible refine gate_callee (f := 23) rfl ?_); refine goesL_ (some 23) rfl rfl Tryd.func23 (by kernel_rfl) rfl #[.agg #[.int .i64 a0_0, .int .i64 a0_1, .int .i64 a0_2, .int .u32 a0_3]] rfl jZ ?_; (with_reducible refine (ins_Branch.calls a0_0 a0_1 a0_2 a0_3 false _ ?side1 A15.out).mono ?_); (case side1 => exact Glob.below HG.out (jH HB)); rintro e w31 ⟨rfl, hb⟩; refine ⟨_, rfl, ?_⟩; have n0_ := Aside0.mk (jB BK240 hb); have n1_ := Aside0.mk (zT (jH HB) hb); clear BK240; clear HB; have BK240 := n0_; have HB := n1_; clear n0_ n1_; (try clear hb); (try clear hb2); (try clear hk); (try clear hi)) | ((with_reducible refine gate_dst (N := 40) rfl ?_); refine Kd.R_lit (Kd.int .i64) _ 2 ?hg (N := 40) ?hd (xs := ([wrap64 (a1 + 1)] : List Int)) (inner := [.int .i64 (wrap64 (a1 + 1))]) (ok := fun _ => True) (okp := fun _ => True) ?hr ?hp (fun _ hk => hk) trivial (Below.refl _ _) (Nat.le_refl _) (by simp) ?_; (case hd => rfl); (case hg => rfl); (case hr => first | (go_simp; done) | (go_simp; rfl)); (case hp => exact (Reps.one (show Kd.M (Kd.int .i64) _ _ _ (wrap64 (a1 + 1)) [.int .i64 (wrap64 (a1 + 1))] from rfl) (Reps.none _ _))); intro v250 w32 ho33 hb hg_ hnew_; clear hg_ hnew_; (first | rw [← Ny249.out] at ho33 | (simp only [Int.reduceToNat] at ho33; rw [← Ny249.out] at ho33)); have n0_ := Aside0.mk (Kd.R_lower ho33 (zZ (jH HB))); have n1_ := Aside0.mk (jB BK240 hb); have n2_ := Aside0.mk (zT (jH HB) hb); clear BK240; clear HB; have HO251 := n0_; have BK240 := n1_; have HB := n2_; clear n0_ n1_ n2_; clear hb ho33))
    go_ret
    exact ⟨_, jE, by (with_reducible repeat (first | apply Kd.R_alloc | apply Kd.R_drewN | apply Kd.R_drew)); exact HO251.out, jH HB⟩
end Go.Proofs.YtnchbnnijboklaaDoor.M
