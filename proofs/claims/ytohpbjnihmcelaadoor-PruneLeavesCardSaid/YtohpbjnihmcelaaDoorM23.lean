/- By a program of this session: what Go functions of the seat compute, as Lean functions, each with a proof that the call of the Go function comes to that. -/
import Derived.Test.YtohpbjnihmcelaaDoorM0
import Derived.Test.YtohpbjnihmcelaaDoorM7
import Derived.Test.YtohpbjnihmcelaaDoorM8
import Derived.Test.YtohpbjnihmcelaaDoorM12
import Derived.Test.YtohpbjnihmcelaaDoorM17
import Derived.Test.YtohpbjnihmcelaaDoorM19
import Derived.Test.YtohpbjnihmcelaaDoorM20
import Derived.Test.YtohpbjnihmcelaaDoorM22
namespace Go.Proofs.YtohpbjnihmcelaaDoor.M
open Go.RowKit Go.Proofs.YtohpbjnihmcelaaDoorW.PrintWords Go.Proofs.YtohpbjnihmcelaaDoorW.PrintLast Go.Proofs.YtohpbjnihmcelaaDoorW.PrintMore
attribute [local go_sem] max2_int min2_int max_two min_two max_three min_three max_four min_four   -- for this text's walks alone
set_option linter.unusedVariables false
set_option linter.unusedSimpArgs false
mutual
def hurdlelaw23_PruneLeaves.j0 : Nat → List (S45) → List Bool → List (S45) → List Bool → Bool → Option (Bool)
 | 0, _, _, _, _, _ => none
 | k + 1, x0, x3, x5, x7, x59 => if x59 = true then (none) else (hurdlelaw23_PruneLeaves.l0 k x0 x3 x5 x7 0)
def hurdlelaw23_PruneLeaves.l0 : Nat → List (S45) → List Bool → List (S45) → List Bool → Int → Option (Bool)
 | 0, _, _, _, _, _ => none
 | k + 1, x0, x3, x5, x7, x8 => if x8 < (x7.length : Int) then (if 0 ≤ x8 then (if x8 < (x3.length : Int) then (if ((rdOf false x3 x8) != (rdOf false x7 x8)) = true then (none) else (hurdlelaw23_PruneLeaves.l0 k x0 x3 x5 x7 (wrap64 (x8 + 1)))) else (none)) else (none)) else ((hurdleref23_Prune.f k x0).bind fun t246 => ((hurdleref03_Same.f k x5 t246).bind fun t249 => (if t249 = true then ((hurdlelaw23_knows.f k).bind fun t250 => (some t250)) else (none))))
end
def hurdlelaw23_PruneLeaves.f (k : Nat) (l0 : List (S45)) : Option (Bool) := if (l0.length : Int) > 100 then ((hurdlelaw23_knows.f k).bind fun t230 => (some t230)) else ((prune_Met.f k l0).bind fun bt231 => ((prune_Prune.f k l0).bind fun bt235 => ((hurdleref05_Sound.f k l0).bind fun t239 => (if t239 = true then ((hurdleref23_Met.f k l0).bind fun t241 => (if (bt231.1.length : Int) = (t241.length : Int) then (if bt231.2 = 0 then (hurdlelaw23_PruneLeaves.j0 k l0 bt231.1 bt235.1 t241 (bt235.2 != 0)) else (hurdlelaw23_PruneLeaves.j0 k l0 bt231.1 bt235.1 t241 true)) else (hurdlelaw23_PruneLeaves.j0 k l0 bt231.1 bt235.1 t241 true))) else (if (bt231.1.length : Int) = 0 then (if bt231.2 = 1 then (if (bt235.1.length : Int) = 0 then (if bt235.2 = 1 then ((hurdlelaw23_knows.f k).bind fun t240 => (some t240)) else (none)) else (none)) else (none)) else (none))))))
theorem hurdlelaw23_PruneLeaves.mono_l : ∀ k, (∀ y0 y1 y2 y3 y4, LeO (hurdlelaw23_PruneLeaves.j0 k y0 y1 y2 y3 y4) (hurdlelaw23_PruneLeaves.j0 (k + 1) y0 y1 y2 y3 y4)) ∧ (∀ y0 y1 y2 y3 y4, LeO (hurdlelaw23_PruneLeaves.l0 k y0 y1 y2 y3 y4) (hurdlelaw23_PruneLeaves.l0 (k + 1) y0 y1 y2 y3 y4))
 | 0 => ⟨fun _ _ _ _ _ r h => by simp [hurdlelaw23_PruneLeaves.j0] at h, fun _ _ _ _ _ r h => by simp [hurdlelaw23_PruneLeaves.l0] at h⟩
 | k + 1 => by
  obtain ⟨ih0, ih1⟩ := hurdlelaw23_PruneLeaves.mono_l k
  refine ⟨?_, ?_⟩
  ·intro y0 y1 y2 y3 y4
   unfold hurdlelaw23_PruneLeaves.j0
   repeat' first
   | (with_reducible exact ih0 _ _ _ _ _)
   | (with_reducible exact ih1 _ _ _ _ _)
   | (with_reducible exact hurdlelaw23_knows.mono _)
   | (with_reducible exact hurdleref03_Same.mono _ _ _)
   | (with_reducible exact hurdleref05_Sound.mono _ _)
   | (with_reducible exact hurdleref23_Met.mono _ _)
   | (with_reducible exact hurdleref23_Prune.mono _ _)
   | (with_reducible exact prune_Met.mono _ _)
   | (with_reducible exact prune_Prune.mono _ _)
   | (with_reducible exact LeO.refl _)
   | (with_reducible exact LeO.none _)
   | (with_reducible refine LeO.ite ?_ ?_)
   | (with_reducible refine LeO.bind ?_ (fun _ => ?_))
   | exact ih0 _ _ _ _ _
   | exact ih1 _ _ _ _ _
   | exact hurdlelaw23_knows.mono _
   | exact hurdleref03_Same.mono _ _ _
   | exact hurdleref05_Sound.mono _ _
   | exact hurdleref23_Met.mono _ _
   | exact hurdleref23_Prune.mono _ _
   | exact prune_Met.mono _ _
   | exact prune_Prune.mono _ _
   | exact LeO.none _
   | refine LeO.ite ?_ ?_
   | refine LeO.bind ?_ (fun _ => ?_)
  ·intro y0 y1 y2 y3 y4
   unfold hurdlelaw23_PruneLeaves.l0
   repeat' first
   | (with_reducible exact ih0 _ _ _ _ _)
   | (with_reducible exact ih1 _ _ _ _ _)
   | (with_reducible exact hurdlelaw23_knows.mono _)
   | (with_reducible exact hurdleref03_Same.mono _ _ _)
   | (with_reducible exact hurdleref05_Sound.mono _ _)
   | (with_reducible exact hurdleref23_Met.mono _ _)
   | (with_reducible exact hurdleref23_Prune.mono _ _)
   | (with_reducible exact prune_Met.mono _ _)
   | (with_reducible exact prune_Prune.mono _ _)
   | (with_reducible exact LeO.refl _)
   | (with_reducible exact LeO.none _)
   | (with_reducible refine LeO.ite ?_ ?_)
   | (with_reducible refine LeO.bind ?_ (fun _ => ?_))
   | exact ih0 _ _ _ _ _
   | exact ih1 _ _ _ _ _
   | exact hurdlelaw23_knows.mono _
   | exact hurdleref03_Same.mono _ _ _
   | exact hurdleref05_Sound.mono _ _
   | exact hurdleref23_Met.mono _ _
   | exact hurdleref23_Prune.mono _ _
   | exact prune_Met.mono _ _
   | exact prune_Prune.mono _ _
   | exact LeO.none _
   | refine LeO.ite ?_ ?_
   | refine LeO.bind ?_ (fun _ => ?_)
theorem hurdlelaw23_PruneLeaves.mono : ∀ a0 k, LeO (hurdlelaw23_PruneLeaves.f k a0) (hurdlelaw23_PruneLeaves.f (k + 1) a0) := by
 intro a0 k
 obtain ⟨ih0, ih1⟩ := hurdlelaw23_PruneLeaves.mono_l k
 unfold hurdlelaw23_PruneLeaves.f
 repeat' first
   | (with_reducible exact ih0 _ _ _ _ _)
   | (with_reducible exact ih1 _ _ _ _ _)
   | (with_reducible exact hurdlelaw23_knows.mono _)
   | (with_reducible exact hurdleref03_Same.mono _ _ _)
   | (with_reducible exact hurdleref05_Sound.mono _ _)
   | (with_reducible exact hurdleref23_Met.mono _ _)
   | (with_reducible exact hurdleref23_Prune.mono _ _)
   | (with_reducible exact prune_Met.mono _ _)
   | (with_reducible exact prune_Prune.mono _ _)
   | (with_reducible exact LeO.refl _)
   | (with_reducible exact LeO.none _)
   | (with_reducible refine LeO.ite ?_ ?_)
   | (with_reducible refine LeO.bind ?_ (fun _ => ?_))
   | exact ih0 _ _ _ _ _
   | exact ih1 _ _ _ _ _
   | exact hurdlelaw23_knows.mono _
   | exact hurdleref03_Same.mono _ _ _
   | exact hurdleref05_Sound.mono _ _
   | exact hurdleref23_Met.mono _ _
   | exact hurdleref23_Prune.mono _ _
   | exact prune_Met.mono _ _
   | exact prune_Prune.mono _ _
   | exact LeO.none _
   | refine LeO.ite ?_ ?_
   | refine LeO.bind ?_ (fun _ => ?_)
set_option maxHeartbeats 8000000 in
set_option maxRecDepth 100000 in
theorem hurdlelaw23_PruneLeaves.calls (k : Nat) (A0 : Option Addr) (c0 : Nat) (l0 : List (S45)) (r : Bool) (w : World) (hr0 : Kd.C k45 w A0 l0.length l0) (hc0 : l0.length ≤ c0) (hG : Glob w) (h : hurdlelaw23_PruneLeaves.f k l0 = some r) :
  Calls Tryd.prog 3 #[.slice A0 l0.length c0] w fun e w' => e = .returned (.bool r) ∧ Below w.heap.size w w' := by
 have HG := Aside0.mk hG
 clear hG
 have HR0 := Aside0.mk hr0
 have HC0 := Aside0.mk hc0
 clear hr0 hc0
 have HB := Aside0.mk (Below.refl w.heap.size w)
 have H : (if (l0.length : Int) > 100 then ((hurdlelaw23_knows.f k).bind fun t230 => (some t230)) else ((prune_Met.f k l0).bind fun bt231 => ((prune_Prune.f k l0).bind fun bt235 => ((hurdleref05_Sound.f k l0).bind fun t239 => (if t239 = true then ((hurdleref23_Met.f k l0).bind fun t241 => (if (bt231.1.length : Int) = (t241.length : Int) then (if bt231.2 = 0 then (hurdlelaw23_PruneLeaves.j0 k l0 bt231.1 bt235.1 t241 (bt235.2 != 0)) else (hurdlelaw23_PruneLeaves.j0 k l0 bt231.1 bt235.1 t241 true)) else (hurdlelaw23_PruneLeaves.j0 k l0 bt231.1 bt235.1 t241 true))) else (if (bt231.1.length : Int) = 0 then (if bt231.2 = 1 then (if (bt235.1.length : Int) = 0 then (if bt235.2 = 1 then ((hurdlelaw23_knows.f k).bind fun t240 => (some t240)) else (none)) else (none)) else (none)) else (none))))))) = some r := h
 clear h
 by_cases c2 : (l0.length : Int) > 100
 ·rw [if_pos c2] at H
  have c2b0 : decide (100 < (l0.length : Int)) = true := dT c2
  have c2b1 : decide (100 < l0.length) = true := dT (by omega)
  clear c2
  replace H := Option.bind_eq_some_iff.mp H
  obtain ⟨t230, A30, H⟩ := H
  try dsimp only at H
  have A3 := Aside0.mk A30
  clear A30
  obtain rfl := Option.some.inj H
  go_enter Tryd.func3, Tryd.ntmps3
  go_wp2_with (first | (go_at_call 8; (with_reducible refine (hurdlelaw23_knows.calls k  t230 _ ?side1 A3.out).mono ?_); (case side1 => exact Glob.below HG.out HB.out); rintro e w4 ⟨rfl, hb⟩; have n0_ := Aside0.mk (zT HB.out hb); clear HB; have HB := n0_; clear n0_))
  repeat (go_quiet (first | (go_at_call 8; (with_reducible refine (hurdlelaw23_knows.calls k  t230 _ ?side1 A3.out).mono ?_); (case side1 => exact Glob.below HG.out HB.out); rintro e w4 ⟨rfl, hb⟩; have n0_ := Aside0.mk (zT HB.out hb); clear HB; have HB := n0_; clear n0_)); try go_wp2_with (first | (go_at_call 8; (with_reducible refine (hurdlelaw23_knows.calls k  t230 _ ?side1 A3.out).mono ?_); (case side1 => exact Glob.below HG.out HB.out); rintro e w4 ⟨rfl, hb⟩; have n0_ := Aside0.mk (zT HB.out hb); clear HB; have HB := n0_; clear n0_)))
  go_ret
  exact ⟨by first | rfl | (simp [*] <;> rfl), by repeat (first | (with_reducible first | exact HB.out | apply zA | apply zN | apply zD) | exact HB.out)⟩
 ·rw [if_neg c2] at H
  have c2b0 : decide (100 < (l0.length : Int)) = false := dF c2
  have c2b1 : decide (100 < l0.length) = false := dF (by omega)
  clear c2
  replace H := Option.bind_eq_some_iff.mp H
  obtain ⟨⟨t231, t232⟩, A50, H⟩ := H
  try dsimp only at H
  have A5 := Aside0.mk A50
  clear A50
  replace H := Option.bind_eq_some_iff.mp H
  obtain ⟨⟨t235, t236⟩, A60, H⟩ := H
  try dsimp only at H
  have A6 := Aside0.mk A60
  clear A60
  replace H := Option.bind_eq_some_iff.mp H
  obtain ⟨t239, A70, H⟩ := H
  try dsimp only at H
  have A7 := Aside0.mk A70
  clear A70
  by_cases c8 : t239 = true
  ·subst c8
   rw [if_pos rfl] at H
   replace H := Option.bind_eq_some_iff.mp H
   obtain ⟨t241, A90, H⟩ := H
   try dsimp only at H
   have A9 := Aside0.mk A90
   clear A90
   have HC10 := Aside0.mk H
   clear H
   go_enter Tryd.func3, Tryd.ntmps3
   go_upto_region 8 with (first | (go_at_call 9; (with_reducible refine (prune_Met.calls k _ _ l0 t231 t232 _ ?side1 ?side2 ?side3 A5.out).mono ?_); (case side1 => exact HR0.out); (case side2 => exact HC0.out); (case side3 => exact Glob.below HG.out HB.out); rintro e w11 ⟨v233, rfl, ho0, hb⟩; have n0_ := Aside0.mk (Kd.R_lower ho0 (zZ HB.out)); have n1_ := Aside0.mk (zT HB.out hb); clear HB; have HO234 := n0_; have HB := n1_; clear n0_ n1_; (try clear ho0)) | (go_at_call 10; (with_reducible refine (prune_Prune.calls k _ _ l0 t235 t236 _ ?side1 ?side2 ?side3 A6.out).mono ?_); (case side1 => exact (Kd.C_below HR0.out HB.out)); (case side2 => exact HC0.out); (case side3 => exact Glob.below HG.out HB.out); rintro e w12 ⟨v237, rfl, ho0, hb⟩; have n0_ := Aside0.mk (Kd.R_below HO234.out hb); have n1_ := Aside0.mk (Kd.R_lower ho0 (zZ HB.out)); have n2_ := Aside0.mk (zT HB.out hb); clear HO234; clear HB; have HO234 := n0_; have HO238 := n1_; have HB := n2_; clear n0_ n1_ n2_; (try clear ho0)) | (go_at_call 11; (with_reducible refine (hurdleref05_Sound.calls k _ _ l0 true _ ?side1 ?side2 A7.out).mono ?_); (case side1 => exact (Kd.C_below HR0.out HB.out)); (case side2 => exact HC0.out); rintro e w13 ⟨rfl, hb⟩; have n0_ := Aside0.mk (Kd.R_below HO234.out hb); have n1_ := Aside0.mk (Kd.R_below HO238.out hb); have n2_ := Aside0.mk (zT HB.out hb); clear HO234; clear HO238; clear HB; have HO234 := n0_; have HO238 := n1_; have HB := n2_; clear n0_ n1_ n2_) | (go_at_call 12; (with_reducible refine (hurdleref23_Met.calls k _ _ l0 t241 _ ?side1 ?side2 A9.out).mono ?_); (case side1 => exact (Kd.C_below HR0.out HB.out)); (case side2 => exact HC0.out); rintro e w14 ⟨v242, rfl, ho0, hb⟩; have n0_ := Aside0.mk (Kd.R_elder' HO234.out (Kd.R_base ho0) hb); have n1_ := Aside0.mk (Kd.R_below HO238.out hb); have n2_ := Aside0.mk (Kd.R_lower (Kd.R_new' ho0 (Kd.R_lt HO234.out)) (zZ HB.out)); have n3_ := Aside0.mk (zT HB.out hb); clear HO234; clear HO238; clear HB; have HO234 := n0_; have HO238 := n1_; have HO243 := n2_; have HB := n3_; clear n0_ n1_ n2_ n3_; (try clear ho0)))
   repeat (go_quiet (first | (go_at_call 9; (with_reducible refine (prune_Met.calls k _ _ l0 t231 t232 _ ?side1 ?side2 ?side3 A5.out).mono ?_); (case side1 => exact HR0.out); (case side2 => exact HC0.out); (case side3 => exact Glob.below HG.out HB.out); rintro e w11 ⟨v233, rfl, ho0, hb⟩; have n0_ := Aside0.mk (Kd.R_lower ho0 (zZ HB.out)); have n1_ := Aside0.mk (zT HB.out hb); clear HB; have HO234 := n0_; have HB := n1_; clear n0_ n1_; (try clear ho0)) | (go_at_call 10; (with_reducible refine (prune_Prune.calls k _ _ l0 t235 t236 _ ?side1 ?side2 ?side3 A6.out).mono ?_); (case side1 => exact (Kd.C_below HR0.out HB.out)); (case side2 => exact HC0.out); (case side3 => exact Glob.below HG.out HB.out); rintro e w12 ⟨v237, rfl, ho0, hb⟩; have n0_ := Aside0.mk (Kd.R_below HO234.out hb); have n1_ := Aside0.mk (Kd.R_lower ho0 (zZ HB.out)); have n2_ := Aside0.mk (zT HB.out hb); clear HO234; clear HB; have HO234 := n0_; have HO238 := n1_; have HB := n2_; clear n0_ n1_ n2_; (try clear ho0)) | (go_at_call 11; (with_reducible refine (hurdleref05_Sound.calls k _ _ l0 true _ ?side1 ?side2 A7.out).mono ?_); (case side1 => exact (Kd.C_below HR0.out HB.out)); (case side2 => exact HC0.out); rintro e w13 ⟨rfl, hb⟩; have n0_ := Aside0.mk (Kd.R_below HO234.out hb); have n1_ := Aside0.mk (Kd.R_below HO238.out hb); have n2_ := Aside0.mk (zT HB.out hb); clear HO234; clear HO238; clear HB; have HO234 := n0_; have HO238 := n1_; have HB := n2_; clear n0_ n1_ n2_) | (go_at_call 12; (with_reducible refine (hurdleref23_Met.calls k _ _ l0 t241 _ ?side1 ?side2 A9.out).mono ?_); (case side1 => exact (Kd.C_below HR0.out HB.out)); (case side2 => exact HC0.out); rintro e w14 ⟨v242, rfl, ho0, hb⟩; have n0_ := Aside0.mk (Kd.R_elder' HO234.out (Kd.R_base ho0) hb); have n1_ := Aside0.mk (Kd.R_below HO238.out hb); have n2_ := Aside0.mk (Kd.R_lower (Kd.R_new' ho0 (Kd.R_lt HO234.out)) (zZ HB.out)); have n3_ := Aside0.mk (zT HB.out hb); clear HO234; clear HO238; clear HB; have HO234 := n0_; have HO238 := n1_; have HO243 := n2_; have HB := n3_; clear n0_ n1_ n2_ n3_; (try clear ho0))); go_upto_region 8 with (first | (go_at_call 9; (with_reducible refine (prune_Met.calls k _ _ l0 t231 t232 _ ?side1 ?side2 ?side3 A5.out).mono ?_); (case side1 => exact HR0.out); (case side2 => exact HC0.out); (case side3 => exact Glob.below HG.out HB.out); rintro e w11 ⟨v233, rfl, ho0, hb⟩; have n0_ := Aside0.mk (Kd.R_lower ho0 (zZ HB.out)); have n1_ := Aside0.mk (zT HB.out hb); clear HB; have HO234 := n0_; have HB := n1_; clear n0_ n1_; (try clear ho0)) | (go_at_call 10; (with_reducible refine (prune_Prune.calls k _ _ l0 t235 t236 _ ?side1 ?side2 ?side3 A6.out).mono ?_); (case side1 => exact (Kd.C_below HR0.out HB.out)); (case side2 => exact HC0.out); (case side3 => exact Glob.below HG.out HB.out); rintro e w12 ⟨v237, rfl, ho0, hb⟩; have n0_ := Aside0.mk (Kd.R_below HO234.out hb); have n1_ := Aside0.mk (Kd.R_lower ho0 (zZ HB.out)); have n2_ := Aside0.mk (zT HB.out hb); clear HO234; clear HB; have HO234 := n0_; have HO238 := n1_; have HB := n2_; clear n0_ n1_ n2_; (try clear ho0)) | (go_at_call 11; (with_reducible refine (hurdleref05_Sound.calls k _ _ l0 true _ ?side1 ?side2 A7.out).mono ?_); (case side1 => exact (Kd.C_below HR0.out HB.out)); (case side2 => exact HC0.out); rintro e w13 ⟨rfl, hb⟩; have n0_ := Aside0.mk (Kd.R_below HO234.out hb); have n1_ := Aside0.mk (Kd.R_below HO238.out hb); have n2_ := Aside0.mk (zT HB.out hb); clear HO234; clear HO238; clear HB; have HO234 := n0_; have HO238 := n1_; have HB := n2_; clear n0_ n1_ n2_) | (go_at_call 12; (with_reducible refine (hurdleref23_Met.calls k _ _ l0 t241 _ ?side1 ?side2 A9.out).mono ?_); (case side1 => exact (Kd.C_below HR0.out HB.out)); (case side2 => exact HC0.out); rintro e w14 ⟨v242, rfl, ho0, hb⟩; have n0_ := Aside0.mk (Kd.R_elder' HO234.out (Kd.R_base ho0) hb); have n1_ := Aside0.mk (Kd.R_below HO238.out hb); have n2_ := Aside0.mk (Kd.R_lower (Kd.R_new' ho0 (Kd.R_lt HO234.out)) (zZ HB.out)); have n3_ := Aside0.mk (zT HB.out hb); clear HO234; clear HO238; clear HB; have HO234 := n0_; have HO238 := n1_; have HO243 := n2_; have HB := n3_; clear n0_ n1_ n2_ n3_; (try clear ho0))))
   (try simp only [Act.put, List.setIfInBounds_toArray, List.set_cons_zero, List.set_cons_succ])
   go_cut [59] (fun v59 wc => ∃ (kq : Nat) (x59_9 : Bool), v59 = .bool x59_9 ∧ Aside0 (hurdlelaw23_PruneLeaves.j0 kq l0 t231 t235 t241 x59_9 = some r) ∧ Aside0 (kq ≤ k) ∧ Aside0 (Kd.R Kd.bool 4 wc w.heap.size (fun k_ => some k_ ≠ (v242 : Value).ownBlock) v233 t231) ∧ Aside0 (Kd.R k45 45 wc w.heap.size (fun _ => True) v237 t235) ∧ Aside0 (Kd.R Kd.bool 4 wc w.heap.size (fun k_ => some k_ ≠ (v233 : Value).ownBlock) v242 t241) ∧ Aside0 (Below w.heap.size w wc))
   case first =>
    have H := HC10.out
    clear HC10
    by_cases c15 : (t231.length : Int) = (t241.length : Int)
    ·rw [if_pos c15] at H
     have c15b0 : ((t231.length : Int) == (t241.length : Int)) = true := bI.mpr c15
     have c15b1 : ((t231.length : Int) != (t241.length : Int)) = false := nF.mpr c15
     have c15b2 : (t231.length == t241.length) = true := by first | simpa using c15 | (simp at c15 ⊢; omega)
     clear c15
     (first | rw [c15b0] | (simp only [i64_w, i32_w]; rw [c15b0]) | skip)
     by_cases c16 : t232 = 0
     ·rw [if_pos c16] at H
      have c16b0 : (t232 == 0) = true := bI.mpr c16
      have c16b1 : (t232 != 0) = false := nF.mpr c16
      clear c16
      have H' := Aside0.mk H
      clear H
      obtain ⟨Ao17, co17, eo17⟩ := Kd.R_slice HO234.out
      subst eo17
      obtain ⟨Ao18, co18, eo18⟩ := Kd.R_slice HO243.out
      subst eo18
      go_wp2
      repeat (go_quiet (fail); try go_wp2)
      go_meet
      case rel => exact ⟨_, ((t236 != 0)), rfl, H', ⟨by first | omega | exact Nat.le_refl _⟩, ⟨by (with_reducible repeat (first | apply Kd.R_alloc | apply Kd.R_drewN | apply Kd.R_drew)); exact Kd.R_mono HO234.out (fun _ hk => hk.2)⟩, ⟨by (with_reducible repeat (first | apply Kd.R_alloc | apply Kd.R_drewN | apply Kd.R_drew)); exact HO238.out⟩, ⟨by (with_reducible repeat (first | apply Kd.R_alloc | apply Kd.R_drewN | apply Kd.R_drew)); exact Kd.R_mono HO243.out (fun _ hk => hk.2)⟩, ⟨by repeat (first | (with_reducible first | exact HB.out | apply zA | apply zN | apply zD) | exact HB.out)⟩⟩
     ·rw [if_neg c16] at H
      have c16b0 : (t232 == 0) = false := bF.mpr c16
      have c16b1 : (t232 != 0) = true := nI.mpr c16
      have H' := Aside0.mk H
      clear H
      obtain ⟨Ao19, co19, eo19⟩ := Kd.R_slice HO234.out
      subst eo19
      obtain ⟨Ao20, co20, eo20⟩ := Kd.R_slice HO243.out
      subst eo20
      go_wp2
      repeat (go_quiet (fail); try go_wp2)
      go_meet
      case rel => exact ⟨_, (true), rfl, H', ⟨by first | omega | exact Nat.le_refl _⟩, ⟨by (with_reducible repeat (first | apply Kd.R_alloc | apply Kd.R_drewN | apply Kd.R_drew)); exact Kd.R_mono HO234.out (fun _ hk => hk.2)⟩, ⟨by (with_reducible repeat (first | apply Kd.R_alloc | apply Kd.R_drewN | apply Kd.R_drew)); exact HO238.out⟩, ⟨by (with_reducible repeat (first | apply Kd.R_alloc | apply Kd.R_drewN | apply Kd.R_drew)); exact Kd.R_mono HO243.out (fun _ hk => hk.2)⟩, ⟨by repeat (first | (with_reducible first | exact HB.out | apply zA | apply zN | apply zD) | exact HB.out)⟩⟩
    ·rw [if_neg c15] at H
     have c15b0 : ((t231.length : Int) == (t241.length : Int)) = false := bF.mpr c15
     have c15b1 : ((t231.length : Int) != (t241.length : Int)) = true := nI.mpr c15
     have c15b2 : (t231.length == t241.length) = false := by first | simpa using c15 | (simp at c15 ⊢; omega)
     (first | rw [c15b0] | (simp only [i64_w, i32_w]; rw [c15b0]) | skip)
     have H' := Aside0.mk H
     clear H
     obtain ⟨Ao21, co21, eo21⟩ := Kd.R_slice HO234.out
     subst eo21
     obtain ⟨Ao22, co22, eo22⟩ := Kd.R_slice HO243.out
     subst eo22
     go_wp2
     repeat (go_quiet (fail); try go_wp2)
     go_meet
     case rel => exact ⟨_, (true), rfl, H', ⟨by first | omega | exact Nat.le_refl _⟩, ⟨by (with_reducible repeat (first | apply Kd.R_alloc | apply Kd.R_drewN | apply Kd.R_drew)); exact Kd.R_mono HO234.out (fun _ hk => hk.2)⟩, ⟨by (with_reducible repeat (first | apply Kd.R_alloc | apply Kd.R_drewN | apply Kd.R_drew)); exact HO238.out⟩, ⟨by (with_reducible repeat (first | apply Kd.R_alloc | apply Kd.R_drewN | apply Kd.R_drew)); exact Kd.R_mono HO243.out (fun _ hk => hk.2)⟩, ⟨by repeat (first | (with_reducible first | exact HB.out | apply zA | apply zN | apply zD) | exact HB.out)⟩⟩
   case rest =>
    clear HC10
    obtain ⟨kq, x59_9, rfl, HA, HJ9, HO_3, HO_5, HO_7, HB⟩ := hcut
    cases kq with
    | zero => exact absurd HA.out (by simp [hurdlelaw23_PruneLeaves.j0])
    | succ kj9 =>
     have H := HA.out
     clear HA
     simp only [hurdlelaw23_PruneLeaves.j0] at H
     by_cases c23 : x59_9 = true
     ·subst c23
      rw [if_pos rfl] at H
      exact absurd H (by simp)
     ·replace c23 := Bool.eq_false_iff.mpr c23
      subst c23
      rw [if_neg (show ¬ (false = true) by decide)] at H
      have H' := Aside0.mk H
      clear H
      go_wp2
      repeat (go_quiet (fail); try go_wp2)
      go_loopg [8] kj9 (fun kq v8 w' => ∃ (x8_2 : Int), v8 = .int .i64 x8_2 ∧ Aside0 (hurdlelaw23_PruneLeaves.l0 kq l0 t231 t235 t241 x8_2 = some r) ∧ Aside0 (kq ≤ kj9) ∧ Aside0 (Kd.R Kd.bool 4 w' w.heap.size (fun k_ => some k_ ≠ (v242 : Value).ownBlock) v233 t231) ∧ Aside0 (Kd.R k45 45 w' w.heap.size (fun _ => True) v237 t235) ∧ Aside0 (Kd.R Kd.bool 4 w' w.heap.size (fun k_ => some k_ ≠ (v233 : Value).ownBlock) v242 t241) ∧ Aside0 (Below w.heap.size w w'))
      case atStart => exact ⟨(0), rfl, H', ⟨Nat.le_refl _⟩, ⟨by (with_reducible repeat (first | apply Kd.R_alloc | apply Kd.R_drewN | apply Kd.R_drew)); exact HO_3.out⟩, ⟨by (with_reducible repeat (first | apply Kd.R_alloc | apply Kd.R_drewN | apply Kd.R_drew)); exact HO_5.out⟩, ⟨by (with_reducible repeat (first | apply Kd.R_alloc | apply Kd.R_drewN | apply Kd.R_drew)); exact HO_7.out⟩, ⟨by repeat (first | (with_reducible first | exact HB.out | apply zA | apply zN | apply zD) | exact HB.out)⟩⟩
      case round =>
       clear H'
       obtain ⟨x8_2, rfl, HA, HK2, HO_3, HO_5, HO_7, HB⟩ := hrel
       cases gk with
       | zero => exact absurd HA.out (by simp [hurdlelaw23_PruneLeaves.l0])
       | succ k2 =>
        have H := HA.out
        clear HA
        simp only [hurdlelaw23_PruneLeaves.l0] at H
        by_cases c24 : x8_2 < (t241.length : Int)
        ·rw [if_pos c24] at H
         have c24b0 : decide (x8_2 < (t241.length : Int)) = true := dT c24
         clear c24
         by_cases c25 : 0 ≤ x8_2
         ·rw [if_pos c25] at H
          have c25b0 : decide (0 ≤ x8_2) = true := dT c25
          clear c25
          by_cases c26 : x8_2 < (t231.length : Int)
          ·rw [if_pos c26] at H
           have c26b0 : decide (x8_2 < (t231.length : Int)) = true := dT c26
           clear c26
           by_cases c27 : ((rdOf false t231 x8_2) != (rdOf false t241 x8_2)) = true
           ·rw [if_pos c27] at H
            exact absurd H (by simp)
           ·rw [if_neg c27] at H
            have c27b0 : ((rdOf false t231 x8_2) != (rdOf false t241 x8_2)) = false := by simpa using c27
            (try (have c27b1 : decide ((rdOf false t231 x8_2) = (rdOf false t241 x8_2)) = true := by simpa using c27))
            (try (have c27b2 : ((rdOf false t231 x8_2) == (rdOf false t241 x8_2)) = true := by simpa using c27))
            clear c27
            have H' := Aside0.mk H
            clear H
            obtain ⟨Ao28, co28, eo28⟩ := Kd.R_slice HO_7.out
            subst eo28
            obtain ⟨Ao29, co29, eo29⟩ := Kd.R_slice HO_3.out
            subst eo29
            have p244 : 0 ≤ (x8_2 : Int) := oD (by assumption)
            have q244 : x8_2 < (t231.length : Int) := oD (by assumption)
            obtain ⟨ad244, e244, hx244_0⟩ := Kd.at_bool (Kd.R_reads' HO_3.out).2.2 x8_2 p244 q244
            cases e244
            replace p244 := eq_true p244
            replace q244 := eq_true q244
            have p245 : 0 ≤ (x8_2 : Int) := oD (by assumption)
            have q245 : x8_2 < (t241.length : Int) := oD (by assumption)
            obtain ⟨ad245, e245, hx245_0⟩ := Kd.at_bool (Kd.R_reads' HO_7.out).2.2 x8_2 p245 q245
            cases e245
            replace p245 := eq_true p245
            replace q245 := eq_true q245
            go_wp2
            repeat (go_quiet (fail); try go_wp2)
            go_roundg k2
            case measure => have := HJ9.out; have := HK2.out; omega
            case rel => exact ⟨(wrap64 (x8_2 + 1)), rfl, H', ⟨by have := HJ9.out; have := HK2.out; omega⟩, ⟨by (with_reducible repeat (first | apply Kd.R_alloc | apply Kd.R_drewN | apply Kd.R_drew)); exact HO_3.out⟩, ⟨by (with_reducible repeat (first | apply Kd.R_alloc | apply Kd.R_drewN | apply Kd.R_drew)); exact HO_5.out⟩, ⟨by (with_reducible repeat (first | apply Kd.R_alloc | apply Kd.R_drewN | apply Kd.R_drew)); exact HO_7.out⟩, ⟨by repeat (first | (with_reducible first | exact HB.out | apply zA | apply zN | apply zD) | exact HB.out)⟩⟩
          ·rw [if_neg c26] at H
           exact absurd H (by simp)
         ·rw [if_neg c25] at H
          exact absurd H (by simp)
        ·rw [if_neg c24] at H
         have c24b0 : decide (x8_2 < (t241.length : Int)) = false := dF c24
         clear c24
         replace H := Option.bind_eq_some_iff.mp H
         obtain ⟨t246, A300, H⟩ := H
         try dsimp only at H
         have A30 := Aside0.mk A300
         clear A300
         replace H := Option.bind_eq_some_iff.mp H
         obtain ⟨t249, A310, H⟩ := H
         try dsimp only at H
         have A31 := Aside0.mk A310
         clear A310
         by_cases c32 : t249 = true
         ·subst c32
          rw [if_pos rfl] at H
          replace H := Option.bind_eq_some_iff.mp H
          obtain ⟨t250, A330, H⟩ := H
          try dsimp only at H
          have A33 := Aside0.mk A330
          clear A330
          obtain rfl := Option.some.inj H
          obtain ⟨Ao34, co34, eo34⟩ := Kd.R_slice HO_7.out
          subst eo34
          go_wp2_with (first | (go_at_call 14; (with_reducible refine (hurdleref23_Prune.calls k2 _ _ l0 t246 _ ?side1 ?side2 A30.out).mono ?_); (case side1 => exact (Kd.C_below HR0.out HB.out)); (case side2 => exact HC0.out); rintro e w35 ⟨v247, rfl, ho0, hb⟩; have n0_ := Aside0.mk (Kd.R_below (by (with_reducible repeat (first | apply Kd.R_alloc | apply Kd.R_drewN | apply Kd.R_drew)); exact HO_3.out) hb); have n1_ := Aside0.mk (Kd.R_elder' (by (with_reducible repeat (first | apply Kd.R_alloc | apply Kd.R_drewN | apply Kd.R_drew)); exact HO_5.out) (Kd.R_base ho0) hb); have n2_ := Aside0.mk (Kd.R_below (by (with_reducible repeat (first | apply Kd.R_alloc | apply Kd.R_drewN | apply Kd.R_drew)); exact HO_7.out) hb); have n3_ := Aside0.mk (Kd.R_lower (Kd.R_new' ho0 (Kd.R_lt (by (with_reducible repeat (first | apply Kd.R_alloc | apply Kd.R_drewN | apply Kd.R_drew)); exact HO_5.out))) (zZ (by repeat (first | (with_reducible first | exact HB.out | apply zA | apply zN | apply zD) | exact HB.out)))); have n4_ := Aside0.mk (zT (by repeat (first | (with_reducible first | exact HB.out | apply zA | apply zN | apply zD) | exact HB.out)) hb); clear HO_3; clear HO_5; clear HO_7; clear HB; have HO_3 := n0_; have HO_5 := n1_; have HO_7 := n2_; have HO248 := n3_; have HB := n4_; clear n0_ n1_ n2_ n3_ n4_; (try clear ho0); obtain ⟨Ao36, co36, eo36⟩ := Kd.R_slice HO_5.out; subst eo36; obtain ⟨Ao37, co37, eo37⟩ := Kd.R_slice HO248.out; subst eo37) | (go_at_call 13; (with_reducible refine (hurdleref03_Same.calls k2 _ _ t235 _ _ t246 true _ ?side1 ?side2 ?side3 ?side4 A31.out).mono ?_); (case side1 => repeat (first | exact (Kd.R_reads' HO_5.out).2.2 | (with_reducible refine Kd.C_alloc ?_ _) | (with_reducible refine Kd.C_drewN ?_ _) | (with_reducible refine Kd.C_drew ?_))); (case side2 => exact (Kd.R_reads' HO_5.out).2.1); (case side3 => repeat (first | exact (Kd.R_reads' HO248.out).2.2 | (with_reducible refine Kd.C_alloc ?_ _) | (with_reducible refine Kd.C_drewN ?_ _) | (with_reducible refine Kd.C_drew ?_))); (case side4 => exact (Kd.R_reads' HO248.out).2.1); rintro e w' ⟨rfl, ⟨nd, rfl⟩⟩; (try first | exact ⟨rfl, _, World.drewN_drewN _ _ _⟩ | exact ⟨rfl, _, Eq.trans (World.drewN_drewN _ _ _) (congrArg (World.drewN _) (Nat.add_assoc _ _ _))⟩)) | (go_at_call 8; (with_reducible refine (hurdlelaw23_knows.calls k2  t250 _ ?side1 A33.out).mono ?_); (case side1 => exact Glob.below HG.out (by repeat (first | (with_reducible first | exact HB.out | apply zA | apply zN | apply zD) | exact HB.out))); rintro e w38 ⟨rfl, hb⟩; have n0_ := Aside0.mk (Kd.R_below (by (with_reducible repeat (first | apply Kd.R_alloc | apply Kd.R_drewN | apply Kd.R_drew)); exact HO_3.out) hb); have n1_ := Aside0.mk (Kd.R_below (by (with_reducible repeat (first | apply Kd.R_alloc | apply Kd.R_drewN | apply Kd.R_drew)); exact HO_5.out) hb); have n2_ := Aside0.mk (Kd.R_below (by (with_reducible repeat (first | apply Kd.R_alloc | apply Kd.R_drewN | apply Kd.R_drew)); exact HO_7.out) hb); have n3_ := Aside0.mk (Kd.R_below (by (with_reducible repeat (first | apply Kd.R_alloc | apply Kd.R_drewN | apply Kd.R_drew)); exact HO248.out) hb); have n4_ := Aside0.mk (zT (by repeat (first | (with_reducible first | exact HB.out | apply zA | apply zN | apply zD) | exact HB.out)) hb); clear HO_3; clear HO_5; clear HO_7; clear HO248; clear HB; have HO_3 := n0_; have HO_5 := n1_; have HO_7 := n2_; have HO248 := n3_; have HB := n4_; clear n0_ n1_ n2_ n3_ n4_))
          repeat (go_quiet (first | (go_at_call 14; (with_reducible refine (hurdleref23_Prune.calls k2 _ _ l0 t246 _ ?side1 ?side2 A30.out).mono ?_); (case side1 => repeat (first | exact (Kd.C_below HR0.out HB.out) | (with_reducible refine Kd.C_alloc ?_ _) | (with_reducible refine Kd.C_drewN ?_ _) | (with_reducible refine Kd.C_drew ?_))); (case side2 => exact HC0.out); rintro e w35 ⟨v247, rfl, ho0, hb⟩; have n0_ := Aside0.mk (Kd.R_below (by (with_reducible repeat (first | apply Kd.R_alloc | apply Kd.R_drewN | apply Kd.R_drew)); exact HO_3.out) hb); have n1_ := Aside0.mk (Kd.R_elder' (by (with_reducible repeat (first | apply Kd.R_alloc | apply Kd.R_drewN | apply Kd.R_drew)); exact HO_5.out) (Kd.R_base ho0) hb); have n2_ := Aside0.mk (Kd.R_below (by (with_reducible repeat (first | apply Kd.R_alloc | apply Kd.R_drewN | apply Kd.R_drew)); exact HO_7.out) hb); have n3_ := Aside0.mk (Kd.R_lower (Kd.R_new' ho0 (Kd.R_lt (by (with_reducible repeat (first | apply Kd.R_alloc | apply Kd.R_drewN | apply Kd.R_drew)); exact HO_5.out))) (zZ (by repeat (first | (with_reducible first | exact HB.out | apply zA | apply zN | apply zD) | exact HB.out)))); have n4_ := Aside0.mk (zT (by repeat (first | (with_reducible first | exact HB.out | apply zA | apply zN | apply zD) | exact HB.out)) hb); clear HO_3; clear HO_5; clear HO_7; clear HB; have HO_3 := n0_; have HO_5 := n1_; have HO_7 := n2_; have HO248 := n3_; have HB := n4_; clear n0_ n1_ n2_ n3_ n4_; (try clear hb); (try clear hb2); (try clear hk); (try clear hi); (try clear ho0); obtain ⟨Ao36, co36, eo36⟩ := Kd.R_slice HO_5.out; subst eo36; obtain ⟨Ao37, co37, eo37⟩ := Kd.R_slice HO248.out; subst eo37) | (go_at_call 13; (with_reducible refine (hurdleref03_Same.calls k2 _ _ t235 _ _ t246 true _ ?side1 ?side2 ?side3 ?side4 A31.out).mono ?_); (case side1 => repeat (first | exact (Kd.R_reads' HO_5.out).2.2 | (with_reducible refine Kd.C_alloc ?_ _) | (with_reducible refine Kd.C_drewN ?_ _) | (with_reducible refine Kd.C_drew ?_))); (case side2 => exact (Kd.R_reads' HO_5.out).2.1); (case side3 => repeat (first | exact (Kd.R_reads' HO248.out).2.2 | (with_reducible refine Kd.C_alloc ?_ _) | (with_reducible refine Kd.C_drewN ?_ _) | (with_reducible refine Kd.C_drew ?_))); (case side4 => exact (Kd.R_reads' HO248.out).2.1); rintro e w' ⟨rfl, ⟨nd, rfl⟩⟩; (try first | exact ⟨rfl, _, World.drewN_drewN _ _ _⟩ | exact ⟨rfl, _, Eq.trans (World.drewN_drewN _ _ _) (congrArg (World.drewN _) (Nat.add_assoc _ _ _))⟩)) | (go_at_call 8; (with_reducible refine (hurdlelaw23_knows.calls k2  t250 _ ?side1 A33.out).mono ?_); (case side1 => exact Glob.below HG.out (by repeat (first | (with_reducible first | exact HB.out | apply zA | apply zN | apply zD) | exact HB.out))); rintro e w38 ⟨rfl, hb⟩; have n0_ := Aside0.mk (Kd.R_below (by (with_reducible repeat (first | apply Kd.R_alloc | apply Kd.R_drewN | apply Kd.R_drew)); exact HO_3.out) hb); have n1_ := Aside0.mk (Kd.R_below (by (with_reducible repeat (first | apply Kd.R_alloc | apply Kd.R_drewN | apply Kd.R_drew)); exact HO_5.out) hb); have n2_ := Aside0.mk (Kd.R_below (by (with_reducible repeat (first | apply Kd.R_alloc | apply Kd.R_drewN | apply Kd.R_drew)); exact HO_7.out) hb); have n3_ := Aside0.mk (Kd.R_below (by (with_reducible repeat (first | apply Kd.R_alloc | apply Kd.R_drewN | apply Kd.R_drew)); exact HO248.out) hb); have n4_ := Aside0.mk (zT (by repeat (first | (with_reducible first | exact HB.out | apply zA | apply zN | apply zD) | exact HB.out)) hb); clear HO_3; clear HO_5; clear HO_7; clear HO248; clear HB; have HO_3 := n0_; have HO_5 := n1_; have HO_7 := n2_; have HO248 := n3_; have HB := n4_; clear n0_ n1_ n2_ n3_ n4_; (try clear hb); (try clear hb2); (try clear hk); (try clear hi))); try go_wp2_with (first | (go_at_call 14; (with_reducible refine (hurdleref23_Prune.calls k2 _ _ l0 t246 _ ?side1 ?side2 A30.out).mono ?_); (case side1 => repeat (first | exact (Kd.C_below HR0.out HB.out) | (with_reducible refine Kd.C_alloc ?_ _) | (with_reducible refine Kd.C_drewN ?_ _) | (with_reducible refine Kd.C_drew ?_))); (case side2 => exact HC0.out); rintro e w35 ⟨v247, rfl, ho0, hb⟩; have n0_ := Aside0.mk (Kd.R_below (by (with_reducible repeat (first | apply Kd.R_alloc | apply Kd.R_drewN | apply Kd.R_drew)); exact HO_3.out) hb); have n1_ := Aside0.mk (Kd.R_elder' (by (with_reducible repeat (first | apply Kd.R_alloc | apply Kd.R_drewN | apply Kd.R_drew)); exact HO_5.out) (Kd.R_base ho0) hb); have n2_ := Aside0.mk (Kd.R_below (by (with_reducible repeat (first | apply Kd.R_alloc | apply Kd.R_drewN | apply Kd.R_drew)); exact HO_7.out) hb); have n3_ := Aside0.mk (Kd.R_lower (Kd.R_new' ho0 (Kd.R_lt (by (with_reducible repeat (first | apply Kd.R_alloc | apply Kd.R_drewN | apply Kd.R_drew)); exact HO_5.out))) (zZ (by repeat (first | (with_reducible first | exact HB.out | apply zA | apply zN | apply zD) | exact HB.out)))); have n4_ := Aside0.mk (zT (by repeat (first | (with_reducible first | exact HB.out | apply zA | apply zN | apply zD) | exact HB.out)) hb); clear HO_3; clear HO_5; clear HO_7; clear HB; have HO_3 := n0_; have HO_5 := n1_; have HO_7 := n2_; have HO248 := n3_; have HB := n4_; clear n0_ n1_ n2_ n3_ n4_; (try clear hb); (try clear hb2); (try clear hk); (try clear hi); (try clear ho0); obtain ⟨Ao36, co36, eo36⟩ := Kd.R_slice HO_5.out; subst eo36; obtain ⟨Ao37, co37, eo37⟩ := Kd.R_slice HO248.out; subst eo37) | (go_at_call 13; (with_reducible refine (hurdleref03_Same.calls k2 _ _ t235 _ _ t246 true _ ?side1 ?side2 ?side3 ?side4 A31.out).mono ?_); (case side1 => repeat (first | exact (Kd.R_reads' HO_5.out).2.2 | (with_reducible refine Kd.C_alloc ?_ _) | (with_reducible refine Kd.C_drewN ?_ _) | (with_reducible refine Kd.C_drew ?_))); (case side2 => exact (Kd.R_reads' HO_5.out).2.1); (case side3 => repeat (first | exact (Kd.R_reads' HO248.out).2.2 | (with_reducible refine Kd.C_alloc ?_ _) | (with_reducible refine Kd.C_drewN ?_ _) | (with_reducible refine Kd.C_drew ?_))); (case side4 => exact (Kd.R_reads' HO248.out).2.1); rintro e w' ⟨rfl, ⟨nd, rfl⟩⟩; (try first | exact ⟨rfl, _, World.drewN_drewN _ _ _⟩ | exact ⟨rfl, _, Eq.trans (World.drewN_drewN _ _ _) (congrArg (World.drewN _) (Nat.add_assoc _ _ _))⟩)) | (go_at_call 8; (with_reducible refine (hurdlelaw23_knows.calls k2  t250 _ ?side1 A33.out).mono ?_); (case side1 => exact Glob.below HG.out (by repeat (first | (with_reducible first | exact HB.out | apply zA | apply zN | apply zD) | exact HB.out))); rintro e w38 ⟨rfl, hb⟩; have n0_ := Aside0.mk (Kd.R_below (by (with_reducible repeat (first | apply Kd.R_alloc | apply Kd.R_drewN | apply Kd.R_drew)); exact HO_3.out) hb); have n1_ := Aside0.mk (Kd.R_below (by (with_reducible repeat (first | apply Kd.R_alloc | apply Kd.R_drewN | apply Kd.R_drew)); exact HO_5.out) hb); have n2_ := Aside0.mk (Kd.R_below (by (with_reducible repeat (first | apply Kd.R_alloc | apply Kd.R_drewN | apply Kd.R_drew)); exact HO_7.out) hb); have n3_ := Aside0.mk (Kd.R_below (by (with_reducible repeat (first | apply Kd.R_alloc | apply Kd.R_drewN | apply Kd.R_drew)); exact HO248.out) hb); have n4_ := Aside0.mk (zT (by repeat (first | (with_reducible first | exact HB.out | apply zA | apply zN | apply zD) | exact HB.out)) hb); clear HO_3; clear HO_5; clear HO_7; clear HO248; clear HB; have HO_3 := n0_; have HO_5 := n1_; have HO_7 := n2_; have HO248 := n3_; have HB := n4_; clear n0_ n1_ n2_ n3_ n4_; (try clear hb); (try clear hb2); (try clear hk); (try clear hi))))
          go_ret
          exact ⟨by first | rfl | (simp [*] <;> rfl), by repeat (first | (with_reducible first | exact HB.out | apply zA | apply zN | apply zD) | exact HB.out)⟩
         ·replace c32 := Bool.eq_false_iff.mpr c32
          subst c32
          rw [if_neg (show ¬ (false = true) by decide)] at H
          exact absurd H (by simp)
  ·replace c8 := Bool.eq_false_iff.mpr c8
   subst c8
   rw [if_neg (show ¬ (false = true) by decide)] at H
   by_cases c39 : (t231.length : Int) = 0
   ·rw [if_pos c39] at H
    have c39b0 : ((t231.length : Int) == 0) = true := bI.mpr c39
    have c39b1 : ((t231.length : Int) != 0) = false := nF.mpr c39
    clear c39
    by_cases c40 : t232 = 1
    ·rw [if_pos c40] at H
     have c40b0 : (t232 == 1) = true := bI.mpr c40
     have c40b1 : (t232 != 1) = false := nF.mpr c40
     clear c40
     by_cases c41 : (t235.length : Int) = 0
     ·rw [if_pos c41] at H
      have c41b0 : ((t235.length : Int) == 0) = true := bI.mpr c41
      have c41b1 : ((t235.length : Int) != 0) = false := nF.mpr c41
      clear c41
      by_cases c42 : t236 = 1
      ·rw [if_pos c42] at H
       have c42b0 : (t236 == 1) = true := bI.mpr c42
       have c42b1 : (t236 != 1) = false := nF.mpr c42
       clear c42
       replace H := Option.bind_eq_some_iff.mp H
       obtain ⟨t240, A430, H⟩ := H
       try dsimp only at H
       have A43 := Aside0.mk A430
       clear A430
       obtain rfl := Option.some.inj H
       go_enter Tryd.func3, Tryd.ntmps3
       go_wp2_with (first | (go_at_call 9; (with_reducible refine (prune_Met.calls k _ _ l0 t231 t232 _ ?side1 ?side2 ?side3 A5.out).mono ?_); (case side1 => exact HR0.out); (case side2 => exact HC0.out); (case side3 => exact Glob.below HG.out HB.out); rintro e w44 ⟨v233, rfl, ho0, hb⟩; have n0_ := Aside0.mk (Kd.R_lower ho0 (zZ HB.out)); have n1_ := Aside0.mk (zT HB.out hb); clear HB; have HO234 := n0_; have HB := n1_; clear n0_ n1_; (try clear ho0)) | (go_at_call 10; (with_reducible refine (prune_Prune.calls k _ _ l0 t235 t236 _ ?side1 ?side2 ?side3 A6.out).mono ?_); (case side1 => exact (Kd.C_below HR0.out HB.out)); (case side2 => exact HC0.out); (case side3 => exact Glob.below HG.out HB.out); rintro e w45 ⟨v237, rfl, ho0, hb⟩; have n0_ := Aside0.mk (Kd.R_below HO234.out hb); have n1_ := Aside0.mk (Kd.R_lower ho0 (zZ HB.out)); have n2_ := Aside0.mk (zT HB.out hb); clear HO234; clear HB; have HO234 := n0_; have HO238 := n1_; have HB := n2_; clear n0_ n1_ n2_; (try clear ho0)) | (go_at_call 11; (with_reducible refine (hurdleref05_Sound.calls k _ _ l0 false _ ?side1 ?side2 A7.out).mono ?_); (case side1 => exact (Kd.C_below HR0.out HB.out)); (case side2 => exact HC0.out); rintro e w46 ⟨rfl, hb⟩; have n0_ := Aside0.mk (Kd.R_below HO234.out hb); have n1_ := Aside0.mk (Kd.R_below HO238.out hb); have n2_ := Aside0.mk (zT HB.out hb); clear HO234; clear HO238; clear HB; have HO234 := n0_; have HO238 := n1_; have HB := n2_; clear n0_ n1_ n2_; obtain ⟨Ao47, co47, eo47⟩ := Kd.R_slice HO234.out; subst eo47; obtain ⟨Ao48, co48, eo48⟩ := Kd.R_slice HO238.out; subst eo48) | (go_at_call 8; (with_reducible refine (hurdlelaw23_knows.calls k  t240 _ ?side1 A43.out).mono ?_); (case side1 => exact Glob.below HG.out HB.out); rintro e w49 ⟨rfl, hb⟩; have n0_ := Aside0.mk (Kd.R_below HO234.out hb); have n1_ := Aside0.mk (Kd.R_below HO238.out hb); have n2_ := Aside0.mk (zT HB.out hb); clear HO234; clear HO238; clear HB; have HO234 := n0_; have HO238 := n1_; have HB := n2_; clear n0_ n1_ n2_))
       repeat (go_quiet (first | (go_at_call 9; (with_reducible refine (prune_Met.calls k _ _ l0 t231 t232 _ ?side1 ?side2 ?side3 A5.out).mono ?_); (case side1 => exact HR0.out); (case side2 => exact HC0.out); (case side3 => exact Glob.below HG.out HB.out); rintro e w44 ⟨v233, rfl, ho0, hb⟩; have n0_ := Aside0.mk (Kd.R_lower ho0 (zZ HB.out)); have n1_ := Aside0.mk (zT HB.out hb); clear HB; have HO234 := n0_; have HB := n1_; clear n0_ n1_; (try clear ho0)) | (go_at_call 10; (with_reducible refine (prune_Prune.calls k _ _ l0 t235 t236 _ ?side1 ?side2 ?side3 A6.out).mono ?_); (case side1 => exact (Kd.C_below HR0.out HB.out)); (case side2 => exact HC0.out); (case side3 => exact Glob.below HG.out HB.out); rintro e w45 ⟨v237, rfl, ho0, hb⟩; have n0_ := Aside0.mk (Kd.R_below HO234.out hb); have n1_ := Aside0.mk (Kd.R_lower ho0 (zZ HB.out)); have n2_ := Aside0.mk (zT HB.out hb); clear HO234; clear HB; have HO234 := n0_; have HO238 := n1_; have HB := n2_; clear n0_ n1_ n2_; (try clear ho0)) | (go_at_call 11; (with_reducible refine (hurdleref05_Sound.calls k _ _ l0 false _ ?side1 ?side2 A7.out).mono ?_); (case side1 => exact (Kd.C_below HR0.out HB.out)); (case side2 => exact HC0.out); rintro e w46 ⟨rfl, hb⟩; have n0_ := Aside0.mk (Kd.R_below HO234.out hb); have n1_ := Aside0.mk (Kd.R_below HO238.out hb); have n2_ := Aside0.mk (zT HB.out hb); clear HO234; clear HO238; clear HB; have HO234 := n0_; have HO238 := n1_; have HB := n2_; clear n0_ n1_ n2_; obtain ⟨Ao47, co47, eo47⟩ := Kd.R_slice HO234.out; subst eo47; obtain ⟨Ao48, co48, eo48⟩ := Kd.R_slice HO238.out; subst eo48) | (go_at_call 8; (with_reducible refine (hurdlelaw23_knows.calls k  t240 _ ?side1 A43.out).mono ?_); (case side1 => exact Glob.below HG.out HB.out); rintro e w49 ⟨rfl, hb⟩; have n0_ := Aside0.mk (Kd.R_below HO234.out hb); have n1_ := Aside0.mk (Kd.R_below HO238.out hb); have n2_ := Aside0.mk (zT HB.out hb); clear HO234; clear HO238; clear HB; have HO234 := n0_; have HO238 := n1_; have HB := n2_; clear n0_ n1_ n2_)); try go_wp2_with (first | (go_at_call 9; (with_reducible refine (prune_Met.calls k _ _ l0 t231 t232 _ ?side1 ?side2 ?side3 A5.out).mono ?_); (case side1 => exact HR0.out); (case side2 => exact HC0.out); (case side3 => exact Glob.below HG.out HB.out); rintro e w44 ⟨v233, rfl, ho0, hb⟩; have n0_ := Aside0.mk (Kd.R_lower ho0 (zZ HB.out)); have n1_ := Aside0.mk (zT HB.out hb); clear HB; have HO234 := n0_; have HB := n1_; clear n0_ n1_; (try clear ho0)) | (go_at_call 10; (with_reducible refine (prune_Prune.calls k _ _ l0 t235 t236 _ ?side1 ?side2 ?side3 A6.out).mono ?_); (case side1 => exact (Kd.C_below HR0.out HB.out)); (case side2 => exact HC0.out); (case side3 => exact Glob.below HG.out HB.out); rintro e w45 ⟨v237, rfl, ho0, hb⟩; have n0_ := Aside0.mk (Kd.R_below HO234.out hb); have n1_ := Aside0.mk (Kd.R_lower ho0 (zZ HB.out)); have n2_ := Aside0.mk (zT HB.out hb); clear HO234; clear HB; have HO234 := n0_; have HO238 := n1_; have HB := n2_; clear n0_ n1_ n2_; (try clear ho0)) | (go_at_call 11; (with_reducible refine (hurdleref05_Sound.calls k _ _ l0 false _ ?side1 ?side2 A7.out).mono ?_); (case side1 => exact (Kd.C_below HR0.out HB.out)); (case side2 => exact HC0.out); rintro e w46 ⟨rfl, hb⟩; have n0_ := Aside0.mk (Kd.R_below HO234.out hb); have n1_ := Aside0.mk (Kd.R_below HO238.out hb); have n2_ := Aside0.mk (zT HB.out hb); clear HO234; clear HO238; clear HB; have HO234 := n0_; have HO238 := n1_; have HB := n2_; clear n0_ n1_ n2_; obtain ⟨Ao47, co47, eo47⟩ := Kd.R_slice HO234.out; subst eo47; obtain ⟨Ao48, co48, eo48⟩ := Kd.R_slice HO238.out; subst eo48) | (go_at_call 8; (with_reducible refine (hurdlelaw23_knows.calls k  t240 _ ?side1 A43.out).mono ?_); (case side1 => exact Glob.below HG.out HB.out); rintro e w49 ⟨rfl, hb⟩; have n0_ := Aside0.mk (Kd.R_below HO234.out hb); have n1_ := Aside0.mk (Kd.R_below HO238.out hb); have n2_ := Aside0.mk (zT HB.out hb); clear HO234; clear HO238; clear HB; have HO234 := n0_; have HO238 := n1_; have HB := n2_; clear n0_ n1_ n2_)))
       go_ret
       exact ⟨by first | rfl | (simp [*] <;> rfl), by repeat (first | (with_reducible first | exact HB.out | apply zA | apply zN | apply zD) | exact HB.out)⟩
      ·rw [if_neg c42] at H
       exact absurd H (by simp)
     ·rw [if_neg c41] at H
      exact absurd H (by simp)
    ·rw [if_neg c40] at H
     exact absurd H (by simp)
   ·rw [if_neg c39] at H
    exact absurd H (by simp)
end Go.Proofs.YtohpbjnihmcelaaDoor.M
