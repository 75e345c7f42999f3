/- What Go functions compute; their calls come to it. No condition. -/
import Derived.Test.YtahacmdhhfmhiaaDoorM0
import Derived.Test.YtahacmdhhfmhiaaDoorMB
import Derived.Test.YtahacmdhhfmhiaaDoorM12
import Derived.Test.YtahacmdhhfmhiaaDoorMD
namespace Go.Proofs.YtahacmdhhfmhiaaDoor.M
open Go.RowKit Go.Proofs.YtahacmdhhfmhiaaDoorW.PrintWords Go.Proofs.YtahacmdhhfmhiaaDoorW.PrintLast Go.Proofs.YtahacmdhhfmhiaaDoorW.PrintMore
attribute [local go_sem] max2_int min2_int max_two min_two max_three min_three max_four min_four   -- for this text's walks alone
set_option linter.unusedVariables false
set_option linter.unusedSimpArgs false
mutual
def table_Learn.j0 : Nat → List (S42) → Bool → List (S59) → List (S59) → Int → Option ((List (S42)) × Int)
 | 0, _, _, _, _, _ => none
 | k + 1, x0, x20, x327000, x327001, x327002 => if x20 = true then (some (x0, 1)) else ((table_place.f k x0 x327000 x327001 x327002).bind fun bt329 => (if bt329.2 = true then (some (x0, 0)) else (if (x0.length : Int) = 64 then (some (x0, 3)) else (if 0 ≤ bt329.1 then (if bt329.1 ≤ (x0.length : Int) then ((some (x0.take (bt329.1 : Int).toNat : List (S42))).bind fun y331 => (table_Learn.l0 k x0 bt329.1 ([] : List (S42)) y331 (y331.length : Int) 0 x327000 x327001 x327002)) else (none)) else (none)))))
def table_Learn.l0 : Nat → List (S42) → Int → List (S42) → List (S42) → Int → Int → List (S59) → List (S59) → Int → Option ((List (S42)) × Int)
 | 0, _, _, _, _, _, _, _, _, _ => none
 | k + 1, x0, x6, x8, x38, x39, x40, x327000, x327001, x327002 => if x40 < x39 then (if 0 ≤ x40 then (if x40 < (x38.length : Int) then ((table_own.f ((rd_T42 x38 x40).f0) ((rd_T42 x38 x40).f1) ((rd_T42 x38 x40).f2)).bind fun bt338 => (if x8.length < 2513169434916 then (table_Learn.l0 k x0 x6 (x8 ++ [(⟨bt338.1, bt338.2.1, bt338.2.2⟩ : S42)]) x38 x39 (wrap64 (x40 + 1)) x327000 x327001 x327002) else (none))) else (none)) else (none)) else ((table_own.f x327000 x327001 x327002).bind fun bt348 => (if x8.length < 2513169434916 then (if 0 ≤ x6 then (if x6 ≤ (x0.length : Int) then ((some (x0.drop (x6 : Int).toNat : List (S42))).bind fun y358 => (table_Learn.l1 k (x8 ++ [(⟨bt348.1, bt348.2.1, bt348.2.2⟩ : S42)]) y358 (y358.length : Int) 0)) else (none)) else (none)) else (none)))
def table_Learn.l1 : Nat → List (S42) → List (S42) → Int → Int → Option ((List (S42)) × Int)
 | 0, _, _, _, _ => none
 | k + 1, x8, x57, x58, x59 => if x59 < x58 then (if 0 ≤ x59 then (if x59 < (x57.length : Int) then ((table_own.f ((rd_T42 x57 x59).f0) ((rd_T42 x57 x59).f1) ((rd_T42 x57 x59).f2)).bind fun bt365 => (if x8.length < 2513169434916 then (table_Learn.l1 k (x8 ++ [(⟨bt365.1, bt365.2.1, bt365.2.2⟩ : S42)]) x57 x58 (wrap64 (x59 + 1))) else (none))) else (none)) else (none)) else (some (x8, 0))
end
def table_Learn.f (k : Nat) (l0 : List (S42)) (l1_0 : List (S59)) (l1_1 : List (S59)) (a1_2 : Int) : Option ((List (S42)) × Int) := (table_Right.f k l0).bind fun t327 => (if t327 = true then ((table_Rule_right.f k l1_0 l1_1 a1_2).bind fun t328 => (table_Learn.j0 k l0 (!t328) l1_0 l1_1 a1_2)) else (table_Learn.j0 k l0 true l1_0 l1_1 a1_2))
theorem table_Learn.mono_l : ∀ k, (∀ y0 y1 y2 y3 y4, LeO (table_Learn.j0 k y0 y1 y2 y3 y4) (table_Learn.j0 (k + 1) y0 y1 y2 y3 y4)) ∧ (∀ y0 y1 y2 y3 y4 y5 y6 y7 y8, LeO (table_Learn.l0 k y0 y1 y2 y3 y4 y5 y6 y7 y8) (table_Learn.l0 (k + 1) y0 y1 y2 y3 y4 y5 y6 y7 y8)) ∧ (∀ y0 y1 y2 y3, LeO (table_Learn.l1 k y0 y1 y2 y3) (table_Learn.l1 (k + 1) y0 y1 y2 y3))
 | 0 => ⟨fun _ _ _ _ _ r h => by simp [table_Learn.j0] at h, fun _ _ _ _ _ _ _ _ _ r h => by simp [table_Learn.l0] at h, fun _ _ _ _ r h => by simp [table_Learn.l1] at h⟩
 | k + 1 => by
  obtain ⟨ih0, ih1, ih2⟩ := table_Learn.mono_l k
  refine ⟨?_, ?_, ?_⟩
  all_goals intros
  all_goals first | unfold table_Learn.j0 | unfold table_Learn.l0 | unfold table_Learn.l1
  all_goals repeat' first
   | (with_reducible apply ih0)
   | (with_reducible apply ih1)
   | (with_reducible apply ih2)
   | (with_reducible apply table_Right.mono)
   | (with_reducible apply table_Rule_right.mono)
   | (with_reducible apply table_place.mono)
   | (with_reducible exact LeO.refl _)
   | (with_reducible exact LeO.none _)
   | (with_reducible refine LeO.ite ?_ ?_)
   | (with_reducible refine LeO.bind ?_ (fun _ => ?_))
   | apply ih0
   | apply ih1
   | apply ih2
   | apply table_Right.mono
   | apply table_Rule_right.mono
   | apply table_place.mono
   | exact LeO.none _
   | refine LeO.ite ?_ ?_
   | refine LeO.bind ?_ (fun _ => ?_)
theorem table_Learn.mono : ∀ a0 a1 a2 a3 k, LeO (table_Learn.f k a0 a1 a2 a3) (table_Learn.f (k + 1) a0 a1 a2 a3) := by
 intro a0 a1 a2 a3 k
 obtain ⟨ih0, ih1, ih2⟩ := table_Learn.mono_l k
 unfold table_Learn.f
 repeat' first
   | (with_reducible apply ih0)
   | (with_reducible apply ih1)
   | (with_reducible apply ih2)
   | (with_reducible apply table_Right.mono)
   | (with_reducible apply table_Rule_right.mono)
   | (with_reducible apply table_place.mono)
   | (with_reducible exact LeO.refl _)
   | (with_reducible exact LeO.none _)
   | (with_reducible refine LeO.ite ?_ ?_)
   | (with_reducible refine LeO.bind ?_ (fun _ => ?_))
   | apply ih0
   | apply ih1
   | apply ih2
   | apply table_Right.mono
   | apply table_Rule_right.mono
   | apply table_place.mono
   | exact LeO.none _
   | refine LeO.ite ?_ ?_
   | refine LeO.bind ?_ (fun _ => ?_)
set_option maxHeartbeats 8000000 in
set_option maxRecDepth 100000 in
theorem table_Learn.calls (k : Nat) (P0_ : Nat → Prop) (A0 : Option Addr) (c0 : Nat) (l0 : List (S42)) (A1_0 : Option Addr) (c1_0 : Nat) (l1_0 : List (S59)) (A1_1 : Option Addr) (c1_1 : Nat) (l1_1 : List (S59)) (a1_2 : Int) (r1 : List (S42)) (r2 : Int) (w : World) (hs0 : Kd.V k42 42 w w.heap.size (fun k_ => P0_ k_) (.slice A0 l0.length c0) l0) (hr1_0 : Kd.C k59 w A1_0 l1_0.length l1_0) (hc1_0 : l1_0.length ≤ c1_0) (hr1_1 : Kd.C k59 w A1_1 l1_1.length l1_1) (hc1_1 : l1_1.length ≤ c1_1) (hG : Glob w) (h : table_Learn.f k l0 l1_0 l1_1 a1_2 = some (r1, r2)) :
  Calls Tryd.prog 20 #[.slice A0 l0.length c0, .agg #[.slice A1_0 l1_0.length c1_0, .slice A1_1 l1_1.length c1_1, .int .u32 a1_2]] w fun e w' => ∃ v0_ : Value, e = .returned (.tuple #[v0_, .int .i64 r2]) ∧ Kd.V k42 42 w' w.heap.size (fun k_ => (P0_ k_ ∨ w.heap.size ≤ k_)) v0_ r1 ∧ Below w.heap.size w w' := by
 have hu42 := Tryd.underlying42
 have HG := Aside0.mk hG
 clear hG
 have HO0 := Aside0.mk (show Kd.V k42 42 w w.heap.size (fun k_ => (P0_ k_ ∨ w.heap.size ≤ k_)) (.slice A0 l0.length c0) l0 from Kd.V_mono hs0 (fun k_ hk => .inl hk))
 have HR1_0 := Aside0.mk hr1_0
 have HC1_0 := Aside0.mk hc1_0
 clear hr1_0 hc1_0
 have HR1_1 := Aside0.mk hr1_1
 have HC1_1 := Aside0.mk hc1_1
 clear hr1_1 hc1_1
 have HB := Aside0.mk (Below.refl w.heap.size w)
 have H : ((table_Right.f k l0).bind fun t327 => (if t327 = true then ((table_Rule_right.f k l1_0 l1_1 a1_2).bind fun t328 => (table_Learn.j0 k l0 (!t328) l1_0 l1_1 a1_2)) else (table_Learn.j0 k l0 true l1_0 l1_1 a1_2))) = some (r1, r2) := h
 clear h
 have HC3 := Aside0.mk H
 clear H
 go_enter Tryd.func20, Tryd.ntmps20
 go_upto_region 1 with (first | ((with_reducible refine gate_dst (N := 3) rfl ?_); refine box_event rfl (N := 3) rfl (cs := #[.slice A1_0 l1_0.length c1_0, .slice A1_1 l1_1.length c1_1, .int .u32 a1_2]) (t := 42) jW ?_; intro gb326 hg w4 hbox hb; have BK326 := Aside0.mk hbox; have GW326 := Aside0.mk (jG hg HB); have GE326 := Aside0.mk (jG hg HB); replace HO0 := Aside0.mk (Kd.V_below (Kd.V_elderB (jV HO0) gb326 (Nat.le_of_eq hg.symm)) hb); replace HB := Aside0.mk (zT (jH HB) hb); clear hb hbox hg))
 (try simp only [Act.put, List.setIfInBounds_toArray, List.set_cons_zero, List.set_cons_succ])
 go_cut [20] (fun v20 wc => ∃ (kq : Nat) (x20_2 : Bool), v20 = .bool x20_2 ∧ Aside0 (table_Learn.j0 kq l0 x20_2 l1_0 l1_1 a1_2 = some (r1, r2)) ∧ Aside0 (kq ≤ k) ∧ Aside0 (Kd.V k42 42 wc w.heap.size (fun k_ => (P0_ k_ ∨ w.heap.size ≤ k_) ∧ k_ ≠ gb326) (.slice A0 l0.length c0) l0) ∧ Aside0 (wc.heap[gb326]? = some (.cells #[(.slice A1_0 l1_0.length c1_0), (.slice A1_1 l1_1.length c1_1), .int .u32 a1_2] 42 (0, 0))) ∧ Aside0 (Below w.heap.size w wc))
 case first =>
  have H := HC3.out
  clear HC3
  replace H := Option.bind_eq_some_iff.mp H
  obtain ⟨t327, A50, H⟩ := H
  try dsimp only at H
  have A5 := Aside0.mk A50
  clear A50
  by_cases c6 : t327 = true
  ·subst c6
   rw [if_pos rfl] at H
   replace H := Option.bind_eq_some_iff.mp H
   obtain ⟨t328, A70, H⟩ := H
   try dsimp only at H
   have A7 := Aside0.mk A70
   clear A70
   have H' := Aside0.mk H
   clear H
   go_wp2_with (first | ((with_reducible refine gate_callee (f := 15) rfl ?_); refine goesL_ (some 14) rfl rfl Tryd.func15 (by kernel_rfl) rfl #[.slice A0 l0.length c0] rfl jZ ?_; (with_reducible refine (table_Right.calls k _ _ l0 true _ ?side1 ?side2 ?side3 A5.out).mono ?_); (case side1 => exact jC (Kd.V_reads' HO0.out).2.2); (case side2 => exact (Kd.V_reads' HO0.out).2.1); (case side3 => exact Glob.below HG.out (jH HB)); rintro e w8 ⟨rfl, hb⟩; refine ⟨_, rfl, ?_⟩; replace HO0 := Aside0.mk (Kd.V_below (jV HO0) hb); replace BK326 := Aside0.mk (jB BK326 hb); replace HB := Aside0.mk (zT (jH HB) hb); (try clear hb); (try clear hb2); (try clear hk); (try clear hi); obtain ⟨hcz9_0, hcz9_1, hcz9_2, hfz9_0, hfz9_1, hfz9_2⟩ := kQ3 BK326.out) | (go_at_call 32; (with_reducible refine (table_Rule_right.calls k _ _ l1_0 _ _ l1_1 a1_2 t328 _ ?side1 ?side2 ?side3 ?side4 ?side5 A7.out).mono ?_); (case side1 => exact jC (Kd.C_below HR1_0.out HB.out)); (case side2 => exact HC1_0.out); (case side3 => exact jC (Kd.C_below HR1_1.out HB.out)); (case side4 => exact HC1_1.out); (case side5 => exact Glob.below HG.out (jH HB)); rintro e w10 ⟨rfl, hb⟩; replace HO0 := Aside0.mk (Kd.V_below (jV HO0) hb); replace BK326 := Aside0.mk (jB BK326 hb); replace HB := Aside0.mk (zT (jH HB) hb); (try clear hb); (try clear hb2); (try clear hk); (try clear hi)))
   go_meet
   case rel => exact ⟨_, (!t328), jS, H', ⟨jO⟩, ⟨jV HO0⟩, ⟨jK BK326⟩, ⟨jH HB⟩⟩
  ·replace c6 := Bool.eq_false_iff.mpr c6
   subst c6
   rw [if_neg (show ¬ (false = true) by decide)] at H
   have H' := Aside0.mk H
   clear H
   go_wp2_with (first | ((with_reducible refine gate_callee (f := 15) rfl ?_); refine goesL_ (some 14) rfl rfl Tryd.func15 (by kernel_rfl) rfl #[.slice A0 l0.length c0] rfl jZ ?_; (with_reducible refine (table_Right.calls k _ _ l0 false _ ?side1 ?side2 ?side3 A5.out).mono ?_); (case side1 => exact jC (Kd.V_reads' HO0.out).2.2); (case side2 => exact (Kd.V_reads' HO0.out).2.1); (case side3 => exact Glob.below HG.out (jH HB)); rintro e w11 ⟨rfl, hb⟩; refine ⟨_, rfl, ?_⟩; replace HO0 := Aside0.mk (Kd.V_below (jV HO0) hb); replace BK326 := Aside0.mk (jB BK326 hb); replace HB := Aside0.mk (zT (jH HB) hb); (try clear hb); (try clear hb2); (try clear hk); (try clear hi)))
   go_meet
   case rel => exact ⟨_, (true), jS, H', ⟨jO⟩, ⟨jV HO0⟩, ⟨jK BK326⟩, ⟨jH HB⟩⟩
 case rest =>
  clear HC3
  obtain ⟨kq, x20_2, rfl, HA, HJ2, HO_0, BK326, HB⟩ := hcut
  cases kq with
  | zero => exact absurd HA.out (by simp [table_Learn.j0])
  | succ kj2 =>
   have H := HA.out
   clear HA
   simp only [table_Learn.j0] at H
   by_cases c12 : x20_2 = true
   ·subst c12
    rw [if_pos rfl] at H
    simp only [Option.some.injEq, Prod.mk.injEq] at H
    obtain ⟨rfl, rfl⟩ := H
    go_wp2
    go_ret2
    exact ⟨_, jE, by (with_reducible repeat (first | apply Kd.V_alloc | apply Kd.V_drewN | apply Kd.V_drew)); exact Kd.V_mono HO_0.out (fun _ hk => hk.1), jH HB⟩
   ·replace c12 := Bool.eq_false_iff.mpr c12
    subst c12
    rw [if_neg (show ¬ (false = true) by decide)] at H
    replace H := Option.bind_eq_some_iff.mp H
    obtain ⟨⟨t329, t330⟩, A130, H⟩ := H
    try dsimp only at H
    have A13 := Aside0.mk A130
    clear A130
    by_cases c14 : t330 = true
    ·subst c14
     rw [if_pos rfl] at H
     simp only [Option.some.injEq, Prod.mk.injEq] at H
     obtain ⟨rfl, rfl⟩ := H
     obtain ⟨hcz15_0, hcz15_1, hcz15_2, hfz15_0, hfz15_1, hfz15_2⟩ := kQ3 BK326.out
     go_wp2_with (first | ((with_reducible refine gate_callee (f := 37) rfl ?_); refine goesL_ (some 25) rfl rfl Tryd.func37 (by kernel_rfl) rfl #[.slice A0 l0.length c0, .agg #[.slice A1_0 l1_0.length c1_0, .slice A1_1 l1_1.length c1_1, .int .u32 a1_2], .func (.func 28) #[] #[]] rfl jZ ?_; (with_reducible refine (table_place.calls kj2 _ _ l0 _ _ l1_0 _ _ l1_1 a1_2 t329 true _ ?side1 ?side2 ?side3 ?side4 ?side5 ?side6 ?side7 A13.out).mono ?_); (case side1 => exact jC (Kd.V_reads' HO_0.out).2.2); (case side2 => exact (Kd.V_reads' HO_0.out).2.1); (case side3 => exact jC (Kd.C_below HR1_0.out HB.out)); (case side4 => exact HC1_0.out); (case side5 => exact jC (Kd.C_below HR1_1.out HB.out)); (case side6 => exact HC1_1.out); (case side7 => exact Glob.below HG.out (jH HB)); rintro e w16 ⟨rfl, hb⟩; refine ⟨_, rfl, ?_⟩; replace HO_0 := Aside0.mk (Kd.V_below (jV HO_0) hb); replace BK326 := Aside0.mk (jB BK326 hb); replace HB := Aside0.mk (zT (jH HB) hb); (try clear hb); (try clear hb2); (try clear hk); (try clear hi)))
     go_ret2
     exact ⟨_, jE, by (with_reducible repeat (first | apply Kd.V_alloc | apply Kd.V_drewN | apply Kd.V_drew)); exact Kd.V_mono HO_0.out (fun _ hk => hk.1), jH HB⟩
    ·replace c14 := Bool.eq_false_iff.mpr c14
     subst c14
     rw [if_neg (show ¬ (false = true) by decide)] at H
     by_cases c17 : (l0.length : Int) = 64
     ·rw [if_pos c17] at H
      have c17b0 : ((l0.length : Int) == 64) = true := bI.mpr c17
      have c17b1 : ((l0.length : Int) != 64) = false := nF.mpr c17
      clear c17
      simp only [Option.some.injEq, Prod.mk.injEq] at H
      obtain ⟨rfl, rfl⟩ := H
      obtain ⟨hcz18_0, hcz18_1, hcz18_2, hfz18_0, hfz18_1, hfz18_2⟩ := kQ3 BK326.out
      go_wp2_with (first | ((with_reducible refine gate_callee (f := 37) rfl ?_); refine goesL_ (some 25) rfl rfl Tryd.func37 (by kernel_rfl) rfl #[.slice A0 l0.length c0, .agg #[.slice A1_0 l1_0.length c1_0, .slice A1_1 l1_1.length c1_1, .int .u32 a1_2], .func (.func 28) #[] #[]] rfl jZ ?_; (with_reducible refine (table_place.calls kj2 _ _ l0 _ _ l1_0 _ _ l1_1 a1_2 t329 false _ ?side1 ?side2 ?side3 ?side4 ?side5 ?side6 ?side7 A13.out).mono ?_); (case side1 => exact jC (Kd.V_reads' HO_0.out).2.2); (case side2 => exact (Kd.V_reads' HO_0.out).2.1); (case side3 => exact jC (Kd.C_below HR1_0.out HB.out)); (case side4 => exact HC1_0.out); (case side5 => exact jC (Kd.C_below HR1_1.out HB.out)); (case side6 => exact HC1_1.out); (case side7 => exact Glob.below HG.out (jH HB)); rintro e w19 ⟨rfl, hb⟩; refine ⟨_, rfl, ?_⟩; replace HO_0 := Aside0.mk (Kd.V_below (jV HO_0) hb); replace BK326 := Aside0.mk (jB BK326 hb); replace HB := Aside0.mk (zT (jH HB) hb); (try clear hb); (try clear hb2); (try clear hk); (try clear hi)))
      go_ret2
      exact ⟨_, jE, by (with_reducible repeat (first | apply Kd.V_alloc | apply Kd.V_drewN | apply Kd.V_drew)); exact Kd.V_mono HO_0.out (fun _ hk => hk.1), jH HB⟩
     ·rw [if_neg c17] at H
      have c17b0 : ((l0.length : Int) == 64) = false := bF.mpr c17
      have c17b1 : ((l0.length : Int) != 64) = true := nI.mpr c17
      by_cases c20 : 0 ≤ t329
      ·rw [if_pos c20] at H
       have c20b0 := eq_true c20
       have c20b1 : decide (0 ≤ t329) = true := dT c20
       clear c20
       by_cases c21 : t329 ≤ (l0.length : Int)
       ·rw [if_pos c21] at H
        have c21b0 := eq_true c21
        have c21b1 : decide (t329 ≤ (l0.length : Int)) = true := dT c21
        clear c21
        obtain ⟨y331, hy331⟩ : ∃ y_ : List (S42), y_ = (l0.take (t329 : Int).toNat) := ⟨_, rfl⟩
        simp only [Option.bind_some, ← hy331] at H
        have Ny331 := Aside0.mk hy331
        clear hy331
        have H' := Aside0.mk H
        clear H
        obtain ⟨hcz22_0, hcz22_1, hcz22_2, hfz22_0, hfz22_1, hfz22_2⟩ := kQ3 BK326.out
        go_wp2_with (first | ((with_reducible refine gate_callee (f := 37) rfl ?_); refine goesL_ (some 25) rfl rfl Tryd.func37 (by kernel_rfl) rfl #[.slice A0 l0.length c0, .agg #[.slice A1_0 l1_0.length c1_0, .slice A1_1 l1_1.length c1_1, .int .u32 a1_2], .func (.func 28) #[] #[]] rfl jZ ?_; (with_reducible refine (table_place.calls kj2 _ _ l0 _ _ l1_0 _ _ l1_1 a1_2 t329 false _ ?side1 ?side2 ?side3 ?side4 ?side5 ?side6 ?side7 A13.out).mono ?_); (case side1 => exact jC (Kd.V_reads' HO_0.out).2.2); (case side2 => exact (Kd.V_reads' HO_0.out).2.1); (case side3 => exact jC (Kd.C_below HR1_0.out HB.out)); (case side4 => exact HC1_0.out); (case side5 => exact jC (Kd.C_below HR1_1.out HB.out)); (case side6 => exact HC1_1.out); (case side7 => exact Glob.below HG.out (jH HB)); rintro e w23 ⟨rfl, hb⟩; refine ⟨_, rfl, ?_⟩; replace HO_0 := Aside0.mk (Kd.V_below (jV HO_0) hb); replace BK326 := Aside0.mk (jB BK326 hb); replace HB := Aside0.mk (zT (jH HB) hb); (try clear hb); (try clear hb2); (try clear hk); (try clear hi); have q24 : (t329 : Int) ≤ ((l0.length : Int) : Int) := oD (jA); obtain ⟨i024, hi024, _, hsz24, _⟩ := info_parts info42; have hroom24 : l0.length ≤ c0 := (Kd.V_reads' HO_0.out).2.1; have hC24 : Kd.F k42 _ _ A0 l0.length l0 := (Kd.V_at (base := w.heap.size) HO_0.out).2.2; have hcut24 := cut_to (P := Tryd.prog) 22 42 .i64 Tryd.underlying22 hi024 A0 l0.length c0 t329 (oD (jA)) q24 hroom24; have hr24 := Kd.F_take (m := (t329 : Int).toNat) hC24 (by omega); have hy24 : y331.length = (t329 : Int).toNat := (by rw [Ny331.out, List.length_take]; omega); rw [← Ny331.out] at hr24; rw [← hy24] at hcut24; have HO335 := Aside0.mk (show Kd.V k42 42 _ w.heap.size _ (.slice A0 y331.length c0) y331 from Kd.V_mk (by omega) hr24); have HC335 := Aside0.mk (show y331.length ≤ c0 from by omega); clear hr24 hC24 hroom24 hi024 hsz24; have KY24 := Aside0.mk hy24; clear hy24; replace q24 := eq_true q24))
        go_loopg [8, 40] kj2 (fun kq v8 v40 w' => ∃ (x8_2 : List (S42)) (x40_2 : Int), v40 = .int .i64 x40_2 ∧ Aside0 (table_Learn.l0 kq l0 t329 x8_2 y331 (y331.length : Int) x40_2 l1_0 l1_1 a1_2 = some (r1, r2)) ∧ Aside0 (kq ≤ kj2) ∧ Aside0 (Kd.V k42 42 w' w.heap.size (fun k_ => (P0_ k_ ∨ w.heap.size ≤ k_) ∧ some k_ ≠ (v8 : Value).ownBlock ∧ k_ ≠ gb326) (.slice A0 l0.length c0) l0) ∧ Aside0 (Kd.S k42 42 w' w.heap.size (fun k_ => (w.heap.size ≤ k_) ∧ k_ ≠ gb326) v8 x8_2) ∧ Aside0 (Kd.V k42 42 w' w.heap.size (fun k_ => (P0_ k_ ∨ w.heap.size ≤ k_) ∧ some k_ ≠ (v8 : Value).ownBlock ∧ k_ ≠ gb326) (.slice A0 y331.length c0) y331) ∧ Aside0 (w'.heap[gb326]? = some (.cells #[(.slice A1_0 l1_0.length c1_0), (.slice A1_1 l1_1.length c1_1), .int .u32 a1_2] 42 (0, 0))) ∧ Aside0 (Below w.heap.size w w'))
        case atStart => exact ⟨(([] : List (S42))), (0), jS, H', ⟨Nat.le_refl _⟩, ⟨by (with_reducible repeat (first | apply Kd.V_alloc | apply Kd.V_drewN | apply Kd.V_drew)); exact Kd.V_mono HO_0.out (fun _ hk => ⟨hk.1, ⟨(by simp [Value.ownBlock]), hk.2⟩⟩)⟩, ⟨by first | exact Kd.S_nil _ _ _ _ _ | exact Kd.N_nil _ _ _ _ _ | exact Kd.V_nil _ _ _ _ _ | exact Kd.Q_nil _ _ _ _ _ | exact Kd.R_nil _ _ _ _ _⟩, ⟨by (with_reducible repeat (first | apply Kd.V_alloc | apply Kd.V_drewN | apply Kd.V_drew)); exact Kd.V_mono HO335.out (fun _ hk => ⟨hk.1, ⟨(by simp [Value.ownBlock]), hk.2⟩⟩)⟩, ⟨jK BK326⟩, ⟨jH HB⟩⟩
        case round =>
         clear H'
         obtain ⟨x8_2, x40_2, rfl, HA, HK2, HO_0, HO_8, HO_38, BK326, HB⟩ := hrel
         cases gk with
         | zero => exact absurd HA.out (by simp [table_Learn.l0])
         | succ k2 =>
          have H := HA.out
          clear HA
          simp only [table_Learn.l0] at H
          by_cases c25 : x40_2 < (y331.length : Int)
          ·rw [if_pos c25] at H
           have c25b0 : decide (x40_2 < (y331.length : Int)) = true := dT c25
           clear c25
           by_cases c26 : 0 ≤ x40_2
           ·rw [if_pos c26] at H
            have c26b0 : decide (0 ≤ x40_2) = true := dT c26
            clear c26
            by_cases c27 : x40_2 < (y331.length : Int)
            ·rw [if_pos c27] at H
             have c27b0 : decide (x40_2 < (y331.length : Int)) = true := dT c27
             clear c27
             replace H := Option.bind_eq_some_iff.mp H
             obtain ⟨⟨t338, t341, t344⟩, A280, H⟩ := H
             try dsimp only at H
             have A28 := Aside0.mk A280
             clear A280
             by_cases c29 : x8_2.length < 2513169434916
             ·rw [if_pos c29] at H
              have LMc29 := Aside0.mk c29
              clear c29
              obtain ⟨y345, hy345⟩ : ∃ y_ : List (S42), y_ = (x8_2 ++ [(⟨t338, t341, t344⟩ : S42)]) := ⟨_, rfl⟩
              simp only [Option.bind_some, ← hy345] at H
              have Ny345 := Aside0.mk hy345
              clear hy345
              have H' := Aside0.mk H
              clear H
              have p336 : 0 ≤ (x40_2 : Int) := oD (jA)
              have q336 : x40_2 < (y331.length : Int) := oD (jA)
              obtain ⟨ad336, A336_0, c336_0, A336_1, c336_1, e336, hx336_0, hx336_1, hx336_2, hl336_0, hi336_0, hl336_1, hi336_1⟩ := at_T42 (Kd.V_reads' HO_38.out).2.2 x40_2 p336 q336
              cases e336
              obtain ⟨ce336, hce336, hMe336, hcc336⟩ := Kd.V_get HO_38.out z42 x40_2 p336 (by first | exact q336 | exact oD (jA) | (have e_ := (Kd.V_reads' HO_38.out).1; omega))
              obtain ⟨ua336_0, uc336_0, ua336_1, uc336_1, rfl, ul336_0, ge336_0, ul336_1, ge336_1⟩ := k42_openF hMe336
              have hv336_0 := hcc336 0 _ rfl
              rw [Nat.add_zero] at hv336_0
              replace hv336_0 := Option.some.inj (hv336_0.symm.trans hx336_0)
              injection hv336_0 with hva_ hvn_ hvc_
              rw [hva_] at ge336_0
              rw [hvc_] at ul336_0
              have HL336_0 := Aside0.mk (show Kd.V k59 59 _ w.heap.size _ _ ((rd_T42 y331 x40_2).f0) from Kd.V_mk ul336_0 ge336_0)
              clear hva_ hvn_ hvc_ ge336_0 ul336_0
              have hv336_1 := hcc336 1 _ rfl
              rw [add_field _ _ 1 (by omega)] at hv336_1
              replace hv336_1 := Option.some.inj (hv336_1.symm.trans hx336_1)
              injection hv336_1 with hva_ hvn_ hvc_
              rw [hva_] at ge336_1
              rw [hvc_] at ul336_1
              have HL336_1 := Aside0.mk (show Kd.V k59 59 _ w.heap.size _ _ ((rd_T42 y331 x40_2).f1) from Kd.V_mk ul336_1 ge336_1)
              clear hva_ hvn_ hvc_ ge336_1 ul336_1
              clear hcc336 hce336
              have HR336_0 := Aside0.mk hi336_0
              have HC336_0 := Aside0.mk hl336_0
              clear hi336_0 hl336_0
              have HR336_1 := Aside0.mk hi336_1
              have HC336_1 := Aside0.mk hl336_1
              clear hi336_1 hl336_1
              replace p336 := eq_true p336
              replace q336 := eq_true q336
              go_wp2_with (first | ((with_reducible refine gate_dst (N := 10) rfl ?_); refine box_event rfl (N := 10) rfl (cs := #[.slice none 0 0, .slice none 0 0, .int .u32 0]) (t := 42) jW ?_; intro gb337 hg w30 hbox hb; have n0_ := Aside0.mk (Kd.V_below (Kd.V_elderB (jV HO_0) gb337 (Nat.le_of_eq hg.symm)) hb); have n1_ := Aside0.mk (Kd.S_below (Kd.S_elderB (by (with_reducible repeat (first | apply Kd.S_alloc | apply Kd.S_drewN | apply Kd.S_drew)); exact HO_8.out) gb337 (Nat.le_of_eq hg.symm)) hb); have n2_ := Aside0.mk (Kd.V_below (Kd.V_elderB (jV HO_38) gb337 (Nat.le_of_eq hg.symm)) hb); have n3_ := Aside0.mk (Kd.V_below (Kd.V_elderB (jV HL336_0) gb337 (Nat.le_of_eq hg.symm)) hb); have n4_ := Aside0.mk (Kd.V_below (Kd.V_elderB (jV HL336_1) gb337 (Nat.le_of_eq hg.symm)) hb); have n5_ := Aside0.mk (jB BK326 hb); have n6_ := Aside0.mk (Kd.C_below (by repeat (first | (with_reducible exact HR336_0.out) | (with_reducible refine Kd.C_alloc ?_ _) | (with_reducible refine Kd.C_drewN ?_ _) | (with_reducible refine Kd.C_drew ?_) | exact HR336_0.out)) hb); have n7_ := Aside0.mk (Kd.C_below (by repeat (first | (with_reducible exact HR336_1.out) | (with_reducible refine Kd.C_alloc ?_ _) | (with_reducible refine Kd.C_drewN ?_ _) | (with_reducible refine Kd.C_drew ?_) | exact HR336_1.out)) hb); have n8_ := Aside0.mk (zT (jH HB) hb); have n9_ := Aside0.mk hbox; have n10_ := Aside0.mk (jG hg HB); have n11_ := Aside0.mk (jG hg HB); have n12_ := Aside0.mk (jN hg BK326); have n13_ := Aside0.mk (jM hg BK326); clear HO_0; clear HO_8; clear HO_38; clear HL336_0; clear HL336_1; clear BK326; clear HR336_0; clear HR336_1; clear HB; have HO_0 := n0_; have HO_8 := n1_; have HO_38 := n2_; have HL336_0 := n3_; have HL336_1 := n4_; have BK326 := n5_; have HR336_0 := n6_; have HR336_1 := n7_; have HB := n8_; have BK337 := n9_; have GW337 := n10_; have GE337 := n11_; have NB326_337 := n12_; have NB337_326 := n13_; clear n0_ n1_ n2_ n3_ n4_ n5_ n6_ n7_ n8_ n9_ n10_ n11_ n12_ n13_; clear hb hbox hg; have hnb31 := NB337_326.out; have hnc31 := NB326_337.out; obtain ⟨hcz32_0, hcz32_1, hcz32_2, hfz32_0, hfz32_1, hfz32_2⟩ := kQ3 BK337.out) | ((with_reducible refine gate_callee (f := 38) rfl ?_); refine goesL_ (some 46) rfl rfl Tryd.func38 (by kernel_rfl) rfl #[.agg #[.slice A336_0 ((rd_T42 y331 x40_2).f0).length c336_0, .slice A336_1 ((rd_T42 y331 x40_2).f1).length c336_1, .int .u32 ((rd_T42 y331 x40_2).f2)]] rfl jZ ?_; (with_reducible refine (table_own.calls _ _ ((rd_T42 y331 x40_2).f0) _ _ ((rd_T42 y331 x40_2).f1) ((rd_T42 y331 x40_2).f2) t338 t341 t344 _ ?side1 ?side2 ?side3 ?side4 A28.out).mono ?_); (case side1 => repeat (first | exact ((Kd.V_reads' (by (with_reducible repeat (first | apply Kd.V_alloc | apply Kd.V_drewN | apply Kd.V_drew)); exact (Kd.V_mono (Kd.V_far (p := ⟨gb337, 2, none⟩) (Kd.V_far (p := ⟨gb337, 1, none⟩) (Kd.V_far (p := ⟨gb337, 0, none⟩) (Kd.V_mono HL336_0.out (fun k_ hk => (⟨hk, hk.2⟩ : _ ∧ k_ ≠ gb337))) (fun _ hk => hk.2) (.slice A336_0 ((rd_T42 y331 x40_2).f0).length c336_0)) (fun _ hk => hk.2) (.slice A336_1 ((rd_T42 y331 x40_2).f1).length c336_1)) (fun _ hk => hk.2) (.int .u32 ((rd_T42 y331 x40_2).f2))) (fun _ h_ => h_.1)))).2.2) | (with_reducible refine Kd.C_alloc ?_ _) | (with_reducible refine Kd.C_drewN ?_ _) | (with_reducible refine Kd.C_drew ?_))); (case side2 => exact HC336_0.out); (case side3 => repeat (first | exact ((Kd.V_reads' (by (with_reducible repeat (first | apply Kd.V_alloc | apply Kd.V_drewN | apply Kd.V_drew)); exact (Kd.V_mono (Kd.V_far (p := ⟨gb337, 2, none⟩) (Kd.V_far (p := ⟨gb337, 1, none⟩) (Kd.V_far (p := ⟨gb337, 0, none⟩) (Kd.V_mono HL336_1.out (fun k_ hk => (⟨hk, hk.2⟩ : _ ∧ k_ ≠ gb337))) (fun _ hk => hk.2) (.slice A336_0 ((rd_T42 y331 x40_2).f0).length c336_0)) (fun _ hk => hk.2) (.slice A336_1 ((rd_T42 y331 x40_2).f1).length c336_1)) (fun _ hk => hk.2) (.int .u32 ((rd_T42 y331 x40_2).f2))) (fun _ h_ => h_.1)))).2.2) | (with_reducible refine Kd.C_alloc ?_ _) | (with_reducible refine Kd.C_drewN ?_ _) | (with_reducible refine Kd.C_drew ?_))); (case side4 => exact HC336_1.out); rintro e w33 ⟨v339, v342, rfl, ho0, ho1, hb⟩; refine ⟨_, rfl, ?_⟩; have n0_ := Aside0.mk (Kd.V_mono (Kd.V_told (Kd.V_told (Kd.V_old (by (with_reducible repeat (first | apply Kd.V_alloc | apply Kd.V_drewN | apply Kd.V_drew)); exact (Kd.V_mono (Kd.V_far (p := ⟨gb337, 2, none⟩) (Kd.V_far (p := ⟨gb337, 1, none⟩) (Kd.V_far (p := ⟨gb337, 0, none⟩) (Kd.V_mono HO_0.out (fun k_ hk => (⟨hk, hk.2⟩ : _ ∧ k_ ≠ gb337))) (fun _ hk => hk.2) (.slice A336_0 ((rd_T42 y331 x40_2).f0).length c336_0)) (fun _ hk => hk.2) (.slice A336_1 ((rd_T42 y331 x40_2).f1).length c336_1)) (fun _ hk => hk.2) (.int .u32 ((rd_T42 y331 x40_2).f2))) (fun _ h_ => h_.1))) hb) (Kd.R_base ho0)) (Kd.R_base ho1)) (fun _ h_ => h_.1)); have n1_ := Aside0.mk (Kd.S_mono (Kd.S_told (Kd.S_told (Kd.S_old (by (with_reducible repeat (first | apply Kd.S_alloc | apply Kd.S_drewN | apply Kd.S_drew)); exact (Kd.S_mono (Kd.S_far (p := ⟨gb337, 2, none⟩) (Kd.S_far (p := ⟨gb337, 1, none⟩) (Kd.S_far (p := ⟨gb337, 0, none⟩) (Kd.S_mono HO_8.out (fun k_ hk => (⟨hk, hk.2⟩ : _ ∧ k_ ≠ gb337))) (fun _ hk => hk.2) (.slice A336_0 ((rd_T42 y331 x40_2).f0).length c336_0)) (fun _ hk => hk.2) (.slice A336_1 ((rd_T42 y331 x40_2).f1).length c336_1)) (fun _ hk => hk.2) (.int .u32 ((rd_T42 y331 x40_2).f2))) (fun _ h_ => h_.1))) hb) (Kd.R_base ho0)) (Kd.R_base ho1)) (fun _ h_ => h_.1)); have n2_ := Aside0.mk (Kd.V_mono (Kd.V_told (Kd.V_told (Kd.V_old (by (with_reducible repeat (first | apply Kd.V_alloc | apply Kd.V_drewN | apply Kd.V_drew)); exact (Kd.V_mono (Kd.V_far (p := ⟨gb337, 2, none⟩) (Kd.V_far (p := ⟨gb337, 1, none⟩) (Kd.V_far (p := ⟨gb337, 0, none⟩) (Kd.V_mono HO_38.out (fun k_ hk => (⟨hk, hk.2⟩ : _ ∧ k_ ≠ gb337))) (fun _ hk => hk.2) (.slice A336_0 ((rd_T42 y331 x40_2).f0).length c336_0)) (fun _ hk => hk.2) (.slice A336_1 ((rd_T42 y331 x40_2).f1).length c336_1)) (fun _ hk => hk.2) (.int .u32 ((rd_T42 y331 x40_2).f2))) (fun _ h_ => h_.1))) hb) (Kd.R_base ho0)) (Kd.R_base ho1)) (fun _ h_ => h_.1)); have n3_ := Aside0.mk (Kd.V_mono (Kd.V_told (Kd.V_told (Kd.V_old (by (with_reducible repeat (first | apply Kd.V_alloc | apply Kd.V_drewN | apply Kd.V_drew)); exact (Kd.V_mono (Kd.V_far (p := ⟨gb337, 2, none⟩) (Kd.V_far (p := ⟨gb337, 1, none⟩) (Kd.V_far (p := ⟨gb337, 0, none⟩) (Kd.V_mono HL336_0.out (fun k_ hk => (⟨hk, hk.2⟩ : _ ∧ k_ ≠ gb337))) (fun _ hk => hk.2) (.slice A336_0 ((rd_T42 y331 x40_2).f0).length c336_0)) (fun _ hk => hk.2) (.slice A336_1 ((rd_T42 y331 x40_2).f1).length c336_1)) (fun _ hk => hk.2) (.int .u32 ((rd_T42 y331 x40_2).f2))) (fun _ h_ => h_.1))) hb) (Kd.R_base ho0)) (Kd.R_base ho1)) (fun _ h_ => h_.1)); have n4_ := Aside0.mk (Kd.V_mono (Kd.V_told (Kd.V_told (Kd.V_old (by (with_reducible repeat (first | apply Kd.V_alloc | apply Kd.V_drewN | apply Kd.V_drew)); exact (Kd.V_mono (Kd.V_far (p := ⟨gb337, 2, none⟩) (Kd.V_far (p := ⟨gb337, 1, none⟩) (Kd.V_far (p := ⟨gb337, 0, none⟩) (Kd.V_mono HL336_1.out (fun k_ hk => (⟨hk, hk.2⟩ : _ ∧ k_ ≠ gb337))) (fun _ hk => hk.2) (.slice A336_0 ((rd_T42 y331 x40_2).f0).length c336_0)) (fun _ hk => hk.2) (.slice A336_1 ((rd_T42 y331 x40_2).f1).length c336_1)) (fun _ hk => hk.2) (.int .u32 ((rd_T42 y331 x40_2).f2))) (fun _ h_ => h_.1))) hb) (Kd.R_base ho0)) (Kd.R_base ho1)) (fun _ h_ => h_.1)); have n5_ := Aside0.mk (Kd.R_lower (Kd.R_newM (M := fun k_ => (w.heap.size ≤ k_)) ho0 (zZ (jH HB)) (fun k_ h_ => h_)) (zZ (jH HB))); have n6_ := Aside0.mk (Kd.R_lower (Kd.R_newM (M := fun k_ => (w.heap.size ≤ k_)) ho1 (zZ (jH HB)) (fun k_ h_ => h_)) (zZ (jH HB))); have n7_ := Aside0.mk (kB (g := gb326) (o := .cells #[.slice A1_0 l1_0.length c1_0, .slice A1_1 l1_1.length c1_1, .int .u32 a1_2] 42 (0, 0)) (by (with_reducible repeat (first | refine kN ?_ _ | refine kD ?_ | refine kA ?_ _)); refine kR ?_ NB326_337.out _; (with_reducible repeat (first | refine kN ?_ _ | refine kD ?_ | refine kA ?_ _)); refine kR ?_ NB326_337.out _; (with_reducible repeat (first | refine kN ?_ _ | refine kD ?_ | refine kA ?_ _)); refine kR ?_ NB326_337.out _; (with_reducible repeat (first | refine kN ?_ _ | refine kD ?_ | refine kA ?_ _)); exact BK326.out) hb); have n8_ := Aside0.mk (Kd.C_below ((Kd.V_reads' (by (with_reducible repeat (first | apply Kd.V_alloc | apply Kd.V_drewN | apply Kd.V_drew)); exact (Kd.V_mono (Kd.V_far (p := ⟨gb337, 2, none⟩) (Kd.V_far (p := ⟨gb337, 1, none⟩) (Kd.V_far (p := ⟨gb337, 0, none⟩) (Kd.V_mono HL336_0.out (fun k_ hk => (⟨hk, hk.2⟩ : _ ∧ k_ ≠ gb337))) (fun _ hk => hk.2) (.slice A336_0 ((rd_T42 y331 x40_2).f0).length c336_0)) (fun _ hk => hk.2) (.slice A336_1 ((rd_T42 y331 x40_2).f1).length c336_1)) (fun _ hk => hk.2) (.int .u32 ((rd_T42 y331 x40_2).f2))) (fun _ h_ => h_.1)))).2.2) hb); have n9_ := Aside0.mk (Kd.C_below ((Kd.V_reads' (by (with_reducible repeat (first | apply Kd.V_alloc | apply Kd.V_drewN | apply Kd.V_drew)); exact (Kd.V_mono (Kd.V_far (p := ⟨gb337, 2, none⟩) (Kd.V_far (p := ⟨gb337, 1, none⟩) (Kd.V_far (p := ⟨gb337, 0, none⟩) (Kd.V_mono HL336_1.out (fun k_ hk => (⟨hk, hk.2⟩ : _ ∧ k_ ≠ gb337))) (fun _ hk => hk.2) (.slice A336_0 ((rd_T42 y331 x40_2).f0).length c336_0)) (fun _ hk => hk.2) (.slice A336_1 ((rd_T42 y331 x40_2).f1).length c336_1)) (fun _ hk => hk.2) (.int .u32 ((rd_T42 y331 x40_2).f2))) (fun _ h_ => h_.1)))).2.2) hb); have n10_ := Aside0.mk (kB (g := gb337) (o := .cells #[.slice A336_0 ((rd_T42 y331 x40_2).f0).length c336_0, .slice A336_1 ((rd_T42 y331 x40_2).f1).length c336_1, .int .u32 ((rd_T42 y331 x40_2).f2)] 42 (0, 0)) (by (with_reducible repeat (first | refine kN ?_ _ | refine kD ?_ | refine kA ?_ _)); refine kP (cs := #[.slice A336_0 ((rd_T42 y331 x40_2).f0).length c336_0, .slice A336_1 ((rd_T42 y331 x40_2).f1).length c336_1, .int .u32 0]) ?_ 2 _ rfl; (with_reducible repeat (first | refine kN ?_ _ | refine kD ?_ | refine kA ?_ _)); refine kP (cs := #[.slice A336_0 ((rd_T42 y331 x40_2).f0).length c336_0, .slice none 0 0, .int .u32 0]) ?_ 1 _ rfl; (with_reducible repeat (first | refine kN ?_ _ | refine kD ?_ | refine kA ?_ _)); refine kP (cs := #[.slice none 0 0, .slice none 0 0, .int .u32 0]) ?_ 0 _ rfl; (with_reducible repeat (first | refine kN ?_ _ | refine kD ?_ | refine kA ?_ _)); exact BK337.out) hb); have n11_ := Aside0.mk (zT (jH HB) hb); clear HO_0; clear HO_8; clear HO_38; clear HL336_0; clear HL336_1; clear BK326; clear HR336_0; clear HR336_1; clear BK337; clear HB; have HO_0 := n0_; have HO_8 := n1_; have HO_38 := n2_; have HL336_0 := n3_; have HL336_1 := n4_; have HO340 := n5_; have HO343 := n6_; have BK326 := n7_; have HR336_0 := n8_; have HR336_1 := n9_; have BK337 := n10_; have HB := n11_; clear n0_ n1_ n2_ n3_ n4_ n5_ n6_ n7_ n8_ n9_ n10_ n11_; (try clear hb); (try clear hb2); (try clear hk); (try clear hi); (try clear ho0); (try clear ho1); obtain ⟨Ao35, co35, eo35⟩ := Kd.R_slice HO340.out; subst eo35; obtain ⟨Ao36, co36, eo36⟩ := Kd.R_slice HO343.out; subst eo36) | ((with_reducible refine gate_builtin (b := .append) (xs := #[.tmp 44, .tmp 47]) rfl ?_); at_builtin; refine Kd.S_append k42 (w0 := w) w.heap.size rfl (.tmp 44) (.tmp 47) 22 42 (.agg #[(.slice none 0 0), (.slice none 0 0), (.int .u32 0)]) 56 rfl Tryd.underlying22 info42 rfl (by decide) (by omega) u8 x8_2 (⟨t338, t341, t344⟩ : S42) [.slice Ao35 t338.length co35, .slice Ao36 t341.length co36, .int .u32 t344] (fun k_ => (w.heap.size ≤ k_) ∧ k_ ≠ gb326 ∧ k_ ≠ gb337) (fun k_ => some k_ = (.slice Ao35 t338.length co35 : Value).ownBlock ∨ some k_ = (.slice Ao36 t341.length co36 : Value).ownBlock) rfl rfl ?aP (fun k_ hk_ => hk_.elim (fun h_ => ((Kd.R_mono (ok' := fun k_ => ((fun k_ => (w.heap.size ≤ k_) ∧ k_ ≠ gb326 ∧ k_ ≠ gb337)) k_ ∧ some k_ ≠ (u8 : Value).ownBlock) (Kd.R_types (Kd.R_types (Kd.R_apart' (HO340.out) (Kd.S_typed HO_8.out) (by decide)) BK326.out (by decide)) BK337.out (by decide)) (fun k_ hk => ⟨⟨hk.1.1.1.1, ⟨hk.1.2, hk.2⟩⟩, hk.1.1.2⟩))).1 k_ h_.symm) (fun h_ => ((Kd.R_mono (ok' := fun k_ => ((fun k_ => (w.heap.size ≤ k_) ∧ k_ ≠ gb326 ∧ k_ ≠ gb337)) k_ ∧ some k_ ≠ (u8 : Value).ownBlock) (Kd.R_types (Kd.R_types (Kd.R_apart' (HO343.out) (Kd.S_typed HO_8.out) (by decide)) BK326.out (by decide)) BK337.out (by decide)) (fun k_ hk => ⟨⟨hk.1.1.1.1, ⟨hk.1.2, hk.2⟩⟩, hk.1.1.2⟩))).1 k_ h_.symm)) ?aF ?aO ?aB ?aS ?aL ?_; (case aP => exact k42_mkM _ _ _ (⟨t338, t341, t344⟩ : S42) (Kd.R_mono (Kd.R_tight rfl (Kd.R_mono (ok' := fun k_ => ((fun k_ => (w.heap.size ≤ k_) ∧ k_ ≠ gb326 ∧ k_ ≠ gb337)) k_ ∧ some k_ ≠ (u8 : Value).ownBlock) (Kd.R_types (Kd.R_types (Kd.R_apart' (HO340.out) (Kd.S_typed HO_8.out) (by decide)) BK326.out (by decide)) BK337.out (by decide)) (fun k_ hk => ⟨⟨hk.1.1.1.1, ⟨hk.1.2, hk.2⟩⟩, hk.1.1.2⟩))) (fun _ h_ => Or.inl h_)) (Kd.R_mono (Kd.R_tight rfl (Kd.R_mono (ok' := fun k_ => ((fun k_ => (w.heap.size ≤ k_) ∧ k_ ≠ gb326 ∧ k_ ≠ gb337)) k_ ∧ some k_ ≠ (u8 : Value).ownBlock) (Kd.R_types (Kd.R_types (Kd.R_apart' (HO343.out) (Kd.S_typed HO_8.out) (by decide)) BK326.out (by decide)) BK337.out (by decide)) (fun k_ hk => ⟨⟨hk.1.1.1.1, ⟨hk.1.2, hk.2⟩⟩, hk.1.1.2⟩))) (fun _ h_ => Or.inr (h_)))); (case aB => exact (jH HB)); (case aF => exact (fun k_ hk => ⟨(Nat.le_trans (zZ (jH HB)) hk), Kd.freshB (g := gb326) (o := .cells #[.slice A1_0 l1_0.length c1_0, .slice A1_1 l1_1.length c1_1, .int .u32 a1_2] 42 (0, 0)) (jK BK326) k_ hk, Kd.freshB (g := gb337) (o := .cells #[.slice A336_0 ((rd_T42 y331 x40_2).f0).length c336_0, .slice A336_1 ((rd_T42 y331 x40_2).f1).length c336_1, .int .u32 ((rd_T42 y331 x40_2).f2)] 42 (0, 0)) (jK BK337) k_ hk⟩)); (case aO => exact (by (with_reducible repeat (first | apply Kd.S_alloc | apply Kd.S_drewN | apply Kd.S_drew)); exact Kd.S_mono HO_8.out (fun k_ hk => ⟨⟨hk.1.1.1.1, ⟨hk.1.1.1.2, hk.1.1.2⟩⟩, fun e_ => e_.elim (fun h_ => hk.1.2 h_) (fun h_ => hk.2 h_)⟩))); (case aS => exact (zZ (jH HB))); (case aL => have := LMc29.out; omega); intro v346 w34 ho hb hg hat; rw [← Ny345.out] at ho; have n0_ := Aside0.mk (Kd.V_afterv (ok := (fun k_ => (P0_ k_ ∨ w.heap.size ≤ k_) ∧ some k_ ≠ (.slice Ao35 t338.length co35 : Value).ownBlock ∧ some k_ ≠ (.slice Ao36 t341.length co36 : Value).ownBlock ∧ k_ ≠ gb326 ∧ k_ ≠ gb337)) (by (with_reducible repeat (first | apply Kd.V_alloc | apply Kd.V_drewN | apply Kd.V_drew)); exact Kd.V_mono HO_0.out (fun _ hk => ⟨⟨hk.1.1.1.1, ⟨hk.1.2, ⟨hk.2, ⟨hk.1.1.1.2.2, hk.1.1.2⟩⟩⟩⟩, hk.1.1.1.2.1⟩)) hg hat); have n1_ := Aside0.mk (Kd.V_afterv (ok := (fun k_ => (P0_ k_ ∨ w.heap.size ≤ k_) ∧ some k_ ≠ (.slice Ao35 t338.length co35 : Value).ownBlock ∧ some k_ ≠ (.slice Ao36 t341.length co36 : Value).ownBlock ∧ k_ ≠ gb326 ∧ k_ ≠ gb337)) (by (with_reducible repeat (first | apply Kd.V_alloc | apply Kd.V_drewN | apply Kd.V_drew)); exact Kd.V_mono HO_38.out (fun _ hk => ⟨⟨hk.1.1.1.1, ⟨hk.1.2, ⟨hk.2, ⟨hk.1.1.1.2.2, hk.1.1.2⟩⟩⟩⟩, hk.1.1.1.2.1⟩)) hg hat); have n2_ := Aside0.mk (kG (g := gb326) (o := .cells #[.slice A1_0 l1_0.length c1_0, .slice A1_1 l1_1.length c1_1, .int .u32 a1_2] 42 (0, 0)) (jK BK326) hg (Kd.S_away HO_8.out (fun _ hk => hk.1.1.1.2))); have n3_ := Aside0.mk (Kd.V_afterv (ok := (fun k_ => (P0_ k_ ∨ w.heap.size ≤ k_) ∧ some k_ ≠ (.slice Ao35 t338.length co35 : Value).ownBlock ∧ some k_ ≠ (.slice Ao36 t341.length co36 : Value).ownBlock ∧ k_ ≠ gb326 ∧ k_ ≠ gb337)) (by (with_reducible repeat (first | apply Kd.V_alloc | apply Kd.V_drewN | apply Kd.V_drew)); exact Kd.V_mono HL336_0.out (fun _ hk => ⟨⟨hk.1.1.1.1, ⟨hk.1.2, ⟨hk.2, ⟨hk.1.1.1.2.2, hk.1.1.2⟩⟩⟩⟩, hk.1.1.1.2.1⟩)) hg hat); have n4_ := Aside0.mk (Kd.V_afterv (ok := (fun k_ => (P0_ k_ ∨ w.heap.size ≤ k_) ∧ some k_ ≠ (.slice Ao35 t338.length co35 : Value).ownBlock ∧ some k_ ≠ (.slice Ao36 t341.length co36 : Value).ownBlock ∧ k_ ≠ gb326 ∧ k_ ≠ gb337)) (by (with_reducible repeat (first | apply Kd.V_alloc | apply Kd.V_drewN | apply Kd.V_drew)); exact Kd.V_mono HL336_1.out (fun _ hk => ⟨⟨hk.1.1.1.1, ⟨hk.1.2, ⟨hk.2, ⟨hk.1.1.1.2.2, hk.1.1.2⟩⟩⟩⟩, hk.1.1.1.2.1⟩)) hg hat); have n5_ := Aside0.mk (kG (g := gb337) (o := .cells #[.slice A336_0 ((rd_T42 y331 x40_2).f0).length c336_0, .slice A336_1 ((rd_T42 y331 x40_2).f1).length c336_1, .int .u32 ((rd_T42 y331 x40_2).f2)] 42 (0, 0)) (jK BK337) hg (Kd.S_away HO_8.out (fun _ hk => hk.1.1.2))); have n6_ := Aside0.mk (hb); have n7_ := Aside0.mk (ho); clear HO_0; clear HO_38; clear BK326; clear HL336_0; clear HL336_1; clear BK337; clear HB; clear HO_8; clear HO340; clear HO343; have HO_0 := n0_; have HO_38 := n1_; have BK326 := n2_; have HL336_0 := n3_; have HL336_1 := n4_; have BK337 := n5_; have HB := n6_; have HO347 := n7_; clear n0_ n1_ n2_ n3_ n4_ n5_ n6_ n7_; clear ho hb hg hat))
              go_roundg k2
              case measure => have := HJ2.out; have := HK2.out; omega
              case rel => exact ⟨(y345), (wrap64 (x40_2 + 1)), jS, H', ⟨by have := HJ2.out; have := HK2.out; omega⟩, ⟨by (with_reducible repeat (first | apply Kd.V_alloc | apply Kd.V_drewN | apply Kd.V_drew)); exact Kd.V_mono HO_0.out (fun _ hk => ⟨hk.1.1, ⟨hk.2, hk.1.2.2.2.1⟩⟩)⟩, ⟨by (with_reducible repeat (first | apply Kd.S_alloc | apply Kd.S_drewN | apply Kd.S_drew)); exact Kd.S_mono HO347.out (fun _ hk => ⟨hk.1, hk.2.1⟩)⟩, ⟨by (with_reducible repeat (first | apply Kd.V_alloc | apply Kd.V_drewN | apply Kd.V_drew)); exact Kd.V_mono HO_38.out (fun _ hk => ⟨hk.1.1, ⟨hk.2, hk.1.2.2.2.1⟩⟩)⟩, ⟨jK BK326⟩, ⟨jH HB⟩⟩
             ·rw [if_neg c29] at H
              exact absurd H (by simp)
            ·rw [if_neg c27] at H
             exact absurd H (by simp)
           ·rw [if_neg c26] at H
            exact absurd H (by simp)
          ·rw [if_neg c25] at H
           have c25b0 : decide (x40_2 < (y331.length : Int)) = false := dF c25
           clear c25
           replace H := Option.bind_eq_some_iff.mp H
           obtain ⟨⟨t348, t351, t354⟩, A370, H⟩ := H
           try dsimp only at H
           have A37 := Aside0.mk A370
           clear A370
           by_cases c38 : x8_2.length < 2513169434916
           ·rw [if_pos c38] at H
            have LMc38 := Aside0.mk c38
            clear c38
            obtain ⟨y355, hy355⟩ : ∃ y_ : List (S42), y_ = (x8_2 ++ [(⟨t348, t351, t354⟩ : S42)]) := ⟨_, rfl⟩
            simp only [Option.bind_some, ← hy355] at H
            have Ny355 := Aside0.mk hy355
            clear hy355
            by_cases c39 : 0 ≤ t329
            ·rw [if_pos c39] at H
             have c39b0 := eq_true c39
             have c39b1 : decide (0 ≤ t329) = true := dT c39
             clear c39
             by_cases c40 : t329 ≤ (l0.length : Int)
             ·rw [if_pos c40] at H
              have c40b0 := eq_true c40
              have c40b1 : decide (t329 ≤ (l0.length : Int)) = true := dT c40
              clear c40
              obtain ⟨y358, hy358⟩ : ∃ y_ : List (S42), y_ = (l0.drop (t329 : Int).toNat) := ⟨_, rfl⟩
              simp only [Option.bind_some, ← hy358] at H
              have Ny358 := Aside0.mk hy358
              clear hy358
              have H' := Aside0.mk H
              clear H
              obtain ⟨hcz41_0, hcz41_1, hcz41_2, hfz41_0, hfz41_1, hfz41_2⟩ := kQ3 BK326.out
              go_wp2_with (first | ((with_reducible refine gate_callee (f := 38) rfl ?_); refine goesL_ (some 52) rfl rfl Tryd.func38 (by kernel_rfl) rfl #[.agg #[.slice A1_0 l1_0.length c1_0, .slice A1_1 l1_1.length c1_1, .int .u32 a1_2]] rfl jZ ?_; (with_reducible refine (table_own.calls _ _ l1_0 _ _ l1_1 a1_2 t348 t351 t354 _ ?side1 ?side2 ?side3 ?side4 A37.out).mono ?_); (case side1 => exact jC (Kd.C_below HR1_0.out HB.out)); (case side2 => exact HC1_0.out); (case side3 => exact jC (Kd.C_below HR1_1.out HB.out)); (case side4 => exact HC1_1.out); rintro e w42 ⟨v349, v352, rfl, ho0, ho1, hb⟩; refine ⟨_, rfl, ?_⟩; have n0_ := Aside0.mk (Kd.V_mono (Kd.V_told (Kd.V_told (Kd.V_old (jV HO_0) hb) (Kd.R_base ho0)) (Kd.R_base ho1)) (fun _ h_ => h_.1)); have n1_ := Aside0.mk (Kd.S_mono (Kd.S_told (Kd.S_told (Kd.S_old (by (with_reducible repeat (first | apply Kd.S_alloc | apply Kd.S_drewN | apply Kd.S_drew)); exact HO_8.out) hb) (Kd.R_base ho0)) (Kd.R_base ho1)) (fun _ h_ => h_.1)); have n2_ := Aside0.mk (Kd.V_mono (Kd.V_told (Kd.V_told (Kd.V_old (jV HO_38) hb) (Kd.R_base ho0)) (Kd.R_base ho1)) (fun _ h_ => h_.1)); have n3_ := Aside0.mk (Kd.R_lower (Kd.R_newM (M := fun k_ => (w.heap.size ≤ k_)) ho0 (zZ (jH HB)) (fun k_ h_ => h_)) (zZ (jH HB))); have n4_ := Aside0.mk (Kd.R_lower (Kd.R_newM (M := fun k_ => (w.heap.size ≤ k_)) ho1 (zZ (jH HB)) (fun k_ h_ => h_)) (zZ (jH HB))); have n5_ := Aside0.mk (jB BK326 hb); have n6_ := Aside0.mk (zT (jH HB) hb); clear HO_0; clear HO_8; clear HO_38; clear BK326; clear HB; have HO_0 := n0_; have HO_8 := n1_; have HO_38 := n2_; have HO350 := n3_; have HO353 := n4_; have BK326 := n5_; have HB := n6_; clear n0_ n1_ n2_ n3_ n4_ n5_ n6_; (try clear hb); (try clear hb2); (try clear hk); (try clear hi); (try clear ho0); (try clear ho1); obtain ⟨Ao44, co44, eo44⟩ := Kd.R_slice HO350.out; subst eo44; obtain ⟨Ao45, co45, eo45⟩ := Kd.R_slice HO353.out; subst eo45) | ((with_reducible refine gate_builtin (b := .append) (xs := #[.tmp 50, .tmp 53]) rfl ?_); at_builtin; refine Kd.S_append k42 (w0 := w) w.heap.size rfl (.tmp 50) (.tmp 53) 22 42 (.agg #[(.slice none 0 0), (.slice none 0 0), (.int .u32 0)]) 56 rfl Tryd.underlying22 info42 rfl (by decide) (by omega) u8 x8_2 (⟨t348, t351, t354⟩ : S42) [.slice Ao44 t348.length co44, .slice Ao45 t351.length co45, .int .u32 t354] (fun k_ => (w.heap.size ≤ k_) ∧ k_ ≠ gb326) (fun k_ => some k_ = (.slice Ao44 t348.length co44 : Value).ownBlock ∨ some k_ = (.slice Ao45 t351.length co45 : Value).ownBlock) rfl rfl ?aP (fun k_ hk_ => hk_.elim (fun h_ => ((Kd.R_mono (ok' := fun k_ => ((fun k_ => (w.heap.size ≤ k_) ∧ k_ ≠ gb326)) k_ ∧ some k_ ≠ (u8 : Value).ownBlock) (Kd.R_types (Kd.R_apart' (HO350.out) (Kd.S_typed HO_8.out) (by decide)) BK326.out (by decide)) (fun k_ hk => ⟨⟨hk.1.1.1, hk.2⟩, hk.1.2⟩))).1 k_ h_.symm) (fun h_ => ((Kd.R_mono (ok' := fun k_ => ((fun k_ => (w.heap.size ≤ k_) ∧ k_ ≠ gb326)) k_ ∧ some k_ ≠ (u8 : Value).ownBlock) (Kd.R_types (Kd.R_apart' (HO353.out) (Kd.S_typed HO_8.out) (by decide)) BK326.out (by decide)) (fun k_ hk => ⟨⟨hk.1.1.1, hk.2⟩, hk.1.2⟩))).1 k_ h_.symm)) ?aF ?aO ?aB ?aS ?aL ?_; (case aP => exact k42_mkM _ _ _ (⟨t348, t351, t354⟩ : S42) (Kd.R_mono (Kd.R_tight rfl (Kd.R_mono (ok' := fun k_ => ((fun k_ => (w.heap.size ≤ k_) ∧ k_ ≠ gb326)) k_ ∧ some k_ ≠ (u8 : Value).ownBlock) (Kd.R_types (Kd.R_apart' (HO350.out) (Kd.S_typed HO_8.out) (by decide)) BK326.out (by decide)) (fun k_ hk => ⟨⟨hk.1.1.1, hk.2⟩, hk.1.2⟩))) (fun _ h_ => Or.inl h_)) (Kd.R_mono (Kd.R_tight rfl (Kd.R_mono (ok' := fun k_ => ((fun k_ => (w.heap.size ≤ k_) ∧ k_ ≠ gb326)) k_ ∧ some k_ ≠ (u8 : Value).ownBlock) (Kd.R_types (Kd.R_apart' (HO353.out) (Kd.S_typed HO_8.out) (by decide)) BK326.out (by decide)) (fun k_ hk => ⟨⟨hk.1.1.1, hk.2⟩, hk.1.2⟩))) (fun _ h_ => Or.inr (h_)))); (case aB => exact (jH HB)); (case aF => exact (fun k_ hk => ⟨(Nat.le_trans (zZ (jH HB)) hk), Kd.freshB (g := gb326) (o := .cells #[.slice A1_0 l1_0.length c1_0, .slice A1_1 l1_1.length c1_1, .int .u32 a1_2] 42 (0, 0)) (jK BK326) k_ hk⟩)); (case aO => exact (by (with_reducible repeat (first | apply Kd.S_alloc | apply Kd.S_drewN | apply Kd.S_drew)); exact Kd.S_mono HO_8.out (fun k_ hk => ⟨⟨hk.1.1.1, hk.1.1.2⟩, fun e_ => e_.elim (fun h_ => hk.1.2 h_) (fun h_ => hk.2 h_)⟩))); (case aS => exact (zZ (jH HB))); (case aL => have := LMc38.out; omega); intro v356 w43 ho hb hg hat; rw [← Ny355.out] at ho; have n0_ := Aside0.mk (Kd.V_afterv (ok := (fun k_ => (P0_ k_ ∨ w.heap.size ≤ k_) ∧ some k_ ≠ (.slice Ao44 t348.length co44 : Value).ownBlock ∧ some k_ ≠ (.slice Ao45 t351.length co45 : Value).ownBlock ∧ k_ ≠ gb326)) (by (with_reducible repeat (first | apply Kd.V_alloc | apply Kd.V_drewN | apply Kd.V_drew)); exact Kd.V_mono HO_0.out (fun _ hk => ⟨⟨hk.1.1.1, ⟨hk.1.2, ⟨hk.2, hk.1.1.2.2⟩⟩⟩, hk.1.1.2.1⟩)) hg hat); have n1_ := Aside0.mk (Kd.V_afterv (ok := (fun k_ => (P0_ k_ ∨ w.heap.size ≤ k_) ∧ some k_ ≠ (.slice Ao44 t348.length co44 : Value).ownBlock ∧ some k_ ≠ (.slice Ao45 t351.length co45 : Value).ownBlock ∧ k_ ≠ gb326)) (by (with_reducible repeat (first | apply Kd.V_alloc | apply Kd.V_drewN | apply Kd.V_drew)); exact Kd.V_mono HO_38.out (fun _ hk => ⟨⟨hk.1.1.1, ⟨hk.1.2, ⟨hk.2, hk.1.1.2.2⟩⟩⟩, hk.1.1.2.1⟩)) hg hat); have n2_ := Aside0.mk (kG (g := gb326) (o := .cells #[.slice A1_0 l1_0.length c1_0, .slice A1_1 l1_1.length c1_1, .int .u32 a1_2] 42 (0, 0)) (jK BK326) hg (Kd.S_away HO_8.out (fun _ hk => hk.1.1.2))); have n3_ := Aside0.mk (hb); have n4_ := Aside0.mk (ho); clear HO_0; clear HO_38; clear BK326; clear HB; clear HO_8; clear HO350; clear HO353; have HO_0 := n0_; have HO_38 := n1_; have BK326 := n2_; have HB := n3_; have HO357 := n4_; clear n0_ n1_ n2_ n3_ n4_; clear ho hb hg hat; have q46 : (t329 : Int) ≤ ((l0.length : Int) : Int) := oD (jA); obtain ⟨i046, hi046, _, hsz46, _⟩ := info_parts info42; have hroom46 : l0.length ≤ c0 := (Kd.V_reads' HO_0.out).2.1; have hC46 : Kd.F k42 _ _ A0 l0.length l0 := (Kd.V_at (base := w.heap.size) HO_0.out).2.2; have q046 : (0 : Int) ≤ (t329 : Int) := oD (jA); have hcut46 := cut_from (P := Tryd.prog) 22 42 .i64 Tryd.underlying22 hi046 3 hsz46 A0 l0.length c0 t329 q046 q46; have hr46 := Kd.F_cut (m := (t329 : Int).toNat) (c := c0) hC46 (by omega) hroom46; obtain ⟨A46, hA46⟩ : ∃ A1, A1 = (if c0 = (t329 : Int).toNat then A0 else (A0 : Option Addr).map (·.add ((t329 : Int).toNat * 3))) := ⟨_, rfl⟩; obtain ⟨c46, hc46⟩ : ∃ c1, c1 = c0 - (t329 : Int).toNat := ⟨_, rfl⟩; have hy46 : y358.length = l0.length - (t329 : Int).toNat := (by rw [Ny358.out, List.length_drop] <;> omega); rw [show (l0).drop (t329 : Int).toNat = y358 from Ny358.out.symm] at hr46; replace hr46 : Kd.F k42 _ _ A46 y358.length y358 := (by rw [hA46]; exact hr46); rw [← hy46, ← hA46, ← hc46] at hcut46; have HO362 := Aside0.mk (show Kd.V k42 42 _ w.heap.size _ (.slice A46 y358.length c46) y358 from Kd.V_mk (by rw [hy46, hc46]; exact Nat.sub_le_sub_right hroom46 _) hr46); have HC362 := Aside0.mk (show y358.length ≤ c46 from by rw [hy46, hc46]; exact Nat.sub_le_sub_right hroom46 _); clear hr46 hC46 hroom46 hi046 hsz46 hc46; have KY46 := Aside0.mk hy46; have KA46 := Aside0.mk hA46; clear hy46 hA46; replace q46 := eq_true q46))
              go_loopg [8, 59] k2 (fun kq v8 v59 w' => ∃ (x8_3 : List (S42)) (x59_3 : Int), v59 = .int .i64 x59_3 ∧ Aside0 (table_Learn.l1 kq x8_3 y358 (y358.length : Int) x59_3 = some (r1, r2)) ∧ Aside0 (kq ≤ k2) ∧ Aside0 (Kd.S k42 42 w' w.heap.size (fun k_ => (w.heap.size ≤ k_) ∧ k_ ≠ gb326) v8 x8_3) ∧ Aside0 (Kd.V k42 42 w' w.heap.size (fun k_ => (P0_ k_ ∨ w.heap.size ≤ k_) ∧ some k_ ≠ (v8 : Value).ownBlock ∧ k_ ≠ gb326) (.slice A46 y358.length c46) y358) ∧ Aside0 (w'.heap[gb326]? = some (.cells #[(.slice A1_0 l1_0.length c1_0), (.slice A1_1 l1_1.length c1_1), .int .u32 a1_2] 42 (0, 0))) ∧ Aside0 (Below w.heap.size w w'))
              case atStart => exact ⟨(y355), (0), jS, H', ⟨Nat.le_refl _⟩, ⟨by (with_reducible repeat (first | apply Kd.S_alloc | apply Kd.S_drewN | apply Kd.S_drew)); exact HO357.out⟩, ⟨by (with_reducible repeat (first | apply Kd.V_alloc | apply Kd.V_drewN | apply Kd.V_drew)); exact Kd.V_mono HO362.out (fun _ hk => ⟨hk.1.1, ⟨hk.2, hk.1.2.2.2⟩⟩)⟩, ⟨jK BK326⟩, ⟨jH HB⟩⟩
              case round =>
               clear H'
               obtain ⟨x8_3, x59_3, rfl, HA, HK3, HO_8, HO_57, BK326, HB⟩ := hrel
               cases gk with
               | zero => exact absurd HA.out (by simp [table_Learn.l1])
               | succ k3 =>
                have H := HA.out
                clear HA
                simp only [table_Learn.l1] at H
                by_cases c47 : x59_3 < (y358.length : Int)
                ·rw [if_pos c47] at H
                 have c47b0 : decide (x59_3 < (y358.length : Int)) = true := dT c47
                 clear c47
                 by_cases c48 : 0 ≤ x59_3
                 ·rw [if_pos c48] at H
                  have c48b0 : decide (0 ≤ x59_3) = true := dT c48
                  clear c48
                  by_cases c49 : x59_3 < (y358.length : Int)
                  ·rw [if_pos c49] at H
                   have c49b0 : decide (x59_3 < (y358.length : Int)) = true := dT c49
                   clear c49
                   replace H := Option.bind_eq_some_iff.mp H
                   obtain ⟨⟨t365, t368, t371⟩, A500, H⟩ := H
                   try dsimp only at H
                   have A50 := Aside0.mk A500
                   clear A500
                   by_cases c51 : x8_3.length < 2513169434916
                   ·rw [if_pos c51] at H
                    have LMc51 := Aside0.mk c51
                    clear c51
                    obtain ⟨y372, hy372⟩ : ∃ y_ : List (S42), y_ = (x8_3 ++ [(⟨t365, t368, t371⟩ : S42)]) := ⟨_, rfl⟩
                    simp only [Option.bind_some, ← hy372] at H
                    have Ny372 := Aside0.mk hy372
                    clear hy372
                    have H' := Aside0.mk H
                    clear H
                    have p363 : 0 ≤ (x59_3 : Int) := oD (jA)
                    have q363 : x59_3 < (y358.length : Int) := oD (jA)
                    obtain ⟨ad363, A363_0, c363_0, A363_1, c363_1, e363, hx363_0, hx363_1, hx363_2, hl363_0, hi363_0, hl363_1, hi363_1⟩ := at_T42 (Kd.V_reads' HO_57.out).2.2 x59_3 p363 q363
                    cases e363
                    obtain ⟨ce363, hce363, hMe363, hcc363⟩ := Kd.V_get HO_57.out z42 x59_3 p363 (by first | exact q363 | exact oD (jA) | (have e_ := (Kd.V_reads' HO_57.out).1; omega))
                    obtain ⟨ua363_0, uc363_0, ua363_1, uc363_1, rfl, ul363_0, ge363_0, ul363_1, ge363_1⟩ := k42_openF hMe363
                    have hv363_0 := hcc363 0 _ rfl
                    rw [Nat.add_zero] at hv363_0
                    replace hv363_0 := Option.some.inj (hv363_0.symm.trans hx363_0)
                    injection hv363_0 with hva_ hvn_ hvc_
                    rw [hva_] at ge363_0
                    rw [hvc_] at ul363_0
                    have HL363_0 := Aside0.mk (show Kd.V k59 59 _ w.heap.size _ _ ((rd_T42 y358 x59_3).f0) from Kd.V_mk ul363_0 ge363_0)
                    clear hva_ hvn_ hvc_ ge363_0 ul363_0
                    have hv363_1 := hcc363 1 _ rfl
                    rw [add_field _ _ 1 (by omega)] at hv363_1
                    replace hv363_1 := Option.some.inj (hv363_1.symm.trans hx363_1)
                    injection hv363_1 with hva_ hvn_ hvc_
                    rw [hva_] at ge363_1
                    rw [hvc_] at ul363_1
                    have HL363_1 := Aside0.mk (show Kd.V k59 59 _ w.heap.size _ _ ((rd_T42 y358 x59_3).f1) from Kd.V_mk ul363_1 ge363_1)
                    clear hva_ hvn_ hvc_ ge363_1 ul363_1
                    clear hcc363 hce363
                    have HR363_0 := Aside0.mk hi363_0
                    have HC363_0 := Aside0.mk hl363_0
                    clear hi363_0 hl363_0
                    have HR363_1 := Aside0.mk hi363_1
                    have HC363_1 := Aside0.mk hl363_1
                    clear hi363_1 hl363_1
                    replace p363 := eq_true p363
                    replace q363 := eq_true q363
                    go_wp2_with (first | ((with_reducible refine gate_dst (N := 12) rfl ?_); refine box_event rfl (N := 12) rfl (cs := #[.slice none 0 0, .slice none 0 0, .int .u32 0]) (t := 42) jW ?_; intro gb364 hg w52 hbox hb; have n0_ := Aside0.mk (Kd.S_below (Kd.S_elderB (by (with_reducible repeat (first | apply Kd.S_alloc | apply Kd.S_drewN | apply Kd.S_drew)); exact HO_8.out) gb364 (Nat.le_of_eq hg.symm)) hb); have n1_ := Aside0.mk (Kd.V_below (Kd.V_elderB (jV HO_57) gb364 (Nat.le_of_eq hg.symm)) hb); have n2_ := Aside0.mk (Kd.V_below (Kd.V_elderB (jV HL363_0) gb364 (Nat.le_of_eq hg.symm)) hb); have n3_ := Aside0.mk (Kd.V_below (Kd.V_elderB (jV HL363_1) gb364 (Nat.le_of_eq hg.symm)) hb); have n4_ := Aside0.mk (jB BK326 hb); have n5_ := Aside0.mk (Kd.C_below (by repeat (first | (with_reducible exact HR363_0.out) | (with_reducible refine Kd.C_alloc ?_ _) | (with_reducible refine Kd.C_drewN ?_ _) | (with_reducible refine Kd.C_drew ?_) | exact HR363_0.out)) hb); have n6_ := Aside0.mk (Kd.C_below (by repeat (first | (with_reducible exact HR363_1.out) | (with_reducible refine Kd.C_alloc ?_ _) | (with_reducible refine Kd.C_drewN ?_ _) | (with_reducible refine Kd.C_drew ?_) | exact HR363_1.out)) hb); have n7_ := Aside0.mk (zT (jH HB) hb); have n8_ := Aside0.mk hbox; have n9_ := Aside0.mk (jG hg HB); have n10_ := Aside0.mk (jG hg HB); have n11_ := Aside0.mk (jN hg BK326); have n12_ := Aside0.mk (jM hg BK326); clear HO_8; clear HO_57; clear HL363_0; clear HL363_1; clear BK326; clear HR363_0; clear HR363_1; clear HB; have HO_8 := n0_; have HO_57 := n1_; have HL363_0 := n2_; have HL363_1 := n3_; have BK326 := n4_; have HR363_0 := n5_; have HR363_1 := n6_; have HB := n7_; have BK364 := n8_; have GW364 := n9_; have GE364 := n10_; have NB326_364 := n11_; have NB364_326 := n12_; clear n0_ n1_ n2_ n3_ n4_ n5_ n6_ n7_ n8_ n9_ n10_ n11_ n12_; clear hb hbox hg; have hnb53 := NB364_326.out; have hnc53 := NB326_364.out; obtain ⟨hcz54_0, hcz54_1, hcz54_2, hfz54_0, hfz54_1, hfz54_2⟩ := kQ3 BK364.out) | ((with_reducible refine gate_callee (f := 38) rfl ?_); refine goesL_ (some 65) rfl rfl Tryd.func38 (by kernel_rfl) rfl #[.agg #[.slice A363_0 ((rd_T42 y358 x59_3).f0).length c363_0, .slice A363_1 ((rd_T42 y358 x59_3).f1).length c363_1, .int .u32 ((rd_T42 y358 x59_3).f2)]] rfl jZ ?_; (with_reducible refine (table_own.calls _ _ ((rd_T42 y358 x59_3).f0) _ _ ((rd_T42 y358 x59_3).f1) ((rd_T42 y358 x59_3).f2) t365 t368 t371 _ ?side1 ?side2 ?side3 ?side4 A50.out).mono ?_); (case side1 => repeat (first | exact ((Kd.V_reads' (by (with_reducible repeat (first | apply Kd.V_alloc | apply Kd.V_drewN | apply Kd.V_drew)); exact (Kd.V_mono (Kd.V_far (p := ⟨gb364, 2, none⟩) (Kd.V_far (p := ⟨gb364, 1, none⟩) (Kd.V_far (p := ⟨gb364, 0, none⟩) (Kd.V_mono HL363_0.out (fun k_ hk => (⟨hk, hk.2⟩ : _ ∧ k_ ≠ gb364))) (fun _ hk => hk.2) (.slice A363_0 ((rd_T42 y358 x59_3).f0).length c363_0)) (fun _ hk => hk.2) (.slice A363_1 ((rd_T42 y358 x59_3).f1).length c363_1)) (fun _ hk => hk.2) (.int .u32 ((rd_T42 y358 x59_3).f2))) (fun _ h_ => h_.1)))).2.2) | (with_reducible refine Kd.C_alloc ?_ _) | (with_reducible refine Kd.C_drewN ?_ _) | (with_reducible refine Kd.C_drew ?_))); (case side2 => exact HC363_0.out); (case side3 => repeat (first | exact ((Kd.V_reads' (by (with_reducible repeat (first | apply Kd.V_alloc | apply Kd.V_drewN | apply Kd.V_drew)); exact (Kd.V_mono (Kd.V_far (p := ⟨gb364, 2, none⟩) (Kd.V_far (p := ⟨gb364, 1, none⟩) (Kd.V_far (p := ⟨gb364, 0, none⟩) (Kd.V_mono HL363_1.out (fun k_ hk => (⟨hk, hk.2⟩ : _ ∧ k_ ≠ gb364))) (fun _ hk => hk.2) (.slice A363_0 ((rd_T42 y358 x59_3).f0).length c363_0)) (fun _ hk => hk.2) (.slice A363_1 ((rd_T42 y358 x59_3).f1).length c363_1)) (fun _ hk => hk.2) (.int .u32 ((rd_T42 y358 x59_3).f2))) (fun _ h_ => h_.1)))).2.2) | (with_reducible refine Kd.C_alloc ?_ _) | (with_reducible refine Kd.C_drewN ?_ _) | (with_reducible refine Kd.C_drew ?_))); (case side4 => exact HC363_1.out); rintro e w55 ⟨v366, v369, rfl, ho0, ho1, hb⟩; refine ⟨_, rfl, ?_⟩; have n0_ := Aside0.mk (Kd.S_mono (Kd.S_told (Kd.S_told (Kd.S_old (by (with_reducible repeat (first | apply Kd.S_alloc | apply Kd.S_drewN | apply Kd.S_drew)); exact (Kd.S_mono (Kd.S_far (p := ⟨gb364, 2, none⟩) (Kd.S_far (p := ⟨gb364, 1, none⟩) (Kd.S_far (p := ⟨gb364, 0, none⟩) (Kd.S_mono HO_8.out (fun k_ hk => (⟨hk, hk.2⟩ : _ ∧ k_ ≠ gb364))) (fun _ hk => hk.2) (.slice A363_0 ((rd_T42 y358 x59_3).f0).length c363_0)) (fun _ hk => hk.2) (.slice A363_1 ((rd_T42 y358 x59_3).f1).length c363_1)) (fun _ hk => hk.2) (.int .u32 ((rd_T42 y358 x59_3).f2))) (fun _ h_ => h_.1))) hb) (Kd.R_base ho0)) (Kd.R_base ho1)) (fun _ h_ => h_.1)); have n1_ := Aside0.mk (Kd.V_mono (Kd.V_told (Kd.V_told (Kd.V_old (by (with_reducible repeat (first | apply Kd.V_alloc | apply Kd.V_drewN | apply Kd.V_drew)); exact (Kd.V_mono (Kd.V_far (p := ⟨gb364, 2, none⟩) (Kd.V_far (p := ⟨gb364, 1, none⟩) (Kd.V_far (p := ⟨gb364, 0, none⟩) (Kd.V_mono HO_57.out (fun k_ hk => (⟨hk, hk.2⟩ : _ ∧ k_ ≠ gb364))) (fun _ hk => hk.2) (.slice A363_0 ((rd_T42 y358 x59_3).f0).length c363_0)) (fun _ hk => hk.2) (.slice A363_1 ((rd_T42 y358 x59_3).f1).length c363_1)) (fun _ hk => hk.2) (.int .u32 ((rd_T42 y358 x59_3).f2))) (fun _ h_ => h_.1))) hb) (Kd.R_base ho0)) (Kd.R_base ho1)) (fun _ h_ => h_.1)); have n2_ := Aside0.mk (Kd.V_mono (Kd.V_told (Kd.V_told (Kd.V_old (by (with_reducible repeat (first | apply Kd.V_alloc | apply Kd.V_drewN | apply Kd.V_drew)); exact (Kd.V_mono (Kd.V_far (p := ⟨gb364, 2, none⟩) (Kd.V_far (p := ⟨gb364, 1, none⟩) (Kd.V_far (p := ⟨gb364, 0, none⟩) (Kd.V_mono HL363_0.out (fun k_ hk => (⟨hk, hk.2⟩ : _ ∧ k_ ≠ gb364))) (fun _ hk => hk.2) (.slice A363_0 ((rd_T42 y358 x59_3).f0).length c363_0)) (fun _ hk => hk.2) (.slice A363_1 ((rd_T42 y358 x59_3).f1).length c363_1)) (fun _ hk => hk.2) (.int .u32 ((rd_T42 y358 x59_3).f2))) (fun _ h_ => h_.1))) hb) (Kd.R_base ho0)) (Kd.R_base ho1)) (fun _ h_ => h_.1)); have n3_ := Aside0.mk (Kd.V_mono (Kd.V_told (Kd.V_told (Kd.V_old (by (with_reducible repeat (first | apply Kd.V_alloc | apply Kd.V_drewN | apply Kd.V_drew)); exact (Kd.V_mono (Kd.V_far (p := ⟨gb364, 2, none⟩) (Kd.V_far (p := ⟨gb364, 1, none⟩) (Kd.V_far (p := ⟨gb364, 0, none⟩) (Kd.V_mono HL363_1.out (fun k_ hk => (⟨hk, hk.2⟩ : _ ∧ k_ ≠ gb364))) (fun _ hk => hk.2) (.slice A363_0 ((rd_T42 y358 x59_3).f0).length c363_0)) (fun _ hk => hk.2) (.slice A363_1 ((rd_T42 y358 x59_3).f1).length c363_1)) (fun _ hk => hk.2) (.int .u32 ((rd_T42 y358 x59_3).f2))) (fun _ h_ => h_.1))) hb) (Kd.R_base ho0)) (Kd.R_base ho1)) (fun _ h_ => h_.1)); have n4_ := Aside0.mk (Kd.R_lower (Kd.R_newM (M := fun k_ => (w.heap.size ≤ k_)) ho0 (zZ (jH HB)) (fun k_ h_ => h_)) (zZ (jH HB))); have n5_ := Aside0.mk (Kd.R_lower (Kd.R_newM (M := fun k_ => (w.heap.size ≤ k_)) ho1 (zZ (jH HB)) (fun k_ h_ => h_)) (zZ (jH HB))); have n6_ := Aside0.mk (kB (g := gb326) (o := .cells #[.slice A1_0 l1_0.length c1_0, .slice A1_1 l1_1.length c1_1, .int .u32 a1_2] 42 (0, 0)) (by (with_reducible repeat (first | refine kN ?_ _ | refine kD ?_ | refine kA ?_ _)); refine kR ?_ NB326_364.out _; (with_reducible repeat (first | refine kN ?_ _ | refine kD ?_ | refine kA ?_ _)); refine kR ?_ NB326_364.out _; (with_reducible repeat (first | refine kN ?_ _ | refine kD ?_ | refine kA ?_ _)); refine kR ?_ NB326_364.out _; (with_reducible repeat (first | refine kN ?_ _ | refine kD ?_ | refine kA ?_ _)); exact BK326.out) hb); have n7_ := Aside0.mk (Kd.C_below ((Kd.V_reads' (by (with_reducible repeat (first | apply Kd.V_alloc | apply Kd.V_drewN | apply Kd.V_drew)); exact (Kd.V_mono (Kd.V_far (p := ⟨gb364, 2, none⟩) (Kd.V_far (p := ⟨gb364, 1, none⟩) (Kd.V_far (p := ⟨gb364, 0, none⟩) (Kd.V_mono HL363_0.out (fun k_ hk => (⟨hk, hk.2⟩ : _ ∧ k_ ≠ gb364))) (fun _ hk => hk.2) (.slice A363_0 ((rd_T42 y358 x59_3).f0).length c363_0)) (fun _ hk => hk.2) (.slice A363_1 ((rd_T42 y358 x59_3).f1).length c363_1)) (fun _ hk => hk.2) (.int .u32 ((rd_T42 y358 x59_3).f2))) (fun _ h_ => h_.1)))).2.2) hb); have n8_ := Aside0.mk (Kd.C_below ((Kd.V_reads' (by (with_reducible repeat (first | apply Kd.V_alloc | apply Kd.V_drewN | apply Kd.V_drew)); exact (Kd.V_mono (Kd.V_far (p := ⟨gb364, 2, none⟩) (Kd.V_far (p := ⟨gb364, 1, none⟩) (Kd.V_far (p := ⟨gb364, 0, none⟩) (Kd.V_mono HL363_1.out (fun k_ hk => (⟨hk, hk.2⟩ : _ ∧ k_ ≠ gb364))) (fun _ hk => hk.2) (.slice A363_0 ((rd_T42 y358 x59_3).f0).length c363_0)) (fun _ hk => hk.2) (.slice A363_1 ((rd_T42 y358 x59_3).f1).length c363_1)) (fun _ hk => hk.2) (.int .u32 ((rd_T42 y358 x59_3).f2))) (fun _ h_ => h_.1)))).2.2) hb); have n9_ := Aside0.mk (kB (g := gb364) (o := .cells #[.slice A363_0 ((rd_T42 y358 x59_3).f0).length c363_0, .slice A363_1 ((rd_T42 y358 x59_3).f1).length c363_1, .int .u32 ((rd_T42 y358 x59_3).f2)] 42 (0, 0)) (by (with_reducible repeat (first | refine kN ?_ _ | refine kD ?_ | refine kA ?_ _)); refine kP (cs := #[.slice A363_0 ((rd_T42 y358 x59_3).f0).length c363_0, .slice A363_1 ((rd_T42 y358 x59_3).f1).length c363_1, .int .u32 0]) ?_ 2 _ rfl; (with_reducible repeat (first | refine kN ?_ _ | refine kD ?_ | refine kA ?_ _)); refine kP (cs := #[.slice A363_0 ((rd_T42 y358 x59_3).f0).length c363_0, .slice none 0 0, .int .u32 0]) ?_ 1 _ rfl; (with_reducible repeat (first | refine kN ?_ _ | refine kD ?_ | refine kA ?_ _)); refine kP (cs := #[.slice none 0 0, .slice none 0 0, .int .u32 0]) ?_ 0 _ rfl; (with_reducible repeat (first | refine kN ?_ _ | refine kD ?_ | refine kA ?_ _)); exact BK364.out) hb); have n10_ := Aside0.mk (zT (jH HB) hb); clear HO_8; clear HO_57; clear HL363_0; clear HL363_1; clear BK326; clear HR363_0; clear HR363_1; clear BK364; clear HB; have HO_8 := n0_; have HO_57 := n1_; have HL363_0 := n2_; have HL363_1 := n3_; have HO367 := n4_; have HO370 := n5_; have BK326 := n6_; have HR363_0 := n7_; have HR363_1 := n8_; have BK364 := n9_; have HB := n10_; clear n0_ n1_ n2_ n3_ n4_ n5_ n6_ n7_ n8_ n9_ n10_; (try clear hb); (try clear hb2); (try clear hk); (try clear hi); (try clear ho0); (try clear ho1); obtain ⟨Ao57, co57, eo57⟩ := Kd.R_slice HO367.out; subst eo57; obtain ⟨Ao58, co58, eo58⟩ := Kd.R_slice HO370.out; subst eo58) | ((with_reducible refine gate_builtin (b := .append) (xs := #[.tmp 63, .tmp 66]) rfl ?_); at_builtin; refine Kd.S_append k42 (w0 := w) w.heap.size rfl (.tmp 63) (.tmp 66) 22 42 (.agg #[(.slice none 0 0), (.slice none 0 0), (.int .u32 0)]) 56 rfl Tryd.underlying22 info42 rfl (by decide) (by omega) u8 x8_3 (⟨t365, t368, t371⟩ : S42) [.slice Ao57 t365.length co57, .slice Ao58 t368.length co58, .int .u32 t371] (fun k_ => (w.heap.size ≤ k_) ∧ k_ ≠ gb326 ∧ k_ ≠ gb364) (fun k_ => some k_ = (.slice Ao57 t365.length co57 : Value).ownBlock ∨ some k_ = (.slice Ao58 t368.length co58 : Value).ownBlock) rfl rfl ?aP (fun k_ hk_ => hk_.elim (fun h_ => ((Kd.R_mono (ok' := fun k_ => ((fun k_ => (w.heap.size ≤ k_) ∧ k_ ≠ gb326 ∧ k_ ≠ gb364)) k_ ∧ some k_ ≠ (u8 : Value).ownBlock) (Kd.R_types (Kd.R_types (Kd.R_apart' (HO367.out) (Kd.S_typed HO_8.out) (by decide)) BK326.out (by decide)) BK364.out (by decide)) (fun k_ hk => ⟨⟨hk.1.1.1.1, ⟨hk.1.2, hk.2⟩⟩, hk.1.1.2⟩))).1 k_ h_.symm) (fun h_ => ((Kd.R_mono (ok' := fun k_ => ((fun k_ => (w.heap.size ≤ k_) ∧ k_ ≠ gb326 ∧ k_ ≠ gb364)) k_ ∧ some k_ ≠ (u8 : Value).ownBlock) (Kd.R_types (Kd.R_types (Kd.R_apart' (HO370.out) (Kd.S_typed HO_8.out) (by decide)) BK326.out (by decide)) BK364.out (by decide)) (fun k_ hk => ⟨⟨hk.1.1.1.1, ⟨hk.1.2, hk.2⟩⟩, hk.1.1.2⟩))).1 k_ h_.symm)) ?aF ?aO ?aB ?aS ?aL ?_; (case aP => exact k42_mkM _ _ _ (⟨t365, t368, t371⟩ : S42) (Kd.R_mono (Kd.R_tight rfl (Kd.R_mono (ok' := fun k_ => ((fun k_ => (w.heap.size ≤ k_) ∧ k_ ≠ gb326 ∧ k_ ≠ gb364)) k_ ∧ some k_ ≠ (u8 : Value).ownBlock) (Kd.R_types (Kd.R_types (Kd.R_apart' (HO367.out) (Kd.S_typed HO_8.out) (by decide)) BK326.out (by decide)) BK364.out (by decide)) (fun k_ hk => ⟨⟨hk.1.1.1.1, ⟨hk.1.2, hk.2⟩⟩, hk.1.1.2⟩))) (fun _ h_ => Or.inl h_)) (Kd.R_mono (Kd.R_tight rfl (Kd.R_mono (ok' := fun k_ => ((fun k_ => (w.heap.size ≤ k_) ∧ k_ ≠ gb326 ∧ k_ ≠ gb364)) k_ ∧ some k_ ≠ (u8 : Value).ownBlock) (Kd.R_types (Kd.R_types (Kd.R_apart' (HO370.out) (Kd.S_typed HO_8.out) (by decide)) BK326.out (by decide)) BK364.out (by decide)) (fun k_ hk => ⟨⟨hk.1.1.1.1, ⟨hk.1.2, hk.2⟩⟩, hk.1.1.2⟩))) (fun _ h_ => Or.inr (h_)))); (case aB => exact (jH HB)); (case aF => exact (fun k_ hk => ⟨(Nat.le_trans (zZ (jH HB)) hk), Kd.freshB (g := gb326) (o := .cells #[.slice A1_0 l1_0.length c1_0, .slice A1_1 l1_1.length c1_1, .int .u32 a1_2] 42 (0, 0)) (jK BK326) k_ hk, Kd.freshB (g := gb364) (o := .cells #[.slice A363_0 ((rd_T42 y358 x59_3).f0).length c363_0, .slice A363_1 ((rd_T42 y358 x59_3).f1).length c363_1, .int .u32 ((rd_T42 y358 x59_3).f2)] 42 (0, 0)) (jK BK364) k_ hk⟩)); (case aO => exact (by (with_reducible repeat (first | apply Kd.S_alloc | apply Kd.S_drewN | apply Kd.S_drew)); exact Kd.S_mono HO_8.out (fun k_ hk => ⟨⟨hk.1.1.1.1, ⟨hk.1.1.1.2, hk.1.1.2⟩⟩, fun e_ => e_.elim (fun h_ => hk.1.2 h_) (fun h_ => hk.2 h_)⟩))); (case aS => exact (zZ (jH HB))); (case aL => have := LMc51.out; omega); intro v373 w56 ho hb hg hat; rw [← Ny372.out] at ho; have n0_ := Aside0.mk (Kd.V_afterv (ok := (fun k_ => (P0_ k_ ∨ w.heap.size ≤ k_) ∧ some k_ ≠ (.slice Ao57 t365.length co57 : Value).ownBlock ∧ some k_ ≠ (.slice Ao58 t368.length co58 : Value).ownBlock ∧ k_ ≠ gb326 ∧ k_ ≠ gb364)) (by (with_reducible repeat (first | apply Kd.V_alloc | apply Kd.V_drewN | apply Kd.V_drew)); exact Kd.V_mono HO_57.out (fun _ hk => ⟨⟨hk.1.1.1.1, ⟨hk.1.2, ⟨hk.2, ⟨hk.1.1.1.2.2, hk.1.1.2⟩⟩⟩⟩, hk.1.1.1.2.1⟩)) hg hat); have n1_ := Aside0.mk (kG (g := gb326) (o := .cells #[.slice A1_0 l1_0.length c1_0, .slice A1_1 l1_1.length c1_1, .int .u32 a1_2] 42 (0, 0)) (jK BK326) hg (Kd.S_away HO_8.out (fun _ hk => hk.1.1.1.2))); have n2_ := Aside0.mk (Kd.V_afterv (ok := (fun k_ => (P0_ k_ ∨ w.heap.size ≤ k_) ∧ some k_ ≠ (.slice Ao57 t365.length co57 : Value).ownBlock ∧ some k_ ≠ (.slice Ao58 t368.length co58 : Value).ownBlock ∧ k_ ≠ gb326 ∧ k_ ≠ gb364)) (by (with_reducible repeat (first | apply Kd.V_alloc | apply Kd.V_drewN | apply Kd.V_drew)); exact Kd.V_mono HL363_0.out (fun _ hk => ⟨⟨hk.1.1.1.1, ⟨hk.1.2, ⟨hk.2, ⟨hk.1.1.1.2.2, hk.1.1.2⟩⟩⟩⟩, hk.1.1.1.2.1⟩)) hg hat); have n3_ := Aside0.mk (Kd.V_afterv (ok := (fun k_ => (P0_ k_ ∨ w.heap.size ≤ k_) ∧ some k_ ≠ (.slice Ao57 t365.length co57 : Value).ownBlock ∧ some k_ ≠ (.slice Ao58 t368.length co58 : Value).ownBlock ∧ k_ ≠ gb326 ∧ k_ ≠ gb364)) (by (with_reducible repeat (first | apply Kd.V_alloc | apply Kd.V_drewN | apply Kd.V_drew)); exact Kd.V_mono HL363_1.out (fun _ hk => ⟨⟨hk.1.1.1.1, ⟨hk.1.2, ⟨hk.2, ⟨hk.1.1.1.2.2, hk.1.1.2⟩⟩⟩⟩, hk.1.1.1.2.1⟩)) hg hat); have n4_ := Aside0.mk (kG (g := gb364) (o := .cells #[.slice A363_0 ((rd_T42 y358 x59_3).f0).length c363_0, .slice A363_1 ((rd_T42 y358 x59_3).f1).length c363_1, .int .u32 ((rd_T42 y358 x59_3).f2)] 42 (0, 0)) (jK BK364) hg (Kd.S_away HO_8.out (fun _ hk => hk.1.1.2))); have n5_ := Aside0.mk (hb); have n6_ := Aside0.mk (ho); clear HO_57; clear BK326; clear HL363_0; clear HL363_1; clear BK364; clear HB; clear HO_8; clear HO367; clear HO370; have HO_57 := n0_; have BK326 := n1_; have HL363_0 := n2_; have HL363_1 := n3_; have BK364 := n4_; have HB := n5_; have HO374 := n6_; clear n0_ n1_ n2_ n3_ n4_ n5_ n6_; clear ho hb hg hat))
                    go_roundg k3
                    case measure => have := HJ2.out; have := HK2.out; have := HK3.out; omega
                    case rel => exact ⟨(y372), (wrap64 (x59_3 + 1)), jS, H', ⟨by have := HJ2.out; have := HK2.out; have := HK3.out; omega⟩, ⟨by (with_reducible repeat (first | apply Kd.S_alloc | apply Kd.S_drewN | apply Kd.S_drew)); exact Kd.S_mono HO374.out (fun _ hk => ⟨hk.1, hk.2.1⟩)⟩, ⟨by (with_reducible repeat (first | apply Kd.V_alloc | apply Kd.V_drewN | apply Kd.V_drew)); exact Kd.V_mono HO_57.out (fun _ hk => ⟨hk.1.1, ⟨hk.2, hk.1.2.2.2.1⟩⟩)⟩, ⟨jK BK326⟩, ⟨jH HB⟩⟩
                   ·rw [if_neg c51] at H
                    exact absurd H (by simp)
                  ·rw [if_neg c49] at H
                   exact absurd H (by simp)
                 ·rw [if_neg c48] at H
                  exact absurd H (by simp)
                ·rw [if_neg c47] at H
                 have c47b0 : decide (x59_3 < (y358.length : Int)) = false := dF c47
                 clear c47
                 simp only [Option.some.injEq, Prod.mk.injEq] at H
                 obtain ⟨rfl, rfl⟩ := H
                 go_wp2
                 go_ret2
                 exact ⟨_, jE, Kd.V_mono (Kd.S_V (by (with_reducible repeat (first | apply Kd.S_alloc | apply Kd.S_drewN | apply Kd.S_drew)); exact Kd.S_mono HO_8.out (fun _ hk => hk.1))) (fun k_ hk => by first | exact ⟨(.inr (hk.1)), hk.2⟩ | exact (.inr (hk))), jH HB⟩
             ·rw [if_neg c40] at H
              exact absurd H (by simp)
            ·rw [if_neg c39] at H
             exact absurd H (by simp)
           ·rw [if_neg c38] at H
            exact absurd H (by simp)
       ·rw [if_neg c21] at H
        exact absurd H (by simp)
      ·rw [if_neg c20] at H
       exact absurd H (by simp)
end Go.Proofs.YtahacmdhhfmhiaaDoor.M
