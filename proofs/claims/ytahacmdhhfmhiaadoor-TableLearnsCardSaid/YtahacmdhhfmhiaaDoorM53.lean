/- What Go functions compute; their calls come to it. No condition. -/
import Derived.Test.YtahacmdhhfmhiaaDoorM0
import Derived.Test.YtahacmdhhfmhiaaDoorMA
import Derived.Test.YtahacmdhhfmhiaaDoorMD
import Derived.Test.YtahacmdhhfmhiaaDoorMH
import Derived.Test.YtahacmdhhfmhiaaDoorM51
import Derived.Test.YtahacmdhhfmhiaaDoorM52
namespace Go.Proofs.YtahacmdhhfmhiaaDoor.M
open Go.RowKit Go.Proofs.YtahacmdhhfmhiaaDoorW.PrintWords Go.Proofs.YtahacmdhhfmhiaaDoorW.PrintLast Go.Proofs.YtahacmdhhfmhiaaDoorW.PrintMore
attribute [local go_sem] max2_int min2_int max_two min_two max_three min_three max_four min_four   -- for this text's walks alone
set_option linter.unusedVariables false
set_option linter.unusedSimpArgs false
def l21_TableLearns.j0 : Nat → List (S42) → Int → Bool → List (S59) → List (S59) → Int → Option (Bool)
 | 0, _, _, _, _, _, _ => none
 | k + 1, x0, x2, x21, x574000, x574001, x574002 => if x21 = true then ((l21_knows.f k).bind fun t579 => (some t579)) else ((table_Learn.f k x0 x574000 x574001 x574002).bind fun bt580 => ((l21_As.f k x0).bind fun t584 => ((l21_as.f x574000 x574001 x574002).bind fun bt587 => ((r21_Learn.f k t584 bt587.1 bt587.2.1 bt587.2.2).bind fun bt594 => ((table_Find.f k x0 x574000 x2).bind fun bt598 => ((l21_As.f k x0).bind fun t602 => ((r21_Find.f k t602 x574000 x2).bind fun bt605 => ((l21_As.f k bt580.1).bind fun t609 => ((r21_Same.f k t609 bt594.1).bind fun t612 => (if t612 = true then (if bt580.2 = bt594.2 then ((r03_Same.f k bt598.1 bt605.1).bind fun t613 => (if t613 = true then (if (bt598.2 == bt605.2) = true then ((l21_knows.f k).bind fun t614 => (some t614)) else (none)) else (none))) else (none)) else (none)))))))))))
def l21_TableLearns.f (k : Nat) (l0 : List (S42)) (l1_0 : List (S59)) (l1_1 : List (S59)) (a1_2 : Int) (a2 : Int) : Option (Bool) := (l21_Great.f k l0).bind fun t574 => (if t574 = true then (l21_TableLearns.j0 k l0 a2 true l1_0 l1_1 a1_2) else ((l21_Great.f k (([(⟨l1_0, l1_1, a1_2⟩ : S42)] : List (S42)))).bind fun t578 => (l21_TableLearns.j0 k l0 a2 t578 l1_0 l1_1 a1_2)))
def l21_TableLearns.T4 : Bool × List (List Nat × List Nat) := (true, [([], []), ([0], [0]), ([], []), ([2, 1], [2]), ([1, 3, 3], [1, 3]), ([4], [4]), ([5], [5]), ([5], [5]), ([6, 4, 0, 1, 2, 3, 4, 5, 6], [6]), ([7, 8, 0, 1, 2, 3, 4, 5, 6, 7, 8], [7])])
def l21_TableLearns.B4 : List Nat := [0, 1, 0, 7, 15, 31, 63, 63, 127, 511]
theorem l21_TableLearns.tab4 : rtab .any (opsOf Tryd.f5 4) = l21_TableLearns.T4 := by kernel_rfl
theorem l21_TableLearns.bits4 : waitsOk l21_TableLearns.T4.2 l21_TableLearns.B4 = true := by kernel_rfl
def l21_TableLearns.T6 : Bool × List (List Nat × List Nat) := (true, [([], []), ([0], [0]), ([], []), ([2], [2]), ([], []), ([1, 3, 4, 1], [1, 3, 4]), ([5], [5]), ([6], [6]), ([6], [6]), ([7, 5, 0, 1, 2, 3, 4, 5, 6, 7], [7]), ([8, 9, 0, 1, 2, 3, 4, 5, 6, 7, 8, 9], [8])])
def l21_TableLearns.B6 : List Nat := [0, 1, 0, 4, 0, 31, 63, 127, 127, 255, 1023]
theorem l21_TableLearns.tab6 : rtab .any (opsOf Tryd.f5 6) = l21_TableLearns.T6 := by kernel_rfl
theorem l21_TableLearns.bits6 : waitsOk l21_TableLearns.T6.2 l21_TableLearns.B6 = true := by kernel_rfl
set_option maxHeartbeats 8000000 in
set_option maxRecDepth 100000 in
theorem l21_TableLearns.calls (k : Nat) (P0_ : Nat → Prop) (A0 : Option Addr) (c0 : Nat) (l0 : List (S42)) (P1_0_ : Nat → Prop) (A1_0 : Option Addr) (c1_0 : Nat) (l1_0 : List (S59)) (P1_1_ : Nat → Prop) (A1_1 : Option Addr) (c1_1 : Nat) (l1_1 : List (S59)) (a1_2 : Int) (a2 : Int) (r : Bool) (w : World) (hs0 : Kd.V k42 42 w w.heap.size (fun k_ => P0_ k_) (.slice A0 l0.length c0) l0) (hs1_0 : Kd.V k59 59 w w.heap.size (fun k_ => P1_0_ k_) (.slice A1_0 l1_0.length c1_0) l1_0) (hs1_1 : Kd.V k59 59 w w.heap.size (fun k_ => P1_1_ k_) (.slice A1_1 l1_1.length c1_1) l1_1) (hG : Glob w) (h : l21_TableLearns.f k l0 l1_0 l1_1 a1_2 a2 = some r) :
  Calls Tryd.prog 5 #[.slice A0 l0.length c0, .agg #[.slice A1_0 l1_0.length c1_0, .slice A1_1 l1_1.length c1_1, .int .u32 a1_2], .int .u32 a2] w fun e w' => e = .returned (.bool r) ∧ Below w.heap.size w w' := by
 have hu42 := Tryd.underlying42
 have HG := Aside0.mk hG
 clear hG
 have HO0 := Aside0.mk (show Kd.V k42 42 w w.heap.size (fun k_ => ((P0_ k_ ∨ P1_0_ k_ ∨ P1_1_ k_) ∨ w.heap.size ≤ k_)) (.slice A0 l0.length c0) l0 from Kd.V_mono hs0 (fun k_ hk => .inl (.inl hk)))
 have HO1_0 := Aside0.mk (show Kd.V k59 59 w w.heap.size (fun k_ => ((P0_ k_ ∨ P1_0_ k_ ∨ P1_1_ k_) ∨ w.heap.size ≤ k_)) (.slice A1_0 l1_0.length c1_0) l1_0 from Kd.V_mono hs1_0 (fun k_ hk => .inl (.inr (.inl hk))))
 have HO1_1 := Aside0.mk (show Kd.V k59 59 w w.heap.size (fun k_ => ((P0_ k_ ∨ P1_0_ k_ ∨ P1_1_ k_) ∨ w.heap.size ≤ k_)) (.slice A1_1 l1_1.length c1_1) l1_1 from Kd.V_mono hs1_1 (fun k_ hk => .inl (.inr (.inr hk))))
 have HB := Aside0.mk (Below.refl w.heap.size w)
 have H : ((l21_Great.f k l0).bind fun t574 => (if t574 = true then (l21_TableLearns.j0 k l0 a2 true l1_0 l1_1 a1_2) else ((l21_Great.f k (([(⟨l1_0, l1_1, a1_2⟩ : S42)] : List (S42)))).bind fun t578 => (l21_TableLearns.j0 k l0 a2 t578 l1_0 l1_1 a1_2)))) = some r := h
 clear h
 have HC4 := Aside0.mk H
 clear H
 go_enter Tryd.func5, Tryd.ntmps5
 go_upto_region 1 with (first | ((with_reducible refine gate_dst (N := 4) rfl ?_); (try (refine gate_guard (by rfl) ?_; dsimp only)); refine box_event rfl (N := 4) rfl (cs := #[.slice A1_0 l1_0.length c1_0, .slice A1_1 l1_1.length c1_1, .int .u32 a1_2]) (t := 42) jW ?_; intro gb573 hg w5 hbox hb; have BK573 := Aside0.mk hbox; have GW573 := Aside0.mk (jG hg HB); have GE573 := Aside0.mk (jG hg HB); replace HO0 := Aside0.mk (Kd.V_below (Kd.V_elderB (jV HO0) gb573 (Nat.le_of_eq hg.symm)) hb); replace HO1_0 := Aside0.mk (Kd.V_below (Kd.V_elderB (jV HO1_0) gb573 (Nat.le_of_eq hg.symm)) hb); replace HO1_1 := Aside0.mk (Kd.V_below (Kd.V_elderB (jV HO1_1) gb573 (Nat.le_of_eq hg.symm)) hb); replace HB := Aside0.mk (zT (jH HB) hb); clear hb hbox hg))
 (try simp only [Act.put, List.setIfInBounds_toArray, List.set_cons_zero, List.set_cons_succ])
 go_cut [21] (fun v21 wc => ∃ (kq : Nat) (x21_3 : Bool), v21 = .bool x21_3 ∧ Aside0 (l21_TableLearns.j0 kq l0 a2 x21_3 l1_0 l1_1 a1_2 = some r) ∧ Aside0 (kq ≤ k) ∧ Aside0 (Kd.V k42 42 wc w.heap.size (fun k_ => ((P0_ k_ ∨ P1_0_ k_ ∨ P1_1_ k_) ∨ w.heap.size ≤ k_) ∧ k_ ≠ gb573) (.slice A0 l0.length c0) l0) ∧ Aside0 (Kd.V k59 59 wc w.heap.size (fun k_ => ((P0_ k_ ∨ P1_0_ k_ ∨ P1_1_ k_) ∨ w.heap.size ≤ k_) ∧ k_ ≠ gb573) (.slice A1_0 l1_0.length c1_0) l1_0) ∧ Aside0 (Kd.V k59 59 wc w.heap.size (fun k_ => ((P0_ k_ ∨ P1_0_ k_ ∨ P1_1_ k_) ∨ w.heap.size ≤ k_) ∧ k_ ≠ gb573) (.slice A1_1 l1_1.length c1_1) l1_1) ∧ Aside0 (wc.heap[gb573]? = some (.cells #[(.slice A1_0 l1_0.length c1_0), (.slice A1_1 l1_1.length c1_1), .int .u32 a1_2] 42 (0, 0))) ∧ Aside0 (Below w.heap.size w wc))
 case first =>
  have H := HC4.out
  clear HC4
  replace H := Option.bind_eq_some_iff.mp H
  obtain ⟨t574, A60, H⟩ := H
  try dsimp only at H
  have A6 := Aside0.mk A60
  clear A60
  by_cases c7 : t574 = true
  ·subst c7
   rw [if_pos rfl] at H
   have H' := Aside0.mk H
   clear H
   go_wp2_with (first | ((with_reducible refine gate_callee (f := 10) rfl ?_); refine goesL_ (some 16) rfl rfl Tryd.func10 (by kernel_rfl) rfl #[.slice A0 l0.length c0] rfl jZ ?_; (with_reducible refine (l21_Great.calls k _ _ l0 true _ ?side1 ?side2 A6.out).mono ?_); (case side1 => exact jC (Kd.V_reads' HO0.out).2.2); (case side2 => exact (Kd.V_reads' HO0.out).2.1); rintro e w' ⟨rfl, ⟨nd, rfl⟩⟩; refine ⟨_, rfl, ?_⟩))
   go_meet
   case rel => exact ⟨_, (true), jS, H', ⟨jO⟩, ⟨jV HO0⟩, ⟨jV HO1_0⟩, ⟨jV HO1_1⟩, ⟨jK BK573⟩, ⟨jH HB⟩⟩
  ·replace c7 := Bool.eq_false_iff.mpr c7
   subst c7
   rw [if_neg (show ¬ (false = true) by decide)] at H
   obtain ⟨y575, hy575⟩ : ∃ y_ : List (S42), y_ = (([(⟨l1_0, l1_1, a1_2⟩ : S42)] : List (S42))) := ⟨_, rfl⟩
   simp only [Option.bind_some, ← hy575] at H
   have Ny575 := Aside0.mk hy575
   clear hy575
   replace H := Option.bind_eq_some_iff.mp H
   obtain ⟨t578, A80, H⟩ := H
   try dsimp only at H
   have A8 := Aside0.mk A80
   clear A80
   have H' := Aside0.mk H
   clear H
   go_wp2_with (first | ((with_reducible refine gate_callee (f := 10) rfl ?_); refine goesL_ (some 16) rfl rfl Tryd.func10 (by kernel_rfl) rfl #[.slice A0 l0.length c0] rfl jZ ?_; (with_reducible refine (l21_Great.calls k _ _ l0 false _ ?side1 ?side2 A6.out).mono ?_); (case side1 => exact jC (Kd.V_reads' HO0.out).2.2); (case side2 => exact (Kd.V_reads' HO0.out).2.1); rintro e w' ⟨rfl, ⟨nd, rfl⟩⟩; refine ⟨_, rfl, ?_⟩; obtain ⟨hcz9_0, hcz9_1, hcz9_2, hfz9_0, hfz9_1, hfz9_2⟩ := kQ3 BK573.out) | ((with_reducible refine gate_dst (N := 19) rfl ?_); (try (refine gate_guard (by rfl) ?_; dsimp only)); refine Kd.N_lit k42 _ 42 ?hg (N' := 19) ?hd (xs := ([(⟨l1_0, l1_1, a1_2⟩ : S42)] : List (S42))) (inner := [.slice A1_0 l1_0.length c1_0, .slice A1_1 l1_1.length c1_1, .int .u32 a1_2]) (ok := (fun k_ => ((P0_ k_ ∨ P1_0_ k_ ∨ P1_1_ k_) ∨ w.heap.size ≤ k_) ∧ k_ ≠ gb573)) (okp := (fun k_ => ((P0_ k_ ∨ P1_0_ k_ ∨ P1_1_ k_) ∨ w.heap.size ≤ k_) ∧ k_ ≠ gb573)) ?hr ?hp (fun _ hk => hk) ((show ∀ k_, w5.heap.size ≤ k_ → (fun k_ => ((P0_ k_ ∨ P1_0_ k_ ∨ P1_1_ k_) ∨ w.heap.size ≤ k_) ∧ k_ ≠ gb573) k_ from fun k_ hk => ⟨(.inr (Nat.le_trans (zZ (jH HB)) hk)), Kd.freshB (g := gb573) (o := .cells #[.slice A1_0 l1_0.length c1_0, .slice A1_1 l1_1.length c1_1, .int .u32 a1_2] 42 (0, 0)) (jK BK573) k_ hk⟩) _ (Nat.le_refl _)) (Below.refl _ _) (Nat.le_refl _) (by simp) ?_; (case hd => rfl); (case hg => rfl); (case hr => first | (go_simp; done) | (go_simp; rfl)); (case hp => exact (Reps.c3 (show Kd.FK k42 _ _ (⟨l1_0, l1_1, a1_2⟩ : S42) [.slice A1_0 l1_0.length c1_0, .slice A1_1 l1_1.length c1_1, .int .u32 a1_2] from (k42_mkF _ _ (⟨l1_0, l1_1, a1_2⟩ : S42) (Kd.V_reads' HO1_0.out).2.1 (Kd.V_F (Kd.V_mono (ok' := (fun k_ => ((P0_ k_ ∨ P1_0_ k_ ∨ P1_1_ k_) ∨ w.heap.size ≤ k_) ∧ k_ ≠ gb573)) (HO1_0.out) (fun k_ hk => ⟨hk.1, hk.2⟩))) (Kd.V_reads' HO1_1.out).2.1 (Kd.V_F (Kd.V_mono (ok' := (fun k_ => ((P0_ k_ ∨ P1_0_ k_ ∨ P1_1_ k_) ∨ w.heap.size ≤ k_) ∧ k_ ≠ gb573)) (HO1_1.out) (fun k_ hk => ⟨hk.1, hk.2⟩))))) (Reps.none _ _))); intro v576 w10 ho11 hb hg_ hnew_; clear hg_ hnew_; (first | rw [← Ny575.out] at ho11 | (simp only [Int.reduceToNat] at ho11; rw [← Ny575.out] at ho11)); have HO577 := Aside0.mk (Kd.N_lower ho11 (zZ (jH HB))); replace HO0 := Aside0.mk (Kd.V_elder' (jV HO0) (Kd.N_base ho11) hb); replace HO1_0 := Aside0.mk (Kd.V_elder' (jV HO1_0) (Kd.N_base ho11) hb); replace HO1_1 := Aside0.mk (Kd.V_elder' (jV HO1_1) (Kd.N_base ho11) hb); replace BK573 := Aside0.mk (jB BK573 hb); replace HB := Aside0.mk (zT (jH HB) hb); clear hb ho11; obtain ⟨Ao12, co12, eo12⟩ := Kd.N_slice HO577.out; subst eo12) | (go_at_call 10; (with_reducible refine (l21_Great.calls k _ _ y575 t578 _ ?side1 ?side2 A8.out).mono ?_); (case side1 => exact jC (Kd.N_reads' HO577.out).2.2); (case side2 => exact (Kd.N_reads' HO577.out).2.1); rintro e w' ⟨rfl, ⟨nd, rfl⟩⟩))
   go_meet
   case rel => exact ⟨_, (t578), jS, H', ⟨jO⟩, ⟨by (with_reducible repeat (first | apply Kd.V_alloc | apply Kd.V_drewN | apply Kd.V_drew)); exact Kd.V_mono HO0.out (fun _ hk => ⟨hk.1.1, hk.1.2⟩)⟩, ⟨by (with_reducible repeat (first | apply Kd.V_alloc | apply Kd.V_drewN | apply Kd.V_drew)); exact Kd.V_mono HO1_0.out (fun _ hk => ⟨hk.1.1, hk.1.2⟩)⟩, ⟨by (with_reducible repeat (first | apply Kd.V_alloc | apply Kd.V_drewN | apply Kd.V_drew)); exact Kd.V_mono HO1_1.out (fun _ hk => ⟨hk.1.1, hk.1.2⟩)⟩, ⟨jK BK573⟩, ⟨jH HB⟩⟩
 case rest =>
  clear HC4
  obtain ⟨kq, x21_3, rfl, HA, HJ3, HO_0, HO_574000, HO_574001, BK573, HB⟩ := hcut
  cases kq with
  | zero => exact absurd HA.out (by simp [l21_TableLearns.j0])
  | succ kj3 =>
   have H := HA.out
   clear HA
   simp only [l21_TableLearns.j0] at H
   by_cases c13 : x21_3 = true
   ·subst c13
    rw [if_pos rfl] at H
    replace H := Option.bind_eq_some_iff.mp H
    obtain ⟨t579, A140, H⟩ := H
    try dsimp only at H
    have A14 := Aside0.mk A140
    clear A140
    obtain rfl := Option.some.inj H
    go_wp2_with (first | ((with_reducible refine gate_callee (f := 11) rfl ?_); refine goesL_ (some 22) rfl rfl Tryd.func11 (by kernel_rfl) rfl #[] rfl jZ ?_; (with_reducible refine (l21_knows.calls kj3  t579 _ ?side1 A14.out).mono ?_); (case side1 => exact Glob.below HG.out (jH HB)); rintro e w15 ⟨rfl, hb⟩; refine ⟨_, rfl, ?_⟩; replace HO_0 := Aside0.mk (Kd.V_below (jV HO_0) hb); replace HO_574000 := Aside0.mk (Kd.V_below (jV HO_574000) hb); replace HO_574001 := Aside0.mk (Kd.V_below (jV HO_574001) hb); replace BK573 := Aside0.mk (jB BK573 hb); replace HB := Aside0.mk (zT (jH HB) hb); (try clear hb); (try clear hb2); (try clear hk); (try clear hi)))
    go_ret
    exact ⟨jE, jH HB⟩
   ·replace c13 := Bool.eq_false_iff.mpr c13
    subst c13
    rw [if_neg (show ¬ (false = true) by decide)] at H
    replace H := Option.bind_eq_some_iff.mp H
    obtain ⟨⟨t580, t583⟩, A160, H⟩ := H
    try dsimp only at H
    have A16 := Aside0.mk A160
    clear A160
    replace H := Option.bind_eq_some_iff.mp H
    obtain ⟨t584, A170, H⟩ := H
    try dsimp only at H
    have A17 := Aside0.mk A170
    clear A170
    replace H := Option.bind_eq_some_iff.mp H
    obtain ⟨⟨t587, t590, t593⟩, A180, H⟩ := H
    try dsimp only at H
    have A18 := Aside0.mk A180
    clear A180
    replace H := Option.bind_eq_some_iff.mp H
    obtain ⟨⟨t594, t597⟩, A190, H⟩ := H
    try dsimp only at H
    have A19 := Aside0.mk A190
    clear A190
    replace H := Option.bind_eq_some_iff.mp H
    obtain ⟨⟨t598, t599⟩, A200, H⟩ := H
    try dsimp only at H
    have A20 := Aside0.mk A200
    clear A200
    replace H := Option.bind_eq_some_iff.mp H
    obtain ⟨t602, A210, H⟩ := H
    try dsimp only at H
    have A21 := Aside0.mk A210
    clear A210
    replace H := Option.bind_eq_some_iff.mp H
    obtain ⟨⟨t605, t608⟩, A220, H⟩ := H
    try dsimp only at H
    have A22 := Aside0.mk A220
    clear A220
    replace H := Option.bind_eq_some_iff.mp H
    obtain ⟨t609, A230, H⟩ := H
    try dsimp only at H
    have A23 := Aside0.mk A230
    clear A230
    replace H := Option.bind_eq_some_iff.mp H
    obtain ⟨t612, A240, H⟩ := H
    try dsimp only at H
    have A24 := Aside0.mk A240
    clear A240
    by_cases c25 : t612 = true
    ·subst c25
     rw [if_pos rfl] at H
     by_cases c26 : t583 = t597
     ·rw [if_pos c26] at H
      have c26b0 : (t583 == t597) = true := bI.mpr c26
      have c26b1 : (t583 != t597) = false := nF.mpr c26
      clear c26
      replace H := Option.bind_eq_some_iff.mp H
      obtain ⟨t613, A270, H⟩ := H
      try dsimp only at H
      have A27 := Aside0.mk A270
      clear A270
      by_cases c28 : t613 = true
      ·subst c28
       rw [if_pos rfl] at H
       by_cases c29 : (t599 == t608) = true
       ·rw [if_pos c29] at H
        have c29b0 : (t599 == t608) = true := c29
        (try (have c29b1 : decide (t599 = t608) = true := by simpa using c29))
        (try (have c29b2 : (t599 == t608) = true := by simpa using c29))
        clear c29
        replace H := Option.bind_eq_some_iff.mp H
        obtain ⟨t614, A300, H⟩ := H
        try dsimp only at H
        have A30 := Aside0.mk A300
        clear A300
        obtain rfl := Option.some.inj H
        obtain ⟨hcz31_0, hcz31_1, hcz31_2, hfz31_0, hfz31_1, hfz31_2⟩ := kQ3 BK573.out
        try go_wp2_with (first | ((with_reducible refine gate_callee (f := 20) rfl ?_); refine goesL_ (some 26) rfl rfl Tryd.func20 (by kernel_rfl) rfl #[.slice A0 l0.length c0, .agg #[.slice A1_0 l1_0.length c1_0, .slice A1_1 l1_1.length c1_1, .int .u32 a1_2]] rfl jZ ?_; (with_reducible refine (table_Learn.calls kj3 (fun k_ => (((P0_ k_ ∨ P1_0_ k_ ∨ P1_1_ k_) ∨ w.heap.size ≤ k_) ∧ k_ ≠ gb573)) _ _ l0 _ _ l1_0 _ _ l1_1 a1_2 t580 t583 _ ?side1 ?side2 ?side3 ?side4 ?side5 ?side6 A16.out).mono ?_); (case side1 => exact HO_0.out); (case side2 => exact jC (Kd.V_reads' HO_574000.out).2.2); (case side3 => exact (Kd.V_reads' HO_574000.out).2.1); (case side4 => exact jC (Kd.V_reads' HO_574001.out).2.2); (case side5 => exact (Kd.V_reads' HO_574001.out).2.1); (case side6 => exact Glob.below HG.out (jH HB)); rintro e w32 ⟨v581, rfl, ho0, hb⟩; refine ⟨_, rfl, ?_⟩; have HO582 := Aside0.mk (Kd.V_lower (Kd.V_mono (ok' := fun k_ => ((P0_ k_ ∨ P1_0_ k_ ∨ P1_1_ k_) ∨ w.heap.size ≤ k_) ∧ k_ ≠ gb573) ho0 (fun k_ hk_ => ⟨Or.elim hk_ (fun hs_ => hs_.1) (fun hn_ => (.inr (Nat.le_trans (zZ (jH HB)) hn_))), Or.elim hk_ (fun hs_ => hs_.2) (fun hn_ => (Kd.freshB (g := gb573) (o := .cells #[.slice A1_0 l1_0.length c1_0, .slice A1_1 l1_1.length c1_1, .int .u32 a1_2] 42 (0, 0)) (jK BK573) k_ hn_))⟩)) (zZ (jH HB))); replace HO_0 := Aside0.mk (Kd.V_below (jV HO_0) hb); replace HO_574000 := Aside0.mk (Kd.V_below (jV HO_574000) hb); replace HO_574001 := Aside0.mk (Kd.V_below (jV HO_574001) hb); replace BK573 := Aside0.mk (jB BK573 hb); replace HB := Aside0.mk (zT (jH HB) hb); (try clear hb); (try clear hb2); (try clear hk); (try clear hi); (try clear ho0)))
        replace HO_0 := Aside0.mk (Kd.V_drew HO_0.out)
        replace HO_574000 := Aside0.mk (Kd.V_drew HO_574000.out)
        replace HO_574001 := Aside0.mk (Kd.V_drew HO_574001.out)
        replace HO582 := Aside0.mk (Kd.V_drew HO582.out)
        replace BK573 := Aside0.mk (kD BK573.out)
        replace HB := Aside0.mk (zD HB.out)
        refine start_ (n := 10) (S := fun w' => w'.cell? ⟨gb573, 0, none⟩ = some (.slice A1_0 l1_0.length c1_0) ∧ w'.cell? ⟨gb573, 1, none⟩ = some (.slice A1_1 l1_1.length c1_1) ∧ w'.cell? ⟨gb573, 2, none⟩ = some (.int .u32 a1_2)) (ds := []) #[false, false, false, false, false, false, false, false, false, false] (by kernel_rfl) rfl rfl ⟨(kC BK573.out 0).trans rfl, (kC BK573.out 1).trans rfl, (kC BK573.out 2).trans rfl⟩ (fun hHeld => ?_); refine with_tabW l21_TableLearns.tab4 l21_TableLearns.bits4 (fun HT_ HW_ => ?_)
        generalize w32.drew = w33 at HO_0 HO_574000 HO_574001 HO582 BK573 HB hHeld ⊢
        refine qP 0 30 (tB 10 1) ?_
        refine qT 2 32 (tB 10 5) hHeld ?_ (hv := by rintro w' ⟨s0, s1, s2⟩; go_simp; with_reducible rfl)
        refine one_ (i := 1) (N := some 31) (tB 10 7) rfl rfl (one_of HT_.out (by kernel_rfl)) (by decide) (fun K hK => ?_)
        refine goes_ Tryd.func14 (by kernel_rfl) rfl #[.slice A0 l0.length c0] (by rfl) rfl rfl jZ ?_
        with_reducible refine (l21_As.calls kj3 (fun k_ => (((P0_ k_ ∨ P1_0_ k_ ∨ P1_1_ k_) ∨ w.heap.size ≤ k_) ∧ k_ ≠ gb573)) _ _ l0 t584 _ ?side1 A17.out).mono ?_
        (case side1 => exact HO_0.out)
        rintro e w34 ⟨v585, rfl, ho0, hb⟩
        refine ⟨_, rfl, ?_⟩
        have HO586 := Aside0.mk (Kd.N_lower (Kd.N_mono (ok' := fun k_ => ((P0_ k_ ∨ P1_0_ k_ ∨ P1_1_ k_) ∨ w.heap.size ≤ k_) ∧ k_ ≠ gb573) ho0 (fun k_ hk_ => ⟨Or.elim hk_ (fun hs_ => hs_.1) (fun hn_ => (.inr (Nat.le_trans (zZ (jH HB)) hn_))), Or.elim hk_ (fun hs_ => hs_.2) (fun hn_ => (Kd.freshB (g := gb573) (o := .cells #[.slice A1_0 l1_0.length c1_0, .slice A1_1 l1_1.length c1_1, .int .u32 a1_2] 42 (0, 0)) (jK BK573) k_ hn_))⟩)) (zZ (jH HB)))
        replace HO_0 := Aside0.mk (Kd.V_elder' (jV HO_0) (Kd.N_base ho0) hb)
        replace HO_574000 := Aside0.mk (Kd.V_elder' (jV HO_574000) (Kd.N_base ho0) hb)
        replace HO_574001 := Aside0.mk (Kd.V_elder' (jV HO_574001) (Kd.N_base ho0) hb)
        replace HO582 := Aside0.mk (Kd.V_elder' (jV HO582) (Kd.N_base ho0) hb)
        replace BK573 := Aside0.mk (jB BK573 hb)
        replace HB := Aside0.mk (zT (jH HB) hb)
        (try clear hb)
        (try clear hb2)
        (try clear hk)
        (try clear hi)
        (try clear ho0)
        refine hK.out _ _ ⟨(kC BK573.out 0).trans rfl, (kC BK573.out 1).trans rfl, (kC BK573.out 2).trans rfl⟩ (fun hHeld => ?_)
        clear hK K
        refine qN 31 ?_
        refine one_ (i := 3) (N := some 33) (tB 10 15) rfl rfl (one_of HT_.out (by kernel_rfl)) (by decide) (fun K hK => ?_)
        refine goes_ Tryd.func22 (by kernel_rfl) rfl #[.agg #[.slice A1_0 l1_0.length c1_0, .slice A1_1 l1_1.length c1_1, .int .u32 a1_2]] (by rfl) rfl rfl jZ ?_
        with_reducible refine (l21_as.calls (fun k_ => ((((P0_ k_ ∨ P1_0_ k_ ∨ P1_1_ k_) ∨ w.heap.size ≤ k_) ∧ k_ ≠ gb573) ∧ some k_ ≠ (v585 : Value).ownBlock)) _ _ l1_0 (fun k_ => ((((P0_ k_ ∨ P1_0_ k_ ∨ P1_1_ k_) ∨ w.heap.size ≤ k_) ∧ k_ ≠ gb573) ∧ some k_ ≠ (v585 : Value).ownBlock)) _ _ l1_1 a1_2 t587 t590 t593 _ ?side1 ?side2 A18.out).mono ?_
        (case side1 => exact HO_574000.out)
        (case side2 => exact HO_574001.out)
        rintro e w35 ⟨v588, v591, rfl, ho0, ho1, hb⟩
        refine ⟨_, rfl, ?_⟩
        have HO589 := Aside0.mk (Kd.V_lower (Kd.V_mono (ok' := fun k_ => ((P0_ k_ ∨ P1_0_ k_ ∨ P1_1_ k_) ∨ w.heap.size ≤ k_) ∧ some k_ ≠ (v585 : Value).ownBlock ∧ k_ ≠ gb573) ho0 (fun k_ hk_ => ⟨Or.elim hk_ (fun hs_ => Or.elim hs_ (fun hs_ => hs_.1.1) (fun hs_ => hs_.1.1)) (fun hn_ => (.inr (Nat.le_trans (zZ (jH HB)) hn_))), Or.elim hk_ (fun hs_ => Or.elim hs_ (fun hs_ => hs_.2) (fun hs_ => hs_.2)) (fun hn_ => (Kd.fresh' (Kd.N_lt (by (with_reducible repeat (first | apply Kd.N_alloc | apply Kd.N_drewN | apply Kd.N_drew)); exact HO586.out)) k_ hn_)), Or.elim hk_ (fun hs_ => Or.elim hs_ (fun hs_ => hs_.1.2) (fun hs_ => hs_.1.2)) (fun hn_ => (Kd.freshB (g := gb573) (o := .cells #[.slice A1_0 l1_0.length c1_0, .slice A1_1 l1_1.length c1_1, .int .u32 a1_2] 42 (0, 0)) (jK BK573) k_ hn_))⟩)) (zZ (jH HB)))
        have HO592 := Aside0.mk (Kd.V_lower (Kd.V_mono (ok' := fun k_ => ((P0_ k_ ∨ P1_0_ k_ ∨ P1_1_ k_) ∨ w.heap.size ≤ k_) ∧ some k_ ≠ (v585 : Value).ownBlock ∧ k_ ≠ gb573) ho1 (fun k_ hk_ => ⟨Or.elim hk_ (fun hs_ => Or.elim hs_ (fun hs_ => hs_.1.1) (fun hs_ => hs_.1.1)) (fun hn_ => (.inr (Nat.le_trans (zZ (jH HB)) hn_))), Or.elim hk_ (fun hs_ => Or.elim hs_ (fun hs_ => hs_.2) (fun hs_ => hs_.2)) (fun hn_ => (Kd.fresh' (Kd.N_lt (by (with_reducible repeat (first | apply Kd.N_alloc | apply Kd.N_drewN | apply Kd.N_drew)); exact HO586.out)) k_ hn_)), Or.elim hk_ (fun hs_ => Or.elim hs_ (fun hs_ => hs_.1.2) (fun hs_ => hs_.1.2)) (fun hn_ => (Kd.freshB (g := gb573) (o := .cells #[.slice A1_0 l1_0.length c1_0, .slice A1_1 l1_1.length c1_1, .int .u32 a1_2] 42 (0, 0)) (jK BK573) k_ hn_))⟩)) (zZ (jH HB)))
        replace HO_0 := Aside0.mk (Kd.V_below (jV HO_0) hb)
        replace HO_574000 := Aside0.mk (Kd.V_below (jV HO_574000) hb)
        replace HO_574001 := Aside0.mk (Kd.V_below (jV HO_574001) hb)
        replace HO582 := Aside0.mk (Kd.V_below (jV HO582) hb)
        replace HO586 := Aside0.mk (Kd.N_below (by (with_reducible repeat (first | apply Kd.N_alloc | apply Kd.N_drewN | apply Kd.N_drew)); exact HO586.out) hb)
        replace BK573 := Aside0.mk (jB BK573 hb)
        replace HB := Aside0.mk (zT (jH HB) hb)
        (try clear hb)
        (try clear hb2)
        (try clear hk)
        (try clear hi)
        (try clear ho0)
        (try clear ho1)
        obtain ⟨Ao36, co36, eo36⟩ := Kd.N_slice HO586.out
        (first | subst eo36 | (injection eo36 with f1_ f2_ f3_; have f4_ := f1_.symm; have f5_ := f3_.symm; clear f1_ f2_ f3_; subst f4_; subst f5_))
        obtain ⟨Ao37, co37, eo37⟩ := Kd.V_slice HO589.out
        (first | subst eo37 | (injection eo37 with f1_ f2_ f3_; have f4_ := f1_.symm; have f5_ := f3_.symm; clear f1_ f2_ f3_; subst f4_; subst f5_))
        obtain ⟨Ao38, co38, eo38⟩ := Kd.V_slice HO592.out
        (first | subst eo38 | (injection eo38 with f1_ f2_ f3_; have f4_ := f1_.symm; have f5_ := f3_.symm; clear f1_ f2_ f3_; subst f4_; subst f5_))
        refine hK.out _ _ ⟨(kC BK573.out 0).trans rfl, (kC BK573.out 1).trans rfl, (kC BK573.out 2).trans rfl⟩ (fun hHeld => ?_)
        clear hK K
        refine qN 33 ?_
        refine one_ (i := 4) (N := some 34) (tB 10 31) rfl rfl (one_of HT_.out (by kernel_rfl)) (by decide) (fun K hK => ?_)
        refine goes_ Tryd.func21 (by kernel_rfl) rfl #[.slice Ao36 t584.length co36, .agg #[.slice Ao37 t587.length co37, .slice Ao38 t590.length co38, .int .u32 t593]] (by rfl) rfl rfl jZ ?_
        with_reducible refine (r21_Learn.calls kj3 (fun k_ => (((P0_ k_ ∨ P1_0_ k_ ∨ P1_1_ k_) ∨ w.heap.size ≤ k_) ∧ k_ ≠ gb573)) _ _ t584 (fun k_ => (((P0_ k_ ∨ P1_0_ k_ ∨ P1_1_ k_) ∨ w.heap.size ≤ k_) ∧ (some k_ ≠ (.slice Ao36 t584.length co36 : Value).ownBlock ∧ k_ ≠ gb573))) _ _ t587 (fun k_ => (((P0_ k_ ∨ P1_0_ k_ ∨ P1_1_ k_) ∨ w.heap.size ≤ k_) ∧ (some k_ ≠ (.slice Ao36 t584.length co36 : Value).ownBlock ∧ k_ ≠ gb573))) _ _ t590 t593 t594 t597 _ ?side1 ?side2 ?side3 A19.out).mono ?_
        (case side1 => exact Kd.N_V (HO586.out))
        (case side2 => exact HO589.out)
        (case side3 => exact HO592.out)
        rintro e w39 ⟨v595, rfl, ho0, hb⟩
        refine ⟨_, rfl, ?_⟩
        have HO596 := Aside0.mk (Kd.V_lower (Kd.V_mono (ok' := fun k_ => ((P0_ k_ ∨ P1_0_ k_ ∨ P1_1_ k_) ∨ w.heap.size ≤ k_) ∧ k_ ≠ gb573) ho0 (fun k_ hk_ => ⟨Or.elim hk_ (fun hs_ => Or.elim hs_ (fun hs_ => hs_.1) (fun hs_ => Or.elim hs_ (fun hs_ => hs_.1) (fun hs_ => hs_.1))) (fun hn_ => (.inr (Nat.le_trans (zZ (jH HB)) hn_))), Or.elim hk_ (fun hs_ => Or.elim hs_ (fun hs_ => hs_.2) (fun hs_ => Or.elim hs_ (fun hs_ => hs_.2.2) (fun hs_ => hs_.2.2))) (fun hn_ => (Kd.freshB (g := gb573) (o := .cells #[.slice A1_0 l1_0.length c1_0, .slice A1_1 l1_1.length c1_1, .int .u32 a1_2] 42 (0, 0)) (jK BK573) k_ hn_))⟩)) (zZ (jH HB)))
        replace HO_0 := Aside0.mk (Kd.V_below (jV HO_0) hb)
        replace HO_574000 := Aside0.mk (Kd.V_below (jV HO_574000) hb)
        replace HO_574001 := Aside0.mk (Kd.V_below (jV HO_574001) hb)
        replace HO582 := Aside0.mk (Kd.V_below (jV HO582) hb)
        replace HO586 := Aside0.mk (Kd.N_below (by (with_reducible repeat (first | apply Kd.N_alloc | apply Kd.N_drewN | apply Kd.N_drew)); exact HO586.out) hb)
        replace HO589 := Aside0.mk (Kd.V_below (jV HO589) hb)
        replace HO592 := Aside0.mk (Kd.V_below (jV HO592) hb)
        replace BK573 := Aside0.mk (jB BK573 hb)
        replace HB := Aside0.mk (zT (jH HB) hb)
        (try clear hb)
        (try clear hb2)
        (try clear hk)
        (try clear hi)
        (try clear ho0)
        refine hK.out _ _ ⟨(kC BK573.out 0).trans rfl, (kC BK573.out 1).trans rfl, (kC BK573.out 2).trans rfl⟩ (fun hHeld => ?_)
        clear hK K
        refine qN 34 ?_
        refine qP 5 29 (tB 10 63) ?_
        refine qP 6 35 (tB 10 127) ?_
        refine qP 7 36 (tB 10 255) ?_
        refine qP 8 9 (tB 10 511) ?_
        refine qP 9 10 (tB 10 1023) ?_
        refine done_ (done_of HT_.out (by kernel_rfl)) ?_
        obtain ⟨hcz40_0, hcz40_1, hcz40_2, hfz40_0, hfz40_1, hfz40_2⟩ := kQ3 BK573.out
        try go_wp2_with (first | ((with_reducible refine gate_callee (f := 23) rfl ?_); refine goesL_ (some 42) rfl rfl Tryd.func23 (by kernel_rfl) rfl #[.slice A0 l0.length c0, .slice A1_0 l1_0.length c1_0, .int .u32 a2] rfl jZ ?_; (with_reducible refine (table_Find.calls kj3 _ _ l0 _ _ l1_0 a2 t598 t599 _ ?side1 ?side2 ?side3 ?side4 ?side5 A20.out).mono ?_); (case side1 => exact jC (Kd.V_reads' HO_0.out).2.2); (case side2 => exact (Kd.V_reads' HO_0.out).2.1); (case side3 => exact jC (Kd.V_reads' HO_574000.out).2.2); (case side4 => exact (Kd.V_reads' HO_574000.out).2.1); (case side5 => exact Glob.below HG.out (jH HB)); rintro e w41 ⟨v600, rfl, ho0, hb⟩; refine ⟨_, rfl, ?_⟩; have HO601 := Aside0.mk (Kd.R_lower (Kd.R_newM (M := fun k_ => (w.heap.size ≤ k_)) ho0 (zZ (jH HB)) (fun k_ h_ => h_)) (zZ (jH HB))); replace HO_0 := Aside0.mk (Kd.V_elder' (jV HO_0) (Kd.R_base ho0) hb); replace HO_574000 := Aside0.mk (Kd.V_elder' (jV HO_574000) (Kd.R_base ho0) hb); replace HO_574001 := Aside0.mk (Kd.V_elder' (jV HO_574001) (Kd.R_base ho0) hb); replace HO582 := Aside0.mk (Kd.V_elder' (jV HO582) (Kd.R_base ho0) hb); replace HO586 := Aside0.mk (Kd.N_elder' (by (with_reducible repeat (first | apply Kd.N_alloc | apply Kd.N_drewN | apply Kd.N_drew)); exact HO586.out) (Kd.R_base ho0) hb); replace HO589 := Aside0.mk (Kd.V_elder' (jV HO589) (Kd.R_base ho0) hb); replace HO592 := Aside0.mk (Kd.V_elder' (jV HO592) (Kd.R_base ho0) hb); replace HO596 := Aside0.mk (Kd.V_elder' (jV HO596) (Kd.R_base ho0) hb); replace BK573 := Aside0.mk (jB BK573 hb); replace HB := Aside0.mk (zT (jH HB) hb); (try clear hb); (try clear hb2); (try clear hk); (try clear hi); (try clear ho0)))
        replace HO_0 := Aside0.mk (Kd.V_drew HO_0.out)
        replace HO_574000 := Aside0.mk (Kd.V_drew HO_574000.out)
        replace HO_574001 := Aside0.mk (Kd.V_drew HO_574001.out)
        replace HO582 := Aside0.mk (Kd.V_drew HO582.out)
        replace HO586 := Aside0.mk (Kd.N_drew HO586.out)
        replace HO589 := Aside0.mk (Kd.V_drew HO589.out)
        replace HO592 := Aside0.mk (Kd.V_drew HO592.out)
        replace HO596 := Aside0.mk (Kd.V_drew HO596.out)
        replace HO601 := Aside0.mk (Kd.R_drew HO601.out)
        replace BK573 := Aside0.mk (kD BK573.out)
        replace HB := Aside0.mk (zD HB.out)
        refine start_ (n := 11) (S := fun w' => w'.cell? ⟨gb573, 0, none⟩ = some (.slice A1_0 l1_0.length c1_0) ∧ w'.cell? ⟨gb573, 1, none⟩ = some (.slice A1_1 l1_1.length c1_1) ∧ w'.cell? ⟨gb573, 2, none⟩ = some (.int .u32 a1_2)) (ds := []) #[false, false, false, false, false, false, false, false, false, false, false] (by kernel_rfl) rfl rfl ⟨(kC BK573.out 0).trans rfl, (kC BK573.out 1).trans rfl, (kC BK573.out 2).trans rfl⟩ (fun hHeld => ?_); refine with_tabW l21_TableLearns.tab6 l21_TableLearns.bits6 (fun HT_ HW_ => ?_)
        generalize w41.drew = w42 at HO_0 HO_574000 HO_574001 HO582 HO586 HO589 HO592 HO596 HO601 BK573 HB hHeld ⊢
        refine qP 0 46 (tB 11 1) ?_
        refine qP 2 48 (tB 11 5) ?_
        refine qP 4 50 (tB 11 21) ?_
        refine qT 3 49 (tB 11 29) hHeld ?_ (hv := by rintro w' ⟨s0, s1, s2⟩; go_simp; with_reducible rfl)
        refine one_ (i := 1) (N := some 47) (tB 11 31) rfl rfl (one_of HT_.out (by kernel_rfl)) (by decide) (fun K hK => ?_)
        refine goes_ Tryd.func14 (by kernel_rfl) rfl #[.slice A0 l0.length c0] (by rfl) rfl rfl jZ ?_
        with_reducible refine (l21_As.calls kj3 (fun k_ => (((((P0_ k_ ∨ P1_0_ k_ ∨ P1_1_ k_) ∨ w.heap.size ≤ k_) ∧ k_ ≠ gb573) ∧ some k_ ≠ (.slice Ao36 t584.length co36 : Value).ownBlock) ∧ some k_ ≠ (v600 : Value).ownBlock)) _ _ l0 t602 _ ?side1 A21.out).mono ?_
        (case side1 => exact HO_0.out)
        rintro e w43 ⟨v603, rfl, ho0, hb⟩
        refine ⟨_, rfl, ?_⟩
        have HO604 := Aside0.mk (Kd.N_lower (Kd.N_mono (ok' := fun k_ => ((P0_ k_ ∨ P1_0_ k_ ∨ P1_1_ k_) ∨ w.heap.size ≤ k_) ∧ some k_ ≠ (.slice Ao36 t584.length co36 : Value).ownBlock ∧ some k_ ≠ (v600 : Value).ownBlock ∧ k_ ≠ gb573) ho0 (fun k_ hk_ => ⟨Or.elim hk_ (fun hs_ => hs_.1.1.1) (fun hn_ => (.inr (Nat.le_trans (zZ (jH HB)) hn_))), Or.elim hk_ (fun hs_ => hs_.1.2) (fun hn_ => (Kd.fresh' (Kd.N_lt (by (with_reducible repeat (first | apply Kd.N_alloc | apply Kd.N_drewN | apply Kd.N_drew)); exact HO586.out)) k_ hn_)), Or.elim hk_ (fun hs_ => hs_.2) (fun hn_ => (Kd.fresh' (Kd.R_lt (jR HO601)) k_ hn_)), Or.elim hk_ (fun hs_ => hs_.1.1.2) (fun hn_ => (Kd.freshB (g := gb573) (o := .cells #[.slice A1_0 l1_0.length c1_0, .slice A1_1 l1_1.length c1_1, .int .u32 a1_2] 42 (0, 0)) (jK BK573) k_ hn_))⟩)) (zZ (jH HB)))
        replace HO_0 := Aside0.mk (Kd.V_elder' (jV HO_0) (Kd.N_base ho0) hb)
        replace HO_574000 := Aside0.mk (Kd.V_elder' (jV HO_574000) (Kd.N_base ho0) hb)
        replace HO_574001 := Aside0.mk (Kd.V_elder' (jV HO_574001) (Kd.N_base ho0) hb)
        replace HO582 := Aside0.mk (Kd.V_elder' (jV HO582) (Kd.N_base ho0) hb)
        replace HO586 := Aside0.mk (Kd.N_elder' (by (with_reducible repeat (first | apply Kd.N_alloc | apply Kd.N_drewN | apply Kd.N_drew)); exact HO586.out) (Kd.N_base ho0) hb)
        replace HO589 := Aside0.mk (Kd.V_elder' (jV HO589) (Kd.N_base ho0) hb)
        replace HO592 := Aside0.mk (Kd.V_elder' (jV HO592) (Kd.N_base ho0) hb)
        replace HO596 := Aside0.mk (Kd.V_elder' (jV HO596) (Kd.N_base ho0) hb)
        replace HO601 := Aside0.mk (Kd.R_below (jR HO601) hb)
        replace BK573 := Aside0.mk (jB BK573 hb)
        replace HB := Aside0.mk (zT (jH HB) hb)
        (try clear hb)
        (try clear hb2)
        (try clear hk)
        (try clear hi)
        (try clear ho0)
        obtain ⟨Ao44, co44, eo44⟩ := Kd.N_slice HO604.out
        (first | subst eo44 | (injection eo44 with f1_ f2_ f3_; have f4_ := f1_.symm; have f5_ := f3_.symm; clear f1_ f2_ f3_; subst f4_; subst f5_))
        refine hK.out _ _ ⟨(kC BK573.out 0).trans rfl, (kC BK573.out 1).trans rfl, (kC BK573.out 2).trans rfl⟩ (fun hHeld => ?_)
        clear hK K
        refine qN 47 ?_
        refine one_ (i := 5) (N := some 51) (tB 11 63) rfl rfl (one_of HT_.out (by kernel_rfl)) (by decide) (fun K hK => ?_)
        refine goes_ Tryd.func24 (by kernel_rfl) rfl #[.slice Ao44 t602.length co44, .slice A1_0 l1_0.length c1_0, .int .u32 a2] (by rfl) rfl rfl jZ ?_
        with_reducible refine (r21_Find.calls kj3 (fun k_ => (((P0_ k_ ∨ P1_0_ k_ ∨ P1_1_ k_) ∨ w.heap.size ≤ k_) ∧ (some k_ ≠ (.slice Ao36 t584.length co36 : Value).ownBlock ∧ (some k_ ≠ (v600 : Value).ownBlock ∧ k_ ≠ gb573)))) _ _ t602 _ _ l1_0 a2 t605 t608 _ ?side1 ?side2 ?side3 A22.out).mono ?_
        (case side1 => exact Kd.N_V (HO604.out))
        (case side2 => exact jC (Kd.V_reads' HO_574000.out).2.2)
        (case side3 => exact (Kd.V_reads' HO_574000.out).2.1)
        rintro e w45 ⟨v606, rfl, ho0, hb⟩
        refine ⟨_, rfl, ?_⟩
        have HO607 := Aside0.mk (Kd.V_lower (Kd.V_mono (ok' := fun k_ => ((P0_ k_ ∨ P1_0_ k_ ∨ P1_1_ k_) ∨ w.heap.size ≤ k_) ∧ some k_ ≠ (.slice Ao36 t584.length co36 : Value).ownBlock ∧ some k_ ≠ (v600 : Value).ownBlock ∧ k_ ≠ gb573) ho0 (fun k_ hk_ => ⟨Or.elim hk_ (fun hs_ => hs_.1) (fun hn_ => (.inr (Nat.le_trans (zZ (jH HB)) hn_))), Or.elim hk_ (fun hs_ => hs_.2.1) (fun hn_ => (Kd.fresh' (Kd.N_lt (by (with_reducible repeat (first | apply Kd.N_alloc | apply Kd.N_drewN | apply Kd.N_drew)); exact HO586.out)) k_ hn_)), Or.elim hk_ (fun hs_ => hs_.2.2.1) (fun hn_ => (Kd.fresh' (Kd.R_lt (jR HO601)) k_ hn_)), Or.elim hk_ (fun hs_ => hs_.2.2.2) (fun hn_ => (Kd.freshB (g := gb573) (o := .cells #[.slice A1_0 l1_0.length c1_0, .slice A1_1 l1_1.length c1_1, .int .u32 a1_2] 42 (0, 0)) (jK BK573) k_ hn_))⟩)) (zZ (jH HB)))
        replace HO_0 := Aside0.mk (Kd.V_below (jV HO_0) hb)
        replace HO_574000 := Aside0.mk (Kd.V_below (jV HO_574000) hb)
        replace HO_574001 := Aside0.mk (Kd.V_below (jV HO_574001) hb)
        replace HO582 := Aside0.mk (Kd.V_below (jV HO582) hb)
        replace HO586 := Aside0.mk (Kd.N_below (by (with_reducible repeat (first | apply Kd.N_alloc | apply Kd.N_drewN | apply Kd.N_drew)); exact HO586.out) hb)
        replace HO589 := Aside0.mk (Kd.V_below (jV HO589) hb)
        replace HO592 := Aside0.mk (Kd.V_below (jV HO592) hb)
        replace HO596 := Aside0.mk (Kd.V_below (jV HO596) hb)
        replace HO601 := Aside0.mk (Kd.R_below (jR HO601) hb)
        replace HO604 := Aside0.mk (Kd.N_below (by (with_reducible repeat (first | apply Kd.N_alloc | apply Kd.N_drewN | apply Kd.N_drew)); exact HO604.out) hb)
        replace BK573 := Aside0.mk (jB BK573 hb)
        replace HB := Aside0.mk (zT (jH HB) hb)
        (try clear hb)
        (try clear hb2)
        (try clear hk)
        (try clear hi)
        (try clear ho0)
        refine hK.out _ _ ⟨(kC BK573.out 0).trans rfl, (kC BK573.out 1).trans rfl, (kC BK573.out 2).trans rfl⟩ (fun hHeld => ?_)
        clear hK K
        refine qN 51 ?_
        refine qP 6 45 (tB 11 127) ?_
        refine qP 7 52 (tB 11 255) ?_
        refine qP 8 53 (tB 11 511) ?_
        refine qP 9 13 (tB 11 1023) ?_
        refine qP 10 14 (tB 11 2047) ?_
        refine done_ (done_of HT_.out (by kernel_rfl)) ?_
        obtain ⟨Ao46, co46, eo46⟩ := Kd.V_slice HO582.out
        subst eo46
        try go_wp2_with (first | ((with_reducible refine gate_callee (f := 14) rfl ?_); refine goesL_ (some 55) rfl rfl Tryd.func14 (by kernel_rfl) rfl #[.slice Ao46 t580.length co46] rfl jZ ?_; (with_reducible refine (l21_As.calls kj3 (fun k_ => ((((((P0_ k_ ∨ P1_0_ k_ ∨ P1_1_ k_) ∨ w.heap.size ≤ k_) ∧ k_ ≠ gb573) ∧ some k_ ≠ (.slice Ao36 t584.length co36 : Value).ownBlock) ∧ some k_ ≠ (v600 : Value).ownBlock) ∧ some k_ ≠ (.slice Ao44 t602.length co44 : Value).ownBlock)) _ _ t580 t609 _ ?side1 A23.out).mono ?_); (case side1 => exact HO582.out); rintro e w47 ⟨v610, rfl, ho0, hb⟩; refine ⟨_, rfl, ?_⟩; have HO611 := Aside0.mk (Kd.N_lower (Kd.N_mono (ok' := fun k_ => ((P0_ k_ ∨ P1_0_ k_ ∨ P1_1_ k_) ∨ w.heap.size ≤ k_) ∧ some k_ ≠ (.slice Ao36 t584.length co36 : Value).ownBlock ∧ some k_ ≠ (v600 : Value).ownBlock ∧ some k_ ≠ (.slice Ao44 t602.length co44 : Value).ownBlock ∧ k_ ≠ gb573) ho0 (fun k_ hk_ => ⟨Or.elim hk_ (fun hs_ => hs_.1.1.1.1) (fun hn_ => (.inr (Nat.le_trans (zZ (jH HB)) hn_))), Or.elim hk_ (fun hs_ => hs_.1.1.2) (fun hn_ => (Kd.fresh' (Kd.N_lt (by (with_reducible repeat (first | apply Kd.N_alloc | apply Kd.N_drewN | apply Kd.N_drew)); exact HO586.out)) k_ hn_)), Or.elim hk_ (fun hs_ => hs_.1.2) (fun hn_ => (Kd.fresh' (Kd.R_lt (jR HO601)) k_ hn_)), Or.elim hk_ (fun hs_ => hs_.2) (fun hn_ => (Kd.fresh' (Kd.N_lt (by (with_reducible repeat (first | apply Kd.N_alloc | apply Kd.N_drewN | apply Kd.N_drew)); exact HO604.out)) k_ hn_)), Or.elim hk_ (fun hs_ => hs_.1.1.1.2) (fun hn_ => (Kd.freshB (g := gb573) (o := .cells #[.slice A1_0 l1_0.length c1_0, .slice A1_1 l1_1.length c1_1, .int .u32 a1_2] 42 (0, 0)) (jK BK573) k_ hn_))⟩)) (zZ (jH HB))); replace HO_0 := Aside0.mk (Kd.V_elder' (jV HO_0) (Kd.N_base ho0) hb); replace HO_574000 := Aside0.mk (Kd.V_elder' (jV HO_574000) (Kd.N_base ho0) hb); replace HO_574001 := Aside0.mk (Kd.V_elder' (jV HO_574001) (Kd.N_base ho0) hb); replace HO582 := Aside0.mk (Kd.V_elder' (jV HO582) (Kd.N_base ho0) hb); replace HO586 := Aside0.mk (Kd.N_elder' (by (with_reducible repeat (first | apply Kd.N_alloc | apply Kd.N_drewN | apply Kd.N_drew)); exact HO586.out) (Kd.N_base ho0) hb); replace HO589 := Aside0.mk (Kd.V_elder' (jV HO589) (Kd.N_base ho0) hb); replace HO592 := Aside0.mk (Kd.V_elder' (jV HO592) (Kd.N_base ho0) hb); replace HO596 := Aside0.mk (Kd.V_elder' (jV HO596) (Kd.N_base ho0) hb); replace HO601 := Aside0.mk (Kd.R_below (jR HO601) hb); replace HO604 := Aside0.mk (Kd.N_elder' (by (with_reducible repeat (first | apply Kd.N_alloc | apply Kd.N_drewN | apply Kd.N_drew)); exact HO604.out) (Kd.N_base ho0) hb); replace HO607 := Aside0.mk (Kd.V_elder' (jV HO607) (Kd.N_base ho0) hb); replace BK573 := Aside0.mk (jB BK573 hb); replace HB := Aside0.mk (zT (jH HB) hb); (try clear hb); (try clear hb2); (try clear hk); (try clear hi); (try clear ho0); obtain ⟨Ao48, co48, eo48⟩ := Kd.N_slice HO611.out; subst eo48; obtain ⟨Ao49, co49, eo49⟩ := Kd.V_slice HO596.out; subst eo49) | ((with_reducible refine gate_callee (f := 19) rfl ?_); refine goesL_ (some 57) rfl rfl Tryd.func19 (by kernel_rfl) rfl #[.slice Ao48 t609.length co48, .slice Ao49 t594.length co49] rfl jZ ?_; (with_reducible refine (r21_Same.calls kj3 _ _ t609 _ _ t594 true _ ?side1 ?side2 ?side3 ?side4 A24.out).mono ?_); (case side1 => exact jC (Kd.N_reads' HO611.out).2.2); (case side2 => exact (Kd.N_reads' HO611.out).2.1); (case side3 => exact jC (Kd.V_reads' HO596.out).2.2); (case side4 => exact (Kd.V_reads' HO596.out).2.1); rintro e w50 ⟨rfl, hb⟩; refine ⟨_, rfl, ?_⟩; replace HO_0 := Aside0.mk (Kd.V_below (jV HO_0) hb); replace HO_574000 := Aside0.mk (Kd.V_below (jV HO_574000) hb); replace HO_574001 := Aside0.mk (Kd.V_below (jV HO_574001) hb); replace HO582 := Aside0.mk (Kd.V_below (jV HO582) hb); replace HO586 := Aside0.mk (Kd.N_below (by (with_reducible repeat (first | apply Kd.N_alloc | apply Kd.N_drewN | apply Kd.N_drew)); exact HO586.out) hb); replace HO589 := Aside0.mk (Kd.V_below (jV HO589) hb); replace HO592 := Aside0.mk (Kd.V_below (jV HO592) hb); replace HO596 := Aside0.mk (Kd.V_below (jV HO596) hb); replace HO601 := Aside0.mk (Kd.R_below (jR HO601) hb); replace HO604 := Aside0.mk (Kd.N_below (by (with_reducible repeat (first | apply Kd.N_alloc | apply Kd.N_drewN | apply Kd.N_drew)); exact HO604.out) hb); replace HO607 := Aside0.mk (Kd.V_below (jV HO607) hb); replace HO611 := Aside0.mk (Kd.N_below (by (with_reducible repeat (first | apply Kd.N_alloc | apply Kd.N_drewN | apply Kd.N_drew)); exact HO611.out) hb); replace BK573 := Aside0.mk (jB BK573 hb); replace HB := Aside0.mk (zT (jH HB) hb); (try clear hb); (try clear hb2); (try clear hk); (try clear hi); obtain ⟨Ao51, co51, eo51⟩ := Kd.R_slice HO601.out; subst eo51; obtain ⟨Ao52, co52, eo52⟩ := Kd.V_slice HO607.out; subst eo52) | (go_at_call 25; (with_reducible refine (r03_Same.calls kj3 _ _ t598 _ _ t605 true _ ?side1 ?side2 ?side3 ?side4 A27.out).mono ?_); (case side1 => exact jC (Kd.R_reads' HO601.out).2.2); (case side2 => exact (Kd.R_reads' HO601.out).2.1); (case side3 => exact jC (Kd.V_reads' HO607.out).2.2); (case side4 => exact (Kd.V_reads' HO607.out).2.1); rintro e w' ⟨rfl, ⟨nd, rfl⟩⟩) | (go_at_call 11; (with_reducible refine (l21_knows.calls kj3  t614 _ ?side1 A30.out).mono ?_); (case side1 => exact Glob.below HG.out (jH HB)); rintro e w53 ⟨rfl, hb⟩; replace HO_0 := Aside0.mk (Kd.V_below (jV HO_0) hb); replace HO_574000 := Aside0.mk (Kd.V_below (jV HO_574000) hb); replace HO_574001 := Aside0.mk (Kd.V_below (jV HO_574001) hb); replace HO582 := Aside0.mk (Kd.V_below (jV HO582) hb); replace HO586 := Aside0.mk (Kd.N_below (by (with_reducible repeat (first | apply Kd.N_alloc | apply Kd.N_drewN | apply Kd.N_drew)); exact HO586.out) hb); replace HO589 := Aside0.mk (Kd.V_below (jV HO589) hb); replace HO592 := Aside0.mk (Kd.V_below (jV HO592) hb); replace HO596 := Aside0.mk (Kd.V_below (jV HO596) hb); replace HO601 := Aside0.mk (Kd.R_below (jR HO601) hb); replace HO604 := Aside0.mk (Kd.N_below (by (with_reducible repeat (first | apply Kd.N_alloc | apply Kd.N_drewN | apply Kd.N_drew)); exact HO604.out) hb); replace HO607 := Aside0.mk (Kd.V_below (jV HO607) hb); replace HO611 := Aside0.mk (Kd.N_below (by (with_reducible repeat (first | apply Kd.N_alloc | apply Kd.N_drewN | apply Kd.N_drew)); exact HO611.out) hb); replace BK573 := Aside0.mk (jB BK573 hb); replace HB := Aside0.mk (zT (jH HB) hb); (try clear hb); (try clear hb2); (try clear hk); (try clear hi)))
        go_ret
        exact ⟨jE, jH HB⟩
       ·rw [if_neg c29] at H
        exact absurd H (by simp)
      ·replace c28 := Bool.eq_false_iff.mpr c28
       subst c28
       rw [if_neg (show ¬ (false = true) by decide)] at H
       exact absurd H (by simp)
     ·rw [if_neg c26] at H
      exact absurd H (by simp)
    ·replace c25 := Bool.eq_false_iff.mpr c25
     subst c25
     rw [if_neg (show ¬ (false = true) by decide)] at H
     exact absurd H (by simp)
end Go.Proofs.YtahacmdhhfmhiaaDoor.M
