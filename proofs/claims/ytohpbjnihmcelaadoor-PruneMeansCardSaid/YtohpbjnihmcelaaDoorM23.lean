/- What Go functions compute; their calls come to it. No condition. -/
import Derived.Test.YtohpbjnihmcelaaDoorM0
import Derived.Test.YtohpbjnihmcelaaDoorM22
namespace Go.Proofs.YtohpbjnihmcelaaDoor.M
open Go.RowKit Go.Proofs.YtohpbjnihmcelaaDoorW.PrintWords Go.Proofs.YtohpbjnihmcelaaDoorW.PrintLast Go.Proofs.YtohpbjnihmcelaaDoorW.PrintMore
attribute [local go_sem] max2_int min2_int max_two min_two max_three min_three max_four min_four   -- for this text's walks alone
set_option linter.unusedVariables false
set_option linter.unusedSimpArgs false
def r04_Bytes.l0 : Nat → List Int → Int → Int → Int → Int → List Int → Option (List Int)
 | 0, _, _, _, _, _, _ => none
 | k + 1, x3, x4, x211000, x211001, x211002, x211003 => if x4 < 6 then (if 0 ≤ x4 then ((r04_low.f k (rd x211003 x4) 8).bind fun t227 => (if x3.length + t227.length < 140737488355328 then (r04_Bytes.l0 k (x3 ++ t227) (wrap64 (x4 + 1)) x211000 x211001 x211002 x211003) else (none))) else (none)) else (some x3)
def r04_Bytes.f (k : Nat) (a0_0 : Int) (a0_1 : Int) (a0_2 : Int) (a0_3 : List Int) : Option (List Int) := (r04_low.f k (IntKind.u64.wrap (a0_0)) 4).bind fun t211 => ((r04_low.f k (IntKind.u64.wrap (a0_1)) 4).bind fun t214 => (if t211.length + t214.length < 140737488355328 then ((some (t211 ++ t214 : List Int)).bind fun y217 => ((r04_low.f k a0_2 8).bind fun t220 => (if y217.length + t220.length < 140737488355328 then (r04_Bytes.l0 k (y217 ++ t220) 0 a0_0 a0_1 a0_2 a0_3) else (none)))) else (none)))
theorem r04_Bytes.mono_l : ∀ k, (∀ y0 y1 y2 y3 y4 y5, LeO (r04_Bytes.l0 k y0 y1 y2 y3 y4 y5) (r04_Bytes.l0 (k + 1) y0 y1 y2 y3 y4 y5))
 | 0 => fun _ _ _ _ _ _ r h => by simp [r04_Bytes.l0] at h
 | k + 1 => by
  have ih0 := r04_Bytes.mono_l k
  ·intro y0 y1 y2 y3 y4 y5
   unfold r04_Bytes.l0
   repeat' first
   | (with_reducible apply ih0)
   | (with_reducible apply r04_low.mono)
   | (with_reducible exact LeO.refl _)
   | (with_reducible exact LeO.none _)
   | (with_reducible refine LeO.ite ?_ ?_)
   | (with_reducible refine LeO.bind ?_ (fun _ => ?_))
   | apply ih0
   | apply r04_low.mono
   | exact LeO.none _
   | refine LeO.ite ?_ ?_
   | refine LeO.bind ?_ (fun _ => ?_)
theorem r04_Bytes.mono : ∀ a0 a1 a2 a3 k, LeO (r04_Bytes.f k a0 a1 a2 a3) (r04_Bytes.f (k + 1) a0 a1 a2 a3) := by
 intro a0 a1 a2 a3 k
 have ih0 := r04_Bytes.mono_l k
 unfold r04_Bytes.f
 repeat' first
   | (with_reducible apply ih0)
   | (with_reducible apply r04_low.mono)
   | (with_reducible exact LeO.refl _)
   | (with_reducible exact LeO.none _)
   | (with_reducible refine LeO.ite ?_ ?_)
   | (with_reducible refine LeO.bind ?_ (fun _ => ?_))
   | apply ih0
   | apply r04_low.mono
   | exact LeO.none _
   | refine LeO.ite ?_ ?_
   | refine LeO.bind ?_ (fun _ => ?_)
def r04_Bytes.T1 : Bool × List (List Nat × List Nat) := (true, [([], []), ([0], [0]), ([1], [1]), ([2], [2]), ([], []), ([4], [4]), ([5], [5]), ([6, 3], [6]), ([3, 7, 7], [3, 7]), ([8, 8, 0, 1, 2, 3, 4, 5, 6, 7, 8], [8])])
def r04_Bytes.B1 : List Nat := [0, 1, 3, 7, 0, 16, 48, 127, 255, 511]
theorem r04_Bytes.tab1 : rtab .any (opsOf Tryd.f57 1) = r04_Bytes.T1 := by kernel_rfl
theorem r04_Bytes.bits1 : waitsOk r04_Bytes.T1.2 r04_Bytes.B1 = true := by kernel_rfl
set_option maxHeartbeats 8000000 in
set_option maxRecDepth 100000 in
theorem r04_Bytes.calls (k : Nat) (a0_0 : Int) (a0_1 : Int) (a0_2 : Int) (a0_3 : List Int) (r : List Int) (w : World) (h : r04_Bytes.f k a0_0 a0_1 a0_2 a0_3 = some r) :
  Calls Tryd.prog 57 #[.agg (arC [.int .u32 a0_0, .int .u32 a0_1, .int .u64 a0_2] .u64 6 a0_3)] w fun e w' => ∃ v0_ : Value, e = .returned (v0_) ∧ Kd.R (Kd.int .u8) 5 w' w.heap.size (fun _ => True) v0_ r ∧ Below w.heap.size w w' := by
 have hu38 := Tryd.underlying38
 have HB := Aside0.mk (Below.refl w.heap.size w)
 have H : ((r04_low.f k (IntKind.u64.wrap (a0_0)) 4).bind fun t211 => ((r04_low.f k (IntKind.u64.wrap (a0_1)) 4).bind fun t214 => (if t211.length + t214.length < 140737488355328 then ((some (t211 ++ t214 : List Int)).bind fun y217 => ((r04_low.f k a0_2 8).bind fun t220 => (if y217.length + t220.length < 140737488355328 then (r04_Bytes.l0 k (y217 ++ t220) 0 a0_0 a0_1 a0_2 a0_3) else (none)))) else (none)))) = some r := h
 clear h
 replace H := Option.bind_eq_some_iff.mp H
 obtain ⟨t211, A20, H⟩ := H
 try dsimp only at H
 have A2 := Aside0.mk A20
 clear A20
 replace H := Option.bind_eq_some_iff.mp H
 obtain ⟨t214, A30, H⟩ := H
 try dsimp only at H
 have A3 := Aside0.mk A30
 clear A30
 by_cases c4 : t211.length + t214.length < 140737488355328
 ·rw [if_pos c4] at H
  have LMc4 := Aside0.mk c4
  clear c4
  obtain ⟨y217, hy217⟩ : ∃ y_ : List Int, y_ = (t211 ++ t214) := ⟨_, rfl⟩
  simp only [Option.bind_some, ← hy217] at H
  have Ny217 := Aside0.mk hy217
  clear hy217
  replace H := Option.bind_eq_some_iff.mp H
  obtain ⟨t220, A50, H⟩ := H
  try dsimp only at H
  have A5 := Aside0.mk A50
  clear A50
  by_cases c6 : y217.length + t220.length < 140737488355328
  ·rw [if_pos c6] at H
   have LMc6 := Aside0.mk c6
   clear c6
   obtain ⟨y223, hy223⟩ : ∃ y_ : List Int, y_ = (y217 ++ t220) := ⟨_, rfl⟩
   simp only [Option.bind_some, ← hy223] at H
   have Ny223 := Aside0.mk hy223
   clear hy223
   have H' := Aside0.mk H
   clear H
   go_enter Tryd.func57, Tryd.ntmps57
   try go_wp2_with (first | ((with_reducible refine gate_dst (N := 1) rfl ?_); refine box_event rfl (N := 1) rfl (cs := (arC [.int .u32 a0_0, .int .u32 a0_1, .int .u64 a0_2] .u64 6 a0_3)) (t := 38) jW ?_; intro gb210 hg w7 hbox hb; have n0_ := Aside0.mk (zT (jH HB) hb); have n1_ := Aside0.mk hbox; have n2_ := Aside0.mk (jG hg HB); have n3_ := Aside0.mk (jG hg HB); clear HB; have HB := n0_; have BK210 := n1_; have GW210 := n2_; have GE210 := n3_; clear n0_ n1_ n2_ n3_; clear hb hbox hg))
   have n0_ := Aside0.mk (kD BK210.out)
   have n1_ := Aside0.mk (zD HB.out)
   clear BK210
   clear HB
   have BK210 := n0_
   have HB := n1_
   clear n0_ n1_
   refine start_ (n := 10) (S := fun w' => w'.cell? ⟨gb210, 0, none⟩ = some (.int .u32 a0_0) ∧ w'.cell? ⟨gb210, 1, none⟩ = some (.int .u32 a0_1) ∧ w'.cell? ⟨gb210, 2, none⟩ = some (.int .u64 a0_2)) (ds := []) #[false, false, false, false, false, false, false, false, false, false] (by kernel_rfl) rfl rfl ⟨(kC BK210.out 0).trans rfl, (kC BK210.out 1).trans rfl, (kC BK210.out 2).trans rfl⟩ (fun hHeld => ?_); refine with_tabW r04_Bytes.tab1 r04_Bytes.bits1 (fun HT_ HW_ => ?_)
   generalize w7.drew = w8 at BK210 HB hHeld ⊢
   refine pure_ (i := 0) (N := some 5) (v := ?_) (a' := ?_) #[true, false, false, false, false, false, false, false, false, false] rfl rfl (any_of HT_.out (by kernel_rfl)) (fun _ _ _ h => h) (Or.inl ⟨by rfl, ?_⟩) ?_ ?_
   rotate_left
   ·intro w'
    go_simp
    with_reducible rfl
   rotate_left
   ·simp only [Act.put, List.setIfInBounds_toArray, List.set_cons_zero, List.set_cons_succ, i64_w, i32_w]
    rfl
   refine pure_ (i := 4) (N := some 9) (v := ?_) (a' := ?_) #[true, false, false, false, true, false, false, false, false, false] rfl rfl (any_of HT_.out (by kernel_rfl)) (fun _ _ _ h => h) (Or.inl ⟨by rfl, ?_⟩) ?_ ?_
   rotate_left
   ·intro w'
    go_simp
    with_reducible rfl
   rotate_left
   ·simp only [Act.put, List.setIfInBounds_toArray, List.set_cons_zero, List.set_cons_succ, i64_w, i32_w]
    rfl
   refine take_ (i := 1) (N := some 6) (v := ?_) (a' := ?_) #[true, true, false, false, true, false, false, false, false, false] rfl rfl (take_ofW HT_.out HW_.out (by kernel_rfl)) (fun _ _ _ h => h) (Or.inl ⟨by rfl, ?_⟩) hHeld ?_ ?_
   rotate_left
   ·rintro w' ⟨s0, s1, s2⟩
    go_simp
    with_reducible rfl
   rotate_left
   ·simp only [Act.put, List.setIfInBounds_toArray, List.set_cons_zero, List.set_cons_succ, i64_w, i32_w]
    rfl
   refine pure_ (i := 2) (N := some 7) (v := ?_) (a' := ?_) #[true, true, true, false, true, false, false, false, false, false] rfl rfl (any_of HT_.out (by kernel_rfl)) (fun _ _ _ h => h) (Or.inl ⟨by rfl, ?_⟩) ?_ ?_
   rotate_left
   ·intro w'
    go_simp
    with_reducible rfl
   rotate_left
   ·simp only [Act.put, List.setIfInBounds_toArray, List.set_cons_zero, List.set_cons_succ, i64_w, i32_w]
    rfl
   refine take_ (i := 5) (N := some 10) (v := ?_) (a' := ?_) #[true, true, true, false, true, true, false, false, false, false] rfl rfl (take_ofW HT_.out HW_.out (by kernel_rfl)) (fun _ _ _ h => h) (Or.inl ⟨by rfl, ?_⟩) hHeld ?_ ?_
   rotate_left
   ·rintro w' ⟨s0, s1, s2⟩
    go_simp
    with_reducible rfl
   rotate_left
   ·simp only [Act.put, List.setIfInBounds_toArray, List.set_cons_zero, List.set_cons_succ, i64_w, i32_w]
    rfl
   refine pure_ (i := 6) (N := some 11) (v := ?_) (a' := ?_) #[true, true, true, false, true, true, true, false, false, false] rfl rfl (any_of HT_.out (by kernel_rfl)) (fun _ _ _ h => h) (Or.inl ⟨by rfl, ?_⟩) ?_ ?_
   rotate_left
   ·intro w'
    go_simp
    with_reducible rfl
   rotate_left
   ·simp only [Act.put, List.setIfInBounds_toArray, List.set_cons_zero, List.set_cons_succ, i64_w, i32_w]
    rfl
   refine one_ (i := 3) (N := some 8) #[true, true, true, true, true, true, true, false, false, false] rfl rfl (one_of HT_.out (by kernel_rfl)) (by decide) (fun K hK => ?_)
   refine goes_ Tryd.func59 (by kernel_rfl) rfl #[.int .u64 (IntKind.u64.wrap (a0_0)), .int .i64 4] (by rfl) rfl rfl jZ ?_
   with_reducible refine (r04_low.calls k (IntKind.u64.wrap (a0_0)) 4 t211 _ A2.out).mono ?_
   rintro e w9 ⟨v212, rfl, ho0, hb⟩
   refine ⟨_, rfl, ?_⟩
   have n0_ := Aside0.mk (Kd.R_lower ho0 (zZ (jH HB)))
   have n1_ := Aside0.mk (jB BK210 hb)
   have n2_ := Aside0.mk (zT (jH HB) hb)
   clear BK210
   clear HB
   have HO213 := n0_
   have BK210 := n1_
   have HB := n2_
   clear n0_ n1_ n2_
   (try clear hb)
   (try clear hb2)
   (try clear hk)
   (try clear hi)
   (try clear ho0)
   refine hK.out _ _ ⟨(kC BK210.out 0).trans rfl, (kC BK210.out 1).trans rfl, (kC BK210.out 2).trans rfl⟩ (fun hHeld => ?_)
   clear hK K
   refine norm_ (a' := ?_) ?_ ?_
   rotate_left
   ·show Act.put _ (some 8) _ = _
    simp only [Act.put, List.setIfInBounds_toArray, List.set_cons_zero, List.set_cons_succ, i64_w, i32_w]
    rfl
   refine one_ (i := 7) (N := some 12) #[true, true, true, true, true, true, true, true, false, false] rfl rfl (one_of HT_.out (by kernel_rfl)) (by decide) (fun K hK => ?_)
   refine goes_ Tryd.func59 (by kernel_rfl) rfl #[.int .u64 (IntKind.u64.wrap (a0_1)), .int .i64 4] (by rfl) rfl rfl jZ ?_
   with_reducible refine (r04_low.calls k (IntKind.u64.wrap (a0_1)) 4 t214 _ A3.out).mono ?_
   rintro e w10 ⟨v215, rfl, ho0, hb⟩
   refine ⟨_, rfl, ?_⟩
   have n0_ := Aside0.mk (Kd.R_elder' (jR HO213) (Kd.R_base ho0) hb)
   have n1_ := Aside0.mk (Kd.R_lower (Kd.R_new' ho0 (Kd.R_lt (jR HO213))) (zZ (jH HB)))
   have n2_ := Aside0.mk (jB BK210 hb)
   have n3_ := Aside0.mk (zT (jH HB) hb)
   clear HO213
   clear BK210
   clear HB
   have HO213 := n0_
   have HO216 := n1_
   have BK210 := n2_
   have HB := n3_
   clear n0_ n1_ n2_ n3_
   (try clear hb)
   (try clear hb2)
   (try clear hk)
   (try clear hi)
   (try clear ho0)
   obtain ⟨Ao12, co12, eo12⟩ := Kd.R_slice HO216.out
   (first | subst eo12 | (injection eo12 with f1_ f2_ f3_; have f4_ := f1_.symm; have f5_ := f3_.symm; clear f1_ f2_ f3_; subst f4_; subst f5_))
   refine hK.out _ _ ⟨(kC BK210.out 0).trans rfl, (kC BK210.out 1).trans rfl, (kC BK210.out 2).trans rfl⟩ (fun hHeld => ?_)
   clear hK K
   refine norm_ (a' := ?_) ?_ ?_
   rotate_left
   ·show Act.put _ (some 12) _ = _
    simp only [Act.put, List.setIfInBounds_toArray, List.set_cons_zero, List.set_cons_succ, i64_w, i32_w]
    rfl
   refine one_ (i := 8) (N := some 13) #[true, true, true, true, true, true, true, true, true, false] rfl rfl (one_of HT_.out (by kernel_rfl)) (by decide) (fun K hK => ?_)
   refine Kd.R_append_rows_step (Kd.int .u8) (w0 := w) w.heap.size (by rfl) (.tmp 8) (.tmp 12) 96 5 (.int .u8 0) 1 rfl Tryd.underlying96 info5 rfl (by decide) (by omega) v212 t211 t214 _ _ _ (fun k_ => some k_ ≠ (.slice Ao12 t214.length co12 : Value).ownBlock) (fun _ => False) rfl rfl ?aO ?aR (fun _ _ h => h) (fun _ h => h.elim) ?aF ?aB ?aS ?aL ?_
   (case aR => repeat (first | exact (Kd.R_reads' HO216.out).2.2 | (with_reducible refine Kd.C_alloc ?_ _) | (with_reducible refine Kd.C_drewN ?_ _) | (with_reducible refine Kd.C_drew ?_)))
   (case aB => exact (jH HB))
   (case aF => exact (fun k_ hk => Kd.fresh' (Kd.R_lt (jR HO216)) k_ hk))
   (case aO => exact (by (with_reducible repeat (first | apply Kd.R_alloc | apply Kd.R_drewN | apply Kd.R_drew)); exact Kd.R_mono HO213.out (fun _ hk => hk.2)))
   (case aS => exact (zZ (jH HB)))
   (case aL => have := LMc4.out; omega)
   intro v218 w11 ho hb hg hat
   rw [← Ny217.out] at ho
   have n0_ := Aside0.mk (kG (g := gb210) (o := .cells (arC [.int .u32 a0_0, .int .u32 a0_1, .int .u64 a0_2] .u64 6 a0_3) 38 (0, 0)) (jK BK210) hg (Kd.R_ne HO213.out BK210.out (by decide)))
   have n1_ := Aside0.mk (Kd.R_after (ok := (fun _ => True)) (jR HO216) hg hat)
   have n2_ := Aside0.mk (hb)
   have n3_ := Aside0.mk (ho)
   clear BK210
   clear HO216
   clear HB
   clear HO213
   have BK210 := n0_
   have HO216 := n1_
   have HB := n2_
   have HO219 := n3_
   clear n0_ n1_ n2_ n3_
   clear ho hb hg hat
   refine hK.out _ _ ⟨(kC BK210.out 0).trans rfl, (kC BK210.out 1).trans rfl, (kC BK210.out 2).trans rfl⟩ (fun hHeld => ?_)
   clear hK K
   refine norm_ (a' := ?_) ?_ ?_
   rotate_left
   ·show Act.put _ (some 13) _ = _
    simp only [Act.put, List.setIfInBounds_toArray, List.set_cons_zero, List.set_cons_succ, i64_w, i32_w]
    rfl
   refine pure_ (i := 9) (N := some 3) (v := ?_) (a' := ?_) #[true, true, true, true, true, true, true, true, true, true] rfl rfl (any_of HT_.out (by kernel_rfl)) (fun _ _ _ h => h) (Or.inl ⟨by rfl, ?_⟩) ?_ ?_
   rotate_left
   ·intro w'
    go_simp
    with_reducible rfl
   rotate_left
   ·simp only [Act.put, List.setIfInBounds_toArray, List.set_cons_zero, List.set_cons_succ, i64_w, i32_w]
    rfl
   refine done_ (done_of HT_.out (by kernel_rfl)) ?_
   have hcz13_0 : w11.cell? ⟨gb210, 0, none⟩ = some (.int .u32 a0_0) := (kC BK210.out 0).trans rfl
   have hcz13_1 : w11.cell? ⟨gb210, 1, none⟩ = some (.int .u32 a0_1) := (kC BK210.out 1).trans rfl
   have hcz13_2 : w11.cell? ⟨gb210, 2, none⟩ = some (.int .u64 a0_2) := (kC BK210.out 2).trans rfl
   have hfz13_0 := kF BK210.out 0
   have hfz13_1 := kF BK210.out 1
   have hfz13_2 := kF BK210.out 2
   have hfz13_3 := kF BK210.out 3
   try go_wp2_with (first | ((with_reducible refine gate_callee (f := 59) rfl ?_); refine goesL_ (some 17) rfl rfl Tryd.func59 (by kernel_rfl) rfl #[.int .u64 a0_2, .int .i64 8] rfl jZ ?_; (with_reducible refine (r04_low.calls k a0_2 8 t220 _ A5.out).mono ?_); rintro e w14 ⟨v221, rfl, ho0, hb⟩; refine ⟨_, rfl, ?_⟩; have n0_ := Aside0.mk (Kd.R_elder' (jR HO216) (Kd.R_base ho0) hb); have n1_ := Aside0.mk (Kd.R_elder' (jR HO219) (Kd.R_base ho0) hb); have n2_ := Aside0.mk (Kd.R_lower (Kd.R_new' (Kd.R_new' ho0 (Kd.R_lt (jR HO216))) (Kd.R_lt (jR HO219))) (zZ (jH HB))); have n3_ := Aside0.mk (jB BK210 hb); have n4_ := Aside0.mk (zT (jH HB) hb); clear HO216; clear HO219; clear BK210; clear HB; have HO216 := n0_; have HO219 := n1_; have HO222 := n2_; have BK210 := n3_; have HB := n4_; clear n0_ n1_ n2_ n3_ n4_; (try clear hb); (try clear hb2); (try clear hk); (try clear hi); (try clear ho0); obtain ⟨Ao16, co16, eo16⟩ := Kd.R_slice HO222.out; subst eo16) | ((with_reducible refine gate_builtin (b := .append) (xs := #[.tmp 14, .tmp 17]) rfl ?_); at_builtin; refine Kd.R_append_rows (Kd.int .u8) (w0 := w) w.heap.size rfl (.tmp 14) (.tmp 17) 96 5 (.int .u8 0) 1 rfl Tryd.underlying96 info5 rfl (by decide) (by omega) v218 y217 t220 _ _ _ (fun k_ => some k_ ≠ (.slice Ao12 t214.length co12 : Value).ownBlock ∧ some k_ ≠ (.slice Ao16 t220.length co16 : Value).ownBlock) (fun _ => False) rfl rfl ?aO ?aR (fun _ _ h => h) (fun _ h => h.elim) ?aF ?aB ?aS ?aL ?_; (case aR => repeat (first | exact (Kd.R_reads' HO222.out).2.2 | (with_reducible refine Kd.C_alloc ?_ _) | (with_reducible refine Kd.C_drewN ?_ _) | (with_reducible refine Kd.C_drew ?_))); (case aB => exact (jH HB)); (case aF => exact (fun k_ hk => ⟨Kd.fresh' (Kd.R_lt (jR HO216)) k_ hk, Kd.fresh' (Kd.R_lt (jR HO222)) k_ hk⟩)); (case aO => exact (jR HO219)); (case aS => exact (zZ (jH HB))); (case aL => have := LMc6.out; omega); intro v224 w15 ho hb hg hat; rw [← Ny223.out] at ho; have n0_ := Aside0.mk (kG (g := gb210) (o := .cells (arC [.int .u32 a0_0, .int .u32 a0_1, .int .u64 a0_2] .u64 6 a0_3) 38 (0, 0)) (jK BK210) hg (Kd.R_ne HO219.out BK210.out (by decide))); have n1_ := Aside0.mk (Kd.R_after (ok := (fun k_ => some k_ ≠ (.slice Ao16 t220.length co16 : Value).ownBlock)) (by (with_reducible repeat (first | apply Kd.R_alloc | apply Kd.R_drewN | apply Kd.R_drew)); exact Kd.R_mono HO216.out (fun _ hk => ⟨hk.2, hk.1.2⟩)) hg hat); have n2_ := Aside0.mk (Kd.R_after (ok := (fun k_ => some k_ ≠ (.slice Ao12 t214.length co12 : Value).ownBlock)) (by (with_reducible repeat (first | apply Kd.R_alloc | apply Kd.R_drewN | apply Kd.R_drew)); exact Kd.R_mono HO222.out (fun _ hk => ⟨hk.1.2, hk.2⟩)) hg hat); have n3_ := Aside0.mk (hb); have n4_ := Aside0.mk (ho); clear BK210; clear HO216; clear HO222; clear HB; clear HO219; have BK210 := n0_; have HO216 := n1_; have HO222 := n2_; have HB := n3_; have HO225 := n4_; clear n0_ n1_ n2_ n3_ n4_; clear ho hb hg hat))
   go_loopg [3, 4] k (fun kq v3 v4 w' => ∃ (x3_1 : List Int) (x4_1 : Int), v4 = .int .i64 x4_1 ∧ Aside0 (r04_Bytes.l0 kq x3_1 x4_1 a0_0 a0_1 a0_2 a0_3 = some r) ∧ Aside0 (kq ≤ k) ∧ Aside0 (Kd.R (Kd.int .u8) 5 w' w.heap.size (fun _ => True) v3 x3_1) ∧ Aside0 (w'.heap[gb210]? = some (.cells (arC [.int .u32 a0_0, .int .u32 a0_1, .int .u64 a0_2] .u64 6 a0_3) 38 (0, 0))) ∧ Aside0 (Below w.heap.size w w'))
   case atStart => exact ⟨(y223), (0), (by first | rfl | (simp; done) | (simp [*]; done) | (congr 1; unfold wrap64; omega)), H', ⟨Nat.le_refl _⟩, ⟨by (with_reducible repeat (first | apply Kd.R_alloc | apply Kd.R_drewN | apply Kd.R_drew)); exact Kd.R_mono HO225.out (fun _ hk => trivial)⟩, ⟨jK BK210⟩, ⟨jH HB⟩⟩
   case round =>
    clear H'
    obtain ⟨x3_1, x4_1, rfl, HA, HK1, HO_3, BK210, HB⟩ := hrel
    cases gk with
    | zero => exact absurd HA.out (by simp [r04_Bytes.l0])
    | succ k1 =>
     have H := HA.out
     clear HA
     simp only [r04_Bytes.l0] at H
     by_cases c17 : x4_1 < 6
     ·rw [if_pos c17] at H
      have c17b0 : decide (x4_1 < 6) = true := dT c17
      clear c17
      by_cases c18 : 0 ≤ x4_1
      ·rw [if_pos c18] at H
       have c18b0 : decide (0 ≤ x4_1) = true := dT c18
       clear c18
       replace H := Option.bind_eq_some_iff.mp H
       obtain ⟨t227, A190, H⟩ := H
       try dsimp only at H
       have A19 := Aside0.mk A190
       clear A190
       by_cases c20 : x3_1.length + t227.length < 140737488355328
       ·rw [if_pos c20] at H
        have LMc20 := Aside0.mk c20
        clear c20
        obtain ⟨y230, hy230⟩ : ∃ y_ : List Int, y_ = (x3_1 ++ t227) := ⟨_, rfl⟩
        simp only [Option.bind_some, ← hy230] at H
        have Ny230 := Aside0.mk hy230
        clear hy230
        have H' := Aside0.mk H
        clear H
        have hcz21_0 : wr.cell? ⟨gb210, 0, none⟩ = some (.int .u32 a0_0) := (kC BK210.out 0).trans rfl
        have hcz21_1 : wr.cell? ⟨gb210, 1, none⟩ = some (.int .u32 a0_1) := (kC BK210.out 1).trans rfl
        have hcz21_2 : wr.cell? ⟨gb210, 2, none⟩ = some (.int .u64 a0_2) := (kC BK210.out 2).trans rfl
        have hfz21_0 := kF BK210.out 0
        have hfz21_1 := kF BK210.out 1
        have hfz21_2 := kF BK210.out 2
        have hfz21_3 := kF BK210.out 3
        have pa226 : 0 ≤ (x4_1 : Int) := oD (jA)
        have qa226 : (x4_1 : Int) < 6 := oD (jA)
        have ha226 : wr.cell? ⟨gb210, 3 + (x4_1 : Int).toNat, none⟩ = some (.int .u64 (rd a0_3 x4_1)) := arC_get BK210.out 3 rfl x4_1 pa226 qa226
        go_wp2_with (first | ((with_reducible refine gate_callee (f := 59) rfl ?_); refine goesL_ (some 28) rfl rfl Tryd.func59 (by kernel_rfl) rfl #[.int .u64 (rd a0_3 x4_1), .int .i64 8] rfl jZ ?_; (with_reducible refine (r04_low.calls k1 (rd a0_3 x4_1) 8 t227 _ A19.out).mono ?_); rintro e w22 ⟨v228, rfl, ho0, hb⟩; refine ⟨_, rfl, ?_⟩; have n0_ := Aside0.mk (Kd.R_elder' (jR HO_3) (Kd.R_base ho0) hb); have n1_ := Aside0.mk (Kd.R_lower (Kd.R_new' ho0 (Kd.R_lt (jR HO_3))) (zZ (jH HB))); have n2_ := Aside0.mk (jB BK210 hb); have n3_ := Aside0.mk (zT (jH HB) hb); clear HO_3; clear BK210; clear HB; have HO_3 := n0_; have HO229 := n1_; have BK210 := n2_; have HB := n3_; clear n0_ n1_ n2_ n3_; (try clear hb); (try clear hb2); (try clear hk); (try clear hi); (try clear ho0); obtain ⟨Ao24, co24, eo24⟩ := Kd.R_slice HO229.out; subst eo24) | ((with_reducible refine gate_builtin (b := .append) (xs := #[.tmp 23, .tmp 28]) rfl ?_); at_builtin; refine Kd.R_append_rows (Kd.int .u8) (w0 := w) w.heap.size rfl (.tmp 23) (.tmp 28) 96 5 (.int .u8 0) 1 rfl Tryd.underlying96 info5 rfl (by decide) (by omega) u3 x3_1 t227 _ _ _ (fun k_ => some k_ ≠ (.slice Ao24 t227.length co24 : Value).ownBlock) (fun _ => False) rfl rfl ?aO ?aR (fun _ _ h => h) (fun _ h => h.elim) ?aF ?aB ?aS ?aL ?_; (case aR => repeat (first | exact (Kd.R_reads' HO229.out).2.2 | (with_reducible refine Kd.C_alloc ?_ _) | (with_reducible refine Kd.C_drewN ?_ _) | (with_reducible refine Kd.C_drew ?_))); (case aB => exact (jH HB)); (case aF => exact (fun k_ hk => Kd.fresh' (Kd.R_lt (jR HO229)) k_ hk)); (case aO => exact (by (with_reducible repeat (first | apply Kd.R_alloc | apply Kd.R_drewN | apply Kd.R_drew)); exact Kd.R_mono HO_3.out (fun _ hk => hk.2))); (case aS => exact (zZ (jH HB))); (case aL => have := LMc20.out; omega); intro v231 w23 ho hb hg hat; rw [← Ny230.out] at ho; have n0_ := Aside0.mk (kG (g := gb210) (o := .cells (arC [.int .u32 a0_0, .int .u32 a0_1, .int .u64 a0_2] .u64 6 a0_3) 38 (0, 0)) (jK BK210) hg (Kd.R_ne HO_3.out BK210.out (by decide))); have n1_ := Aside0.mk (Kd.R_after (ok := (fun _ => True)) (jR HO229) hg hat); have n2_ := Aside0.mk (hb); have n3_ := Aside0.mk (ho); clear BK210; clear HO229; clear HB; clear HO_3; have BK210 := n0_; have HO229 := n1_; have HB := n2_; have HO232 := n3_; clear n0_ n1_ n2_ n3_; clear ho hb hg hat))
        go_roundg k1
        case measure => have := HK1.out; omega
        case rel => exact ⟨(y230), (wrap64 (x4_1 + 1)), (by first | rfl | (simp; done) | (simp [*]; done) | (congr 1; unfold wrap64; omega)), H', ⟨by have := HK1.out; omega⟩, ⟨by (with_reducible repeat (first | apply Kd.R_alloc | apply Kd.R_drewN | apply Kd.R_drew)); exact Kd.R_mono HO232.out (fun _ hk => trivial)⟩, ⟨jK BK210⟩, ⟨jH HB⟩⟩
       ·rw [if_neg c20] at H
        exact absurd H (by simp)
      ·rw [if_neg c18] at H
       exact absurd H (by simp)
     ·rw [if_neg c17] at H
      have c17b0 : decide (x4_1 < 6) = false := dF c17
      clear c17
      obtain rfl := Option.some.inj H
      go_wp2
      go_ret
      exact ⟨_, jE, by (with_reducible repeat (first | apply Kd.R_alloc | apply Kd.R_drewN | apply Kd.R_drew)); exact HO_3.out, jH HB⟩
  ·rw [if_neg c6] at H
   exact absurd H (by simp)
 ·rw [if_neg c4] at H
  exact absurd H (by simp)
end Go.Proofs.YtohpbjnihmcelaaDoor.M
