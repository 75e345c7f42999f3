/- By a program of this session: what Go functions of the seat compute, as Lean functions, each with a proof that the call of the Go function comes to that. -/
import Derived.Test.YtidlcpflfokehaaDoorM0
import Derived.Test.YtidlcpflfokehaaDoorM9
import Derived.Test.YtidlcpflfokehaaDoorM10
import Derived.Test.YtidlcpflfokehaaDoorM22
namespace Go.Proofs.YtidlcpflfokehaaDoor.M
open Go.RowKit Go.Proofs.YtidlcpflfokehaaDoorW.PrintWords Go.Proofs.YtidlcpflfokehaaDoorW.PrintLast Go.Proofs.YtidlcpflfokehaaDoorW.PrintMore
attribute [local go_sem] max2_int min2_int max_two min_two max_three min_three max_four min_four   -- for this text's walks alone
set_option linter.unusedVariables false
set_option linter.unusedSimpArgs false

/-! ### hurdlelaw03_CodecRows: function 8 -/
mutual
def hurdlelaw03_CodecRows.j0 : Nat → List (S48) → List (S48) → Bool → Option (Bool)
  | 0, _, _, _ => none
  | k + 1, x0, x1, x24 => if x24 = true then ((hurdlelaw03_knows.f k).bind fun t381 => (some t381)) else ((codec_Encode.f k x0).bind fun bt382 => ((codec_Encode.f k x1).bind fun bt386 => ((some (([] : List (S48)) : List (S48))).bind fun y390 => (if y390.length + x0.length < 4398046511104 then ((some (y390 ++ x0 : List (S48))).bind fun y393 => (if y393.length + x1.length < 4398046511104 then ((codec_Encode.f k (y393 ++ x1)).bind fun bt399 => ((codec_Print.f k x0).bind fun bt403 => ((codec_Print.f k x1).bind fun bt405 => ((some (([] : List (S48)) : List (S48))).bind fun y407 => (if y407.length + x0.length < 4398046511104 then ((some (y407 ++ x0 : List (S48))).bind fun y410 => (if y410.length + x1.length < 4398046511104 then ((codec_Print.f k (y410 ++ x1)).bind fun bt416 => (if bt382.2 = 0 then (hurdlelaw03_CodecRows.j1 k bt382.1 bt386.1 bt399.1 bt399.2 bt403.1 bt405.1 bt416.1 (bt386.2 != 0)) else (hurdlelaw03_CodecRows.j1 k bt382.1 bt386.1 bt399.1 bt399.2 bt403.1 bt405.1 bt416.1 true))) else (none))) else (none)))))) else (none))) else (none)))))
def hurdlelaw03_CodecRows.j1 : Nat → List Int → List Int → List Int → Int → ByteArray → ByteArray → ByteArray → Bool → Option (Bool)
  | 0, _, _, _, _, _, _, _, _ => none
  | k + 1, x5, x7, x9, x10, x11, x13, x15, x69 => if x69 = true then (if x10 = 1 then ((hurdlelaw03_knows.f k).bind fun t418 => (some t418)) else (none)) else (if x10 = 0 then (if (strOfNums x5).size + (strOfNums x7).size ≤ 9223372036854775807 then (if (strOfNums x9).toList = ((strOfNums x5) ++ (strOfNums x7)).toList then (if x11.size + x13.size ≤ 9223372036854775807 then (if x15.toList = (x11 ++ x13).toList then ((hurdlelaw03_knows.f k).bind fun t419 => (some t419)) else (none)) else (none)) else (none)) else (none)) else (none))
end
def hurdlelaw03_CodecRows.f (k : Nat) (l0 : List (S48)) (l1 : List (S48)) : Option (Bool) := if (l0.length : Int) > 500 then (hurdlelaw03_CodecRows.j0 k l0 l1 true) else (hurdlelaw03_CodecRows.j0 k l0 l1 (decide ((l1.length : Int) > 500)))
theorem hurdlelaw03_CodecRows.mono_l : ∀ k, (∀ y0 y1 y2, LeO (hurdlelaw03_CodecRows.j0 k y0 y1 y2) (hurdlelaw03_CodecRows.j0 (k + 1) y0 y1 y2)) ∧ (∀ y0 y1 y2 y3 y4 y5 y6 y7, LeO (hurdlelaw03_CodecRows.j1 k y0 y1 y2 y3 y4 y5 y6 y7) (hurdlelaw03_CodecRows.j1 (k + 1) y0 y1 y2 y3 y4 y5 y6 y7))
  | 0 => ⟨fun _ _ _ r h => by simp [hurdlelaw03_CodecRows.j0] at h, fun _ _ _ _ _ _ _ _ r h => by simp [hurdlelaw03_CodecRows.j1] at h⟩
  | k + 1 => by
    obtain ⟨ih0, ih1⟩ := hurdlelaw03_CodecRows.mono_l k
    refine ⟨?_, ?_⟩
    · intro y0 y1 y2
      unfold hurdlelaw03_CodecRows.j0
      repeat' first
      | (with_reducible exact ih0 _ _ _)
      | (with_reducible exact ih1 _ _ _ _ _ _ _ _)
      | (with_reducible exact codec_Encode.mono _ _)
      | (with_reducible exact codec_Print.mono _ _)
      | (with_reducible exact hurdlelaw03_knows.mono _)
      | (with_reducible exact LeO.refl _)
      | (with_reducible exact LeO.none _)
      | (with_reducible refine LeO.ite ?_ ?_)
      | (with_reducible refine LeO.bind ?_ (fun _ => ?_))
      | exact ih0 _ _ _
      | exact ih1 _ _ _ _ _ _ _ _
      | exact codec_Encode.mono _ _
      | exact codec_Print.mono _ _
      | exact hurdlelaw03_knows.mono _
      | exact LeO.none _
      | refine LeO.ite ?_ ?_
      | refine LeO.bind ?_ (fun _ => ?_)
    · intro y0 y1 y2 y3 y4 y5 y6 y7
      unfold hurdlelaw03_CodecRows.j1
      repeat' first
      | (with_reducible exact ih0 _ _ _)
      | (with_reducible exact ih1 _ _ _ _ _ _ _ _)
      | (with_reducible exact codec_Encode.mono _ _)
      | (with_reducible exact codec_Print.mono _ _)
      | (with_reducible exact hurdlelaw03_knows.mono _)
      | (with_reducible exact LeO.refl _)
      | (with_reducible exact LeO.none _)
      | (with_reducible refine LeO.ite ?_ ?_)
      | (with_reducible refine LeO.bind ?_ (fun _ => ?_))
      | exact ih0 _ _ _
      | exact ih1 _ _ _ _ _ _ _ _
      | exact codec_Encode.mono _ _
      | exact codec_Print.mono _ _
      | exact hurdlelaw03_knows.mono _
      | exact LeO.none _
      | refine LeO.ite ?_ ?_
      | refine LeO.bind ?_ (fun _ => ?_)
theorem hurdlelaw03_CodecRows.mono : ∀ a0 a1 k, LeO (hurdlelaw03_CodecRows.f k a0 a1) (hurdlelaw03_CodecRows.f (k + 1) a0 a1) := by
  intro a0 a1 k
  obtain ⟨ih0, ih1⟩ := hurdlelaw03_CodecRows.mono_l k
  unfold hurdlelaw03_CodecRows.f
  repeat' first
      | (with_reducible exact ih0 _ _ _)
      | (with_reducible exact ih1 _ _ _ _ _ _ _ _)
      | (with_reducible exact codec_Encode.mono _ _)
      | (with_reducible exact codec_Print.mono _ _)
      | (with_reducible exact hurdlelaw03_knows.mono _)
      | (with_reducible exact LeO.refl _)
      | (with_reducible exact LeO.none _)
      | (with_reducible refine LeO.ite ?_ ?_)
      | (with_reducible refine LeO.bind ?_ (fun _ => ?_))
      | exact ih0 _ _ _
      | exact ih1 _ _ _ _ _ _ _ _
      | exact codec_Encode.mono _ _
      | exact codec_Print.mono _ _
      | exact hurdlelaw03_knows.mono _
      | exact LeO.none _
      | refine LeO.ite ?_ ?_
      | refine LeO.bind ?_ (fun _ => ?_)
set_option maxHeartbeats 8000000 in
set_option maxRecDepth 100000 in
theorem hurdlelaw03_CodecRows.calls (k : Nat) (A0 : Option Addr) (c0 : Nat) (l0 : List (S48)) (A1 : Option Addr) (c1 : Nat) (l1 : List (S48)) (r : Bool) (w : World) (hr0 : Kd.C k48 w A0 l0.length l0) (hc0 : l0.length ≤ c0) (hr1 : Kd.C k48 w A1 l1.length l1) (hc1 : l1.length ≤ c1) (hG : Glob w) (h : hurdlelaw03_CodecRows.f k l0 l1 = some r) :
    Calls Tryd.prog 8 #[.slice A0 l0.length c0, .slice A1 l1.length c1] w fun e w' => e = .returned (.bool r) ∧ Below w.heap.size w w' := by
  have HG := Aside0.mk hG
  clear hG
  have HR0 := Aside0.mk hr0
  have HC0 := Aside0.mk hc0
  clear hr0 hc0
  have HR1 := Aside0.mk hr1
  have HC1 := Aside0.mk hc1
  clear hr1 hc1
  have HB := Aside0.mk (Below.refl w.heap.size w)
  have H : (if (l0.length : Int) > 500 then (hurdlelaw03_CodecRows.j0 k l0 l1 true) else (hurdlelaw03_CodecRows.j0 k l0 l1 (decide ((l1.length : Int) > 500)))) = some r := h
  clear h
  have HC3 := Aside0.mk H
  clear H
  go_enter Tryd.func8, Tryd.ntmps8
  go_upto_region 1 with (fail)
  go_cut [24] (fun v24 wc => ∃ (kq : Nat) (x24_2 : Bool), v24 = .bool x24_2 ∧ Aside0 (hurdlelaw03_CodecRows.j0 kq l0 l1 x24_2 = some r) ∧ Aside0 (kq ≤ k) ∧ Aside0 (Below w.heap.size w wc))
  case first =>
    have H := HC3.out
    clear HC3
    by_cases c4 : (l0.length : Int) > 500
    · rw [if_pos c4] at H
      have c4b0 : decide (500 < (l0.length : Int)) = true := decide_eq_true c4
      have c4b1 : decide (500 < l0.length) = true := decide_eq_true (by omega)
      clear c4
      (first | rw [c4b0] | (simp only [i64_w, i32_w]; rw [c4b0]) | skip)
      have H' := Aside0.mk H
      clear H
      go_wp2
      go_meet
      case rel => exact ⟨_, (true), (by first | rfl | (simp; done) | (simp [*]; done)), H', ⟨by first | omega | exact Nat.le_refl _⟩, ⟨by repeat (first | (with_reducible first | exact HB.out | apply below_alloc | apply pw_below_drewN | apply below_drew1) | exact HB.out)⟩⟩
    · rw [if_neg c4] at H
      have c4b0 : decide (500 < (l0.length : Int)) = false := decide_eq_false c4
      have c4b1 : decide (500 < l0.length) = false := decide_eq_false (by omega)
      clear c4
      (first | rw [c4b0] | (simp only [i64_w, i32_w]; rw [c4b0]) | skip)
      have H' := Aside0.mk H
      clear H
      go_wp2
      go_meet
      case rel => exact ⟨_, (decide ((l1.length : Int) > 500)), (by first | rfl | (simp; done) | (simp [*]; done)), H', ⟨by first | omega | exact Nat.le_refl _⟩, ⟨by repeat (first | (with_reducible first | exact HB.out | apply below_alloc | apply pw_below_drewN | apply below_drew1) | exact HB.out)⟩⟩
  case rest =>
    clear HC3
    try clear c1
    try clear p2
    try clear c4
    try clear c4b0
    try clear c4b1
    obtain ⟨kq, x24_2, rfl, HA, HJ2, HB⟩ := hcut
    cases kq with
    | zero => exact absurd HA.out (by simp [hurdlelaw03_CodecRows.j0])
    | succ kj2 =>
      have H := HA.out
      clear HA
      simp only [hurdlelaw03_CodecRows.j0] at H
      by_cases c5 : x24_2 = true
      · subst c5
        have H1 : ((hurdlelaw03_knows.f kj2).bind fun t381 => (some t381)) = some r := by rw [if_pos rfl] at H; exact H
        clear H
        have H := H1
        clear H1
        replace H := Option.bind_eq_some_iff.mp H
        obtain ⟨t381, A60, H⟩ := H
        replace H : (some t381) = some r := H
        have A6 := Aside0.mk A60
        clear A60
        obtain rfl := Option.some.inj H
        go_wp2_with (first | ((with_reducible refine gate_callee (f := 9) rfl ?_); refine goesL_ (some 25) rfl rfl Tryd.func9 (by kernel_rfl) rfl #[] rfl (by (try simp only [List.map_toArray, List.map_cons, List.map_nil]); first | done | rfl | (simp only [List.length_drop, List.length_take]; rfl)) ?_; (with_reducible refine (hurdlelaw03_knows.calls kj2  t381 _ ?side1 A6.out).mono ?_); (case side1 => exact Glob.below HG.out (by repeat (first | (with_reducible first | exact HB.out | apply below_alloc | apply pw_below_drewN | apply below_drew1) | exact HB.out))); rintro e w7 ⟨rfl, hb⟩; refine ⟨_, rfl, ?_⟩; have n0_ := Aside0.mk (below_step (by repeat (first | (with_reducible first | exact HB.out | apply below_alloc | apply pw_below_drewN | apply below_drew1) | exact HB.out)) hb); clear HB; have HB := n0_; clear n0_; (try clear hb); (try clear hb2); (try clear hk); (try clear hi)))
        go_ret
        exact ⟨by first | rfl | (simp [errW_none, errW_some] <;> rfl) | (simp [*, errW_none, errW_some] <;> rfl), by repeat (first | (with_reducible first | exact HB.out | apply below_alloc | apply pw_below_drewN | apply below_drew1) | exact HB.out)⟩
      · replace c5 := Bool.eq_false_iff.mpr c5
        subst c5
        have H1 : ((codec_Encode.f kj2 l0).bind fun bt382 => ((codec_Encode.f kj2 l1).bind fun bt386 => ((some (([] : List (S48)) : List (S48))).bind fun y390 => (if y390.length + l0.length < 4398046511104 then ((some (y390 ++ l0 : List (S48))).bind fun y393 => (if y393.length + l1.length < 4398046511104 then ((codec_Encode.f kj2 (y393 ++ l1)).bind fun bt399 => ((codec_Print.f kj2 l0).bind fun bt403 => ((codec_Print.f kj2 l1).bind fun bt405 => ((some (([] : List (S48)) : List (S48))).bind fun y407 => (if y407.length + l0.length < 4398046511104 then ((some (y407 ++ l0 : List (S48))).bind fun y410 => (if y410.length + l1.length < 4398046511104 then ((codec_Print.f kj2 (y410 ++ l1)).bind fun bt416 => (if bt382.2 = 0 then (hurdlelaw03_CodecRows.j1 kj2 bt382.1 bt386.1 bt399.1 bt399.2 bt403.1 bt405.1 bt416.1 (bt386.2 != 0)) else (hurdlelaw03_CodecRows.j1 kj2 bt382.1 bt386.1 bt399.1 bt399.2 bt403.1 bt405.1 bt416.1 true))) else (none))) else (none)))))) else (none))) else (none))))) = some r := by rw [if_neg (show ¬ (false = true) by decide)] at H; exact H
        clear H
        have H := H1
        clear H1
        replace H := Option.bind_eq_some_iff.mp H
        obtain ⟨⟨t382, t383⟩, A80, H⟩ := H
        replace H : ((codec_Encode.f kj2 l1).bind fun bt386 => ((some (([] : List (S48)) : List (S48))).bind fun y390 => (if y390.length + l0.length < 4398046511104 then ((some (y390 ++ l0 : List (S48))).bind fun y393 => (if y393.length + l1.length < 4398046511104 then ((codec_Encode.f kj2 (y393 ++ l1)).bind fun bt399 => ((codec_Print.f kj2 l0).bind fun bt403 => ((codec_Print.f kj2 l1).bind fun bt405 => ((some (([] : List (S48)) : List (S48))).bind fun y407 => (if y407.length + l0.length < 4398046511104 then ((some (y407 ++ l0 : List (S48))).bind fun y410 => (if y410.length + l1.length < 4398046511104 then ((codec_Print.f kj2 (y410 ++ l1)).bind fun bt416 => (if t383 = 0 then (hurdlelaw03_CodecRows.j1 kj2 t382 bt386.1 bt399.1 bt399.2 bt403.1 bt405.1 bt416.1 (bt386.2 != 0)) else (hurdlelaw03_CodecRows.j1 kj2 t382 bt386.1 bt399.1 bt399.2 bt403.1 bt405.1 bt416.1 true))) else (none))) else (none)))))) else (none))) else (none)))) = some r := H
        have A8 := Aside0.mk A80
        clear A80
        replace H := Option.bind_eq_some_iff.mp H
        obtain ⟨⟨t386, t387⟩, A90, H⟩ := H
        replace H : ((some (([] : List (S48)) : List (S48))).bind fun y390 => (if y390.length + l0.length < 4398046511104 then ((some (y390 ++ l0 : List (S48))).bind fun y393 => (if y393.length + l1.length < 4398046511104 then ((codec_Encode.f kj2 (y393 ++ l1)).bind fun bt399 => ((codec_Print.f kj2 l0).bind fun bt403 => ((codec_Print.f kj2 l1).bind fun bt405 => ((some (([] : List (S48)) : List (S48))).bind fun y407 => (if y407.length + l0.length < 4398046511104 then ((some (y407 ++ l0 : List (S48))).bind fun y410 => (if y410.length + l1.length < 4398046511104 then ((codec_Print.f kj2 (y410 ++ l1)).bind fun bt416 => (if t383 = 0 then (hurdlelaw03_CodecRows.j1 kj2 t382 t386 bt399.1 bt399.2 bt403.1 bt405.1 bt416.1 (t387 != 0)) else (hurdlelaw03_CodecRows.j1 kj2 t382 t386 bt399.1 bt399.2 bt403.1 bt405.1 bt416.1 true))) else (none))) else (none)))))) else (none))) else (none))) = some r := H
        have A9 := Aside0.mk A90
        clear A90
        obtain ⟨y390, hy390⟩ : ∃ y_ : List (S48), y_ = (([] : List (S48))) := ⟨_, rfl⟩
        replace H : (if y390.length + l0.length < 4398046511104 then ((some (y390 ++ l0 : List (S48))).bind fun y393 => (if y393.length + l1.length < 4398046511104 then ((codec_Encode.f kj2 (y393 ++ l1)).bind fun bt399 => ((codec_Print.f kj2 l0).bind fun bt403 => ((codec_Print.f kj2 l1).bind fun bt405 => ((some (([] : List (S48)) : List (S48))).bind fun y407 => (if y407.length + l0.length < 4398046511104 then ((some (y407 ++ l0 : List (S48))).bind fun y410 => (if y410.length + l1.length < 4398046511104 then ((codec_Print.f kj2 (y410 ++ l1)).bind fun bt416 => (if t383 = 0 then (hurdlelaw03_CodecRows.j1 kj2 t382 t386 bt399.1 bt399.2 bt403.1 bt405.1 bt416.1 (t387 != 0)) else (hurdlelaw03_CodecRows.j1 kj2 t382 t386 bt399.1 bt399.2 bt403.1 bt405.1 bt416.1 true))) else (none))) else (none)))))) else (none))) else (none)) = some r := by first | (rw [hy390]; with_reducible exact H) | (have H2_ := (Option.bind_some _ _).symm.trans H; rw [hy390]; with_reducible exact H2_) | (have H2_ := (Option.bind_some _ _).symm.trans H; with_reducible exact H2_) | with_reducible exact H | (rw [hy390]; exact H) | exact H
        have Ny390 := Aside0.mk hy390
        clear hy390
        by_cases c10 : y390.length + l0.length < 4398046511104
        · rw [if_pos c10] at H
          have LMc10 := Aside0.mk c10
          clear c10
          obtain ⟨y393, hy393⟩ : ∃ y_ : List (S48), y_ = (y390 ++ l0) := ⟨_, rfl⟩
          replace H : (if y393.length + l1.length < 4398046511104 then ((codec_Encode.f kj2 (y393 ++ l1)).bind fun bt399 => ((codec_Print.f kj2 l0).bind fun bt403 => ((codec_Print.f kj2 l1).bind fun bt405 => ((some (([] : List (S48)) : List (S48))).bind fun y407 => (if y407.length + l0.length < 4398046511104 then ((some (y407 ++ l0 : List (S48))).bind fun y410 => (if y410.length + l1.length < 4398046511104 then ((codec_Print.f kj2 (y410 ++ l1)).bind fun bt416 => (if t383 = 0 then (hurdlelaw03_CodecRows.j1 kj2 t382 t386 bt399.1 bt399.2 bt403.1 bt405.1 bt416.1 (t387 != 0)) else (hurdlelaw03_CodecRows.j1 kj2 t382 t386 bt399.1 bt399.2 bt403.1 bt405.1 bt416.1 true))) else (none))) else (none)))))) else (none)) = some r := by first | (rw [hy393]; with_reducible exact H) | (have H2_ := (Option.bind_some _ _).symm.trans H; rw [hy393]; with_reducible exact H2_) | (have H2_ := (Option.bind_some _ _).symm.trans H; with_reducible exact H2_) | with_reducible exact H | (rw [hy393]; exact H) | exact H
          have Ny393 := Aside0.mk hy393
          clear hy393
          by_cases c11 : y393.length + l1.length < 4398046511104
          · rw [if_pos c11] at H
            have LMc11 := Aside0.mk c11
            clear c11
            obtain ⟨y396, hy396⟩ : ∃ y_ : List (S48), y_ = (y393 ++ l1) := ⟨_, rfl⟩
            replace H : ((codec_Encode.f kj2 y396).bind fun bt399 => ((codec_Print.f kj2 l0).bind fun bt403 => ((codec_Print.f kj2 l1).bind fun bt405 => ((some (([] : List (S48)) : List (S48))).bind fun y407 => (if y407.length + l0.length < 4398046511104 then ((some (y407 ++ l0 : List (S48))).bind fun y410 => (if y410.length + l1.length < 4398046511104 then ((codec_Print.f kj2 (y410 ++ l1)).bind fun bt416 => (if t383 = 0 then (hurdlelaw03_CodecRows.j1 kj2 t382 t386 bt399.1 bt399.2 bt403.1 bt405.1 bt416.1 (t387 != 0)) else (hurdlelaw03_CodecRows.j1 kj2 t382 t386 bt399.1 bt399.2 bt403.1 bt405.1 bt416.1 true))) else (none))) else (none)))))) = some r := by first | (rw [hy396]; with_reducible exact H) | (have H2_ := (Option.bind_some _ _).symm.trans H; rw [hy396]; with_reducible exact H2_) | (have H2_ := (Option.bind_some _ _).symm.trans H; with_reducible exact H2_) | with_reducible exact H | (rw [hy396]; exact H) | exact H
            have Ny396 := Aside0.mk hy396
            clear hy396
            replace H := Option.bind_eq_some_iff.mp H
            obtain ⟨⟨t399, t400⟩, A120, H⟩ := H
            replace H : ((codec_Print.f kj2 l0).bind fun bt403 => ((codec_Print.f kj2 l1).bind fun bt405 => ((some (([] : List (S48)) : List (S48))).bind fun y407 => (if y407.length + l0.length < 4398046511104 then ((some (y407 ++ l0 : List (S48))).bind fun y410 => (if y410.length + l1.length < 4398046511104 then ((codec_Print.f kj2 (y410 ++ l1)).bind fun bt416 => (if t383 = 0 then (hurdlelaw03_CodecRows.j1 kj2 t382 t386 t399 t400 bt403.1 bt405.1 bt416.1 (t387 != 0)) else (hurdlelaw03_CodecRows.j1 kj2 t382 t386 t399 t400 bt403.1 bt405.1 bt416.1 true))) else (none))) else (none))))) = some r := H
            have A12 := Aside0.mk A120
            clear A120
            replace H := Option.bind_eq_some_iff.mp H
            obtain ⟨⟨t403, t404⟩, A130, H⟩ := H
            replace H : ((codec_Print.f kj2 l1).bind fun bt405 => ((some (([] : List (S48)) : List (S48))).bind fun y407 => (if y407.length + l0.length < 4398046511104 then ((some (y407 ++ l0 : List (S48))).bind fun y410 => (if y410.length + l1.length < 4398046511104 then ((codec_Print.f kj2 (y410 ++ l1)).bind fun bt416 => (if t383 = 0 then (hurdlelaw03_CodecRows.j1 kj2 t382 t386 t399 t400 t403 bt405.1 bt416.1 (t387 != 0)) else (hurdlelaw03_CodecRows.j1 kj2 t382 t386 t399 t400 t403 bt405.1 bt416.1 true))) else (none))) else (none)))) = some r := H
            have A13 := Aside0.mk A130
            clear A130
            replace H := Option.bind_eq_some_iff.mp H
            obtain ⟨⟨t405, t406⟩, A140, H⟩ := H
            replace H : ((some (([] : List (S48)) : List (S48))).bind fun y407 => (if y407.length + l0.length < 4398046511104 then ((some (y407 ++ l0 : List (S48))).bind fun y410 => (if y410.length + l1.length < 4398046511104 then ((codec_Print.f kj2 (y410 ++ l1)).bind fun bt416 => (if t383 = 0 then (hurdlelaw03_CodecRows.j1 kj2 t382 t386 t399 t400 t403 t405 bt416.1 (t387 != 0)) else (hurdlelaw03_CodecRows.j1 kj2 t382 t386 t399 t400 t403 t405 bt416.1 true))) else (none))) else (none))) = some r := H
            have A14 := Aside0.mk A140
            clear A140
            obtain ⟨y407, hy407⟩ : ∃ y_ : List (S48), y_ = (([] : List (S48))) := ⟨_, rfl⟩
            replace H : (if y407.length + l0.length < 4398046511104 then ((some (y407 ++ l0 : List (S48))).bind fun y410 => (if y410.length + l1.length < 4398046511104 then ((codec_Print.f kj2 (y410 ++ l1)).bind fun bt416 => (if t383 = 0 then (hurdlelaw03_CodecRows.j1 kj2 t382 t386 t399 t400 t403 t405 bt416.1 (t387 != 0)) else (hurdlelaw03_CodecRows.j1 kj2 t382 t386 t399 t400 t403 t405 bt416.1 true))) else (none))) else (none)) = some r := by first | (rw [hy407]; with_reducible exact H) | (have H2_ := (Option.bind_some _ _).symm.trans H; rw [hy407]; with_reducible exact H2_) | (have H2_ := (Option.bind_some _ _).symm.trans H; with_reducible exact H2_) | with_reducible exact H | (rw [hy407]; exact H) | exact H
            have Ny407 := Aside0.mk hy407
            clear hy407
            by_cases c15 : y407.length + l0.length < 4398046511104
            · rw [if_pos c15] at H
              have LMc15 := Aside0.mk c15
              clear c15
              obtain ⟨y410, hy410⟩ : ∃ y_ : List (S48), y_ = (y407 ++ l0) := ⟨_, rfl⟩
              replace H : (if y410.length + l1.length < 4398046511104 then ((codec_Print.f kj2 (y410 ++ l1)).bind fun bt416 => (if t383 = 0 then (hurdlelaw03_CodecRows.j1 kj2 t382 t386 t399 t400 t403 t405 bt416.1 (t387 != 0)) else (hurdlelaw03_CodecRows.j1 kj2 t382 t386 t399 t400 t403 t405 bt416.1 true))) else (none)) = some r := by first | (rw [hy410]; with_reducible exact H) | (have H2_ := (Option.bind_some _ _).symm.trans H; rw [hy410]; with_reducible exact H2_) | (have H2_ := (Option.bind_some _ _).symm.trans H; with_reducible exact H2_) | with_reducible exact H | (rw [hy410]; exact H) | exact H
              have Ny410 := Aside0.mk hy410
              clear hy410
              by_cases c16 : y410.length + l1.length < 4398046511104
              · rw [if_pos c16] at H
                have LMc16 := Aside0.mk c16
                clear c16
                obtain ⟨y413, hy413⟩ : ∃ y_ : List (S48), y_ = (y410 ++ l1) := ⟨_, rfl⟩
                replace H : ((codec_Print.f kj2 y413).bind fun bt416 => (if t383 = 0 then (hurdlelaw03_CodecRows.j1 kj2 t382 t386 t399 t400 t403 t405 bt416.1 (t387 != 0)) else (hurdlelaw03_CodecRows.j1 kj2 t382 t386 t399 t400 t403 t405 bt416.1 true))) = some r := by first | (rw [hy413]; with_reducible exact H) | (have H2_ := (Option.bind_some _ _).symm.trans H; rw [hy413]; with_reducible exact H2_) | (have H2_ := (Option.bind_some _ _).symm.trans H; with_reducible exact H2_) | with_reducible exact H | (rw [hy413]; exact H) | exact H
                have Ny413 := Aside0.mk hy413
                clear hy413
                replace H := Option.bind_eq_some_iff.mp H
                obtain ⟨⟨t416, t417⟩, A170, H⟩ := H
                replace H : (if t383 = 0 then (hurdlelaw03_CodecRows.j1 kj2 t382 t386 t399 t400 t403 t405 t416 (t387 != 0)) else (hurdlelaw03_CodecRows.j1 kj2 t382 t386 t399 t400 t403 t405 t416 true)) = some r := H
                have A17 := Aside0.mk A170
                clear A170
                have HC18 := Aside0.mk H
                clear H
                go_upto_region 9 with (first | ((with_reducible refine gate_callee (f := 15) rfl ?_); refine goesL_ (some 28) rfl rfl Tryd.func15 (by kernel_rfl) rfl #[.slice A0 l0.length c0] rfl (by (try simp only [List.map_toArray, List.map_cons, List.map_nil]); first | done | rfl | (simp only [List.length_drop, List.length_take]; rfl)) ?_; (with_reducible refine (codec_Encode.calls kj2 _ _ l0 t382 t383 _ ?side1 ?side2 ?side3 A8.out).mono ?_); (case side1 => repeat (first | exact (Kd.C_below HR0.out HB.out) | (with_reducible refine Kd.C_alloc ?_ _) | (with_reducible refine Kd.C_drewN ?_ _) | (with_reducible refine Kd.C_drew ?_))); (case side2 => exact HC0.out); (case side3 => exact Glob.below HG.out (by repeat (first | (with_reducible first | exact HB.out | apply below_alloc | apply pw_below_drewN | apply below_drew1) | exact HB.out))); rintro e w19 ⟨v384, rfl, ho0, hb⟩; refine ⟨_, rfl, ?_⟩; have n0_ := Aside0.mk (Kd.R_lower ho0 (below_size (by repeat (first | (with_reducible first | exact HB.out | apply below_alloc | apply pw_below_drewN | apply below_drew1) | exact HB.out)))); have n1_ := Aside0.mk (below_step (by repeat (first | (with_reducible first | exact HB.out | apply below_alloc | apply pw_below_drewN | apply below_drew1) | exact HB.out)) hb); clear HB; have HO385 := n0_; have HB := n1_; clear n0_ n1_; (try clear hb); (try clear hb2); (try clear hk); (try clear hi); (try clear ho0)) | ((with_reducible refine gate_callee (f := 15) rfl ?_); refine goesL_ (some 33) rfl rfl Tryd.func15 (by kernel_rfl) rfl #[.slice A1 l1.length c1] rfl (by (try simp only [List.map_toArray, List.map_cons, List.map_nil]); first | done | rfl | (simp only [List.length_drop, List.length_take]; rfl)) ?_; (with_reducible refine (codec_Encode.calls kj2 _ _ l1 t386 t387 _ ?side1 ?side2 ?side3 A9.out).mono ?_); (case side1 => repeat (first | exact (Kd.C_below HR1.out HB.out) | (with_reducible refine Kd.C_alloc ?_ _) | (with_reducible refine Kd.C_drewN ?_ _) | (with_reducible refine Kd.C_drew ?_))); (case side2 => exact HC1.out); (case side3 => exact Glob.below HG.out (by repeat (first | (with_reducible first | exact HB.out | apply below_alloc | apply pw_below_drewN | apply below_drew1) | exact HB.out))); rintro e w20 ⟨v388, rfl, ho0, hb⟩; refine ⟨_, rfl, ?_⟩; have n0_ := Aside0.mk (Kd.R_elder' (by (with_reducible repeat (first | apply Kd.R_alloc | apply Kd.R_drewN | apply Kd.R_drew)); exact HO385.out) (Kd.R_base ho0) hb); have n1_ := Aside0.mk (Kd.R_lower (Kd.R_new' ho0 (Kd.R_lt (by (with_reducible repeat (first | apply Kd.R_alloc | apply Kd.R_drewN | apply Kd.R_drew)); exact HO385.out))) (below_size (by repeat (first | (with_reducible first | exact HB.out | apply below_alloc | apply pw_below_drewN | apply below_drew1) | exact HB.out)))); have n2_ := Aside0.mk (below_step (by repeat (first | (with_reducible first | exact HB.out | apply below_alloc | apply pw_below_drewN | apply below_drew1) | exact HB.out)) hb); clear HO385; clear HB; have HO385 := n0_; have HO389 := n1_; have HB := n2_; clear n0_ n1_ n2_; (try clear hb); (try clear hb2); (try clear hk); (try clear hi); (try clear ho0)) | ((with_reducible refine gate_dst (N := 37) rfl ?_); (try (refine gate_guard (by rfl) ?_; dsimp only)); refine Kd.R_lit k48 _ 48 ?hg (N := 37) ?hd (xs := ([] : List (S48))) (inner := []) (ok := fun _ => True) (okp := fun _ => True) ?hr ?hp (fun _ hk => hk) trivial (Below.refl _ _) (Nat.le_refl _) (by simp) ?_; (case hd => rfl); (case hg => rfl); (case hr => first | (go_simp; done) | (go_simp; rfl)); (case hp => exact (Reps.none _ _)); intro v391 w21 ho22 hb hg_ hnew_; clear hg_ hnew_; (first | rw [← Ny390.out] at ho22 | (simp only [Int.reduceToNat] at ho22; rw [← Ny390.out] at ho22)); have n0_ := Aside0.mk (Kd.R_below (by (with_reducible repeat (first | apply Kd.R_alloc | apply Kd.R_drewN | apply Kd.R_drew)); exact HO385.out) hb); have n1_ := Aside0.mk (Kd.R_below (by (with_reducible repeat (first | apply Kd.R_alloc | apply Kd.R_drewN | apply Kd.R_drew)); exact HO389.out) hb); have n2_ := Aside0.mk (Kd.R_lower ho22 (below_size (by repeat (first | (with_reducible first | exact HB.out | apply below_alloc | apply pw_below_drewN | apply below_drew1) | exact HB.out)))); have n3_ := Aside0.mk (below_step (by repeat (first | (with_reducible first | exact HB.out | apply below_alloc | apply pw_below_drewN | apply below_drew1) | exact HB.out)) hb); clear HO385; clear HO389; clear HB; have HO385 := n0_; have HO389 := n1_; have HO392 := n2_; have HB := n3_; clear n0_ n1_ n2_ n3_; clear hb ho22) | ((with_reducible refine gate_builtin (b := .append) (xs := #[.tmp 37, .tmp 38]) rfl ?_); (try (refine gate_guard (by rfl) ?_; dsimp only)); at_builtin; refine Kd.R_append_rows k48 (w0 := w) w.heap.size rfl (.tmp 37) (.tmp 38) 24 48 (.agg #[(.int .i64 0), (.int .i64 0), (.int .i64 0), (.int .u32 0)]) 32 rfl Tryd.underlying24 info48 rfl (by decide) (by omega) v391 y390 l0 _ _ _ (fun _ => True) (fun _ => False) rfl rfl ?aO ?aR (fun _ _ h => h) (fun _ h => h.elim) ?aF ?aB ?aS ?aL ?_; (case aR => repeat (first | exact (Kd.C_below HR0.out HB.out) | (with_reducible refine Kd.C_alloc ?_ _) | (with_reducible refine Kd.C_drewN ?_ _) | (with_reducible refine Kd.C_drew ?_))); (case aB => exact (by repeat (first | (with_reducible first | exact HB.out | apply below_alloc | apply pw_below_drewN | apply below_drew1) | exact HB.out))); (case aF => exact (fun _ _ => trivial)); (case aO => exact (by (with_reducible repeat (first | apply Kd.R_alloc | apply Kd.R_drewN | apply Kd.R_drew)); exact HO392.out)); (case aS => exact (below_size (by repeat (first | (with_reducible first | exact HB.out | apply below_alloc | apply pw_below_drewN | apply below_drew1) | exact HB.out)))); (case aL => have := LMc10.out; omega); intro v394 w23 ho hb hg hat; rw [← Ny393.out] at ho; have n0_ := Aside0.mk (Kd.R_over' (by (with_reducible repeat (first | apply Kd.R_alloc | apply Kd.R_drewN | apply Kd.R_drew)); exact HO385.out) (Kd.R_typed (by (with_reducible repeat (first | apply Kd.R_alloc | apply Kd.R_drewN | apply Kd.R_drew)); exact HO392.out)) (by decide) hg); have n1_ := Aside0.mk (Kd.R_over' (by (with_reducible repeat (first | apply Kd.R_alloc | apply Kd.R_drewN | apply Kd.R_drew)); exact HO389.out) (Kd.R_typed (by (with_reducible repeat (first | apply Kd.R_alloc | apply Kd.R_drewN | apply Kd.R_drew)); exact HO392.out)) (by decide) hg); have n2_ := Aside0.mk (hb); have n3_ := Aside0.mk (ho); clear HO385; clear HO389; clear HB; clear HO392; have HO385 := n0_; have HO389 := n1_; have HB := n2_; have HO395 := n3_; clear n0_ n1_ n2_ n3_; clear ho hb hg hat) | ((with_reducible refine gate_builtin (b := .append) (xs := #[.tmp 39, .tmp 40]) rfl ?_); (try (refine gate_guard (by rfl) ?_; dsimp only)); at_builtin; refine Kd.R_append_rows k48 (w0 := w) w.heap.size rfl (.tmp 39) (.tmp 40) 24 48 (.agg #[(.int .i64 0), (.int .i64 0), (.int .i64 0), (.int .u32 0)]) 32 rfl Tryd.underlying24 info48 rfl (by decide) (by omega) v394 y393 l1 _ _ _ (fun _ => True) (fun _ => False) rfl rfl ?aO ?aR (fun _ _ h => h) (fun _ h => h.elim) ?aF ?aB ?aS ?aL ?_; (case aR => repeat (first | exact (Kd.C_below HR1.out HB.out) | (with_reducible refine Kd.C_alloc ?_ _) | (with_reducible refine Kd.C_drewN ?_ _) | (with_reducible refine Kd.C_drew ?_))); (case aB => exact (by repeat (first | (with_reducible first | exact HB.out | apply below_alloc | apply pw_below_drewN | apply below_drew1) | exact HB.out))); (case aF => exact (fun _ _ => trivial)); (case aO => exact (by (with_reducible repeat (first | apply Kd.R_alloc | apply Kd.R_drewN | apply Kd.R_drew)); exact HO395.out)); (case aS => exact (below_size (by repeat (first | (with_reducible first | exact HB.out | apply below_alloc | apply pw_below_drewN | apply below_drew1) | exact HB.out)))); (case aL => have := LMc11.out; omega); intro v397 w24 ho hb hg hat; rw [← Ny396.out] at ho; have n0_ := Aside0.mk (Kd.R_over' (by (with_reducible repeat (first | apply Kd.R_alloc | apply Kd.R_drewN | apply Kd.R_drew)); exact HO385.out) (Kd.R_typed (by (with_reducible repeat (first | apply Kd.R_alloc | apply Kd.R_drewN | apply Kd.R_drew)); exact HO395.out)) (by decide) hg); have n1_ := Aside0.mk (Kd.R_over' (by (with_reducible repeat (first | apply Kd.R_alloc | apply Kd.R_drewN | apply Kd.R_drew)); exact HO389.out) (Kd.R_typed (by (with_reducible repeat (first | apply Kd.R_alloc | apply Kd.R_drewN | apply Kd.R_drew)); exact HO395.out)) (by decide) hg); have n2_ := Aside0.mk (hb); have n3_ := Aside0.mk (ho); clear HO385; clear HO389; clear HB; clear HO395; have HO385 := n0_; have HO389 := n1_; have HB := n2_; have HO398 := n3_; clear n0_ n1_ n2_ n3_; clear ho hb hg hat; obtain ⟨Ao25, co25, eo25⟩ := Kd.R_slice HO398.out; subst eo25) | ((with_reducible refine gate_callee (f := 15) rfl ?_); refine goesL_ (some 42) rfl rfl Tryd.func15 (by kernel_rfl) rfl #[.slice Ao25 y396.length co25] rfl (by (try simp only [List.map_toArray, List.map_cons, List.map_nil]); first | done | rfl | (simp only [List.length_drop, List.length_take]; rfl)) ?_; (with_reducible refine (codec_Encode.calls kj2 _ _ y396 t399 t400 _ ?side1 ?side2 ?side3 A12.out).mono ?_); (case side1 => repeat (first | exact (Kd.R_reads' HO398.out).2.2 | (with_reducible refine Kd.C_alloc ?_ _) | (with_reducible refine Kd.C_drewN ?_ _) | (with_reducible refine Kd.C_drew ?_))); (case side2 => exact (Kd.R_reads' HO398.out).2.1); (case side3 => exact Glob.below HG.out (by repeat (first | (with_reducible first | exact HB.out | apply below_alloc | apply pw_below_drewN | apply below_drew1) | exact HB.out))); rintro e w26 ⟨v401, rfl, ho0, hb⟩; refine ⟨_, rfl, ?_⟩; have n0_ := Aside0.mk (Kd.R_elder' (by (with_reducible repeat (first | apply Kd.R_alloc | apply Kd.R_drewN | apply Kd.R_drew)); exact HO385.out) (Kd.R_base ho0) hb); have n1_ := Aside0.mk (Kd.R_elder' (by (with_reducible repeat (first | apply Kd.R_alloc | apply Kd.R_drewN | apply Kd.R_drew)); exact HO389.out) (Kd.R_base ho0) hb); have n2_ := Aside0.mk (Kd.R_below (by (with_reducible repeat (first | apply Kd.R_alloc | apply Kd.R_drewN | apply Kd.R_drew)); exact HO398.out) hb); have n3_ := Aside0.mk (Kd.R_lower (Kd.R_new' (Kd.R_new' ho0 (Kd.R_lt (by (with_reducible repeat (first | apply Kd.R_alloc | apply Kd.R_drewN | apply Kd.R_drew)); exact HO385.out))) (Kd.R_lt (by (with_reducible repeat (first | apply Kd.R_alloc | apply Kd.R_drewN | apply Kd.R_drew)); exact HO389.out))) (below_size (by repeat (first | (with_reducible first | exact HB.out | apply below_alloc | apply pw_below_drewN | apply below_drew1) | exact HB.out)))); have n4_ := Aside0.mk (below_step (by repeat (first | (with_reducible first | exact HB.out | apply below_alloc | apply pw_below_drewN | apply below_drew1) | exact HB.out)) hb); clear HO385; clear HO389; clear HO398; clear HB; have HO385 := n0_; have HO389 := n1_; have HO398 := n2_; have HO402 := n3_; have HB := n4_; clear n0_ n1_ n2_ n3_ n4_; (try clear hb); (try clear hb2); (try clear hk); (try clear hi); (try clear ho0)) | ((with_reducible refine gate_callee (f := 16) rfl ?_); refine goesL_ (some 47) rfl rfl Tryd.func16 (by kernel_rfl) rfl #[.slice A0 l0.length c0] rfl (by (try simp only [List.map_toArray, List.map_cons, List.map_nil]); first | done | rfl | (simp only [List.length_drop, List.length_take]; rfl)) ?_; (with_reducible refine (codec_Print.calls kj2 _ _ l0 t403 t404 _ ?side1 ?side2 ?side3 A13.out).mono ?_); (case side1 => repeat (first | exact (Kd.C_below HR0.out HB.out) | (with_reducible refine Kd.C_alloc ?_ _) | (with_reducible refine Kd.C_drewN ?_ _) | (with_reducible refine Kd.C_drew ?_))); (case side2 => exact HC0.out); (case side3 => exact Glob.below HG.out (by repeat (first | (with_reducible first | exact HB.out | apply below_alloc | apply pw_below_drewN | apply below_drew1) | exact HB.out))); rintro e w27 ⟨rfl, hb⟩; refine ⟨_, rfl, ?_⟩; have n0_ := Aside0.mk (Kd.R_below (by (with_reducible repeat (first | apply Kd.R_alloc | apply Kd.R_drewN | apply Kd.R_drew)); exact HO385.out) hb); have n1_ := Aside0.mk (Kd.R_below (by (with_reducible repeat (first | apply Kd.R_alloc | apply Kd.R_drewN | apply Kd.R_drew)); exact HO389.out) hb); have n2_ := Aside0.mk (Kd.R_below (by (with_reducible repeat (first | apply Kd.R_alloc | apply Kd.R_drewN | apply Kd.R_drew)); exact HO398.out) hb); have n3_ := Aside0.mk (Kd.R_below (by (with_reducible repeat (first | apply Kd.R_alloc | apply Kd.R_drewN | apply Kd.R_drew)); exact HO402.out) hb); have n4_ := Aside0.mk (below_step (by repeat (first | (with_reducible first | exact HB.out | apply below_alloc | apply pw_below_drewN | apply below_drew1) | exact HB.out)) hb); clear HO385; clear HO389; clear HO398; clear HO402; clear HB; have HO385 := n0_; have HO389 := n1_; have HO398 := n2_; have HO402 := n3_; have HB := n4_; clear n0_ n1_ n2_ n3_ n4_; (try clear hb); (try clear hb2); (try clear hk); (try clear hi)) | ((with_reducible refine gate_callee (f := 16) rfl ?_); refine goesL_ (some 52) rfl rfl Tryd.func16 (by kernel_rfl) rfl #[.slice A1 l1.length c1] rfl (by (try simp only [List.map_toArray, List.map_cons, List.map_nil]); first | done | rfl | (simp only [List.length_drop, List.length_take]; rfl)) ?_; (with_reducible refine (codec_Print.calls kj2 _ _ l1 t405 t406 _ ?side1 ?side2 ?side3 A14.out).mono ?_); (case side1 => repeat (first | exact (Kd.C_below HR1.out HB.out) | (with_reducible refine Kd.C_alloc ?_ _) | (with_reducible refine Kd.C_drewN ?_ _) | (with_reducible refine Kd.C_drew ?_))); (case side2 => exact HC1.out); (case side3 => exact Glob.below HG.out (by repeat (first | (with_reducible first | exact HB.out | apply below_alloc | apply pw_below_drewN | apply below_drew1) | exact HB.out))); rintro e w28 ⟨rfl, hb⟩; refine ⟨_, rfl, ?_⟩; have n0_ := Aside0.mk (Kd.R_below (by (with_reducible repeat (first | apply Kd.R_alloc | apply Kd.R_drewN | apply Kd.R_drew)); exact HO385.out) hb); have n1_ := Aside0.mk (Kd.R_below (by (with_reducible repeat (first | apply Kd.R_alloc | apply Kd.R_drewN | apply Kd.R_drew)); exact HO389.out) hb); have n2_ := Aside0.mk (Kd.R_below (by (with_reducible repeat (first | apply Kd.R_alloc | apply Kd.R_drewN | apply Kd.R_drew)); exact HO398.out) hb); have n3_ := Aside0.mk (Kd.R_below (by (with_reducible repeat (first | apply Kd.R_alloc | apply Kd.R_drewN | apply Kd.R_drew)); exact HO402.out) hb); have n4_ := Aside0.mk (below_step (by repeat (first | (with_reducible first | exact HB.out | apply below_alloc | apply pw_below_drewN | apply below_drew1) | exact HB.out)) hb); clear HO385; clear HO389; clear HO398; clear HO402; clear HB; have HO385 := n0_; have HO389 := n1_; have HO398 := n2_; have HO402 := n3_; have HB := n4_; clear n0_ n1_ n2_ n3_ n4_; (try clear hb); (try clear hb2); (try clear hk); (try clear hi)) | ((with_reducible refine gate_dst (N := 56) rfl ?_); (try (refine gate_guard (by rfl) ?_; dsimp only)); refine Kd.R_lit k48 _ 48 ?hg (N := 56) ?hd (xs := ([] : List (S48))) (inner := []) (ok := fun _ => True) (okp := fun _ => True) ?hr ?hp (fun _ hk => hk) trivial (Below.refl _ _) (Nat.le_refl _) (by simp) ?_; (case hd => rfl); (case hg => rfl); (case hr => first | (go_simp; done) | (go_simp; rfl)); (case hp => exact (Reps.none _ _)); intro v408 w29 ho30 hb hg_ hnew_; clear hg_ hnew_; (first | rw [← Ny407.out] at ho30 | (simp only [Int.reduceToNat] at ho30; rw [← Ny407.out] at ho30)); have n0_ := Aside0.mk (Kd.R_below (by (with_reducible repeat (first | apply Kd.R_alloc | apply Kd.R_drewN | apply Kd.R_drew)); exact HO385.out) hb); have n1_ := Aside0.mk (Kd.R_below (by (with_reducible repeat (first | apply Kd.R_alloc | apply Kd.R_drewN | apply Kd.R_drew)); exact HO389.out) hb); have n2_ := Aside0.mk (Kd.R_elder' (by (with_reducible repeat (first | apply Kd.R_alloc | apply Kd.R_drewN | apply Kd.R_drew)); exact HO398.out) (Kd.R_base ho30) hb); have n3_ := Aside0.mk (Kd.R_below (by (with_reducible repeat (first | apply Kd.R_alloc | apply Kd.R_drewN | apply Kd.R_drew)); exact HO402.out) hb); have n4_ := Aside0.mk (Kd.R_lower (Kd.R_new' ho30 (Kd.R_lt (by (with_reducible repeat (first | apply Kd.R_alloc | apply Kd.R_drewN | apply Kd.R_drew)); exact HO398.out))) (below_size (by repeat (first | (with_reducible first | exact HB.out | apply below_alloc | apply pw_below_drewN | apply below_drew1) | exact HB.out)))); have n5_ := Aside0.mk (below_step (by repeat (first | (with_reducible first | exact HB.out | apply below_alloc | apply pw_below_drewN | apply below_drew1) | exact HB.out)) hb); clear HO385; clear HO389; clear HO398; clear HO402; clear HB; have HO385 := n0_; have HO389 := n1_; have HO398 := n2_; have HO402 := n3_; have HO409 := n4_; have HB := n5_; clear n0_ n1_ n2_ n3_ n4_ n5_; clear hb ho30) | ((with_reducible refine gate_builtin (b := .append) (xs := #[.tmp 56, .tmp 57]) rfl ?_); (try (refine gate_guard (by rfl) ?_; dsimp only)); at_builtin; refine Kd.R_append_rows k48 (w0 := w) w.heap.size rfl (.tmp 56) (.tmp 57) 24 48 (.agg #[(.int .i64 0), (.int .i64 0), (.int .i64 0), (.int .u32 0)]) 32 rfl Tryd.underlying24 info48 rfl (by decide) (by omega) v408 y407 l0 _ _ _ (fun k_ => some k_ ≠ (.slice Ao25 y396.length co25 : Value).ownBlock) (fun _ => False) rfl rfl ?aO ?aR (fun _ _ h => h) (fun _ h => h.elim) ?aF ?aB ?aS ?aL ?_; (case aR => repeat (first | exact (Kd.C_below HR0.out HB.out) | (with_reducible refine Kd.C_alloc ?_ _) | (with_reducible refine Kd.C_drewN ?_ _) | (with_reducible refine Kd.C_drew ?_))); (case aB => exact (by repeat (first | (with_reducible first | exact HB.out | apply below_alloc | apply pw_below_drewN | apply below_drew1) | exact HB.out))); (case aF => exact (fun k_ hk => Kd.fresh' (Kd.R_lt (by (with_reducible repeat (first | apply Kd.R_alloc | apply Kd.R_drewN | apply Kd.R_drew)); exact HO398.out)) k_ hk)); (case aO => exact (by (with_reducible repeat (first | apply Kd.R_alloc | apply Kd.R_drewN | apply Kd.R_drew)); exact Kd.R_mono HO409.out (fun _ hk => hk.2))); (case aS => exact (below_size (by repeat (first | (with_reducible first | exact HB.out | apply below_alloc | apply pw_below_drewN | apply below_drew1) | exact HB.out)))); (case aL => have := LMc15.out; omega); intro v411 w31 ho hb hg hat; rw [← Ny410.out] at ho; have n0_ := Aside0.mk (Kd.R_over' (by (with_reducible repeat (first | apply Kd.R_alloc | apply Kd.R_drewN | apply Kd.R_drew)); exact HO385.out) (Kd.R_typed (by (with_reducible repeat (first | apply Kd.R_alloc | apply Kd.R_drewN | apply Kd.R_drew)); exact HO409.out)) (by decide) hg); have n1_ := Aside0.mk (Kd.R_over' (by (with_reducible repeat (first | apply Kd.R_alloc | apply Kd.R_drewN | apply Kd.R_drew)); exact HO389.out) (Kd.R_typed (by (with_reducible repeat (first | apply Kd.R_alloc | apply Kd.R_drewN | apply Kd.R_drew)); exact HO409.out)) (by decide) hg); have n2_ := Aside0.mk (Kd.R_after (ok := (fun _ => True)) (by (with_reducible repeat (first | apply Kd.R_alloc | apply Kd.R_drewN | apply Kd.R_drew)); exact HO398.out) hg hat); have n3_ := Aside0.mk (Kd.R_over' (by (with_reducible repeat (first | apply Kd.R_alloc | apply Kd.R_drewN | apply Kd.R_drew)); exact HO402.out) (Kd.R_typed (by (with_reducible repeat (first | apply Kd.R_alloc | apply Kd.R_drewN | apply Kd.R_drew)); exact HO409.out)) (by decide) hg); have n4_ := Aside0.mk (hb); have n5_ := Aside0.mk (ho); clear HO385; clear HO389; clear HO398; clear HO402; clear HB; clear HO409; have HO385 := n0_; have HO389 := n1_; have HO398 := n2_; have HO402 := n3_; have HB := n4_; have HO412 := n5_; clear n0_ n1_ n2_ n3_ n4_ n5_; clear ho hb hg hat) | ((with_reducible refine gate_builtin (b := .append) (xs := #[.tmp 58, .tmp 59]) rfl ?_); (try (refine gate_guard (by rfl) ?_; dsimp only)); at_builtin; refine Kd.R_append_rows k48 (w0 := w) w.heap.size rfl (.tmp 58) (.tmp 59) 24 48 (.agg #[(.int .i64 0), (.int .i64 0), (.int .i64 0), (.int .u32 0)]) 32 rfl Tryd.underlying24 info48 rfl (by decide) (by omega) v411 y410 l1 _ _ _ (fun k_ => some k_ ≠ (.slice Ao25 y396.length co25 : Value).ownBlock) (fun _ => False) rfl rfl ?aO ?aR (fun _ _ h => h) (fun _ h => h.elim) ?aF ?aB ?aS ?aL ?_; (case aR => repeat (first | exact (Kd.C_below HR1.out HB.out) | (with_reducible refine Kd.C_alloc ?_ _) | (with_reducible refine Kd.C_drewN ?_ _) | (with_reducible refine Kd.C_drew ?_))); (case aB => exact (by repeat (first | (with_reducible first | exact HB.out | apply below_alloc | apply pw_below_drewN | apply below_drew1) | exact HB.out))); (case aF => exact (fun k_ hk => Kd.fresh' (Kd.R_lt (by (with_reducible repeat (first | apply Kd.R_alloc | apply Kd.R_drewN | apply Kd.R_drew)); exact HO398.out)) k_ hk)); (case aO => exact (by (with_reducible repeat (first | apply Kd.R_alloc | apply Kd.R_drewN | apply Kd.R_drew)); exact HO412.out)); (case aS => exact (below_size (by repeat (first | (with_reducible first | exact HB.out | apply below_alloc | apply pw_below_drewN | apply below_drew1) | exact HB.out)))); (case aL => have := LMc16.out; omega); intro v414 w32 ho hb hg hat; rw [← Ny413.out] at ho; have n0_ := Aside0.mk (Kd.R_over' (by (with_reducible repeat (first | apply Kd.R_alloc | apply Kd.R_drewN | apply Kd.R_drew)); exact HO385.out) (Kd.R_typed (by (with_reducible repeat (first | apply Kd.R_alloc | apply Kd.R_drewN | apply Kd.R_drew)); exact HO412.out)) (by decide) hg); have n1_ := Aside0.mk (Kd.R_over' (by (with_reducible repeat (first | apply Kd.R_alloc | apply Kd.R_drewN | apply Kd.R_drew)); exact HO389.out) (Kd.R_typed (by (with_reducible repeat (first | apply Kd.R_alloc | apply Kd.R_drewN | apply Kd.R_drew)); exact HO412.out)) (by decide) hg); have n2_ := Aside0.mk (Kd.R_after (ok := (fun _ => True)) (by (with_reducible repeat (first | apply Kd.R_alloc | apply Kd.R_drewN | apply Kd.R_drew)); exact HO398.out) hg hat); have n3_ := Aside0.mk (Kd.R_over' (by (with_reducible repeat (first | apply Kd.R_alloc | apply Kd.R_drewN | apply Kd.R_drew)); exact HO402.out) (Kd.R_typed (by (with_reducible repeat (first | apply Kd.R_alloc | apply Kd.R_drewN | apply Kd.R_drew)); exact HO412.out)) (by decide) hg); have n4_ := Aside0.mk (hb); have n5_ := Aside0.mk (ho); clear HO385; clear HO389; clear HO398; clear HO402; clear HB; clear HO412; have HO385 := n0_; have HO389 := n1_; have HO398 := n2_; have HO402 := n3_; have HB := n4_; have HO415 := n5_; clear n0_ n1_ n2_ n3_ n4_ n5_; clear ho hb hg hat; obtain ⟨Ao33, co33, eo33⟩ := Kd.R_slice HO415.out; subst eo33) | ((with_reducible refine gate_callee (f := 16) rfl ?_); refine goesL_ (some 61) rfl rfl Tryd.func16 (by kernel_rfl) rfl #[.slice Ao33 y413.length co33] rfl (by (try simp only [List.map_toArray, List.map_cons, List.map_nil]); first | done | rfl | (simp only [List.length_drop, List.length_take]; rfl)) ?_; (with_reducible refine (codec_Print.calls kj2 _ _ y413 t416 t417 _ ?side1 ?side2 ?side3 A17.out).mono ?_); (case side1 => repeat (first | exact (Kd.R_reads' HO415.out).2.2 | (with_reducible refine Kd.C_alloc ?_ _) | (with_reducible refine Kd.C_drewN ?_ _) | (with_reducible refine Kd.C_drew ?_))); (case side2 => exact (Kd.R_reads' HO415.out).2.1); (case side3 => exact Glob.below HG.out (by repeat (first | (with_reducible first | exact HB.out | apply below_alloc | apply pw_below_drewN | apply below_drew1) | exact HB.out))); rintro e w34 ⟨rfl, hb⟩; refine ⟨_, rfl, ?_⟩; have n0_ := Aside0.mk (Kd.R_below (by (with_reducible repeat (first | apply Kd.R_alloc | apply Kd.R_drewN | apply Kd.R_drew)); exact HO385.out) hb); have n1_ := Aside0.mk (Kd.R_below (by (with_reducible repeat (first | apply Kd.R_alloc | apply Kd.R_drewN | apply Kd.R_drew)); exact HO389.out) hb); have n2_ := Aside0.mk (Kd.R_below (by (with_reducible repeat (first | apply Kd.R_alloc | apply Kd.R_drewN | apply Kd.R_drew)); exact HO398.out) hb); have n3_ := Aside0.mk (Kd.R_below (by (with_reducible repeat (first | apply Kd.R_alloc | apply Kd.R_drewN | apply Kd.R_drew)); exact HO402.out) hb); have n4_ := Aside0.mk (Kd.R_below (by (with_reducible repeat (first | apply Kd.R_alloc | apply Kd.R_drewN | apply Kd.R_drew)); exact HO415.out) hb); have n5_ := Aside0.mk (below_step (by repeat (first | (with_reducible first | exact HB.out | apply below_alloc | apply pw_below_drewN | apply below_drew1) | exact HB.out)) hb); clear HO385; clear HO389; clear HO398; clear HO402; clear HO415; clear HB; have HO385 := n0_; have HO389 := n1_; have HO398 := n2_; have HO402 := n3_; have HO415 := n4_; have HB := n5_; clear n0_ n1_ n2_ n3_ n4_ n5_; (try clear hb); (try clear hb2); (try clear hk); (try clear hi)))
                (try simp only [Act.put, List.setIfInBounds_toArray, List.set_cons_zero, List.set_cons_succ])
                go_cut [69] (fun v69 wc => ∃ (kq : Nat) (x69_17 : Bool), v69 = .bool x69_17 ∧ Aside0 (hurdlelaw03_CodecRows.j1 kq t382 t386 t399 t400 t403 t405 t416 x69_17 = some r) ∧ Aside0 (kq ≤ kj2) ∧ Aside0 (Kd.R (Kd.int .u8) 5 wc w.heap.size (fun k_ => some k_ ≠ (v388 : Value).ownBlock ∧ some k_ ≠ (v401 : Value).ownBlock) v384 t382) ∧ Aside0 (Kd.R (Kd.int .u8) 5 wc w.heap.size (fun k_ => some k_ ≠ (v384 : Value).ownBlock ∧ some k_ ≠ (v401 : Value).ownBlock) v388 t386) ∧ Aside0 (Kd.R (Kd.int .u8) 5 wc w.heap.size (fun k_ => some k_ ≠ (v384 : Value).ownBlock ∧ some k_ ≠ (v388 : Value).ownBlock) v401 t399) ∧ Aside0 (Below w.heap.size w wc))
                case first =>
                  have H := HC18.out
                  clear HC18
                  by_cases c35 : t383 = 0
                  · rw [if_pos c35] at H
                    have c35b0 : (t383 == 0) = true := beq_iff_eq.mpr c35
                    have c35b1 : (t383 != 0) = false := bne_eq_false_iff_eq.mpr c35
                    clear c35
                    (first | rw [c35b0] | (simp only [i64_w, i32_w]; rw [c35b0]) | skip)
                    have H' := Aside0.mk H
                    clear H
                    go_wp2
                    go_meet
                    case rel => exact ⟨_, ((t387 != 0)), (by first | rfl | (simp; done) | (simp [*]; done)), H', ⟨by have := HJ2.out; first | omega | exact Nat.le_refl _⟩, ⟨by (with_reducible repeat (first | apply Kd.R_alloc | apply Kd.R_drewN | apply Kd.R_drew)); exact Kd.R_mono HO385.out (fun _ hk => ⟨hk.1.2, hk.2⟩)⟩, ⟨by (with_reducible repeat (first | apply Kd.R_alloc | apply Kd.R_drewN | apply Kd.R_drew)); exact Kd.R_mono HO389.out (fun _ hk => ⟨hk.1.2, hk.2⟩)⟩, ⟨by (with_reducible repeat (first | apply Kd.R_alloc | apply Kd.R_drewN | apply Kd.R_drew)); exact Kd.R_mono HO402.out (fun _ hk => ⟨hk.1.2, hk.2⟩)⟩, ⟨by repeat (first | (with_reducible first | exact HB.out | apply below_alloc | apply pw_below_drewN | apply below_drew1) | exact HB.out)⟩⟩
                  · rw [if_neg c35] at H
                    have c35b0 : (t383 == 0) = false := beq_eq_false_iff_ne.mpr c35
                    have c35b1 : (t383 != 0) = true := bne_iff_ne.mpr c35
                    (first | rw [c35b0] | (simp only [i64_w, i32_w]; rw [c35b0]) | skip)
                    have H' := Aside0.mk H
                    clear H
                    go_wp2
                    go_meet
                    case rel => exact ⟨_, (true), (by first | rfl | (simp; done) | (simp [*]; done)), H', ⟨by have := HJ2.out; first | omega | exact Nat.le_refl _⟩, ⟨by (with_reducible repeat (first | apply Kd.R_alloc | apply Kd.R_drewN | apply Kd.R_drew)); exact Kd.R_mono HO385.out (fun _ hk => ⟨hk.1.2, hk.2⟩)⟩, ⟨by (with_reducible repeat (first | apply Kd.R_alloc | apply Kd.R_drewN | apply Kd.R_drew)); exact Kd.R_mono HO389.out (fun _ hk => ⟨hk.1.2, hk.2⟩)⟩, ⟨by (with_reducible repeat (first | apply Kd.R_alloc | apply Kd.R_drewN | apply Kd.R_drew)); exact Kd.R_mono HO402.out (fun _ hk => ⟨hk.1.2, hk.2⟩)⟩, ⟨by repeat (first | (with_reducible first | exact HB.out | apply below_alloc | apply pw_below_drewN | apply below_drew1) | exact HB.out)⟩⟩
                case rest =>
                  clear HC18
                  try clear c1
                  try clear p2
                  try clear c3
                  try clear c4
                  try clear c4b0
                  try clear c4b1
                  try clear c5
                  try clear c8
                  try clear c9
                  try clear c10
                  try clear c11
                  try clear c15
                  try clear c16
                  try clear c35
                  try clear c35b0
                  try clear c35b1
                  try clear p2
                  obtain ⟨kq, x69_17, rfl, HA, HJ17, HO_5, HO_7, HO_9, HB⟩ := hcut
                  cases kq with
                  | zero => exact absurd HA.out (by simp [hurdlelaw03_CodecRows.j1])
                  | succ kj17 =>
                    have H := HA.out
                    clear HA
                    simp only [hurdlelaw03_CodecRows.j1] at H
                    by_cases c36 : x69_17 = true
                    · subst c36
                      have H1 : (if t400 = 1 then ((hurdlelaw03_knows.f kj17).bind fun t418 => (some t418)) else (none)) = some r := by rw [if_pos rfl] at H; exact H
                      clear H
                      have H := H1
                      clear H1
                      by_cases c37 : t400 = 1
                      · rw [if_pos c37] at H
                        have c37b0 : (t400 == 1) = true := beq_iff_eq.mpr c37
                        have c37b1 : (t400 != 1) = false := bne_eq_false_iff_eq.mpr c37
                        clear c37
                        replace H := Option.bind_eq_some_iff.mp H
                        obtain ⟨t418, A380, H⟩ := H
                        replace H : (some t418) = some r := H
                        have A38 := Aside0.mk A380
                        clear A380
                        obtain rfl := Option.some.inj H
                        go_wp2_with (first | (go_at_call 9; (with_reducible refine (hurdlelaw03_knows.calls kj17  t418 _ ?side1 A38.out).mono ?_); (case side1 => exact Glob.below HG.out (by repeat (first | (with_reducible first | exact HB.out | apply below_alloc | apply pw_below_drewN | apply below_drew1) | exact HB.out))); rintro e w39 ⟨rfl, hb⟩; have n0_ := Aside0.mk (Kd.R_below (by (with_reducible repeat (first | apply Kd.R_alloc | apply Kd.R_drewN | apply Kd.R_drew)); exact HO_5.out) hb); have n1_ := Aside0.mk (Kd.R_below (by (with_reducible repeat (first | apply Kd.R_alloc | apply Kd.R_drewN | apply Kd.R_drew)); exact HO_7.out) hb); have n2_ := Aside0.mk (Kd.R_below (by (with_reducible repeat (first | apply Kd.R_alloc | apply Kd.R_drewN | apply Kd.R_drew)); exact HO_9.out) hb); have n3_ := Aside0.mk (below_step (by repeat (first | (with_reducible first | exact HB.out | apply below_alloc | apply pw_below_drewN | apply below_drew1) | exact HB.out)) hb); clear HO_5; clear HO_7; clear HO_9; clear HB; have HO_5 := n0_; have HO_7 := n1_; have HO_9 := n2_; have HB := n3_; clear n0_ n1_ n2_ n3_; (try clear hb); (try clear hb2); (try clear hk); (try clear hi)))
                        go_ret
                        exact ⟨by first | rfl | (simp [errW_none, errW_some] <;> rfl) | (simp [*, errW_none, errW_some] <;> rfl), by repeat (first | (with_reducible first | exact HB.out | apply below_alloc | apply pw_below_drewN | apply below_drew1) | exact HB.out)⟩
                      · rw [if_neg c37] at H
                        exact absurd H (by simp)
                    · replace c36 := Bool.eq_false_iff.mpr c36
                      subst c36
                      have H1 : (if t400 = 0 then (if (strOfNums t382).size + (strOfNums t386).size ≤ 9223372036854775807 then (if (strOfNums t399).toList = ((strOfNums t382) ++ (strOfNums t386)).toList then (if t403.size + t405.size ≤ 9223372036854775807 then (if t416.toList = (t403 ++ t405).toList then ((hurdlelaw03_knows.f kj17).bind fun t419 => (some t419)) else (none)) else (none)) else (none)) else (none)) else (none)) = some r := by rw [if_neg (show ¬ (false = true) by decide)] at H; exact H
                      clear H
                      have H := H1
                      clear H1
                      by_cases c40 : t400 = 0
                      · rw [if_pos c40] at H
                        have c40b0 : (t400 == 0) = true := beq_iff_eq.mpr c40
                        have c40b1 : (t400 != 0) = false := bne_eq_false_iff_eq.mpr c40
                        clear c40
                        by_cases c41 : (strOfNums t382).size + (strOfNums t386).size ≤ 9223372036854775807
                        · rw [if_pos c41] at H
                          have c41b0 := eq_true c41
                          have c41b1 : decide ((strOfNums t382).size + (strOfNums t386).size ≤ 9223372036854775807) = true := decide_eq_true c41
                          try have c41b2 : (9223372036854775807 < (strOfNums t382).size + (strOfNums t386).size) = False := eq_false (Nat.not_lt.2 c41)
                          by_cases c42 : (strOfNums t399).toList = ((strOfNums t382) ++ (strOfNums t386)).toList
                          · rw [if_pos c42] at H
                            have c42b0 : ((strOfNums t399).toList == ((strOfNums t382) ++ (strOfNums t386)).toList) = true := beq_iff_eq.mpr c42
                            have c42b1 : ((strOfNums t399).toList != ((strOfNums t382) ++ (strOfNums t386)).toList) = false := bne_eq_false_iff_eq.mpr c42
                            clear c42
                            by_cases c43 : t403.size + t405.size ≤ 9223372036854775807
                            · rw [if_pos c43] at H
                              have c43b0 := eq_true c43
                              have c43b1 : decide (t403.size + t405.size ≤ 9223372036854775807) = true := decide_eq_true c43
                              try have c43b2 : (9223372036854775807 < t403.size + t405.size) = False := eq_false (Nat.not_lt.2 c43)
                              by_cases c44 : t416.toList = (t403 ++ t405).toList
                              · rw [if_pos c44] at H
                                have c44b0 : (t416.toList == (t403 ++ t405).toList) = true := beq_iff_eq.mpr c44
                                have c44b1 : (t416.toList != (t403 ++ t405).toList) = false := bne_eq_false_iff_eq.mpr c44
                                clear c44
                                replace H := Option.bind_eq_some_iff.mp H
                                obtain ⟨t419, A450, H⟩ := H
                                replace H : (some t419) = some r := H
                                have A45 := Aside0.mk A450
                                clear A450
                                obtain rfl := Option.some.inj H
                                have hcv46 := own_string (P := Tryd.prog) Tryd.underlying22 Tryd.underlying5 Tryd.underlying9 (Kd.own_of_R HO_9.out)
                                have hcv47 := own_string (P := Tryd.prog) Tryd.underlying22 Tryd.underlying5 Tryd.underlying9 (Kd.own_of_R HO_5.out)
                                have hcv48 := own_string (P := Tryd.prog) Tryd.underlying22 Tryd.underlying5 Tryd.underlying9 (Kd.own_of_R HO_7.out)
                                go_wp2_with (first | (go_at_call 9; (with_reducible refine (hurdlelaw03_knows.calls kj17  t419 _ ?side1 A45.out).mono ?_); (case side1 => exact Glob.below HG.out (by repeat (first | (with_reducible first | exact HB.out | apply below_alloc | apply pw_below_drewN | apply below_drew1) | exact HB.out))); rintro e w49 ⟨rfl, hb⟩; have n0_ := Aside0.mk (Kd.R_below (by (with_reducible repeat (first | apply Kd.R_alloc | apply Kd.R_drewN | apply Kd.R_drew)); exact HO_5.out) hb); have n1_ := Aside0.mk (Kd.R_below (by (with_reducible repeat (first | apply Kd.R_alloc | apply Kd.R_drewN | apply Kd.R_drew)); exact HO_7.out) hb); have n2_ := Aside0.mk (Kd.R_below (by (with_reducible repeat (first | apply Kd.R_alloc | apply Kd.R_drewN | apply Kd.R_drew)); exact HO_9.out) hb); have n3_ := Aside0.mk (below_step (by repeat (first | (with_reducible first | exact HB.out | apply below_alloc | apply pw_below_drewN | apply below_drew1) | exact HB.out)) hb); clear HO_5; clear HO_7; clear HO_9; clear HB; have HO_5 := n0_; have HO_7 := n1_; have HO_9 := n2_; have HB := n3_; clear n0_ n1_ n2_ n3_; (try clear hb); (try clear hb2); (try clear hk); (try clear hi)))
                                go_ret
                                exact ⟨by first | rfl | (simp [errW_none, errW_some] <;> rfl) | (simp [*, errW_none, errW_some] <;> rfl), by repeat (first | (with_reducible first | exact HB.out | apply below_alloc | apply pw_below_drewN | apply below_drew1) | exact HB.out)⟩
                              · rw [if_neg c44] at H
                                exact absurd H (by simp)
                            · rw [if_neg c43] at H
                              exact absurd H (by simp)
                          · rw [if_neg c42] at H
                            exact absurd H (by simp)
                        · rw [if_neg c41] at H
                          exact absurd H (by simp)
                      · rw [if_neg c40] at H
                        exact absurd H (by simp)
              · rw [if_neg c16] at H
                exact absurd H (by simp)
            · rw [if_neg c15] at H
              exact absurd H (by simp)
          · rw [if_neg c11] at H
            exact absurd H (by simp)
        · rw [if_neg c10] at H
          exact absurd H (by simp)

end Go.Proofs.YtidlcpflfokehaaDoor.M
