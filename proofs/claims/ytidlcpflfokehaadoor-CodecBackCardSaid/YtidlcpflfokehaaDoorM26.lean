/- By a program of this session: what Go functions of the seat compute, as Lean functions, each with a proof that the call of the Go function comes to that. -/
import Derived.Test.YtidlcpflfokehaaDoorM0
import Derived.Test.YtidlcpflfokehaaDoorM4
import Derived.Test.YtidlcpflfokehaaDoorM7
import Derived.Test.YtidlcpflfokehaaDoorM9
import Derived.Test.YtidlcpflfokehaaDoorM10
import Derived.Test.YtidlcpflfokehaaDoorM14
import Derived.Test.YtidlcpflfokehaaDoorM22
namespace Go.Proofs.YtidlcpflfokehaaDoor.M
open Go.RowKit Go.Proofs.YtidlcpflfokehaaDoorW.PrintWords Go.Proofs.YtidlcpflfokehaaDoorW.PrintLast Go.Proofs.YtidlcpflfokehaaDoorW.PrintMore
attribute [local go_sem] max2_int min2_int max_two min_two max_three min_three max_four min_four   -- for this text's walks alone
set_option linter.unusedVariables false
set_option linter.unusedSimpArgs false

/-! ### hurdlelaw03_CodecBack: function 6 -/
mutual
def hurdlelaw03_CodecBack.j0 : Nat → List (S48) → List Int → Bool → Option (Bool)
  | 0, _, _, _ => none
  | k + 1, x0, x1, x25 => if x25 = true then ((hurdlelaw03_knows.f k).bind fun t336 => (some t336)) else ((codec_Encode.f k x0).bind fun bt337 => (if bt337.2 = 0 then ((codec_Print.f k x0).bind fun bt341 => ((codec_Decode.f k bt337.1).bind fun bt343 => ((codec_Parse.f k bt341.1).bind fun bt347 => ((hurdleref03_Same.f k x0 bt343.1).bind fun t352 => (if t352 = true then (if bt343.2 = 0 then ((hurdleref03_Same.f k x0 bt347.1).bind fun t353 => (if t353 = true then (if bt347.2.2 = 0 then (if (bt337.1.length : Int) = (wrap64 (8 * (x0.length : Int))) then (hurdlelaw03_CodecBack.j1 k x1) else (none)) else (none)) else (none))) else (none)) else (none)))))) else (hurdlelaw03_CodecBack.j1 k x1)))
def hurdlelaw03_CodecBack.j1 : Nat → List Int → Option (Bool)
  | 0, _ => none
  | k + 1, x1 => (some (([] : List Int) : List Int)).bind fun y354 => (if y354.length + x1.length < 140737488355328 then ((codec_Decode.f k (y354 ++ x1)).bind fun bt360 => (if bt360.2 = 0 then ((codec_Encode.f k bt360.1).bind fun bt364 => (if (strOfNums bt364.1).toList = (strOfNums x1).toList then (if bt364.2 = 0 then ((codec_Right.f k bt360.1).bind fun t368 => (if t368 = true then ((hurdlelaw03_knows.f k).bind fun t369 => (some t369)) else (none))) else (none)) else (none))) else (if (bt360.1.length : Int) = 0 then ((hurdlelaw03_knows.f k).bind fun t370 => (some t370)) else (none)))) else (none))
end
def hurdlelaw03_CodecBack.f (k : Nat) (l0 : List (S48)) (l1 : List Int) : Option (Bool) := if (l0.length : Int) > 500 then (hurdlelaw03_CodecBack.j0 k l0 l1 true) else (hurdlelaw03_CodecBack.j0 k l0 l1 (decide ((l1.length : Int) > 5000)))
theorem hurdlelaw03_CodecBack.mono_l : ∀ k, (∀ y0 y1 y2, LeO (hurdlelaw03_CodecBack.j0 k y0 y1 y2) (hurdlelaw03_CodecBack.j0 (k + 1) y0 y1 y2)) ∧ (∀ y0, LeO (hurdlelaw03_CodecBack.j1 k y0) (hurdlelaw03_CodecBack.j1 (k + 1) y0))
  | 0 => ⟨fun _ _ _ r h => by simp [hurdlelaw03_CodecBack.j0] at h, fun _ r h => by simp [hurdlelaw03_CodecBack.j1] at h⟩
  | k + 1 => by
    obtain ⟨ih0, ih1⟩ := hurdlelaw03_CodecBack.mono_l k
    refine ⟨?_, ?_⟩
    · intro y0 y1 y2
      unfold hurdlelaw03_CodecBack.j0
      repeat' first
      | (with_reducible exact ih0 _ _ _)
      | (with_reducible exact ih1 _)
      | (with_reducible exact codec_Decode.mono _ _)
      | (with_reducible exact codec_Encode.mono _ _)
      | (with_reducible exact codec_Parse.mono _ _)
      | (with_reducible exact codec_Print.mono _ _)
      | (with_reducible exact codec_Right.mono _ _)
      | (with_reducible exact hurdlelaw03_knows.mono _)
      | (with_reducible exact hurdleref03_Same.mono _ _ _)
      | (with_reducible exact LeO.refl _)
      | (with_reducible exact LeO.none _)
      | (with_reducible refine LeO.ite ?_ ?_)
      | (with_reducible refine LeO.bind ?_ (fun _ => ?_))
      | exact ih0 _ _ _
      | exact ih1 _
      | exact codec_Decode.mono _ _
      | exact codec_Encode.mono _ _
      | exact codec_Parse.mono _ _
      | exact codec_Print.mono _ _
      | exact codec_Right.mono _ _
      | exact hurdlelaw03_knows.mono _
      | exact hurdleref03_Same.mono _ _ _
      | exact LeO.none _
      | refine LeO.ite ?_ ?_
      | refine LeO.bind ?_ (fun _ => ?_)
    · intro y0
      unfold hurdlelaw03_CodecBack.j1
      repeat' first
      | (with_reducible exact ih0 _ _ _)
      | (with_reducible exact ih1 _)
      | (with_reducible exact codec_Decode.mono _ _)
      | (with_reducible exact codec_Encode.mono _ _)
      | (with_reducible exact codec_Parse.mono _ _)
      | (with_reducible exact codec_Print.mono _ _)
      | (with_reducible exact codec_Right.mono _ _)
      | (with_reducible exact hurdlelaw03_knows.mono _)
      | (with_reducible exact hurdleref03_Same.mono _ _ _)
      | (with_reducible exact LeO.refl _)
      | (with_reducible exact LeO.none _)
      | (with_reducible refine LeO.ite ?_ ?_)
      | (with_reducible refine LeO.bind ?_ (fun _ => ?_))
      | exact ih0 _ _ _
      | exact ih1 _
      | exact codec_Decode.mono _ _
      | exact codec_Encode.mono _ _
      | exact codec_Parse.mono _ _
      | exact codec_Print.mono _ _
      | exact codec_Right.mono _ _
      | exact hurdlelaw03_knows.mono _
      | exact hurdleref03_Same.mono _ _ _
      | exact LeO.none _
      | refine LeO.ite ?_ ?_
      | refine LeO.bind ?_ (fun _ => ?_)
theorem hurdlelaw03_CodecBack.mono : ∀ a0 a1 k, LeO (hurdlelaw03_CodecBack.f k a0 a1) (hurdlelaw03_CodecBack.f (k + 1) a0 a1) := by
  intro a0 a1 k
  obtain ⟨ih0, ih1⟩ := hurdlelaw03_CodecBack.mono_l k
  unfold hurdlelaw03_CodecBack.f
  repeat' first
      | (with_reducible exact ih0 _ _ _)
      | (with_reducible exact ih1 _)
      | (with_reducible exact codec_Decode.mono _ _)
      | (with_reducible exact codec_Encode.mono _ _)
      | (with_reducible exact codec_Parse.mono _ _)
      | (with_reducible exact codec_Print.mono _ _)
      | (with_reducible exact codec_Right.mono _ _)
      | (with_reducible exact hurdlelaw03_knows.mono _)
      | (with_reducible exact hurdleref03_Same.mono _ _ _)
      | (with_reducible exact LeO.refl _)
      | (with_reducible exact LeO.none _)
      | (with_reducible refine LeO.ite ?_ ?_)
      | (with_reducible refine LeO.bind ?_ (fun _ => ?_))
      | exact ih0 _ _ _
      | exact ih1 _
      | exact codec_Decode.mono _ _
      | exact codec_Encode.mono _ _
      | exact codec_Parse.mono _ _
      | exact codec_Print.mono _ _
      | exact codec_Right.mono _ _
      | exact hurdlelaw03_knows.mono _
      | exact hurdleref03_Same.mono _ _ _
      | exact LeO.none _
      | refine LeO.ite ?_ ?_
      | refine LeO.bind ?_ (fun _ => ?_)
set_option maxHeartbeats 8000000 in
set_option maxRecDepth 100000 in
theorem hurdlelaw03_CodecBack.calls (k : Nat) (A0 : Option Addr) (c0 : Nat) (l0 : List (S48)) (A1 : Option Addr) (c1 : Nat) (l1 : List Int) (r : Bool) (w : World) (hr0 : Kd.C k48 w A0 l0.length l0) (hc0 : l0.length ≤ c0) (hr1 : Kd.C (Kd.int .u8) w A1 l1.length l1) (hc1 : l1.length ≤ c1) (hG : Glob w) (h : hurdlelaw03_CodecBack.f k l0 l1 = some r) :
    Calls Tryd.prog 6 #[.slice A0 l0.length c0, .slice A1 l1.length c1] w fun e w' => e = .returned (.bool r) ∧ Below w.heap.size w w' := by
  have HG := Aside0.mk hG
  clear hG
  have HR0 := Aside0.mk hr0
  have HC0 := Aside0.mk hc0
  clear hr0 hc0
  have HR1 := Aside0.mk hr1
  have HC1 := Aside0.mk hc1
  clear hr1 hc1
  have HB := Aside0.mk (Below.refl w.heap.size w)
  have H : (if (l0.length : Int) > 500 then (hurdlelaw03_CodecBack.j0 k l0 l1 true) else (hurdlelaw03_CodecBack.j0 k l0 l1 (decide ((l1.length : Int) > 5000)))) = some r := h
  clear h
  have HC3 := Aside0.mk H
  clear H
  go_enter Tryd.func6, Tryd.ntmps6
  go_upto_region 1 with (fail)
  go_cut [25] (fun v25 wc => ∃ (kq : Nat) (x25_2 : Bool), v25 = .bool x25_2 ∧ Aside0 (hurdlelaw03_CodecBack.j0 kq l0 l1 x25_2 = some r) ∧ Aside0 (kq ≤ k) ∧ Aside0 (Below w.heap.size w wc))
  case first =>
    have H := HC3.out
    clear HC3
    by_cases c4 : (l0.length : Int) > 500
    · rw [if_pos c4] at H
      have c4b0 : decide (500 < (l0.length : Int)) = true := decide_eq_true c4
      have c4b1 : decide (500 < l0.length) = true := decide_eq_true (by omega)
      clear c4
      (first | rw [c4b0] | (simp only [i64_w, i32_w]; rw [c4b0]) | skip)
      have H' := Aside0.mk H
      clear H
      go_wp2
      go_meet
      case rel => exact ⟨_, (true), (by first | rfl | (simp; done) | (simp [*]; done)), H', ⟨by first | omega | exact Nat.le_refl _⟩, ⟨by repeat (first | (with_reducible first | exact HB.out | apply below_alloc | apply pw_below_drewN | apply below_drew1) | exact HB.out)⟩⟩
    · rw [if_neg c4] at H
      have c4b0 : decide (500 < (l0.length : Int)) = false := decide_eq_false c4
      have c4b1 : decide (500 < l0.length) = false := decide_eq_false (by omega)
      clear c4
      (first | rw [c4b0] | (simp only [i64_w, i32_w]; rw [c4b0]) | skip)
      have H' := Aside0.mk H
      clear H
      go_wp2
      go_meet
      case rel => exact ⟨_, (decide ((l1.length : Int) > 5000)), (by first | rfl | (simp; done) | (simp [*]; done)), H', ⟨by first | omega | exact Nat.le_refl _⟩, ⟨by repeat (first | (with_reducible first | exact HB.out | apply below_alloc | apply pw_below_drewN | apply below_drew1) | exact HB.out)⟩⟩
  case rest =>
    clear HC3
    try clear c1
    try clear p2
    try clear c4
    try clear c4b0
    try clear c4b1
    obtain ⟨kq, x25_2, rfl, HA, HJ2, HB⟩ := hcut
    cases kq with
    | zero => exact absurd HA.out (by simp [hurdlelaw03_CodecBack.j0])
    | succ kj2 =>
      have H := HA.out
      clear HA
      simp only [hurdlelaw03_CodecBack.j0] at H
      by_cases c5 : x25_2 = true
      · subst c5
        have H1 : ((hurdlelaw03_knows.f kj2).bind fun t336 => (some t336)) = some r := by rw [if_pos rfl] at H; exact H
        clear H
        have H := H1
        clear H1
        replace H := Option.bind_eq_some_iff.mp H
        obtain ⟨t336, A60, H⟩ := H
        replace H : (some t336) = some r := H
        have A6 := Aside0.mk A60
        clear A60
        obtain rfl := Option.some.inj H
        go_wp2_with (first | ((with_reducible refine gate_callee (f := 9) rfl ?_); refine goesL_ (some 26) rfl rfl Tryd.func9 (by kernel_rfl) rfl #[] rfl (by (try simp only [List.map_toArray, List.map_cons, List.map_nil]); first | done | rfl | (simp only [List.length_drop, List.length_take]; rfl)) ?_; (with_reducible refine (hurdlelaw03_knows.calls kj2  t336 _ ?side1 A6.out).mono ?_); (case side1 => exact Glob.below HG.out (by repeat (first | (with_reducible first | exact HB.out | apply below_alloc | apply pw_below_drewN | apply below_drew1) | exact HB.out))); rintro e w7 ⟨rfl, hb⟩; refine ⟨_, rfl, ?_⟩; have n0_ := Aside0.mk (below_step (by repeat (first | (with_reducible first | exact HB.out | apply below_alloc | apply pw_below_drewN | apply below_drew1) | exact HB.out)) hb); clear HB; have HB := n0_; clear n0_; (try clear hb); (try clear hb2); (try clear hk); (try clear hi)))
        go_ret
        exact ⟨by first | rfl | (simp [errW_none, errW_some] <;> rfl) | (simp [*, errW_none, errW_some] <;> rfl), by repeat (first | (with_reducible first | exact HB.out | apply below_alloc | apply pw_below_drewN | apply below_drew1) | exact HB.out)⟩
      · replace c5 := Bool.eq_false_iff.mpr c5
        subst c5
        have H1 : ((codec_Encode.f kj2 l0).bind fun bt337 => (if bt337.2 = 0 then ((codec_Print.f kj2 l0).bind fun bt341 => ((codec_Decode.f kj2 bt337.1).bind fun bt343 => ((codec_Parse.f kj2 bt341.1).bind fun bt347 => ((hurdleref03_Same.f kj2 l0 bt343.1).bind fun t352 => (if t352 = true then (if bt343.2 = 0 then ((hurdleref03_Same.f kj2 l0 bt347.1).bind fun t353 => (if t353 = true then (if bt347.2.2 = 0 then (if (bt337.1.length : Int) = (wrap64 (8 * (l0.length : Int))) then (hurdlelaw03_CodecBack.j1 kj2 l1) else (none)) else (none)) else (none))) else (none)) else (none)))))) else (hurdlelaw03_CodecBack.j1 kj2 l1))) = some r := by rw [if_neg (show ¬ (false = true) by decide)] at H; exact H
        clear H
        have H := H1
        clear H1
        replace H := Option.bind_eq_some_iff.mp H
        obtain ⟨⟨t337, t338⟩, A80, H⟩ := H
        replace H : (if t338 = 0 then ((codec_Print.f kj2 l0).bind fun bt341 => ((codec_Decode.f kj2 t337).bind fun bt343 => ((codec_Parse.f kj2 bt341.1).bind fun bt347 => ((hurdleref03_Same.f kj2 l0 bt343.1).bind fun t352 => (if t352 = true then (if bt343.2 = 0 then ((hurdleref03_Same.f kj2 l0 bt347.1).bind fun t353 => (if t353 = true then (if bt347.2.2 = 0 then (if (t337.length : Int) = (wrap64 (8 * (l0.length : Int))) then (hurdlelaw03_CodecBack.j1 kj2 l1) else (none)) else (none)) else (none))) else (none)) else (none)))))) else (hurdlelaw03_CodecBack.j1 kj2 l1)) = some r := H
        have A8 := Aside0.mk A80
        clear A80
        have HC9 := Aside0.mk H
        clear H
        go_upto_if 33 with (first | ((with_reducible refine gate_callee (f := 15) rfl ?_); refine goesL_ (some 29) rfl rfl Tryd.func15 (by kernel_rfl) rfl #[.slice A0 l0.length c0] rfl (by (try simp only [List.map_toArray, List.map_cons, List.map_nil]); first | done | rfl | (simp only [List.length_drop, List.length_take]; rfl)) ?_; (with_reducible refine (codec_Encode.calls kj2 _ _ l0 t337 t338 _ ?side1 ?side2 ?side3 A8.out).mono ?_); (case side1 => repeat (first | exact (Kd.C_below HR0.out HB.out) | (with_reducible refine Kd.C_alloc ?_ _) | (with_reducible refine Kd.C_drewN ?_ _) | (with_reducible refine Kd.C_drew ?_))); (case side2 => exact HC0.out); (case side3 => exact Glob.below HG.out (by repeat (first | (with_reducible first | exact HB.out | apply below_alloc | apply pw_below_drewN | apply below_drew1) | exact HB.out))); rintro e w10 ⟨v339, rfl, ho0, hb⟩; refine ⟨_, rfl, ?_⟩; have n0_ := Aside0.mk (Kd.R_lower ho0 (below_size (by repeat (first | (with_reducible first | exact HB.out | apply below_alloc | apply pw_below_drewN | apply below_drew1) | exact HB.out)))); have n1_ := Aside0.mk (below_step (by repeat (first | (with_reducible first | exact HB.out | apply below_alloc | apply pw_below_drewN | apply below_drew1) | exact HB.out)) hb); clear HB; have HO340 := n0_; have HB := n1_; clear n0_ n1_; (try clear hb); (try clear hb2); (try clear hk); (try clear hi); (try clear ho0)))
        (try simp only [Act.put, List.setIfInBounds_toArray, List.set_cons_zero, List.set_cons_succ])
        go_cut [] (fun wc => ∃ (kq : Nat), Aside0 (hurdlelaw03_CodecBack.j1 kq l1 = some r) ∧ Aside0 (kq ≤ kj2) ∧ Aside0 (Below w.heap.size w wc))
        case first =>
          have H := HC9.out
          clear HC9
          by_cases c11 : t338 = 0
          · rw [if_pos c11] at H
            have c11b0 : (t338 == 0) = true := beq_iff_eq.mpr c11
            have c11b1 : (t338 != 0) = false := bne_eq_false_iff_eq.mpr c11
            clear c11
            (first | rw [c11b0] | (simp only [i64_w, i32_w]; rw [c11b0]) | skip)
            replace H := Option.bind_eq_some_iff.mp H
            obtain ⟨⟨t341, t342⟩, A120, H⟩ := H
            replace H : ((codec_Decode.f kj2 t337).bind fun bt343 => ((codec_Parse.f kj2 t341).bind fun bt347 => ((hurdleref03_Same.f kj2 l0 bt343.1).bind fun t352 => (if t352 = true then (if bt343.2 = 0 then ((hurdleref03_Same.f kj2 l0 bt347.1).bind fun t353 => (if t353 = true then (if bt347.2.2 = 0 then (if (t337.length : Int) = (wrap64 (8 * (l0.length : Int))) then (hurdlelaw03_CodecBack.j1 kj2 l1) else (none)) else (none)) else (none))) else (none)) else (none))))) = some r := H
            have A12 := Aside0.mk A120
            clear A120
            replace H := Option.bind_eq_some_iff.mp H
            obtain ⟨⟨t343, t346⟩, A130, H⟩ := H
            replace H : ((codec_Parse.f kj2 t341).bind fun bt347 => ((hurdleref03_Same.f kj2 l0 t343).bind fun t352 => (if t352 = true then (if t346 = 0 then ((hurdleref03_Same.f kj2 l0 bt347.1).bind fun t353 => (if t353 = true then (if bt347.2.2 = 0 then (if (t337.length : Int) = (wrap64 (8 * (l0.length : Int))) then (hurdlelaw03_CodecBack.j1 kj2 l1) else (none)) else (none)) else (none))) else (none)) else (none)))) = some r := H
            have A13 := Aside0.mk A130
            clear A130
            replace H := Option.bind_eq_some_iff.mp H
            obtain ⟨⟨t347, t348, t349⟩, A140, H⟩ := H
            replace H : ((hurdleref03_Same.f kj2 l0 t343).bind fun t352 => (if t352 = true then (if t346 = 0 then ((hurdleref03_Same.f kj2 l0 t347).bind fun t353 => (if t353 = true then (if t349 = 0 then (if (t337.length : Int) = (wrap64 (8 * (l0.length : Int))) then (hurdlelaw03_CodecBack.j1 kj2 l1) else (none)) else (none)) else (none))) else (none)) else (none))) = some r := H
            have A14 := Aside0.mk A140
            clear A140
            replace H := Option.bind_eq_some_iff.mp H
            obtain ⟨t352, A150, H⟩ := H
            replace H : (if t352 = true then (if t346 = 0 then ((hurdleref03_Same.f kj2 l0 t347).bind fun t353 => (if t353 = true then (if t349 = 0 then (if (t337.length : Int) = (wrap64 (8 * (l0.length : Int))) then (hurdlelaw03_CodecBack.j1 kj2 l1) else (none)) else (none)) else (none))) else (none)) else (none)) = some r := H
            have A15 := Aside0.mk A150
            clear A150
            by_cases c16 : t352 = true
            · subst c16
              have H1 : (if t346 = 0 then ((hurdleref03_Same.f kj2 l0 t347).bind fun t353 => (if t353 = true then (if t349 = 0 then (if (t337.length : Int) = (wrap64 (8 * (l0.length : Int))) then (hurdlelaw03_CodecBack.j1 kj2 l1) else (none)) else (none)) else (none))) else (none)) = some r := by rw [if_pos rfl] at H; exact H
              clear H
              have H := H1
              clear H1
              by_cases c17 : t346 = 0
              · rw [if_pos c17] at H
                have c17b0 : (t346 == 0) = true := beq_iff_eq.mpr c17
                have c17b1 : (t346 != 0) = false := bne_eq_false_iff_eq.mpr c17
                clear c17
                replace H := Option.bind_eq_some_iff.mp H
                obtain ⟨t353, A180, H⟩ := H
                replace H : (if t353 = true then (if t349 = 0 then (if (t337.length : Int) = (wrap64 (8 * (l0.length : Int))) then (hurdlelaw03_CodecBack.j1 kj2 l1) else (none)) else (none)) else (none)) = some r := H
                have A18 := Aside0.mk A180
                clear A180
                by_cases c19 : t353 = true
                · subst c19
                  have H1 : (if t349 = 0 then (if (t337.length : Int) = (wrap64 (8 * (l0.length : Int))) then (hurdlelaw03_CodecBack.j1 kj2 l1) else (none)) else (none)) = some r := by rw [if_pos rfl] at H; exact H
                  clear H
                  have H := H1
                  clear H1
                  by_cases c20 : t349 = 0
                  · rw [if_pos c20] at H
                    have c20b0 : (t349 == 0) = true := beq_iff_eq.mpr c20
                    have c20b1 : (t349 != 0) = false := bne_eq_false_iff_eq.mpr c20
                    clear c20
                    by_cases c21 : (t337.length : Int) = (wrap64 (8 * (l0.length : Int)))
                    · rw [if_pos c21] at H
                      have c21b0 : ((t337.length : Int) == (wrap64 (8 * (l0.length : Int)))) = true := beq_iff_eq.mpr c21
                      have c21b1 : ((t337.length : Int) != (wrap64 (8 * (l0.length : Int)))) = false := bne_eq_false_iff_eq.mpr c21
                      clear c21
                      have H' := Aside0.mk H
                      clear H
                      go_wp2_with (first | ((with_reducible refine gate_callee (f := 16) rfl ?_); refine goesL_ (some 36) rfl rfl Tryd.func16 (by kernel_rfl) rfl #[.slice A0 l0.length c0] rfl (by (try simp only [List.map_toArray, List.map_cons, List.map_nil]); first | done | rfl | (simp only [List.length_drop, List.length_take]; rfl)) ?_; (with_reducible refine (codec_Print.calls kj2 _ _ l0 t341 t342 _ ?side1 ?side2 ?side3 A12.out).mono ?_); (case side1 => repeat (first | exact (Kd.C_below HR0.out HB.out) | (with_reducible refine Kd.C_alloc ?_ _) | (with_reducible refine Kd.C_drewN ?_ _) | (with_reducible refine Kd.C_drew ?_))); (case side2 => exact HC0.out); (case side3 => exact Glob.below HG.out (by repeat (first | (with_reducible first | exact HB.out | apply below_alloc | apply pw_below_drewN | apply below_drew1) | exact HB.out))); rintro e w22 ⟨rfl, hb⟩; refine ⟨_, rfl, ?_⟩; have n0_ := Aside0.mk (Kd.R_below (by (with_reducible repeat (first | apply Kd.R_alloc | apply Kd.R_drewN | apply Kd.R_drew)); exact HO340.out) hb); have n1_ := Aside0.mk (below_step (by repeat (first | (with_reducible first | exact HB.out | apply below_alloc | apply pw_below_drewN | apply below_drew1) | exact HB.out)) hb); clear HO340; clear HB; have HO340 := n0_; have HB := n1_; clear n0_ n1_; (try clear hb); (try clear hb2); (try clear hk); (try clear hi); obtain ⟨Ao23, co23, eo23⟩ := Kd.R_slice HO340.out; subst eo23) | ((with_reducible refine gate_callee (f := 10) rfl ?_); refine goesL_ (some 41) rfl rfl Tryd.func10 (by kernel_rfl) rfl #[.slice Ao23 t337.length co23] rfl (by (try simp only [List.map_toArray, List.map_cons, List.map_nil]); first | done | rfl | (simp only [List.length_drop, List.length_take]; rfl)) ?_; (with_reducible refine (codec_Decode.calls kj2 (fun k_ => some k_ = (.slice Ao23 t337.length co23 : Value).ownBlock) _ _ t337 t343 t346 _ ?side1 ?side2 A13.out).mono ?_); (case side1 => exact Kd.R_V (Kd.R_tight rfl (HO340.out))); (case side2 => exact Glob.below HG.out (by repeat (first | (with_reducible first | exact HB.out | apply below_alloc | apply pw_below_drewN | apply below_drew1) | exact HB.out))); rintro e w24 ⟨v344, rfl, ho0, hb⟩; refine ⟨_, rfl, ?_⟩; have n0_ := Aside0.mk (Kd.R_below (by (with_reducible repeat (first | apply Kd.R_alloc | apply Kd.R_drewN | apply Kd.R_drew)); exact HO340.out) hb); have n1_ := Aside0.mk (Kd.R_lower (Kd.R_mono (ok' := fun k_ => True) ho0 (fun _ hk_ => trivial)) (below_size (by repeat (first | (with_reducible first | exact HB.out | apply below_alloc | apply pw_below_drewN | apply below_drew1) | exact HB.out)))); have n2_ := Aside0.mk (below_step (by repeat (first | (with_reducible first | exact HB.out | apply below_alloc | apply pw_below_drewN | apply below_drew1) | exact HB.out)) hb); clear HO340; clear HB; have HO340 := n0_; have HO345 := n1_; have HB := n2_; clear n0_ n1_ n2_; (try clear hb); (try clear hb2); (try clear hk); (try clear hi); (try clear ho0)) | ((with_reducible refine gate_callee (f := 13) rfl ?_); refine goesL_ (some 46) rfl rfl Tryd.func13 (by kernel_rfl) rfl #[.string t341] rfl (by (try simp only [List.map_toArray, List.map_cons, List.map_nil]); first | done | rfl | (simp only [List.length_drop, List.length_take]; rfl)) ?_; (with_reducible refine (codec_Parse.calls kj2 t341 t347 t348 t349 _ ?side1 A14.out).mono ?_); (case side1 => exact Glob.below HG.out (by repeat (first | (with_reducible first | exact HB.out | apply below_alloc | apply pw_below_drewN | apply below_drew1) | exact HB.out))); rintro e w25 ⟨v350, rfl, ho0, hb⟩; refine ⟨_, rfl, ?_⟩; have n0_ := Aside0.mk (Kd.R_below (by (with_reducible repeat (first | apply Kd.R_alloc | apply Kd.R_drewN | apply Kd.R_drew)); exact HO340.out) hb); have n1_ := Aside0.mk (Kd.R_elder' (by (with_reducible repeat (first | apply Kd.R_alloc | apply Kd.R_drewN | apply Kd.R_drew)); exact HO345.out) (Kd.R_base ho0) hb); have n2_ := Aside0.mk (Kd.R_lower (Kd.R_new' ho0 (Kd.R_lt (by (with_reducible repeat (first | apply Kd.R_alloc | apply Kd.R_drewN | apply Kd.R_drew)); exact HO345.out))) (below_size (by repeat (first | (with_reducible first | exact HB.out | apply below_alloc | apply pw_below_drewN | apply below_drew1) | exact HB.out)))); have n3_ := Aside0.mk (below_step (by repeat (first | (with_reducible first | exact HB.out | apply below_alloc | apply pw_below_drewN | apply below_drew1) | exact HB.out)) hb); clear HO340; clear HO345; clear HB; have HO340 := n0_; have HO345 := n1_; have HO351 := n2_; have HB := n3_; clear n0_ n1_ n2_ n3_; (try clear hb); (try clear hb2); (try clear hk); (try clear hi); (try clear ho0); obtain ⟨Ao26, co26, eo26⟩ := Kd.R_slice HO345.out; subst eo26) | ((with_reducible refine gate_callee (f := 12) rfl ?_); refine goesL_ (some 52) rfl rfl Tryd.func12 (by kernel_rfl) rfl #[.slice A0 l0.length c0, .slice Ao26 t343.length co26] rfl (by (try simp only [List.map_toArray, List.map_cons, List.map_nil]); first | done | rfl | (simp only [List.length_drop, List.length_take]; rfl)) ?_; (with_reducible refine (hurdleref03_Same.calls kj2 _ _ l0 _ _ t343 true _ ?side1 ?side2 ?side3 ?side4 A15.out).mono ?_); (case side1 => repeat (first | exact (Kd.C_below HR0.out HB.out) | (with_reducible refine Kd.C_alloc ?_ _) | (with_reducible refine Kd.C_drewN ?_ _) | (with_reducible refine Kd.C_drew ?_))); (case side2 => exact HC0.out); (case side3 => repeat (first | exact (Kd.R_reads' HO345.out).2.2 | (with_reducible refine Kd.C_alloc ?_ _) | (with_reducible refine Kd.C_drewN ?_ _) | (with_reducible refine Kd.C_drew ?_))); (case side4 => exact (Kd.R_reads' HO345.out).2.1); rintro e w' ⟨rfl, ⟨nd, rfl⟩⟩; refine ⟨_, rfl, ?_⟩; obtain ⟨Ao27, co27, eo27⟩ := Kd.R_slice HO351.out; subst eo27) | (go_at_call 12; (with_reducible refine (hurdleref03_Same.calls kj2 _ _ l0 _ _ t347 true _ ?side1 ?side2 ?side3 ?side4 A18.out).mono ?_); (case side1 => repeat (first | exact (Kd.C_below HR0.out (by repeat (first | (with_reducible first | exact HB.out | apply below_alloc | apply pw_below_drewN | apply below_drew1) | exact HB.out))) | (with_reducible refine Kd.C_alloc ?_ _) | (with_reducible refine Kd.C_drewN ?_ _) | (with_reducible refine Kd.C_drew ?_))); (case side2 => exact HC0.out); (case side3 => repeat (first | exact (Kd.R_reads' HO351.out).2.2 | (with_reducible refine Kd.C_alloc ?_ _) | (with_reducible refine Kd.C_drewN ?_ _) | (with_reducible refine Kd.C_drew ?_))); (case side4 => exact (Kd.R_reads' HO351.out).2.1); rintro e w' ⟨rfl, ⟨nd, rfl⟩⟩))
                      go_meet
                      case rel => exact ⟨_, H', ⟨by have := HJ2.out; first | omega | exact Nat.le_refl _⟩, ⟨by repeat (first | (with_reducible first | exact HB.out | apply below_alloc | apply pw_below_drewN | apply below_drew1) | exact HB.out)⟩⟩
                    · rw [if_neg c21] at H
                      exact absurd H (by simp)
                  · rw [if_neg c20] at H
                    exact absurd H (by simp)
                · replace c19 := Bool.eq_false_iff.mpr c19
                  subst c19
                  have H1 : (none) = some r := by rw [if_neg (show ¬ (false = true) by decide)] at H; exact H
                  clear H
                  have H := H1
                  clear H1
                  exact absurd H (by simp)
              · rw [if_neg c17] at H
                exact absurd H (by simp)
            · replace c16 := Bool.eq_false_iff.mpr c16
              subst c16
              have H1 : (none) = some r := by rw [if_neg (show ¬ (false = true) by decide)] at H; exact H
              clear H
              have H := H1
              clear H1
              exact absurd H (by simp)
          · rw [if_neg c11] at H
            have c11b0 : (t338 == 0) = false := beq_eq_false_iff_ne.mpr c11
            have c11b1 : (t338 != 0) = true := bne_iff_ne.mpr c11
            (first | rw [c11b0] | (simp only [i64_w, i32_w]; rw [c11b0]) | skip)
            have H' := Aside0.mk H
            clear H
            go_wp2
            go_meet
            case rel => exact ⟨_, H', ⟨by have := HJ2.out; first | omega | exact Nat.le_refl _⟩, ⟨by repeat (first | (with_reducible first | exact HB.out | apply below_alloc | apply pw_below_drewN | apply below_drew1) | exact HB.out)⟩⟩
        case rest =>
          clear HC9
          try clear c1
          try clear c2
          try clear p2
          try clear c4
          try clear c4b0
          try clear c4b1
          try clear c5
          try clear c6
          try clear p6
          try clear c9
          try clear c10
          try clear c11
          try clear c11b0
          try clear c11b1
          try clear c12
          try clear c13
          try clear c15
          try clear c16
          try clear c17
          try clear c17b0
          try clear c17b1
          try clear c19
          try clear c20
          try clear c20b0
          try clear c20b1
          try clear c21
          try clear c21b0
          try clear c21b1
          try clear p2
          obtain ⟨kq, HA, HJ8, HB⟩ := hcut
          cases kq with
          | zero => exact absurd HA.out (by simp [hurdlelaw03_CodecBack.j1])
          | succ kj8 =>
            have H := HA.out
            clear HA
            simp only [hurdlelaw03_CodecBack.j1] at H
            obtain ⟨y354, hy354⟩ : ∃ y_ : List Int, y_ = (([] : List Int)) := ⟨_, rfl⟩
            replace H : (if y354.length + l1.length < 140737488355328 then ((codec_Decode.f kj8 (y354 ++ l1)).bind fun bt360 => (if bt360.2 = 0 then ((codec_Encode.f kj8 bt360.1).bind fun bt364 => (if (strOfNums bt364.1).toList = (strOfNums l1).toList then (if bt364.2 = 0 then ((codec_Right.f kj8 bt360.1).bind fun t368 => (if t368 = true then ((hurdlelaw03_knows.f kj8).bind fun t369 => (some t369)) else (none))) else (none)) else (none))) else (if (bt360.1.length : Int) = 0 then ((hurdlelaw03_knows.f kj8).bind fun t370 => (some t370)) else (none)))) else (none)) = some r := by first | (rw [hy354]; with_reducible exact H) | (have H2_ := (Option.bind_some _ _).symm.trans H; rw [hy354]; with_reducible exact H2_) | (have H2_ := (Option.bind_some _ _).symm.trans H; with_reducible exact H2_) | with_reducible exact H | (rw [hy354]; exact H) | exact H
            have Ny354 := Aside0.mk hy354
            clear hy354
            by_cases c28 : y354.length + l1.length < 140737488355328
            · rw [if_pos c28] at H
              have LMc28 := Aside0.mk c28
              clear c28
              obtain ⟨y357, hy357⟩ : ∃ y_ : List Int, y_ = (y354 ++ l1) := ⟨_, rfl⟩
              replace H : ((codec_Decode.f kj8 y357).bind fun bt360 => (if bt360.2 = 0 then ((codec_Encode.f kj8 bt360.1).bind fun bt364 => (if (strOfNums bt364.1).toList = (strOfNums l1).toList then (if bt364.2 = 0 then ((codec_Right.f kj8 bt360.1).bind fun t368 => (if t368 = true then ((hurdlelaw03_knows.f kj8).bind fun t369 => (some t369)) else (none))) else (none)) else (none))) else (if (bt360.1.length : Int) = 0 then ((hurdlelaw03_knows.f kj8).bind fun t370 => (some t370)) else (none)))) = some r := by first | (rw [hy357]; with_reducible exact H) | (have H2_ := (Option.bind_some _ _).symm.trans H; rw [hy357]; with_reducible exact H2_) | (have H2_ := (Option.bind_some _ _).symm.trans H; with_reducible exact H2_) | with_reducible exact H | (rw [hy357]; exact H) | exact H
              have Ny357 := Aside0.mk hy357
              clear hy357
              replace H := Option.bind_eq_some_iff.mp H
              obtain ⟨⟨t360, t363⟩, A290, H⟩ := H
              replace H : (if t363 = 0 then ((codec_Encode.f kj8 t360).bind fun bt364 => (if (strOfNums bt364.1).toList = (strOfNums l1).toList then (if bt364.2 = 0 then ((codec_Right.f kj8 t360).bind fun t368 => (if t368 = true then ((hurdlelaw03_knows.f kj8).bind fun t369 => (some t369)) else (none))) else (none)) else (none))) else (if (t360.length : Int) = 0 then ((hurdlelaw03_knows.f kj8).bind fun t370 => (some t370)) else (none))) = some r := H
              have A29 := Aside0.mk A290
              clear A290
              by_cases c30 : t363 = 0
              · rw [if_pos c30] at H
                have c30b0 : (t363 == 0) = true := beq_iff_eq.mpr c30
                have c30b1 : (t363 != 0) = false := bne_eq_false_iff_eq.mpr c30
                clear c30
                replace H := Option.bind_eq_some_iff.mp H
                obtain ⟨⟨t364, t365⟩, A310, H⟩ := H
                replace H : (if (strOfNums t364).toList = (strOfNums l1).toList then (if t365 = 0 then ((codec_Right.f kj8 t360).bind fun t368 => (if t368 = true then ((hurdlelaw03_knows.f kj8).bind fun t369 => (some t369)) else (none))) else (none)) else (none)) = some r := H
                have A31 := Aside0.mk A310
                clear A310
                by_cases c32 : (strOfNums t364).toList = (strOfNums l1).toList
                · rw [if_pos c32] at H
                  have c32b0 : ((strOfNums t364).toList == (strOfNums l1).toList) = true := beq_iff_eq.mpr c32
                  have c32b1 : ((strOfNums t364).toList != (strOfNums l1).toList) = false := bne_eq_false_iff_eq.mpr c32
                  clear c32
                  by_cases c33 : t365 = 0
                  · rw [if_pos c33] at H
                    have c33b0 : (t365 == 0) = true := beq_iff_eq.mpr c33
                    have c33b1 : (t365 != 0) = false := bne_eq_false_iff_eq.mpr c33
                    clear c33
                    replace H := Option.bind_eq_some_iff.mp H
                    obtain ⟨t368, A340, H⟩ := H
                    replace H : (if t368 = true then ((hurdlelaw03_knows.f kj8).bind fun t369 => (some t369)) else (none)) = some r := H
                    have A34 := Aside0.mk A340
                    clear A340
                    by_cases c35 : t368 = true
                    · subst c35
                      have H1 : ((hurdlelaw03_knows.f kj8).bind fun t369 => (some t369)) = some r := by rw [if_pos rfl] at H; exact H
                      clear H
                      have H := H1
                      clear H1
                      replace H := Option.bind_eq_some_iff.mp H
                      obtain ⟨t369, A360, H⟩ := H
                      replace H : (some t369) = some r := H
                      have A36 := Aside0.mk A360
                      clear A360
                      obtain rfl := Option.some.inj H
                      go_wp2_with (first | ((with_reducible refine gate_dst (N := 77) rfl ?_); (try (refine gate_guard (by rfl) ?_; dsimp only)); refine Kd.R_lit (Kd.int .u8) _ 5 ?hg (N := 77) ?hd (xs := ([] : List Int)) (inner := []) (ok := fun _ => True) (okp := fun _ => True) ?hr ?hp (fun _ hk => hk) trivial (Below.refl _ _) (Nat.le_refl _) (by simp) ?_; (case hd => rfl); (case hg => rfl); (case hr => first | (go_simp; done) | (go_simp; rfl)); (case hp => exact (Reps.none _ _)); intro v355 w37 ho38 hb hg_ hnew_; clear hg_ hnew_; (first | rw [← Ny354.out] at ho38 | (simp only [Int.reduceToNat] at ho38; rw [← Ny354.out] at ho38)); have n0_ := Aside0.mk (Kd.R_lower ho38 (below_size (by repeat (first | (with_reducible first | exact HB.out | apply below_alloc | apply pw_below_drewN | apply below_drew1) | exact HB.out)))); have n1_ := Aside0.mk (below_step (by repeat (first | (with_reducible first | exact HB.out | apply below_alloc | apply pw_below_drewN | apply below_drew1) | exact HB.out)) hb); clear HB; have HO356 := n0_; have HB := n1_; clear n0_ n1_; clear hb ho38) | ((with_reducible refine gate_builtin (b := .append) (xs := #[.tmp 77, .tmp 78]) rfl ?_); (try (refine gate_guard (by rfl) ?_; dsimp only)); at_builtin; refine Kd.R_append_rows (Kd.int .u8) (w0 := w) w.heap.size rfl (.tmp 77) (.tmp 78) 22 5 (.int .u8 0) 1 rfl Tryd.underlying22 info5 rfl (by decide) (by omega) v355 y354 l1 _ _ _ (fun _ => True) (fun _ => False) rfl rfl ?aO ?aR (fun _ _ h => h) (fun _ h => h.elim) ?aF ?aB ?aS ?aL ?_; (case aR => repeat (first | exact (Kd.C_below HR1.out HB.out) | (with_reducible refine Kd.C_alloc ?_ _) | (with_reducible refine Kd.C_drewN ?_ _) | (with_reducible refine Kd.C_drew ?_))); (case aB => exact (by repeat (first | (with_reducible first | exact HB.out | apply below_alloc | apply pw_below_drewN | apply below_drew1) | exact HB.out))); (case aF => exact (fun _ _ => trivial)); (case aO => exact (by (with_reducible repeat (first | apply Kd.R_alloc | apply Kd.R_drewN | apply Kd.R_drew)); exact HO356.out)); (case aS => exact (below_size (by repeat (first | (with_reducible first | exact HB.out | apply below_alloc | apply pw_below_drewN | apply below_drew1) | exact HB.out)))); (case aL => have := LMc28.out; omega); intro v358 w39 ho hb hg hat; rw [← Ny357.out] at ho; have n0_ := Aside0.mk (hb); have n1_ := Aside0.mk (ho); clear HB; clear HO356; have HB := n0_; have HO359 := n1_; clear n0_ n1_; clear ho hb hg hat; obtain ⟨Ao40, co40, eo40⟩ := Kd.R_slice HO359.out; subst eo40) | ((with_reducible refine gate_callee (f := 10) rfl ?_); refine goesL_ (some 80) rfl rfl Tryd.func10 (by kernel_rfl) rfl #[.slice Ao40 y357.length co40] rfl (by (try simp only [List.map_toArray, List.map_cons, List.map_nil]); first | done | rfl | (simp only [List.length_drop, List.length_take]; rfl)) ?_; (with_reducible refine (codec_Decode.calls kj8 (fun k_ => some k_ = (.slice Ao40 y357.length co40 : Value).ownBlock) _ _ y357 t360 t363 _ ?side1 ?side2 A29.out).mono ?_); (case side1 => exact Kd.R_V (Kd.R_tight rfl (HO359.out))); (case side2 => exact Glob.below HG.out (by repeat (first | (with_reducible first | exact HB.out | apply below_alloc | apply pw_below_drewN | apply below_drew1) | exact HB.out))); rintro e w41 ⟨v361, rfl, ho0, hb⟩; refine ⟨_, rfl, ?_⟩; have n0_ := Aside0.mk (Kd.R_below (by (with_reducible repeat (first | apply Kd.R_alloc | apply Kd.R_drewN | apply Kd.R_drew)); exact HO359.out) hb); have n1_ := Aside0.mk (Kd.R_lower (Kd.R_mono (ok' := fun k_ => True) ho0 (fun _ hk_ => trivial)) (below_size (by repeat (first | (with_reducible first | exact HB.out | apply below_alloc | apply pw_below_drewN | apply below_drew1) | exact HB.out)))); have n2_ := Aside0.mk (below_step (by repeat (first | (with_reducible first | exact HB.out | apply below_alloc | apply pw_below_drewN | apply below_drew1) | exact HB.out)) hb); clear HO359; clear HB; have HO359 := n0_; have HO362 := n1_; have HB := n2_; clear n0_ n1_ n2_; (try clear hb); (try clear hb2); (try clear hk); (try clear hi); (try clear ho0); obtain ⟨Ao42, co42, eo42⟩ := Kd.R_slice HO362.out; subst eo42) | ((with_reducible refine gate_callee (f := 15) rfl ?_); refine goesL_ (some 93) rfl rfl Tryd.func15 (by kernel_rfl) rfl #[.slice Ao42 t360.length co42] rfl (by (try simp only [List.map_toArray, List.map_cons, List.map_nil]); first | done | rfl | (simp only [List.length_drop, List.length_take]; rfl)) ?_; (with_reducible refine (codec_Encode.calls kj8 _ _ t360 t364 t365 _ ?side1 ?side2 ?side3 A31.out).mono ?_); (case side1 => repeat (first | exact (Kd.R_reads' HO362.out).2.2 | (with_reducible refine Kd.C_alloc ?_ _) | (with_reducible refine Kd.C_drewN ?_ _) | (with_reducible refine Kd.C_drew ?_))); (case side2 => exact (Kd.R_reads' HO362.out).2.1); (case side3 => exact Glob.below HG.out (by repeat (first | (with_reducible first | exact HB.out | apply below_alloc | apply pw_below_drewN | apply below_drew1) | exact HB.out))); rintro e w43 ⟨v366, rfl, ho0, hb⟩; refine ⟨_, rfl, ?_⟩; have n0_ := Aside0.mk (Kd.R_elder' (by (with_reducible repeat (first | apply Kd.R_alloc | apply Kd.R_drewN | apply Kd.R_drew)); exact HO359.out) (Kd.R_base ho0) hb); have n1_ := Aside0.mk (Kd.R_below (by (with_reducible repeat (first | apply Kd.R_alloc | apply Kd.R_drewN | apply Kd.R_drew)); exact HO362.out) hb); have n2_ := Aside0.mk (Kd.R_lower (Kd.R_new' ho0 (Kd.R_lt (by (with_reducible repeat (first | apply Kd.R_alloc | apply Kd.R_drewN | apply Kd.R_drew)); exact HO359.out))) (below_size (by repeat (first | (with_reducible first | exact HB.out | apply below_alloc | apply pw_below_drewN | apply below_drew1) | exact HB.out)))); have n3_ := Aside0.mk (below_step (by repeat (first | (with_reducible first | exact HB.out | apply below_alloc | apply pw_below_drewN | apply below_drew1) | exact HB.out)) hb); clear HO359; clear HO362; clear HB; have HO359 := n0_; have HO362 := n1_; have HO367 := n2_; have HB := n3_; clear n0_ n1_ n2_ n3_; (try clear hb); (try clear hb2); (try clear hk); (try clear hi); (try clear ho0); have hcv44 := own_string (P := Tryd.prog) Tryd.underlying22 Tryd.underlying5 Tryd.underlying9 (Kd.own_of_R HO367.out); have hcv45 := Kd.C_string (P := Tryd.prog) (A := A1) (c := c1) Tryd.underlying22 Tryd.underlying5 Tryd.underlying9 (Kd.C_below HR1.out HB.out)) | (go_at_call 18; (with_reducible refine (codec_Right.calls kj8 _ _ t360 true _ ?side1 ?side2 ?side3 A34.out).mono ?_); (case side1 => repeat (first | exact (Kd.R_reads' HO362.out).2.2 | (with_reducible refine Kd.C_alloc ?_ _) | (with_reducible refine Kd.C_drewN ?_ _) | (with_reducible refine Kd.C_drew ?_))); (case side2 => exact (Kd.R_reads' HO362.out).2.1); (case side3 => exact Glob.below HG.out (by repeat (first | (with_reducible first | exact HB.out | apply below_alloc | apply pw_below_drewN | apply below_drew1) | exact HB.out))); rintro e w46 ⟨rfl, hb⟩; have n0_ := Aside0.mk (Kd.R_below (by (with_reducible repeat (first | apply Kd.R_alloc | apply Kd.R_drewN | apply Kd.R_drew)); exact HO359.out) hb); have n1_ := Aside0.mk (Kd.R_below (by (with_reducible repeat (first | apply Kd.R_alloc | apply Kd.R_drewN | apply Kd.R_drew)); exact HO362.out) hb); have n2_ := Aside0.mk (Kd.R_below (by (with_reducible repeat (first | apply Kd.R_alloc | apply Kd.R_drewN | apply Kd.R_drew)); exact HO367.out) hb); have n3_ := Aside0.mk (below_step (by repeat (first | (with_reducible first | exact HB.out | apply below_alloc | apply pw_below_drewN | apply below_drew1) | exact HB.out)) hb); clear HO359; clear HO362; clear HO367; clear HB; have HO359 := n0_; have HO362 := n1_; have HO367 := n2_; have HB := n3_; clear n0_ n1_ n2_ n3_; (try clear hb); (try clear hb2); (try clear hk); (try clear hi)) | (go_at_call 9; (with_reducible refine (hurdlelaw03_knows.calls kj8  t369 _ ?side1 A36.out).mono ?_); (case side1 => exact Glob.below HG.out (by repeat (first | (with_reducible first | exact HB.out | apply below_alloc | apply pw_below_drewN | apply below_drew1) | exact HB.out))); rintro e w47 ⟨rfl, hb⟩; have n0_ := Aside0.mk (Kd.R_below (by (with_reducible repeat (first | apply Kd.R_alloc | apply Kd.R_drewN | apply Kd.R_drew)); exact HO359.out) hb); have n1_ := Aside0.mk (Kd.R_below (by (with_reducible repeat (first | apply Kd.R_alloc | apply Kd.R_drewN | apply Kd.R_drew)); exact HO362.out) hb); have n2_ := Aside0.mk (Kd.R_below (by (with_reducible repeat (first | apply Kd.R_alloc | apply Kd.R_drewN | apply Kd.R_drew)); exact HO367.out) hb); have n3_ := Aside0.mk (below_step (by repeat (first | (with_reducible first | exact HB.out | apply below_alloc | apply pw_below_drewN | apply below_drew1) | exact HB.out)) hb); clear HO359; clear HO362; clear HO367; clear HB; have HO359 := n0_; have HO362 := n1_; have HO367 := n2_; have HB := n3_; clear n0_ n1_ n2_ n3_; (try clear hb); (try clear hb2); (try clear hk); (try clear hi)))
                      go_ret
                      exact ⟨by first | rfl | (simp [errW_none, errW_some] <;> rfl) | (simp [*, errW_none, errW_some] <;> rfl), by repeat (first | (with_reducible first | exact HB.out | apply below_alloc | apply pw_below_drewN | apply below_drew1) | exact HB.out)⟩
                    · replace c35 := Bool.eq_false_iff.mpr c35
                      subst c35
                      have H1 : (none) = some r := by rw [if_neg (show ¬ (false = true) by decide)] at H; exact H
                      clear H
                      have H := H1
                      clear H1
                      exact absurd H (by simp)
                  · rw [if_neg c33] at H
                    exact absurd H (by simp)
                · rw [if_neg c32] at H
                  exact absurd H (by simp)
              · rw [if_neg c30] at H
                have c30b0 : (t363 == 0) = false := beq_eq_false_iff_ne.mpr c30
                have c30b1 : (t363 != 0) = true := bne_iff_ne.mpr c30
                by_cases c48 : (t360.length : Int) = 0
                · rw [if_pos c48] at H
                  have c48b0 : ((t360.length : Int) == 0) = true := beq_iff_eq.mpr c48
                  have c48b1 : ((t360.length : Int) != 0) = false := bne_eq_false_iff_eq.mpr c48
                  clear c48
                  replace H := Option.bind_eq_some_iff.mp H
                  obtain ⟨t370, A490, H⟩ := H
                  replace H : (some t370) = some r := H
                  have A49 := Aside0.mk A490
                  clear A490
                  obtain rfl := Option.some.inj H
                  go_wp2_with (first | ((with_reducible refine gate_dst (N := 77) rfl ?_); (try (refine gate_guard (by rfl) ?_; dsimp only)); refine Kd.R_lit (Kd.int .u8) _ 5 ?hg (N := 77) ?hd (xs := ([] : List Int)) (inner := []) (ok := fun _ => True) (okp := fun _ => True) ?hr ?hp (fun _ hk => hk) trivial (Below.refl _ _) (Nat.le_refl _) (by simp) ?_; (case hd => rfl); (case hg => rfl); (case hr => first | (go_simp; done) | (go_simp; rfl)); (case hp => exact (Reps.none _ _)); intro v355 w50 ho51 hb hg_ hnew_; clear hg_ hnew_; (first | rw [← Ny354.out] at ho51 | (simp only [Int.reduceToNat] at ho51; rw [← Ny354.out] at ho51)); have n0_ := Aside0.mk (Kd.R_lower ho51 (below_size (by repeat (first | (with_reducible first | exact HB.out | apply below_alloc | apply pw_below_drewN | apply below_drew1) | exact HB.out)))); have n1_ := Aside0.mk (below_step (by repeat (first | (with_reducible first | exact HB.out | apply below_alloc | apply pw_below_drewN | apply below_drew1) | exact HB.out)) hb); clear HB; have HO356 := n0_; have HB := n1_; clear n0_ n1_; clear hb ho51) | ((with_reducible refine gate_builtin (b := .append) (xs := #[.tmp 77, .tmp 78]) rfl ?_); (try (refine gate_guard (by rfl) ?_; dsimp only)); at_builtin; refine Kd.R_append_rows (Kd.int .u8) (w0 := w) w.heap.size rfl (.tmp 77) (.tmp 78) 22 5 (.int .u8 0) 1 rfl Tryd.underlying22 info5 rfl (by decide) (by omega) v355 y354 l1 _ _ _ (fun _ => True) (fun _ => False) rfl rfl ?aO ?aR (fun _ _ h => h) (fun _ h => h.elim) ?aF ?aB ?aS ?aL ?_; (case aR => repeat (first | exact (Kd.C_below HR1.out HB.out) | (with_reducible refine Kd.C_alloc ?_ _) | (with_reducible refine Kd.C_drewN ?_ _) | (with_reducible refine Kd.C_drew ?_))); (case aB => exact (by repeat (first | (with_reducible first | exact HB.out | apply below_alloc | apply pw_below_drewN | apply below_drew1) | exact HB.out))); (case aF => exact (fun _ _ => trivial)); (case aO => exact (by (with_reducible repeat (first | apply Kd.R_alloc | apply Kd.R_drewN | apply Kd.R_drew)); exact HO356.out)); (case aS => exact (below_size (by repeat (first | (with_reducible first | exact HB.out | apply below_alloc | apply pw_below_drewN | apply below_drew1) | exact HB.out)))); (case aL => have := LMc28.out; omega); intro v358 w52 ho hb hg hat; rw [← Ny357.out] at ho; have n0_ := Aside0.mk (hb); have n1_ := Aside0.mk (ho); clear HB; clear HO356; have HB := n0_; have HO359 := n1_; clear n0_ n1_; clear ho hb hg hat; obtain ⟨Ao53, co53, eo53⟩ := Kd.R_slice HO359.out; subst eo53) | ((with_reducible refine gate_callee (f := 10) rfl ?_); refine goesL_ (some 80) rfl rfl Tryd.func10 (by kernel_rfl) rfl #[.slice Ao53 y357.length co53] rfl (by (try simp only [List.map_toArray, List.map_cons, List.map_nil]); first | done | rfl | (simp only [List.length_drop, List.length_take]; rfl)) ?_; (with_reducible refine (codec_Decode.calls kj8 (fun k_ => some k_ = (.slice Ao53 y357.length co53 : Value).ownBlock) _ _ y357 t360 t363 _ ?side1 ?side2 A29.out).mono ?_); (case side1 => exact Kd.R_V (Kd.R_tight rfl (HO359.out))); (case side2 => exact Glob.below HG.out (by repeat (first | (with_reducible first | exact HB.out | apply below_alloc | apply pw_below_drewN | apply below_drew1) | exact HB.out))); rintro e w54 ⟨v361, rfl, ho0, hb⟩; refine ⟨_, rfl, ?_⟩; have n0_ := Aside0.mk (Kd.R_below (by (with_reducible repeat (first | apply Kd.R_alloc | apply Kd.R_drewN | apply Kd.R_drew)); exact HO359.out) hb); have n1_ := Aside0.mk (Kd.R_lower (Kd.R_mono (ok' := fun k_ => True) ho0 (fun _ hk_ => trivial)) (below_size (by repeat (first | (with_reducible first | exact HB.out | apply below_alloc | apply pw_below_drewN | apply below_drew1) | exact HB.out)))); have n2_ := Aside0.mk (below_step (by repeat (first | (with_reducible first | exact HB.out | apply below_alloc | apply pw_below_drewN | apply below_drew1) | exact HB.out)) hb); clear HO359; clear HB; have HO359 := n0_; have HO362 := n1_; have HB := n2_; clear n0_ n1_ n2_; (try clear hb); (try clear hb2); (try clear hk); (try clear hi); (try clear ho0); obtain ⟨Ao55, co55, eo55⟩ := Kd.R_slice HO362.out; subst eo55) | (go_at_call 9; (with_reducible refine (hurdlelaw03_knows.calls kj8  t370 _ ?side1 A49.out).mono ?_); (case side1 => exact Glob.below HG.out (by repeat (first | (with_reducible first | exact HB.out | apply below_alloc | apply pw_below_drewN | apply below_drew1) | exact HB.out))); rintro e w56 ⟨rfl, hb⟩; have n0_ := Aside0.mk (Kd.R_below (by (with_reducible repeat (first | apply Kd.R_alloc | apply Kd.R_drewN | apply Kd.R_drew)); exact HO359.out) hb); have n1_ := Aside0.mk (Kd.R_below (by (with_reducible repeat (first | apply Kd.R_alloc | apply Kd.R_drewN | apply Kd.R_drew)); exact HO362.out) hb); have n2_ := Aside0.mk (below_step (by repeat (first | (with_reducible first | exact HB.out | apply below_alloc | apply pw_below_drewN | apply below_drew1) | exact HB.out)) hb); clear HO359; clear HO362; clear HB; have HO359 := n0_; have HO362 := n1_; have HB := n2_; clear n0_ n1_ n2_; (try clear hb); (try clear hb2); (try clear hk); (try clear hi)))
                  go_ret
                  exact ⟨by first | rfl | (simp [errW_none, errW_some] <;> rfl) | (simp [*, errW_none, errW_some] <;> rfl), by repeat (first | (with_reducible first | exact HB.out | apply below_alloc | apply pw_below_drewN | apply below_drew1) | exact HB.out)⟩
                · rw [if_neg c48] at H
                  exact absurd H (by simp)
            · rw [if_neg c28] at H
              exact absurd H (by simp)

end Go.Proofs.YtidlcpflfokehaaDoor.M
