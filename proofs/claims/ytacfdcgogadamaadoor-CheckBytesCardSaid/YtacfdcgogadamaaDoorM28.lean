/- By a program of this session: what Go functions of the seat compute, as Lean functions, each with a proof that the call of the Go function comes to that. -/
import Derived.Test.YtacfdcgogadamaaDoorM0
import Derived.Test.YtacfdcgogadamaaDoorM5
import Derived.Test.YtacfdcgogadamaaDoorM9
import Derived.Test.YtacfdcgogadamaaDoorM10
import Derived.Test.YtacfdcgogadamaaDoorM15
import Derived.Test.YtacfdcgogadamaaDoorM23
import Derived.Test.YtacfdcgogadamaaDoorM24
import Derived.Test.YtacfdcgogadamaaDoorM27
namespace Go.Proofs.YtacfdcgogadamaaDoor.M
open Go.RowKit Go.Proofs.YtacfdcgogadamaaDoorW.PrintWords Go.Proofs.YtacfdcgogadamaaDoorW.PrintLast Go.Proofs.YtacfdcgogadamaaDoorW.PrintMore
attribute [local go_sem] max2_int min2_int max_two min_two max_three min_three max_four min_four   -- for this text's walks alone
set_option linter.unusedVariables false
set_option linter.unusedSimpArgs false

/-! ### hurdlelaw05_CheckBytes: function 9 -/
def hurdlelaw05_CheckBytes.j0 : Nat → List (S36) → Bool → Option (Bool)
  | 0, _, _ => none
  | k + 1, x0, x19 => if x19 = true then (if (x0.length : Int) > 500 then ((hurdlelaw05_knows.f k).bind fun t349 => (if t349 = true then (some true) else ((hurdleref05_Sound.f k x0).bind fun t350 => (if t350 = true then (none) else ((hurdlelaw05_knows.f k).bind fun t351 => (some t351)))))) else ((hurdleref05_Sound.f k x0).bind fun t352 => (if t352 = true then (none) else ((hurdlelaw05_knows.f k).bind fun t353 => (some t353))))) else ((codec_Encode.f k x0).bind fun bt354 => ((codec_Decode.f k bt354.1).bind fun bt358 => ((codec_Print.f k x0).bind fun bt362 => ((codec_Parse.f k bt362.1).bind fun bt364 => (if bt354.2 = 0 then (if bt358.2 = 0 then (if bt362.2 = 0 then (if bt364.2.2 = 0 then ((check_Sound.f k bt358.1).bind fun t369 => (if t369 = true then ((check_Sound.f k bt364.1).bind fun t370 => (if t370 = true then ((hurdlelaw05_knows.f k).bind fun t371 => (some t371)) else (none))) else (none))) else (none)) else (none)) else (none)) else (none))))))
def hurdlelaw05_CheckBytes.f (k : Nat) (l0 : List (S36)) : Option (Bool) := if (l0.length : Int) > 500 then (hurdlelaw05_CheckBytes.j0 k l0 true) else ((check_Sound.f k l0).bind fun t348 => (hurdlelaw05_CheckBytes.j0 k l0 (!t348)))
theorem hurdlelaw05_CheckBytes.mono_l : ∀ k, (∀ y0 y1, LeO (hurdlelaw05_CheckBytes.j0 k y0 y1) (hurdlelaw05_CheckBytes.j0 (k + 1) y0 y1))
  | 0 => fun _ _ r h => by simp [hurdlelaw05_CheckBytes.j0] at h
  | k + 1 => by
    have ih0 := hurdlelaw05_CheckBytes.mono_l k
    · intro y0 y1
      unfold hurdlelaw05_CheckBytes.j0
      repeat' first
      | (with_reducible exact ih0 _ _)
      | (with_reducible exact check_Sound.mono _ _)
      | (with_reducible exact codec_Decode.mono _ _)
      | (with_reducible exact codec_Encode.mono _ _)
      | (with_reducible exact codec_Parse.mono _ _)
      | (with_reducible exact codec_Print.mono _ _)
      | (with_reducible exact hurdlelaw05_knows.mono _)
      | (with_reducible exact hurdleref05_Sound.mono _ _)
      | (with_reducible exact LeO.refl _)
      | (with_reducible exact LeO.none _)
      | (with_reducible refine LeO.ite ?_ ?_)
      | (with_reducible refine LeO.bind ?_ (fun _ => ?_))
      | exact ih0 _ _
      | exact check_Sound.mono _ _
      | exact codec_Decode.mono _ _
      | exact codec_Encode.mono _ _
      | exact codec_Parse.mono _ _
      | exact codec_Print.mono _ _
      | exact hurdlelaw05_knows.mono _
      | exact hurdleref05_Sound.mono _ _
      | exact LeO.none _
      | refine LeO.ite ?_ ?_
      | refine LeO.bind ?_ (fun _ => ?_)
theorem hurdlelaw05_CheckBytes.mono : ∀ a0 k, LeO (hurdlelaw05_CheckBytes.f k a0) (hurdlelaw05_CheckBytes.f (k + 1) a0) := by
  intro a0 k
  have ih0 := hurdlelaw05_CheckBytes.mono_l k
  unfold hurdlelaw05_CheckBytes.f
  repeat' first
      | (with_reducible exact ih0 _ _)
      | (with_reducible exact check_Sound.mono _ _)
      | (with_reducible exact codec_Decode.mono _ _)
      | (with_reducible exact codec_Encode.mono _ _)
      | (with_reducible exact codec_Parse.mono _ _)
      | (with_reducible exact codec_Print.mono _ _)
      | (with_reducible exact hurdlelaw05_knows.mono _)
      | (with_reducible exact hurdleref05_Sound.mono _ _)
      | (with_reducible exact LeO.refl _)
      | (with_reducible exact LeO.none _)
      | (with_reducible refine LeO.ite ?_ ?_)
      | (with_reducible refine LeO.bind ?_ (fun _ => ?_))
      | exact ih0 _ _
      | exact check_Sound.mono _ _
      | exact codec_Decode.mono _ _
      | exact codec_Encode.mono _ _
      | exact codec_Parse.mono _ _
      | exact codec_Print.mono _ _
      | exact hurdlelaw05_knows.mono _
      | exact hurdleref05_Sound.mono _ _
      | exact LeO.none _
      | refine LeO.ite ?_ ?_
      | refine LeO.bind ?_ (fun _ => ?_)
set_option maxHeartbeats 8000000 in
set_option maxRecDepth 100000 in
theorem hurdlelaw05_CheckBytes.calls (k : Nat) (A0 : Option Addr) (c0 : Nat) (l0 : List (S36)) (r : Bool) (w : World) (hr0 : Kd.C k36 w A0 l0.length l0) (hc0 : l0.length ≤ c0) (hG : Glob w) (h : hurdlelaw05_CheckBytes.f k l0 = some r) :
    Calls Tryd.prog 9 #[.slice A0 l0.length c0] w fun e w' => e = .returned (.bool r) ∧ Below w.heap.size w w' := by
  have HG := Aside0.mk hG
  clear hG
  have HR0 := Aside0.mk hr0
  have HC0 := Aside0.mk hc0
  clear hr0 hc0
  have HB := Aside0.mk (Below.refl w.heap.size w)
  have H : (if (l0.length : Int) > 500 then (hurdlelaw05_CheckBytes.j0 k l0 true) else ((check_Sound.f k l0).bind fun t348 => (hurdlelaw05_CheckBytes.j0 k l0 (!t348)))) = some r := h
  clear h
  have HC2 := Aside0.mk H
  clear H
  go_enter Tryd.func9, Tryd.ntmps9
  go_upto_region 1 with (fail)
  go_cut [19] (fun v19 wc => ∃ (kq : Nat) (x19_1 : Bool), v19 = .bool x19_1 ∧ Aside0 (hurdlelaw05_CheckBytes.j0 kq l0 x19_1 = some r) ∧ Aside0 (kq ≤ k) ∧ Aside0 (Below w.heap.size w wc))
  case first =>
    have H := HC2.out
    clear HC2
    by_cases c3 : (l0.length : Int) > 500
    · rw [if_pos c3] at H
      have c3b0 : decide (500 < (l0.length : Int)) = true := decide_eq_true c3
      have c3b1 : decide (500 < l0.length) = true := decide_eq_true (by omega)
      clear c3
      (first | rw [c3b0] | (simp only [i64_w, i32_w]; rw [c3b0]) | skip)
      have H' := Aside0.mk H
      clear H
      go_wp2
      go_meet
      case rel => exact ⟨_, (true), (by first | rfl | (simp; done) | (simp [*]; done)), H', ⟨by first | omega | exact Nat.le_refl _⟩, ⟨by repeat (first | (with_reducible first | exact HB.out | apply below_alloc | apply pw_below_drewN | apply below_drew1) | exact HB.out)⟩⟩
    · rw [if_neg c3] at H
      have c3b0 : decide (500 < (l0.length : Int)) = false := decide_eq_false c3
      have c3b1 : decide (500 < l0.length) = false := decide_eq_false (by omega)
      clear c3
      (first | rw [c3b0] | (simp only [i64_w, i32_w]; rw [c3b0]) | skip)
      replace H := Option.bind_eq_some_iff.mp H
      obtain ⟨t348, A40, H⟩ := H
      replace H : (hurdlelaw05_CheckBytes.j0 k l0 (!t348)) = some r := H
      have A4 := Aside0.mk A40
      clear A40
      have H' := Aside0.mk H
      clear H
      go_wp2_with (first | (go_at_call 13; (with_reducible refine (check_Sound.calls k _ _ l0 t348 _ ?side1 ?side2 ?side3 A4.out).mono ?_); (case side1 => repeat (first | exact (Kd.C_below HR0.out HB.out) | (with_reducible refine Kd.C_alloc ?_ _) | (with_reducible refine Kd.C_drewN ?_ _) | (with_reducible refine Kd.C_drew ?_))); (case side2 => exact HC0.out); (case side3 => exact Glob.below HG.out (by repeat (first | (with_reducible first | exact HB.out | apply below_alloc | apply pw_below_drewN | apply below_drew1) | exact HB.out))); rintro e w5 ⟨rfl, hb⟩; have n0_ := Aside0.mk (below_step (by repeat (first | (with_reducible first | exact HB.out | apply below_alloc | apply pw_below_drewN | apply below_drew1) | exact HB.out)) hb); clear HB; have HB := n0_; clear n0_; (try clear hb); (try clear hb2); (try clear hk); (try clear hi)))
      go_meet
      case rel => exact ⟨_, (!t348), (by first | rfl | (simp; done) | (simp [*]; done)), H', ⟨by first | omega | exact Nat.le_refl _⟩, ⟨by repeat (first | (with_reducible first | exact HB.out | apply below_alloc | apply pw_below_drewN | apply below_drew1) | exact HB.out)⟩⟩
  case rest =>
    clear HC2
    try clear p2
    try clear c3
    try clear c3b0
    try clear c3b1
    obtain ⟨kq, x19_1, rfl, HA, HJ1, HB⟩ := hcut
    cases kq with
    | zero => exact absurd HA.out (by simp [hurdlelaw05_CheckBytes.j0])
    | succ kj1 =>
      have H := HA.out
      clear HA
      simp only [hurdlelaw05_CheckBytes.j0] at H
      by_cases c6 : x19_1 = true
      · subst c6
        have H1 : (if (l0.length : Int) > 500 then ((hurdlelaw05_knows.f kj1).bind fun t349 => (if t349 = true then (some true) else ((hurdleref05_Sound.f kj1 l0).bind fun t350 => (if t350 = true then (none) else ((hurdlelaw05_knows.f kj1).bind fun t351 => (some t351)))))) else ((hurdleref05_Sound.f kj1 l0).bind fun t352 => (if t352 = true then (none) else ((hurdlelaw05_knows.f kj1).bind fun t353 => (some t353))))) = some r := by rw [if_pos rfl] at H; exact H
        clear H
        have H := H1
        clear H1
        by_cases c7 : (l0.length : Int) > 500
        · rw [if_pos c7] at H
          have c7b0 : decide (500 < (l0.length : Int)) = true := decide_eq_true c7
          have c7b1 : decide (500 < l0.length) = true := decide_eq_true (by omega)
          clear c7
          replace H := Option.bind_eq_some_iff.mp H
          obtain ⟨t349, A80, H⟩ := H
          replace H : (if t349 = true then (some true) else ((hurdleref05_Sound.f kj1 l0).bind fun t350 => (if t350 = true then (none) else ((hurdlelaw05_knows.f kj1).bind fun t351 => (some t351))))) = some r := H
          have A8 := Aside0.mk A80
          clear A80
          by_cases c9 : t349 = true
          · subst c9
            have H1 : (some true) = some r := by rw [if_pos rfl] at H; exact H
            clear H
            have H := H1
            clear H1
            obtain rfl := Option.some.inj H
            go_wp2_with (first | (go_at_call 10; (with_reducible refine (hurdlelaw05_knows.calls kj1  true _ ?side1 A8.out).mono ?_); (case side1 => exact Glob.below HG.out (by repeat (first | (with_reducible first | exact HB.out | apply below_alloc | apply pw_below_drewN | apply below_drew1) | exact HB.out))); rintro e w10 ⟨rfl, hb⟩; have n0_ := Aside0.mk (below_step (by repeat (first | (with_reducible first | exact HB.out | apply below_alloc | apply pw_below_drewN | apply below_drew1) | exact HB.out)) hb); clear HB; have HB := n0_; clear n0_; (try clear hb); (try clear hb2); (try clear hk); (try clear hi)))
            go_ret
            exact ⟨by first | rfl | (simp [errW_none, errW_some] <;> rfl) | (simp [*, errW_none, errW_some] <;> rfl), by repeat (first | (with_reducible first | exact HB.out | apply below_alloc | apply pw_below_drewN | apply below_drew1) | exact HB.out)⟩
          · replace c9 := Bool.eq_false_iff.mpr c9
            subst c9
            have H1 : ((hurdleref05_Sound.f kj1 l0).bind fun t350 => (if t350 = true then (none) else ((hurdlelaw05_knows.f kj1).bind fun t351 => (some t351)))) = some r := by rw [if_neg (show ¬ (false = true) by decide)] at H; exact H
            clear H
            have H := H1
            clear H1
            replace H := Option.bind_eq_some_iff.mp H
            obtain ⟨t350, A110, H⟩ := H
            replace H : (if t350 = true then (none) else ((hurdlelaw05_knows.f kj1).bind fun t351 => (some t351))) = some r := H
            have A11 := Aside0.mk A110
            clear A110
            by_cases c12 : t350 = true
            · subst c12
              have H1 : (none) = some r := by rw [if_pos rfl] at H; exact H
              clear H
              have H := H1
              clear H1
              exact absurd H (by simp)
            · replace c12 := Bool.eq_false_iff.mpr c12
              subst c12
              have H1 : ((hurdlelaw05_knows.f kj1).bind fun t351 => (some t351)) = some r := by rw [if_neg (show ¬ (false = true) by decide)] at H; exact H
              clear H
              have H := H1
              clear H1
              replace H := Option.bind_eq_some_iff.mp H
              obtain ⟨t351, A130, H⟩ := H
              replace H : (some t351) = some r := H
              have A13 := Aside0.mk A130
              clear A130
              obtain rfl := Option.some.inj H
              obtain rfl : t351 = false := Option.some.inj (A13.out.symm.trans A8.out)
              go_wp2_with (first | (go_at_call 10; (with_reducible refine (hurdlelaw05_knows.calls kj1  false _ ?side1 A8.out).mono ?_); (case side1 => exact Glob.below HG.out (by repeat (first | (with_reducible first | exact HB.out | apply below_alloc | apply pw_below_drewN | apply below_drew1) | exact HB.out))); rintro e w14 ⟨rfl, hb⟩; have n0_ := Aside0.mk (below_step (by repeat (first | (with_reducible first | exact HB.out | apply below_alloc | apply pw_below_drewN | apply below_drew1) | exact HB.out)) hb); clear HB; have HB := n0_; clear n0_; (try clear hb); (try clear hb2); (try clear hk); (try clear hi)) | (go_at_call 15; (with_reducible refine (hurdleref05_Sound.calls kj1 _ _ l0 false _ ?side1 ?side2 A11.out).mono ?_); (case side1 => repeat (first | exact (Kd.C_below HR0.out HB.out) | (with_reducible refine Kd.C_alloc ?_ _) | (with_reducible refine Kd.C_drewN ?_ _) | (with_reducible refine Kd.C_drew ?_))); (case side2 => exact HC0.out); rintro e w15 ⟨rfl, hb⟩; have n0_ := Aside0.mk (below_step (by repeat (first | (with_reducible first | exact HB.out | apply below_alloc | apply pw_below_drewN | apply below_drew1) | exact HB.out)) hb); clear HB; have HB := n0_; clear n0_; (try clear hb); (try clear hb2); (try clear hk); (try clear hi)) | (go_at_call 10; (with_reducible refine (hurdlelaw05_knows.calls kj1  t351 _ ?side1 A13.out).mono ?_); (case side1 => exact Glob.below HG.out (by repeat (first | (with_reducible first | exact HB.out | apply below_alloc | apply pw_below_drewN | apply below_drew1) | exact HB.out))); rintro e w16 ⟨rfl, hb⟩; have n0_ := Aside0.mk (below_step (by repeat (first | (with_reducible first | exact HB.out | apply below_alloc | apply pw_below_drewN | apply below_drew1) | exact HB.out)) hb); clear HB; have HB := n0_; clear n0_; (try clear hb); (try clear hb2); (try clear hk); (try clear hi)))
              go_ret
              exact ⟨by first | rfl | (simp [errW_none, errW_some] <;> rfl) | (simp [*, errW_none, errW_some] <;> rfl), by repeat (first | (with_reducible first | exact HB.out | apply below_alloc | apply pw_below_drewN | apply below_drew1) | exact HB.out)⟩
        · rw [if_neg c7] at H
          have c7b0 : decide (500 < (l0.length : Int)) = false := decide_eq_false c7
          have c7b1 : decide (500 < l0.length) = false := decide_eq_false (by omega)
          clear c7
          replace H := Option.bind_eq_some_iff.mp H
          obtain ⟨t352, A170, H⟩ := H
          replace H : (if t352 = true then (none) else ((hurdlelaw05_knows.f kj1).bind fun t353 => (some t353))) = some r := H
          have A17 := Aside0.mk A170
          clear A170
          by_cases c18 : t352 = true
          · subst c18
            have H1 : (none) = some r := by rw [if_pos rfl] at H; exact H
            clear H
            have H := H1
            clear H1
            exact absurd H (by simp)
          · replace c18 := Bool.eq_false_iff.mpr c18
            subst c18
            have H1 : ((hurdlelaw05_knows.f kj1).bind fun t353 => (some t353)) = some r := by rw [if_neg (show ¬ (false = true) by decide)] at H; exact H
            clear H
            have H := H1
            clear H1
            replace H := Option.bind_eq_some_iff.mp H
            obtain ⟨t353, A190, H⟩ := H
            replace H : (some t353) = some r := H
            have A19 := Aside0.mk A190
            clear A190
            obtain rfl := Option.some.inj H
            go_wp2_with (first | (go_at_call 15; (with_reducible refine (hurdleref05_Sound.calls kj1 _ _ l0 false _ ?side1 ?side2 A17.out).mono ?_); (case side1 => repeat (first | exact (Kd.C_below HR0.out HB.out) | (with_reducible refine Kd.C_alloc ?_ _) | (with_reducible refine Kd.C_drewN ?_ _) | (with_reducible refine Kd.C_drew ?_))); (case side2 => exact HC0.out); rintro e w20 ⟨rfl, hb⟩; have n0_ := Aside0.mk (below_step (by repeat (first | (with_reducible first | exact HB.out | apply below_alloc | apply pw_below_drewN | apply below_drew1) | exact HB.out)) hb); clear HB; have HB := n0_; clear n0_; (try clear hb); (try clear hb2); (try clear hk); (try clear hi)) | (go_at_call 10; (with_reducible refine (hurdlelaw05_knows.calls kj1  t353 _ ?side1 A19.out).mono ?_); (case side1 => exact Glob.below HG.out (by repeat (first | (with_reducible first | exact HB.out | apply below_alloc | apply pw_below_drewN | apply below_drew1) | exact HB.out))); rintro e w21 ⟨rfl, hb⟩; have n0_ := Aside0.mk (below_step (by repeat (first | (with_reducible first | exact HB.out | apply below_alloc | apply pw_below_drewN | apply below_drew1) | exact HB.out)) hb); clear HB; have HB := n0_; clear n0_; (try clear hb); (try clear hb2); (try clear hk); (try clear hi)))
            go_ret
            exact ⟨by first | rfl | (simp [errW_none, errW_some] <;> rfl) | (simp [*, errW_none, errW_some] <;> rfl), by repeat (first | (with_reducible first | exact HB.out | apply below_alloc | apply pw_below_drewN | apply below_drew1) | exact HB.out)⟩
      · replace c6 := Bool.eq_false_iff.mpr c6
        subst c6
        have H1 : ((codec_Encode.f kj1 l0).bind fun bt354 => ((codec_Decode.f kj1 bt354.1).bind fun bt358 => ((codec_Print.f kj1 l0).bind fun bt362 => ((codec_Parse.f kj1 bt362.1).bind fun bt364 => (if bt354.2 = 0 then (if bt358.2 = 0 then (if bt362.2 = 0 then (if bt364.2.2 = 0 then ((check_Sound.f kj1 bt358.1).bind fun t369 => (if t369 = true then ((check_Sound.f kj1 bt364.1).bind fun t370 => (if t370 = true then ((hurdlelaw05_knows.f kj1).bind fun t371 => (some t371)) else (none))) else (none))) else (none)) else (none)) else (none)) else (none)))))) = some r := by rw [if_neg (show ¬ (false = true) by decide)] at H; exact H
        clear H
        have H := H1
        clear H1
        replace H := Option.bind_eq_some_iff.mp H
        obtain ⟨⟨t354, t355⟩, A220, H⟩ := H
        replace H : ((codec_Decode.f kj1 t354).bind fun bt358 => ((codec_Print.f kj1 l0).bind fun bt362 => ((codec_Parse.f kj1 bt362.1).bind fun bt364 => (if t355 = 0 then (if bt358.2 = 0 then (if bt362.2 = 0 then (if bt364.2.2 = 0 then ((check_Sound.f kj1 bt358.1).bind fun t369 => (if t369 = true then ((check_Sound.f kj1 bt364.1).bind fun t370 => (if t370 = true then ((hurdlelaw05_knows.f kj1).bind fun t371 => (some t371)) else (none))) else (none))) else (none)) else (none)) else (none)) else (none))))) = some r := H
        have A22 := Aside0.mk A220
        clear A220
        replace H := Option.bind_eq_some_iff.mp H
        obtain ⟨⟨t358, t361⟩, A230, H⟩ := H
        replace H : ((codec_Print.f kj1 l0).bind fun bt362 => ((codec_Parse.f kj1 bt362.1).bind fun bt364 => (if t355 = 0 then (if t361 = 0 then (if bt362.2 = 0 then (if bt364.2.2 = 0 then ((check_Sound.f kj1 t358).bind fun t369 => (if t369 = true then ((check_Sound.f kj1 bt364.1).bind fun t370 => (if t370 = true then ((hurdlelaw05_knows.f kj1).bind fun t371 => (some t371)) else (none))) else (none))) else (none)) else (none)) else (none)) else (none)))) = some r := H
        have A23 := Aside0.mk A230
        clear A230
        replace H := Option.bind_eq_some_iff.mp H
        obtain ⟨⟨t362, t363⟩, A240, H⟩ := H
        replace H : ((codec_Parse.f kj1 t362).bind fun bt364 => (if t355 = 0 then (if t361 = 0 then (if t363 = 0 then (if bt364.2.2 = 0 then ((check_Sound.f kj1 t358).bind fun t369 => (if t369 = true then ((check_Sound.f kj1 bt364.1).bind fun t370 => (if t370 = true then ((hurdlelaw05_knows.f kj1).bind fun t371 => (some t371)) else (none))) else (none))) else (none)) else (none)) else (none)) else (none))) = some r := H
        have A24 := Aside0.mk A240
        clear A240
        replace H := Option.bind_eq_some_iff.mp H
        obtain ⟨⟨t364, t365, t366⟩, A250, H⟩ := H
        replace H : (if t355 = 0 then (if t361 = 0 then (if t363 = 0 then (if t366 = 0 then ((check_Sound.f kj1 t358).bind fun t369 => (if t369 = true then ((check_Sound.f kj1 t364).bind fun t370 => (if t370 = true then ((hurdlelaw05_knows.f kj1).bind fun t371 => (some t371)) else (none))) else (none))) else (none)) else (none)) else (none)) else (none)) = some r := H
        have A25 := Aside0.mk A250
        clear A250
        by_cases c26 : t355 = 0
        · rw [if_pos c26] at H
          have c26b0 : (t355 == 0) = true := beq_iff_eq.mpr c26
          have c26b1 : (t355 != 0) = false := bne_eq_false_iff_eq.mpr c26
          clear c26
          by_cases c27 : t361 = 0
          · rw [if_pos c27] at H
            have c27b0 : (t361 == 0) = true := beq_iff_eq.mpr c27
            have c27b1 : (t361 != 0) = false := bne_eq_false_iff_eq.mpr c27
            clear c27
            by_cases c28 : t363 = 0
            · rw [if_pos c28] at H
              have c28b0 : (t363 == 0) = true := beq_iff_eq.mpr c28
              have c28b1 : (t363 != 0) = false := bne_eq_false_iff_eq.mpr c28
              clear c28
              by_cases c29 : t366 = 0
              · rw [if_pos c29] at H
                have c29b0 : (t366 == 0) = true := beq_iff_eq.mpr c29
                have c29b1 : (t366 != 0) = false := bne_eq_false_iff_eq.mpr c29
                clear c29
                replace H := Option.bind_eq_some_iff.mp H
                obtain ⟨t369, A300, H⟩ := H
                replace H : (if t369 = true then ((check_Sound.f kj1 t364).bind fun t370 => (if t370 = true then ((hurdlelaw05_knows.f kj1).bind fun t371 => (some t371)) else (none))) else (none)) = some r := H
                have A30 := Aside0.mk A300
                clear A300
                by_cases c31 : t369 = true
                · subst c31
                  have H1 : ((check_Sound.f kj1 t364).bind fun t370 => (if t370 = true then ((hurdlelaw05_knows.f kj1).bind fun t371 => (some t371)) else (none))) = some r := by rw [if_pos rfl] at H; exact H
                  clear H
                  have H := H1
                  clear H1
                  replace H := Option.bind_eq_some_iff.mp H
                  obtain ⟨t370, A320, H⟩ := H
                  replace H : (if t370 = true then ((hurdlelaw05_knows.f kj1).bind fun t371 => (some t371)) else (none)) = some r := H
                  have A32 := Aside0.mk A320
                  clear A320
                  by_cases c33 : t370 = true
                  · subst c33
                    have H1 : ((hurdlelaw05_knows.f kj1).bind fun t371 => (some t371)) = some r := by rw [if_pos rfl] at H; exact H
                    clear H
                    have H := H1
                    clear H1
                    replace H := Option.bind_eq_some_iff.mp H
                    obtain ⟨t371, A340, H⟩ := H
                    replace H : (some t371) = some r := H
                    have A34 := Aside0.mk A340
                    clear A340
                    obtain rfl := Option.some.inj H
                    go_wp2_with (first | ((with_reducible refine gate_callee (f := 19) rfl ?_); refine goesL_ (some 36) rfl rfl Tryd.func19 (by kernel_rfl) rfl #[.slice A0 l0.length c0] rfl (by (try simp only [List.map_toArray, List.map_cons, List.map_nil]); first | done | rfl | (simp only [List.length_drop, List.length_take]; rfl)) ?_; (with_reducible refine (codec_Encode.calls kj1 _ _ l0 t354 t355 _ ?side1 ?side2 ?side3 A22.out).mono ?_); (case side1 => repeat (first | exact (Kd.C_below HR0.out HB.out) | (with_reducible refine Kd.C_alloc ?_ _) | (with_reducible refine Kd.C_drewN ?_ _) | (with_reducible refine Kd.C_drew ?_))); (case side2 => exact HC0.out); (case side3 => exact Glob.below HG.out (by repeat (first | (with_reducible first | exact HB.out | apply below_alloc | apply pw_below_drewN | apply below_drew1) | exact HB.out))); rintro e w35 ⟨v356, rfl, ho0, hb⟩; refine ⟨_, rfl, ?_⟩; have n0_ := Aside0.mk (Kd.R_lower ho0 (below_size (by repeat (first | (with_reducible first | exact HB.out | apply below_alloc | apply pw_below_drewN | apply below_drew1) | exact HB.out)))); have n1_ := Aside0.mk (below_step (by repeat (first | (with_reducible first | exact HB.out | apply below_alloc | apply pw_below_drewN | apply below_drew1) | exact HB.out)) hb); clear HB; have HO357 := n0_; have HB := n1_; clear n0_ n1_; (try clear hb); (try clear hb2); (try clear hk); (try clear hi); (try clear ho0); obtain ⟨Ao36, co36, eo36⟩ := Kd.R_slice HO357.out; subst eo36) | ((with_reducible refine gate_callee (f := 20) rfl ?_); refine goesL_ (some 41) rfl rfl Tryd.func20 (by kernel_rfl) rfl #[.slice Ao36 t354.length co36] rfl (by (try simp only [List.map_toArray, List.map_cons, List.map_nil]); first | done | rfl | (simp only [List.length_drop, List.length_take]; rfl)) ?_; (with_reducible refine (codec_Decode.calls kj1 (fun k_ => some k_ = (.slice Ao36 t354.length co36 : Value).ownBlock) _ _ t354 t358 t361 _ ?side1 ?side2 A23.out).mono ?_); (case side1 => exact Kd.R_V (Kd.R_tight rfl (HO357.out))); (case side2 => exact Glob.below HG.out (by repeat (first | (with_reducible first | exact HB.out | apply below_alloc | apply pw_below_drewN | apply below_drew1) | exact HB.out))); rintro e w37 ⟨v359, rfl, ho0, hb⟩; refine ⟨_, rfl, ?_⟩; have n0_ := Aside0.mk (Kd.R_below (by (with_reducible repeat (first | apply Kd.R_alloc | apply Kd.R_drewN | apply Kd.R_drew)); exact HO357.out) hb); have n1_ := Aside0.mk (Kd.R_lower (Kd.R_mono (ok' := fun k_ => True) ho0 (fun _ hk_ => trivial)) (below_size (by repeat (first | (with_reducible first | exact HB.out | apply below_alloc | apply pw_below_drewN | apply below_drew1) | exact HB.out)))); have n2_ := Aside0.mk (below_step (by repeat (first | (with_reducible first | exact HB.out | apply below_alloc | apply pw_below_drewN | apply below_drew1) | exact HB.out)) hb); clear HO357; clear HB; have HO357 := n0_; have HO360 := n1_; have HB := n2_; clear n0_ n1_ n2_; (try clear hb); (try clear hb2); (try clear hk); (try clear hi); (try clear ho0)) | ((with_reducible refine gate_callee (f := 21) rfl ?_); refine goesL_ (some 46) rfl rfl Tryd.func21 (by kernel_rfl) rfl #[.slice A0 l0.length c0] rfl (by (try simp only [List.map_toArray, List.map_cons, List.map_nil]); first | done | rfl | (simp only [List.length_drop, List.length_take]; rfl)) ?_; (with_reducible refine (codec_Print.calls kj1 _ _ l0 t362 t363 _ ?side1 ?side2 ?side3 A24.out).mono ?_); (case side1 => repeat (first | exact (Kd.C_below HR0.out HB.out) | (with_reducible refine Kd.C_alloc ?_ _) | (with_reducible refine Kd.C_drewN ?_ _) | (with_reducible refine Kd.C_drew ?_))); (case side2 => exact HC0.out); (case side3 => exact Glob.below HG.out (by repeat (first | (with_reducible first | exact HB.out | apply below_alloc | apply pw_below_drewN | apply below_drew1) | exact HB.out))); rintro e w38 ⟨rfl, hb⟩; refine ⟨_, rfl, ?_⟩; have n0_ := Aside0.mk (Kd.R_below (by (with_reducible repeat (first | apply Kd.R_alloc | apply Kd.R_drewN | apply Kd.R_drew)); exact HO357.out) hb); have n1_ := Aside0.mk (Kd.R_below (by (with_reducible repeat (first | apply Kd.R_alloc | apply Kd.R_drewN | apply Kd.R_drew)); exact HO360.out) hb); have n2_ := Aside0.mk (below_step (by repeat (first | (with_reducible first | exact HB.out | apply below_alloc | apply pw_below_drewN | apply below_drew1) | exact HB.out)) hb); clear HO357; clear HO360; clear HB; have HO357 := n0_; have HO360 := n1_; have HB := n2_; clear n0_ n1_ n2_; (try clear hb); (try clear hb2); (try clear hk); (try clear hi)) | ((with_reducible refine gate_callee (f := 22) rfl ?_); refine goesL_ (some 51) rfl rfl Tryd.func22 (by kernel_rfl) rfl #[.string t362] rfl (by (try simp only [List.map_toArray, List.map_cons, List.map_nil]); first | done | rfl | (simp only [List.length_drop, List.length_take]; rfl)) ?_; (with_reducible refine (codec_Parse.calls kj1 t362 t364 t365 t366 _ ?side1 A25.out).mono ?_); (case side1 => exact Glob.below HG.out (by repeat (first | (with_reducible first | exact HB.out | apply below_alloc | apply pw_below_drewN | apply below_drew1) | exact HB.out))); rintro e w39 ⟨v367, rfl, ho0, hb⟩; refine ⟨_, rfl, ?_⟩; have n0_ := Aside0.mk (Kd.R_below (by (with_reducible repeat (first | apply Kd.R_alloc | apply Kd.R_drewN | apply Kd.R_drew)); exact HO357.out) hb); have n1_ := Aside0.mk (Kd.R_elder' (by (with_reducible repeat (first | apply Kd.R_alloc | apply Kd.R_drewN | apply Kd.R_drew)); exact HO360.out) (Kd.R_base ho0) hb); have n2_ := Aside0.mk (Kd.R_lower (Kd.R_new' ho0 (Kd.R_lt (by (with_reducible repeat (first | apply Kd.R_alloc | apply Kd.R_drewN | apply Kd.R_drew)); exact HO360.out))) (below_size (by repeat (first | (with_reducible first | exact HB.out | apply below_alloc | apply pw_below_drewN | apply below_drew1) | exact HB.out)))); have n3_ := Aside0.mk (below_step (by repeat (first | (with_reducible first | exact HB.out | apply below_alloc | apply pw_below_drewN | apply below_drew1) | exact HB.out)) hb); clear HO357; clear HO360; clear HB; have HO357 := n0_; have HO360 := n1_; have HO368 := n2_; have HB := n3_; clear n0_ n1_ n2_ n3_; (try clear hb); (try clear hb2); (try clear hk); (try clear hi); (try clear ho0); obtain ⟨Ao40, co40, eo40⟩ := Kd.R_slice HO360.out; subst eo40) | (go_at_call 13; (with_reducible refine (check_Sound.calls kj1 _ _ t358 true _ ?side1 ?side2 ?side3 A30.out).mono ?_); (case side1 => repeat (first | exact (Kd.R_reads' HO360.out).2.2 | (with_reducible refine Kd.C_alloc ?_ _) | (with_reducible refine Kd.C_drewN ?_ _) | (with_reducible refine Kd.C_drew ?_))); (case side2 => exact (Kd.R_reads' HO360.out).2.1); (case side3 => exact Glob.below HG.out (by repeat (first | (with_reducible first | exact HB.out | apply below_alloc | apply pw_below_drewN | apply below_drew1) | exact HB.out))); rintro e w41 ⟨rfl, hb⟩; have n0_ := Aside0.mk (Kd.R_below (by (with_reducible repeat (first | apply Kd.R_alloc | apply Kd.R_drewN | apply Kd.R_drew)); exact HO357.out) hb); have n1_ := Aside0.mk (Kd.R_below (by (with_reducible repeat (first | apply Kd.R_alloc | apply Kd.R_drewN | apply Kd.R_drew)); exact HO360.out) hb); have n2_ := Aside0.mk (Kd.R_below (by (with_reducible repeat (first | apply Kd.R_alloc | apply Kd.R_drewN | apply Kd.R_drew)); exact HO368.out) hb); have n3_ := Aside0.mk (below_step (by repeat (first | (with_reducible first | exact HB.out | apply below_alloc | apply pw_below_drewN | apply below_drew1) | exact HB.out)) hb); clear HO357; clear HO360; clear HO368; clear HB; have HO357 := n0_; have HO360 := n1_; have HO368 := n2_; have HB := n3_; clear n0_ n1_ n2_ n3_; (try clear hb); (try clear hb2); (try clear hk); (try clear hi); obtain ⟨Ao42, co42, eo42⟩ := Kd.R_slice HO368.out; subst eo42) | (go_at_call 13; (with_reducible refine (check_Sound.calls kj1 _ _ t364 true _ ?side1 ?side2 ?side3 A32.out).mono ?_); (case side1 => repeat (first | exact (Kd.R_reads' HO368.out).2.2 | (with_reducible refine Kd.C_alloc ?_ _) | (with_reducible refine Kd.C_drewN ?_ _) | (with_reducible refine Kd.C_drew ?_))); (case side2 => exact (Kd.R_reads' HO368.out).2.1); (case side3 => exact Glob.below HG.out (by repeat (first | (with_reducible first | exact HB.out | apply below_alloc | apply pw_below_drewN | apply below_drew1) | exact HB.out))); rintro e w43 ⟨rfl, hb⟩; have n0_ := Aside0.mk (Kd.R_below (by (with_reducible repeat (first | apply Kd.R_alloc | apply Kd.R_drewN | apply Kd.R_drew)); exact HO357.out) hb); have n1_ := Aside0.mk (Kd.R_below (by (with_reducible repeat (first | apply Kd.R_alloc | apply Kd.R_drewN | apply Kd.R_drew)); exact HO360.out) hb); have n2_ := Aside0.mk (Kd.R_below (by (with_reducible repeat (first | apply Kd.R_alloc | apply Kd.R_drewN | apply Kd.R_drew)); exact HO368.out) hb); have n3_ := Aside0.mk (below_step (by repeat (first | (with_reducible first | exact HB.out | apply below_alloc | apply pw_below_drewN | apply below_drew1) | exact HB.out)) hb); clear HO357; clear HO360; clear HO368; clear HB; have HO357 := n0_; have HO360 := n1_; have HO368 := n2_; have HB := n3_; clear n0_ n1_ n2_ n3_; (try clear hb); (try clear hb2); (try clear hk); (try clear hi)) | (go_at_call 10; (with_reducible refine (hurdlelaw05_knows.calls kj1  t371 _ ?side1 A34.out).mono ?_); (case side1 => exact Glob.below HG.out (by repeat (first | (with_reducible first | exact HB.out | apply below_alloc | apply pw_below_drewN | apply below_drew1) | exact HB.out))); rintro e w44 ⟨rfl, hb⟩; have n0_ := Aside0.mk (Kd.R_below (by (with_reducible repeat (first | apply Kd.R_alloc | apply Kd.R_drewN | apply Kd.R_drew)); exact HO357.out) hb); have n1_ := Aside0.mk (Kd.R_below (by (with_reducible repeat (first | apply Kd.R_alloc | apply Kd.R_drewN | apply Kd.R_drew)); exact HO360.out) hb); have n2_ := Aside0.mk (Kd.R_below (by (with_reducible repeat (first | apply Kd.R_alloc | apply Kd.R_drewN | apply Kd.R_drew)); exact HO368.out) hb); have n3_ := Aside0.mk (below_step (by repeat (first | (with_reducible first | exact HB.out | apply below_alloc | apply pw_below_drewN | apply below_drew1) | exact HB.out)) hb); clear HO357; clear HO360; clear HO368; clear HB; have HO357 := n0_; have HO360 := n1_; have HO368 := n2_; have HB := n3_; clear n0_ n1_ n2_ n3_; (try clear hb); (try clear hb2); (try clear hk); (try clear hi)))
                    go_ret
                    exact ⟨by first | rfl | (simp [errW_none, errW_some] <;> rfl) | (simp [*, errW_none, errW_some] <;> rfl), by repeat (first | (with_reducible first | exact HB.out | apply below_alloc | apply pw_below_drewN | apply below_drew1) | exact HB.out)⟩
                  · replace c33 := Bool.eq_false_iff.mpr c33
                    subst c33
                    have H1 : (none) = some r := by rw [if_neg (show ¬ (false = true) by decide)] at H; exact H
                    clear H
                    have H := H1
                    clear H1
                    exact absurd H (by simp)
                · replace c31 := Bool.eq_false_iff.mpr c31
                  subst c31
                  have H1 : (none) = some r := by rw [if_neg (show ¬ (false = true) by decide)] at H; exact H
                  clear H
                  have H := H1
                  clear H1
                  exact absurd H (by simp)
              · rw [if_neg c29] at H
                exact absurd H (by simp)
            · rw [if_neg c28] at H
              exact absurd H (by simp)
          · rw [if_neg c27] at H
            exact absurd H (by simp)
        · rw [if_neg c26] at H
          exact absurd H (by simp)

end Go.Proofs.YtacfdcgogadamaaDoor.M
