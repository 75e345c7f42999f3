/- By a program of this session: what Go functions of the seat compute, as Lean functions, each with a proof that the call of the Go function comes to that. -/
import Derived.Test.YtoaflnpjmpijgaaM0
import Derived.Test.YtoaflnpjmpijgaaM1
import Derived.Test.YtoaflnpjmpijgaaM2
import Derived.Test.YtoaflnpjmpijgaaM3
import Derived.Test.YtoaflnpjmpijgaaM5
namespace Go.Proofs.Ytoaflnpjmpijgaa.M
open Go.RowKit Go.Proofs.YtoaflnpjmpijgaaW.PrintWords Go.Proofs.YtoaflnpjmpijgaaW.PrintLast Go.Proofs.YtoaflnpjmpijgaaW.PrintMore
attribute [local go_sem] max2_int min2_int max_two min_two max_three min_three max_four min_four   -- for this text's walks alone
set_option linter.unusedVariables false
set_option linter.unusedSimpArgs false

/-! ### hurdlelaw20_CrcBursts: function 6 -/
mutual
def hurdlelaw20_CrcBursts.j0 : Nat → Int → Int → List Int → Bool → Option (Bool)
  | 0, _, _, _, _ => none
  | k + 1, x1, x2, x7, x28 => if x28 = true then ((hurdlelaw20_knows.f k).bind fun t159 => (some t159)) else (hurdlelaw20_CrcBursts.l0 k x1 x2 x7 x7 false 0)
def hurdlelaw20_CrcBursts.l0 : Nat → Int → Int → List Int → List Int → Bool → Int → Option (Bool)
  | 0, _, _, _, _, _, _ => none
  | k + 1, x1, x2, x7, x8, x9, x10 => if x10 < 32 then (hurdlelaw20_CrcBursts.j2 k x1 x2 x7 x8 x9 x10 (decide ((wrap64 (x1 + x10)) < (wrap64 (8 * (x7.length : Int)))))) else (hurdlelaw20_CrcBursts.j2 k x1 x2 x7 x8 x9 x10 false)
def hurdlelaw20_CrcBursts.j2 : Nat → Int → Int → List Int → List Int → Bool → Int → Bool → Option (Bool)
  | 0, _, _, _, _, _, _, _ => none
  | k + 1, x1, x2, x7, x8, x9, x10, x41 => if x41 = true then (if (Int.tmod x2 2) = 1 then ((hurdleref20_Turn.f k x8 (wrap64 (x1 + x10))).bind fun t160 => (hurdlelaw20_CrcBursts.l0 k x1 ((Int.tdiv x2 2) % 4294967296) x7 t160 true (wrap64 (x10 + 1)))) else (hurdlelaw20_CrcBursts.l0 k x1 ((Int.tdiv x2 2) % 4294967296) x7 x8 x9 (wrap64 (x10 + 1)))) else ((crc_Open.f k x8).bind fun bt163 => (if ((bt163.2 == 10) == x9) = true then (if x9 = true then ((hurdlelaw20_knows.f k).bind fun t167 => (some t167)) else (if bt163.2 = 0 then ((hurdlelaw20_knows.f k).bind fun t168 => (some t168)) else (none))) else (none)))
end
def hurdlelaw20_CrcBursts.g (k : Nat) (nb : Nat) (l0 : List Int) (a1 : Int) (a2 : Int) : Option (Bool) := if (nb : Int) > 2000 then (hurdlelaw20_CrcBursts.j0 k a1 a2 l0 true) else (if a1 < 0 then (hurdlelaw20_CrcBursts.j0 k a1 a2 l0 true) else (hurdlelaw20_CrcBursts.j0 k a1 a2 l0 (decide (a1 ≥ (wrap64 (8 * (l0.length : Int)))))))
theorem hurdlelaw20_CrcBursts.mono_l : ∀ k, (∀ y0 y1 y2 y3, LeO (hurdlelaw20_CrcBursts.j0 k y0 y1 y2 y3) (hurdlelaw20_CrcBursts.j0 (k + 1) y0 y1 y2 y3)) ∧ (∀ y0 y1 y2 y3 y4 y5, LeO (hurdlelaw20_CrcBursts.l0 k y0 y1 y2 y3 y4 y5) (hurdlelaw20_CrcBursts.l0 (k + 1) y0 y1 y2 y3 y4 y5)) ∧ (∀ y0 y1 y2 y3 y4 y5 y6, LeO (hurdlelaw20_CrcBursts.j2 k y0 y1 y2 y3 y4 y5 y6) (hurdlelaw20_CrcBursts.j2 (k + 1) y0 y1 y2 y3 y4 y5 y6))
  | 0 => ⟨fun _ _ _ _ r h => by simp [hurdlelaw20_CrcBursts.j0] at h, fun _ _ _ _ _ _ r h => by simp [hurdlelaw20_CrcBursts.l0] at h, fun _ _ _ _ _ _ _ r h => by simp [hurdlelaw20_CrcBursts.j2] at h⟩
  | k + 1 => by
    obtain ⟨ih0, ih1, ih2⟩ := hurdlelaw20_CrcBursts.mono_l k
    refine ⟨?_, ?_, ?_⟩
    · intro y0 y1 y2 y3
      unfold hurdlelaw20_CrcBursts.j0
      repeat' first
      | (with_reducible exact ih0 _ _ _ _)
      | (with_reducible exact ih1 _ _ _ _ _ _)
      | (with_reducible exact ih2 _ _ _ _ _ _ _)
      | (with_reducible exact crc_Open.mono _ _)
      | (with_reducible exact hurdlelaw20_knows.mono _)
      | (with_reducible exact hurdleref20_Turn.mono _ _ _)
      | (with_reducible exact LeO.refl _)
      | (with_reducible exact LeO.none _)
      | (with_reducible refine LeO.ite ?_ ?_)
      | (with_reducible refine LeO.bind ?_ (fun _ => ?_))
      | exact ih0 _ _ _ _
      | exact ih1 _ _ _ _ _ _
      | exact ih2 _ _ _ _ _ _ _
      | exact crc_Open.mono _ _
      | exact hurdlelaw20_knows.mono _
      | exact hurdleref20_Turn.mono _ _ _
      | exact LeO.none _
      | refine LeO.ite ?_ ?_
      | refine LeO.bind ?_ (fun _ => ?_)
    · intro y0 y1 y2 y3 y4 y5
      unfold hurdlelaw20_CrcBursts.l0
      repeat' first
      | (with_reducible exact ih0 _ _ _ _)
      | (with_reducible exact ih1 _ _ _ _ _ _)
      | (with_reducible exact ih2 _ _ _ _ _ _ _)
      | (with_reducible exact crc_Open.mono _ _)
      | (with_reducible exact hurdlelaw20_knows.mono _)
      | (with_reducible exact hurdleref20_Turn.mono _ _ _)
      | (with_reducible exact LeO.refl _)
      | (with_reducible exact LeO.none _)
      | (with_reducible refine LeO.ite ?_ ?_)
      | (with_reducible refine LeO.bind ?_ (fun _ => ?_))
      | exact ih0 _ _ _ _
      | exact ih1 _ _ _ _ _ _
      | exact ih2 _ _ _ _ _ _ _
      | exact crc_Open.mono _ _
      | exact hurdlelaw20_knows.mono _
      | exact hurdleref20_Turn.mono _ _ _
      | exact LeO.none _
      | refine LeO.ite ?_ ?_
      | refine LeO.bind ?_ (fun _ => ?_)
    · intro y0 y1 y2 y3 y4 y5 y6
      unfold hurdlelaw20_CrcBursts.j2
      repeat' first
      | (with_reducible exact ih0 _ _ _ _)
      | (with_reducible exact ih1 _ _ _ _ _ _)
      | (with_reducible exact ih2 _ _ _ _ _ _ _)
      | (with_reducible exact crc_Open.mono _ _)
      | (with_reducible exact hurdlelaw20_knows.mono _)
      | (with_reducible exact hurdleref20_Turn.mono _ _ _)
      | (with_reducible exact LeO.refl _)
      | (with_reducible exact LeO.none _)
      | (with_reducible refine LeO.ite ?_ ?_)
      | (with_reducible refine LeO.bind ?_ (fun _ => ?_))
      | exact ih0 _ _ _ _
      | exact ih1 _ _ _ _ _ _
      | exact ih2 _ _ _ _ _ _ _
      | exact crc_Open.mono _ _
      | exact hurdlelaw20_knows.mono _
      | exact hurdleref20_Turn.mono _ _ _
      | exact LeO.none _
      | refine LeO.ite ?_ ?_
      | refine LeO.bind ?_ (fun _ => ?_)
theorem hurdlelaw20_CrcBursts.mono_g : ∀ (nb : Nat) a0 a1 a2 k, LeO (hurdlelaw20_CrcBursts.g k nb a0 a1 a2) (hurdlelaw20_CrcBursts.g (k + 1) nb a0 a1 a2) := by
  intro nb a0 a1 a2 k
  obtain ⟨ih0, ih1, ih2⟩ := hurdlelaw20_CrcBursts.mono_l k
  unfold hurdlelaw20_CrcBursts.g
  repeat' first
      | (with_reducible exact ih0 _ _ _ _)
      | (with_reducible exact ih1 _ _ _ _ _ _)
      | (with_reducible exact ih2 _ _ _ _ _ _ _)
      | (with_reducible exact crc_Open.mono _ _)
      | (with_reducible exact hurdlelaw20_knows.mono _)
      | (with_reducible exact hurdleref20_Turn.mono _ _ _)
      | (with_reducible exact LeO.refl _)
      | (with_reducible exact LeO.none _)
      | (with_reducible refine LeO.ite ?_ ?_)
      | (with_reducible refine LeO.bind ?_ (fun _ => ?_))
      | exact ih0 _ _ _ _
      | exact ih1 _ _ _ _ _ _
      | exact ih2 _ _ _ _ _ _ _
      | exact crc_Open.mono _ _
      | exact hurdlelaw20_knows.mono _
      | exact hurdleref20_Turn.mono _ _ _
      | exact LeO.none _
      | refine LeO.ite ?_ ?_
      | refine LeO.bind ?_ (fun _ => ?_)
def hurdlelaw20_CrcBursts.f (k : Nat) (lb : List Int) (a1 : Int) (a2 : Int) : Option (Bool) := (crc_Seal.f k lb).bind fun l0 => hurdlelaw20_CrcBursts.g k lb.length l0 a1 a2
theorem hurdlelaw20_CrcBursts.mono : ∀ a0 a1 a2 k, LeO (hurdlelaw20_CrcBursts.f k a0 a1 a2) (hurdlelaw20_CrcBursts.f (k + 1) a0 a1 a2) := fun a0 a1 a2 k => LeO.bind (crc_Seal.mono a0 k) (fun _ => hurdlelaw20_CrcBursts.mono_g _ _ _ _ k)
set_option maxHeartbeats 8000000 in
set_option maxRecDepth 100000 in
theorem hurdlelaw20_CrcBursts.calls (k : Nat) (A0 : Option Addr) (c0 : Nat) (lb : List Int) (a1 : Int) (a2 : Int) (r : Bool) (w : World) (hr0 : Kd.C (Kd.int .u8) w A0 lb.length lb) (hc0 : lb.length ≤ c0) (h : hurdlelaw20_CrcBursts.f k lb a1 a2 = some r) :
    Calls Try.prog 6 #[.slice A0 lb.length c0, .int .i64 a1, .int .u32 a2] w fun e w' => e = .returned (.bool r) ∧ Below w.heap.size w w' := by
  obtain ⟨P0_, hP0⟩ : ∃ P : Nat → Prop, ∀ k, P k := ⟨fun _ => True, fun _ => trivial⟩
  obtain ⟨l0, hS, h⟩ := Option.bind_eq_some_iff.mp h
  have HS := Aside0.mk hS
  have HC4 := Aside0.mk (show (if (lb.length : Int) > 2000 then (hurdlelaw20_CrcBursts.j0 k a1 a2 l0 true) else (if a1 < 0 then (hurdlelaw20_CrcBursts.j0 k a1 a2 l0 true) else (hurdlelaw20_CrcBursts.j0 k a1 a2 l0 (decide (a1 ≥ (wrap64 (8 * (l0.length : Int)))))))) = some r from h)
  clear h hS
  have HR0 := Aside0.mk hr0
  have HCC := Aside0.mk hc0
  clear hr0 hc0
  go_enter Try.func6, Try.ntmps6
  go_upto_region 2 with (first | (go_at_call 12; (with_reducible refine (crc_Seal.calls k A0 c0 lb l0 _ HR0.out HCC.out HS.out).mono ?_); rintro e wz ⟨vS, rfl, hRS, hbw⟩; obtain ⟨AS, cS, rfl⟩ := Kd.R_slice hRS; have HO0 := Aside0.mk (show Kd.V (Kd.int .u8) 5 wz wz.heap.size (fun k_ => (P0_ k_ ∨ wz.heap.size ≤ k_)) (.slice AS l0.length cS) l0 from Kd.V_mono (Kd.R_V hRS) (fun k_ _ => .inl (hP0 k_))); have HW0 := Aside0.mk hbw; have HB := Aside0.mk (Below.refl wz.heap.size wz); clear hRS hbw))
  go_cut [28] (fun v28 wc => ∃ (kq : Nat) (x28_3 : Bool), v28 = .bool x28_3 ∧ Aside0 (hurdlelaw20_CrcBursts.j0 kq a1 a2 l0 x28_3 = some r) ∧ Aside0 (kq ≤ k) ∧ Aside0 (Kd.V (Kd.int .u8) 5 wc wz.heap.size (fun k_ => (P0_ k_ ∨ wz.heap.size ≤ k_)) (.slice AS l0.length cS) l0) ∧ Aside0 (Below wz.heap.size wz wc))
  case first =>
    have H := HC4.out
    clear HC4
    by_cases c5 : (lb.length : Int) > 2000
    · rw [if_pos c5] at H
      have c5b0 : decide (2000 < (lb.length : Int)) = true := decide_eq_true c5
      have c5b1 : decide (2000 < lb.length) = true := decide_eq_true (by omega)
      clear c5
      (first | rw [c5b0] | (simp only [i64_w, i32_w]; rw [c5b0]) | skip)
      have H' := Aside0.mk H
      clear H
      go_wp2
      go_meet
      case rel => exact ⟨_, (true), (by first | rfl | (simp; done) | (simp [*]; done)), H', ⟨by first | omega | exact Nat.le_refl _⟩, ⟨by (with_reducible repeat (first | apply Kd.V_alloc | apply Kd.V_drewN | apply Kd.V_drew)); exact HO0.out⟩, ⟨by repeat (first | (with_reducible first | exact HB.out | apply below_alloc | apply pw_below_drewN | apply below_drew1) | exact HB.out)⟩⟩
    · rw [if_neg c5] at H
      have c5b0 : decide (2000 < (lb.length : Int)) = false := decide_eq_false c5
      have c5b1 : decide (2000 < lb.length) = false := decide_eq_false (by omega)
      clear c5
      (first | rw [c5b0] | (simp only [i64_w, i32_w]; rw [c5b0]) | skip)
      by_cases c6 : a1 < 0
      · rw [if_pos c6] at H
        have c6b0 : decide (a1 < 0) = true := decide_eq_true c6
        clear c6
        have H' := Aside0.mk H
        clear H
        go_wp2
        go_meet
        case rel => exact ⟨_, (true), (by first | rfl | (simp; done) | (simp [*]; done)), H', ⟨by first | omega | exact Nat.le_refl _⟩, ⟨by (with_reducible repeat (first | apply Kd.V_alloc | apply Kd.V_drewN | apply Kd.V_drew)); exact HO0.out⟩, ⟨by repeat (first | (with_reducible first | exact HB.out | apply below_alloc | apply pw_below_drewN | apply below_drew1) | exact HB.out)⟩⟩
      · rw [if_neg c6] at H
        have c6b0 : decide (a1 < 0) = false := decide_eq_false c6
        clear c6
        have H' := Aside0.mk H
        clear H
        go_wp2
        go_meet
        case rel => exact ⟨_, (decide (a1 ≥ (wrap64 (8 * (l0.length : Int))))), (by first | rfl | (simp; done) | (simp [*]; done)), H', ⟨by first | omega | exact Nat.le_refl _⟩, ⟨by (with_reducible repeat (first | apply Kd.V_alloc | apply Kd.V_drewN | apply Kd.V_drew)); exact HO0.out⟩, ⟨by repeat (first | (with_reducible first | exact HB.out | apply below_alloc | apply pw_below_drewN | apply below_drew1) | exact HB.out)⟩⟩
  case rest =>
    clear HC4
    try clear p2
    try clear c5
    try clear c5b0
    try clear c5b1
    try clear c6
    try clear c6b0
    try clear p6
    obtain ⟨kq, x28_3, rfl, HA, HJ3, HO_7, HB⟩ := hcut
    cases kq with
    | zero => exact absurd HA.out (by simp [hurdlelaw20_CrcBursts.j0])
    | succ kj3 =>
      have H := HA.out
      clear HA
      simp only [hurdlelaw20_CrcBursts.j0] at H
      by_cases c7 : x28_3 = true
      · subst c7
        have H1 : ((hurdlelaw20_knows.f kj3).bind fun t159 => (some t159)) = some r := by rw [if_pos rfl] at H; exact H
        clear H
        have H := H1
        clear H1
        replace H := Option.bind_eq_some_iff.mp H
        obtain ⟨t159, A80, H⟩ := H
        replace H : (some t159) = some r := H
        have A8 := Aside0.mk A80
        clear A80
        obtain rfl := Option.some.inj H
        go_wp2_with (first | ((with_reducible refine gate_callee (f := 9) rfl ?_); refine goesL_ (some 29) rfl rfl Try.func9 (by kernel_rfl) rfl #[] rfl (by (try simp only [List.map_toArray, List.map_cons, List.map_nil]); first | done | rfl | (simp only [List.length_drop, List.length_take]; rfl)) ?_; (with_reducible refine (hurdlelaw20_knows.calls kj3  t159 _ A8.out).mono ?_); rintro e w9 ⟨rfl, hb⟩; refine ⟨_, rfl, ?_⟩; have n0_ := Aside0.mk (Kd.V_below (by (with_reducible repeat (first | apply Kd.V_alloc | apply Kd.V_drewN | apply Kd.V_drew)); exact HO_7.out) hb); have n1_ := Aside0.mk (below_step (by repeat (first | (with_reducible first | exact HB.out | apply below_alloc | apply pw_below_drewN | apply below_drew1) | exact HB.out)) hb); clear HO_7; clear HB; have HO_7 := n0_; have HB := n1_; clear n0_ n1_; (try clear hb); (try clear hb2); (try clear hk); (try clear hi)))
        go_ret
        exact ⟨by first | rfl | (simp [errW_none, errW_some] <;> rfl) | (simp [*, errW_none, errW_some] <;> rfl), below_step HW0.out (by repeat (first | (with_reducible first | exact HB.out | apply below_alloc | apply pw_below_drewN | apply below_drew1) | exact HB.out))⟩
      · replace c7 := Bool.eq_false_iff.mpr c7
        subst c7
        have H1 : (hurdlelaw20_CrcBursts.l0 kj3 a1 a2 l0 l0 false 0) = some r := by rw [if_neg (show ¬ (false = true) by decide)] at H; exact H
        clear H
        have H := H1
        clear H1
        have H' := Aside0.mk H
        clear H
        go_wp2
        go_loopg [2, 8, 9, 10] kj3 (fun kq v2 v8 v9 v10 w' => ∃ (x2_2 : Int) (x8_2 : List Int) (x9_2 : Bool) (x10_2 : Int), v2 = .int .u32 x2_2 ∧ v9 = .bool x9_2 ∧ v10 = .int .i64 x10_2 ∧ Aside0 (hurdlelaw20_CrcBursts.l0 kq a1 x2_2 l0 x8_2 x9_2 x10_2 = some r) ∧ Aside0 (kq ≤ kj3) ∧ Aside0 (Kd.V (Kd.int .u8) 5 w' wz.heap.size (fun k_ => (P0_ k_ ∨ wz.heap.size ≤ k_)) (.slice AS l0.length cS) l0) ∧ Aside0 (Kd.V (Kd.int .u8) 5 w' wz.heap.size (fun k_ => (P0_ k_ ∨ wz.heap.size ≤ k_)) v8 x8_2) ∧ Aside0 (Below wz.heap.size wz w'))
        case atStart => exact ⟨(a2), (l0), (false), (0), (by first | rfl | (simp; done) | (simp [*]; done)), (by first | rfl | (simp; done) | (simp [*]; done)), (by first | rfl | (simp; done) | (simp [*]; done)), H', ⟨Nat.le_refl _⟩, ⟨by (with_reducible repeat (first | apply Kd.V_alloc | apply Kd.V_drewN | apply Kd.V_drew)); exact HO_7.out⟩, ⟨by (with_reducible repeat (first | apply Kd.V_alloc | apply Kd.V_drewN | apply Kd.V_drew)); exact HO_7.out⟩, ⟨by repeat (first | (with_reducible first | exact HB.out | apply below_alloc | apply pw_below_drewN | apply below_drew1) | exact HB.out)⟩⟩
        case round =>
          clear H'
          try clear p2
          try clear c5
          try clear c5b0
          try clear c5b1
          try clear c6
          try clear c6b0
          try clear p6
          try clear c7
          try clear c9
          try clear p2
          try clear p6
          obtain ⟨x2_2, x8_2, x9_2, x10_2, rfl, rfl, rfl, HA, HK2, HO_7, HO_8, HB⟩ := hrel
          cases gk with
          | zero => exact absurd HA.out (by simp [hurdlelaw20_CrcBursts.l0])
          | succ k2 =>
            have H := HA.out
            clear HA
            simp only [hurdlelaw20_CrcBursts.l0] at H
            have HC10 := Aside0.mk H
            clear H
            go_upto_region 7 with (fail)
            go_cut [41] (fun v41 wc => ∃ (kq : Nat) (x41_9 : Bool), v41 = .bool x41_9 ∧ Aside0 (hurdlelaw20_CrcBursts.j2 kq a1 x2_2 l0 x8_2 x9_2 x10_2 x41_9 = some r) ∧ Aside0 (kq ≤ k2) ∧ Aside0 (Kd.V (Kd.int .u8) 5 wc wz.heap.size (fun k_ => (P0_ k_ ∨ wz.heap.size ≤ k_)) (.slice AS l0.length cS) l0) ∧ Aside0 (Kd.V (Kd.int .u8) 5 wc wz.heap.size (fun k_ => (P0_ k_ ∨ wz.heap.size ≤ k_)) u8 x8_2) ∧ Aside0 (Below wz.heap.size wz wc))
            case first =>
              have H := HC10.out
              clear HC10
              by_cases c11 : x10_2 < 32
              · rw [if_pos c11] at H
                have c11b0 : decide (x10_2 < 32) = true := decide_eq_true c11
                clear c11
                (first | rw [c11b0] | (simp only [i64_w, i32_w]; rw [c11b0]) | skip)
                have H' := Aside0.mk H
                clear H
                go_wp2
                go_meet
                case rel => exact ⟨_, (decide ((wrap64 (a1 + x10_2)) < (wrap64 (8 * (l0.length : Int))))), (by first | rfl | (simp; done) | (simp [*]; done)), H', ⟨by have := HJ3.out; have := HK2.out; first | omega | exact Nat.le_refl _⟩, ⟨by (with_reducible repeat (first | apply Kd.V_alloc | apply Kd.V_drewN | apply Kd.V_drew)); exact HO_7.out⟩, ⟨by (with_reducible repeat (first | apply Kd.V_alloc | apply Kd.V_drewN | apply Kd.V_drew)); exact HO_8.out⟩, ⟨by repeat (first | (with_reducible first | exact HB.out | apply below_alloc | apply pw_below_drewN | apply below_drew1) | exact HB.out)⟩⟩
              · rw [if_neg c11] at H
                have c11b0 : decide (x10_2 < 32) = false := decide_eq_false c11
                clear c11
                (first | rw [c11b0] | (simp only [i64_w, i32_w]; rw [c11b0]) | skip)
                have H' := Aside0.mk H
                clear H
                go_wp2
                go_meet
                case rel => exact ⟨_, (false), (by first | rfl | (simp; done) | (simp [*]; done)), H', ⟨by have := HJ3.out; have := HK2.out; first | omega | exact Nat.le_refl _⟩, ⟨by (with_reducible repeat (first | apply Kd.V_alloc | apply Kd.V_drewN | apply Kd.V_drew)); exact HO_7.out⟩, ⟨by (with_reducible repeat (first | apply Kd.V_alloc | apply Kd.V_drewN | apply Kd.V_drew)); exact HO_8.out⟩, ⟨by repeat (first | (with_reducible first | exact HB.out | apply below_alloc | apply pw_below_drewN | apply below_drew1) | exact HB.out)⟩⟩
            case rest =>
              clear HC10
              try clear c1
              try clear p2
              try clear c5
              try clear c5b0
              try clear c5b1
              try clear c6
              try clear c6b0
              try clear p6
              try clear c7
              try clear c9
              try clear c11
              try clear c11b0
              try clear p2
              try clear p6
              obtain ⟨kq, x41_9, rfl, HA, HJ9, HO_7, HO_8, HB⟩ := hcut
              cases kq with
              | zero => exact absurd HA.out (by simp [hurdlelaw20_CrcBursts.j2])
              | succ kj9 =>
                have H := HA.out
                clear HA
                simp only [hurdlelaw20_CrcBursts.j2] at H
                by_cases c12 : x41_9 = true
                · subst c12
                  have H1 : (if (Int.tmod x2_2 2) = 1 then ((hurdleref20_Turn.f kj9 x8_2 (wrap64 (a1 + x10_2))).bind fun t160 => (hurdlelaw20_CrcBursts.l0 kj9 a1 ((Int.tdiv x2_2 2) % 4294967296) l0 t160 true (wrap64 (x10_2 + 1)))) else (hurdlelaw20_CrcBursts.l0 kj9 a1 ((Int.tdiv x2_2 2) % 4294967296) l0 x8_2 x9_2 (wrap64 (x10_2 + 1)))) = some r := by rw [if_pos rfl] at H; exact H
                  clear H
                  have H := H1
                  clear H1
                  by_cases c13 : (Int.tmod x2_2 2) = 1
                  · rw [if_pos c13] at H
                    have c13b0 : ((Int.tmod x2_2 2) == 1) = true := beq_iff_eq.mpr c13
                    have c13b1 : ((Int.tmod x2_2 2) != 1) = false := bne_eq_false_iff_eq.mpr c13
                    clear c13
                    replace H := Option.bind_eq_some_iff.mp H
                    obtain ⟨t160, A140, H⟩ := H
                    replace H : (hurdlelaw20_CrcBursts.l0 kj9 a1 ((Int.tdiv x2_2 2) % 4294967296) l0 t160 true (wrap64 (x10_2 + 1))) = some r := H
                    have A14 := Aside0.mk A140
                    clear A140
                    have H' := Aside0.mk H
                    clear H
                    obtain ⟨Ao15, co15, eo15⟩ := Kd.V_slice HO_8.out
                    subst eo15
                    go_wp2_with (first | ((with_reducible refine gate_callee (f := 15) rfl ?_); refine goesL_ (some 51) rfl rfl Try.func15 (by kernel_rfl) rfl #[.slice Ao15 x8_2.length co15, .int .i64 (wrap64 (a1 + x10_2))] rfl (by (try simp only [List.map_toArray, List.map_cons, List.map_nil]); first | done | rfl | (simp only [List.length_drop, List.length_take]; rfl)) ?_; (with_reducible refine (hurdleref20_Turn.calls kj9 _ _ x8_2 (wrap64 (a1 + x10_2)) t160 _ ?side1 ?side2 A14.out).mono ?_); (case side1 => repeat (first | exact (Kd.V_reads' HO_8.out).2.2 | (with_reducible refine Kd.C_alloc ?_ _) | (with_reducible refine Kd.C_drewN ?_ _) | (with_reducible refine Kd.C_drew ?_))); (case side2 => exact (Kd.V_reads' HO_8.out).2.1); rintro e w16 ⟨v161, rfl, ho0, hb⟩; refine ⟨_, rfl, ?_⟩; have n0_ := Aside0.mk (Kd.V_elder' (by (with_reducible repeat (first | apply Kd.V_alloc | apply Kd.V_drewN | apply Kd.V_drew)); exact HO_7.out) (Kd.R_base ho0) hb); have n1_ := Aside0.mk (Kd.V_elder' (by (with_reducible repeat (first | apply Kd.V_alloc | apply Kd.V_drewN | apply Kd.V_drew)); exact HO_8.out) (Kd.R_base ho0) hb); have n2_ := Aside0.mk (Kd.R_lower (Kd.R_newM (M := fun k_ => (wz.heap.size ≤ k_)) ho0 (below_size (by repeat (first | (with_reducible first | exact HB.out | apply below_alloc | apply pw_below_drewN | apply below_drew1) | exact HB.out))) (fun k_ h_ => h_)) (below_size (by repeat (first | (with_reducible first | exact HB.out | apply below_alloc | apply pw_below_drewN | apply below_drew1) | exact HB.out)))); have n3_ := Aside0.mk (below_step (by repeat (first | (with_reducible first | exact HB.out | apply below_alloc | apply pw_below_drewN | apply below_drew1) | exact HB.out)) hb); clear HO_7; clear HO_8; clear HB; have HO_7 := n0_; have HO_8 := n1_; have HO162 := n2_; have HB := n3_; clear n0_ n1_ n2_ n3_; (try clear hb); (try clear hb2); (try clear hk); (try clear hi); (try clear ho0)))
                    go_roundg kj9
                    case measure => have := HJ3.out; have := HK2.out; have := HJ9.out; omega
                    case rel => exact ⟨((Int.tdiv x2_2 2) % 4294967296), (t160), (true), (wrap64 (x10_2 + 1)), (by first | rfl | (simp; done) | (simp [*]; done)), (by first | rfl | (simp; done) | (simp [*]; done)), (by first | rfl | (simp; done) | (simp [*]; done)), H', ⟨by have := HJ3.out; have := HK2.out; have := HJ9.out; omega⟩, ⟨by (with_reducible repeat (first | apply Kd.V_alloc | apply Kd.V_drewN | apply Kd.V_drew)); exact Kd.V_mono HO_7.out (fun _ hk => hk.1)⟩, ⟨Kd.V_mono (Kd.R_V (by (with_reducible repeat (first | apply Kd.R_alloc | apply Kd.R_drewN | apply Kd.R_drew)); exact Kd.R_mono HO162.out (fun _ hk => hk.1))) (fun k_ hk => by first | exact ⟨(.inr (hk.1)), hk.2⟩ | exact (.inr (hk)))⟩, ⟨by repeat (first | (with_reducible first | exact HB.out | apply below_alloc | apply pw_below_drewN | apply below_drew1) | exact HB.out)⟩⟩
                  · rw [if_neg c13] at H
                    have c13b0 : ((Int.tmod x2_2 2) == 1) = false := beq_eq_false_iff_ne.mpr c13
                    have c13b1 : ((Int.tmod x2_2 2) != 1) = true := bne_iff_ne.mpr c13
                    have H' := Aside0.mk H
                    clear H
                    go_wp2
                    go_roundg kj9
                    case measure => have := HJ3.out; have := HK2.out; have := HJ9.out; omega
                    case rel => exact ⟨((Int.tdiv x2_2 2) % 4294967296), (x8_2), (x9_2), (wrap64 (x10_2 + 1)), (by first | rfl | (simp; done) | (simp [*]; done)), (by first | rfl | (simp; done) | (simp [*]; done)), (by first | rfl | (simp; done) | (simp [*]; done)), H', ⟨by have := HJ3.out; have := HK2.out; have := HJ9.out; omega⟩, ⟨by (with_reducible repeat (first | apply Kd.V_alloc | apply Kd.V_drewN | apply Kd.V_drew)); exact HO_7.out⟩, ⟨by (with_reducible repeat (first | apply Kd.V_alloc | apply Kd.V_drewN | apply Kd.V_drew)); exact HO_8.out⟩, ⟨by repeat (first | (with_reducible first | exact HB.out | apply below_alloc | apply pw_below_drewN | apply below_drew1) | exact HB.out)⟩⟩
                · replace c12 := Bool.eq_false_iff.mpr c12
                  subst c12
                  have H1 : ((crc_Open.f kj9 x8_2).bind fun bt163 => (if ((bt163.2 == 10) == x9_2) = true then (if x9_2 = true then ((hurdlelaw20_knows.f kj9).bind fun t167 => (some t167)) else (if bt163.2 = 0 then ((hurdlelaw20_knows.f kj9).bind fun t168 => (some t168)) else (none))) else (none))) = some r := by rw [if_neg (show ¬ (false = true) by decide)] at H; exact H
                  clear H
                  have H := H1
                  clear H1
                  replace H := Option.bind_eq_some_iff.mp H
                  obtain ⟨⟨t163, t164⟩, A170, H⟩ := H
                  replace H : (if ((t164 == 10) == x9_2) = true then (if x9_2 = true then ((hurdlelaw20_knows.f kj9).bind fun t167 => (some t167)) else (if t164 = 0 then ((hurdlelaw20_knows.f kj9).bind fun t168 => (some t168)) else (none))) else (none)) = some r := H
                  have A17 := Aside0.mk A170
                  clear A170
                  by_cases c18 : ((t164 == 10) == x9_2) = true
                  · rw [if_pos c18] at H
                    have c18b0 : ((t164 == 10) == x9_2) = true := c18
                    (try (have c18b1 : decide ((t164 == 10) = x9_2) = true := by simpa using c18))
                    (try (have c18b2 : ((t164 == 10) == x9_2) = true := by simpa using c18))
                    clear c18
                    by_cases c19 : x9_2 = true
                    · subst c19
                      have H1 : ((hurdlelaw20_knows.f kj9).bind fun t167 => (some t167)) = some r := by rw [if_pos rfl] at H; exact H
                      clear H
                      have H := H1
                      clear H1
                      replace H := Option.bind_eq_some_iff.mp H
                      obtain ⟨t167, A200, H⟩ := H
                      replace H : (some t167) = some r := H
                      have A20 := Aside0.mk A200
                      clear A200
                      obtain rfl := Option.some.inj H
                      obtain ⟨Ao21, co21, eo21⟩ := Kd.V_slice HO_8.out
                      subst eo21
                      go_wp2_with (first | ((with_reducible refine gate_callee (f := 14) rfl ?_); refine goesL_ (some 56) rfl rfl Try.func14 (by kernel_rfl) rfl #[.slice Ao21 x8_2.length co21] rfl (by (try simp only [List.map_toArray, List.map_cons, List.map_nil]); first | done | rfl | (simp only [List.length_drop, List.length_take]; rfl)) ?_; (with_reducible refine (crc_Open.calls kj9 _ _ x8_2 t163 t164 _ ?side1 ?side2 A17.out).mono ?_); (case side1 => repeat (first | exact (Kd.V_reads' HO_8.out).2.2 | (with_reducible refine Kd.C_alloc ?_ _) | (with_reducible refine Kd.C_drewN ?_ _) | (with_reducible refine Kd.C_drew ?_))); (case side2 => exact (Kd.V_reads' HO_8.out).2.1); rintro e w22 ⟨v165, rfl, ho0, hb⟩; refine ⟨_, rfl, ?_⟩; have n0_ := Aside0.mk (Kd.V_elder' (by (with_reducible repeat (first | apply Kd.V_alloc | apply Kd.V_drewN | apply Kd.V_drew)); exact HO_7.out) (Kd.R_base ho0) hb); have n1_ := Aside0.mk (Kd.V_elder' (by (with_reducible repeat (first | apply Kd.V_alloc | apply Kd.V_drewN | apply Kd.V_drew)); exact HO_8.out) (Kd.R_base ho0) hb); have n2_ := Aside0.mk (Kd.R_lower (Kd.R_newM (M := fun k_ => (wz.heap.size ≤ k_)) ho0 (below_size (by repeat (first | (with_reducible first | exact HB.out | apply below_alloc | apply pw_below_drewN | apply below_drew1) | exact HB.out))) (fun k_ h_ => h_)) (below_size (by repeat (first | (with_reducible first | exact HB.out | apply below_alloc | apply pw_below_drewN | apply below_drew1) | exact HB.out)))); have n3_ := Aside0.mk (below_step (by repeat (first | (with_reducible first | exact HB.out | apply below_alloc | apply pw_below_drewN | apply below_drew1) | exact HB.out)) hb); clear HO_7; clear HO_8; clear HB; have HO_7 := n0_; have HO_8 := n1_; have HO166 := n2_; have HB := n3_; clear n0_ n1_ n2_ n3_; (try clear hb); (try clear hb2); (try clear hk); (try clear hi); (try clear ho0)) | (go_at_call 9; (with_reducible refine (hurdlelaw20_knows.calls kj9  t167 _ A20.out).mono ?_); rintro e w23 ⟨rfl, hb⟩; have n0_ := Aside0.mk (Kd.V_below (by (with_reducible repeat (first | apply Kd.V_alloc | apply Kd.V_drewN | apply Kd.V_drew)); exact HO_7.out) hb); have n1_ := Aside0.mk (Kd.V_below (by (with_reducible repeat (first | apply Kd.V_alloc | apply Kd.V_drewN | apply Kd.V_drew)); exact HO_8.out) hb); have n2_ := Aside0.mk (Kd.R_below (by (with_reducible repeat (first | apply Kd.R_alloc | apply Kd.R_drewN | apply Kd.R_drew)); exact HO166.out) hb); have n3_ := Aside0.mk (below_step (by repeat (first | (with_reducible first | exact HB.out | apply below_alloc | apply pw_below_drewN | apply below_drew1) | exact HB.out)) hb); clear HO_7; clear HO_8; clear HO166; clear HB; have HO_7 := n0_; have HO_8 := n1_; have HO166 := n2_; have HB := n3_; clear n0_ n1_ n2_ n3_; (try clear hb); (try clear hb2); (try clear hk); (try clear hi)))
                      go_ret
                      exact ⟨by first | rfl | (simp [errW_none, errW_some] <;> rfl) | (simp [*, errW_none, errW_some] <;> rfl), below_step HW0.out (by repeat (first | (with_reducible first | exact HB.out | apply below_alloc | apply pw_below_drewN | apply below_drew1) | exact HB.out))⟩
                    · replace c19 := Bool.eq_false_iff.mpr c19
                      subst c19
                      have H1 : (if t164 = 0 then ((hurdlelaw20_knows.f kj9).bind fun t168 => (some t168)) else (none)) = some r := by rw [if_neg (show ¬ (false = true) by decide)] at H; exact H
                      clear H
                      have H := H1
                      clear H1
                      by_cases c24 : t164 = 0
                      · rw [if_pos c24] at H
                        have c24b0 : (t164 == 0) = true := beq_iff_eq.mpr c24
                        have c24b1 : (t164 != 0) = false := bne_eq_false_iff_eq.mpr c24
                        clear c24
                        replace H := Option.bind_eq_some_iff.mp H
                        obtain ⟨t168, A250, H⟩ := H
                        replace H : (some t168) = some r := H
                        have A25 := Aside0.mk A250
                        clear A250
                        obtain rfl := Option.some.inj H
                        obtain ⟨Ao26, co26, eo26⟩ := Kd.V_slice HO_8.out
                        subst eo26
                        go_wp2_with (first | ((with_reducible refine gate_callee (f := 14) rfl ?_); refine goesL_ (some 56) rfl rfl Try.func14 (by kernel_rfl) rfl #[.slice Ao26 x8_2.length co26] rfl (by (try simp only [List.map_toArray, List.map_cons, List.map_nil]); first | done | rfl | (simp only [List.length_drop, List.length_take]; rfl)) ?_; (with_reducible refine (crc_Open.calls kj9 _ _ x8_2 t163 t164 _ ?side1 ?side2 A17.out).mono ?_); (case side1 => repeat (first | exact (Kd.V_reads' HO_8.out).2.2 | (with_reducible refine Kd.C_alloc ?_ _) | (with_reducible refine Kd.C_drewN ?_ _) | (with_reducible refine Kd.C_drew ?_))); (case side2 => exact (Kd.V_reads' HO_8.out).2.1); rintro e w27 ⟨v165, rfl, ho0, hb⟩; refine ⟨_, rfl, ?_⟩; have n0_ := Aside0.mk (Kd.V_elder' (by (with_reducible repeat (first | apply Kd.V_alloc | apply Kd.V_drewN | apply Kd.V_drew)); exact HO_7.out) (Kd.R_base ho0) hb); have n1_ := Aside0.mk (Kd.V_elder' (by (with_reducible repeat (first | apply Kd.V_alloc | apply Kd.V_drewN | apply Kd.V_drew)); exact HO_8.out) (Kd.R_base ho0) hb); have n2_ := Aside0.mk (Kd.R_lower (Kd.R_newM (M := fun k_ => (wz.heap.size ≤ k_)) ho0 (below_size (by repeat (first | (with_reducible first | exact HB.out | apply below_alloc | apply pw_below_drewN | apply below_drew1) | exact HB.out))) (fun k_ h_ => h_)) (below_size (by repeat (first | (with_reducible first | exact HB.out | apply below_alloc | apply pw_below_drewN | apply below_drew1) | exact HB.out)))); have n3_ := Aside0.mk (below_step (by repeat (first | (with_reducible first | exact HB.out | apply below_alloc | apply pw_below_drewN | apply below_drew1) | exact HB.out)) hb); clear HO_7; clear HO_8; clear HB; have HO_7 := n0_; have HO_8 := n1_; have HO166 := n2_; have HB := n3_; clear n0_ n1_ n2_ n3_; (try clear hb); (try clear hb2); (try clear hk); (try clear hi); (try clear ho0)) | (go_at_call 9; (with_reducible refine (hurdlelaw20_knows.calls kj9  t168 _ A25.out).mono ?_); rintro e w28 ⟨rfl, hb⟩; have n0_ := Aside0.mk (Kd.V_below (by (with_reducible repeat (first | apply Kd.V_alloc | apply Kd.V_drewN | apply Kd.V_drew)); exact HO_7.out) hb); have n1_ := Aside0.mk (Kd.V_below (by (with_reducible repeat (first | apply Kd.V_alloc | apply Kd.V_drewN | apply Kd.V_drew)); exact HO_8.out) hb); have n2_ := Aside0.mk (Kd.R_below (by (with_reducible repeat (first | apply Kd.R_alloc | apply Kd.R_drewN | apply Kd.R_drew)); exact HO166.out) hb); have n3_ := Aside0.mk (below_step (by repeat (first | (with_reducible first | exact HB.out | apply below_alloc | apply pw_below_drewN | apply below_drew1) | exact HB.out)) hb); clear HO_7; clear HO_8; clear HO166; clear HB; have HO_7 := n0_; have HO_8 := n1_; have HO166 := n2_; have HB := n3_; clear n0_ n1_ n2_ n3_; (try clear hb); (try clear hb2); (try clear hk); (try clear hi)))
                        go_ret
                        exact ⟨by first | rfl | (simp [errW_none, errW_some] <;> rfl) | (simp [*, errW_none, errW_some] <;> rfl), below_step HW0.out (by repeat (first | (with_reducible first | exact HB.out | apply below_alloc | apply pw_below_drewN | apply below_drew1) | exact HB.out))⟩
                      · rw [if_neg c24] at H
                        exact absurd H (by simp)
                  · rw [if_neg c18] at H
                    exact absurd H (by simp)

/-- THE ONE PURE STATEMENT of hurdlelaw20_CrcBursts: yours. -/
def hurdlelaw20_CrcBursts.Pure : Prop := ∀ (l0 : List Int) (a1 : Int) (a2 : Int), l0.length ≤ maxLen → l0.length * 1 ≤ 140737488351232 → (∀ x ∈ l0, (Lit.int .u8 x).wf = true) → (Lit.int .i64 a1).wf = true → (Lit.int .u32 a2).wf = true → ∃ k, hurdlelaw20_CrcBursts.f k l0 a1 a2 = some true
theorem hurdlelaw20_CrcBursts.walk (P : hurdlelaw20_CrcBursts.Pure) (a0 : Option Addr) (len0 cap0 : Nat) (z0 : List Int) (a1 : Int) (a2 : Int) (w : World) (w0 : (a0 = none ∧ len0 = 0 ∧ cap0 = 0 ∧ z0 = []) ∨ ∃ x, a0 = some x ∧ len0 ≤ cap0 ∧ cap0 ≤ maxLen ∧ z0.length = cap0 ∧ (∀ i, i < z0.length → w.cell? (x.add i) = some (.int .u8 (z0.getD i 0))) ∧ ∀ n ∈ z0, (Lit.int .u8 n).wf = true) (y0 : len0 * 1 ≤ 140737488351232) (w1 : (Lit.int .i64 a1).wf = true) (w2 : (Lit.int .u32 a2).wf = true) :
    Calls Try.prog 6 #[.slice a0 len0 cap0, .int .i64 a1, .int .u32 a2] w fun e w' => e = .returned (.bool true) ∧ Below w.heap.size w w' := by
  obtain ⟨l0, rfl, hr0, hm0, hw0, hc0⟩ := ReadsInt.ofRowC w0
  obtain ⟨k, h⟩ := P l0 a1 a2 hm0 y0 hw0 w1 w2
  refine (hurdlelaw20_CrcBursts.calls k _ _ l0 a1 a2 true w (Kd.C_of_reads (d := (0 : Int)) (h1 := fun _ => rfl) hr0) hc0 h).mono ?_
  rintro e w' ⟨rfl, hd⟩
  exact ⟨rfl, hd⟩

end Go.Proofs.Ytoaflnpjmpijgaa.M
