/- By a program of this session: what Go functions of the seat compute, as Lean functions, each with a proof that the call of the Go function comes to that. -/
import Derived.Test.YtnchbnnijboklaaDoorM0
import Derived.Test.YtnchbnnijboklaaDoorM16
namespace Go.Proofs.YtnchbnnijboklaaDoor.M
open Go.RowKit Go.Proofs.YtnchbnnijboklaaDoorW.PrintWords Go.Proofs.YtnchbnnijboklaaDoorW.PrintLast Go.Proofs.YtnchbnnijboklaaDoorW.PrintMore
attribute [local go_sem] max2_int min2_int max_two min_two max_three min_three max_four min_four   -- for this text's walks alone
set_option linter.unusedVariables false
set_option linter.unusedSimpArgs false
def hurdleref01_bits.l0 : Nat → Int → Int → List Int → Int → Int → Option (Int)
 | 0, _, _, _, _, _ => none
 | k + 1, x0, x1, x2, x7, x8 => if x8 < 32 then ((hurdleref01_bit.f k x0 x8).bind fun t255 => ((hurdleref01_bit.f k x1 x8).bind fun t256 => (if 0 ≤ ((((2 * t255) % 4294967296) + t256) % 4294967296) then (if ((((2 * t255) % 4294967296) + t256) % 4294967296) < (x2.length : Int) then ((hurdleref01_power.f k x8).bind fun t258 => (hurdleref01_bits.l0 k x0 x1 x2 ((x7 + (((rd x2 ((((2 * t255) % 4294967296) + t256) % 4294967296)) * ((t258) % 4294967296)) % 4294967296)) % 4294967296) ((x8 + 1) % 4294967296))) else (none)) else (none)))) else (some x7)
def hurdleref01_bits.f (k : Nat) (a0 : Int) (a1 : Int) (l2 : List Int) : Option (Int) := hurdleref01_bits.l0 k a0 a1 l2 0 0
theorem hurdleref01_bits.mono_l : ∀ k, (∀ y0 y1 y2 y3 y4, LeO (hurdleref01_bits.l0 k y0 y1 y2 y3 y4) (hurdleref01_bits.l0 (k + 1) y0 y1 y2 y3 y4))
 | 0 => fun _ _ _ _ _ r h => by simp [hurdleref01_bits.l0] at h
 | k + 1 => by
  have ih0 := hurdleref01_bits.mono_l k
  ·intro y0 y1 y2 y3 y4
   unfold hurdleref01_bits.l0
   repeat' first
   | (with_reducible exact ih0 _ _ _ _ _)
   | (with_reducible exact hurdleref01_bit.mono _ _ _)
   | (with_reducible exact hurdleref01_power.mono _ _)
   | (with_reducible exact LeO.refl _)
   | (with_reducible exact LeO.none _)
   | (with_reducible refine LeO.ite ?_ ?_)
   | (with_reducible refine LeO.bind ?_ (fun _ => ?_))
   | exact ih0 _ _ _ _ _
   | exact hurdleref01_bit.mono _ _ _
   | exact hurdleref01_power.mono _ _
   | exact LeO.none _
   | refine LeO.ite ?_ ?_
   | refine LeO.bind ?_ (fun _ => ?_)
theorem hurdleref01_bits.mono : ∀ a0 a1 a2 k, LeO (hurdleref01_bits.f k a0 a1 a2) (hurdleref01_bits.f (k + 1) a0 a1 a2) := by
 intro a0 a1 a2 k
 have ih0 := hurdleref01_bits.mono_l k
 unfold hurdleref01_bits.f
 repeat' first
   | (with_reducible exact ih0 _ _ _ _ _)
   | (with_reducible exact hurdleref01_bit.mono _ _ _)
   | (with_reducible exact hurdleref01_power.mono _ _)
   | (with_reducible exact LeO.refl _)
   | (with_reducible exact LeO.none _)
   | (with_reducible refine LeO.ite ?_ ?_)
   | (with_reducible refine LeO.bind ?_ (fun _ => ?_))
   | exact ih0 _ _ _ _ _
   | exact hurdleref01_bit.mono _ _ _
   | exact hurdleref01_power.mono _ _
   | exact LeO.none _
   | refine LeO.ite ?_ ?_
   | refine LeO.bind ?_ (fun _ => ?_)
set_option maxHeartbeats 8000000 in
set_option maxRecDepth 100000 in
theorem hurdleref01_bits.calls (k : Nat) (a0 : Int) (a1 : Int) (A2 : Option Addr) (c2 : Nat) (l2 : List Int) (r : Int) (w : World) (hr2 : Kd.C (Kd.int .u32) w A2 l2.length l2) (hc2 : l2.length ≤ c2) (h : hurdleref01_bits.f k a0 a1 l2 = some r) :
  Calls Tryd.prog 44 #[.int .u32 a0, .int .u32 a1, .slice A2 l2.length c2] w fun e w' => e = .returned (.int .u32 r) ∧ Drawn0 w w' := by
 have HR2 := Aside0.mk hr2
 have HC2 := Aside0.mk hc2
 clear hr2 hc2
 have H : (hurdleref01_bits.l0 k a0 a1 l2 0 0) = some r := h
 clear h
 have H' := Aside0.mk H
 clear H
 go_enter Tryd.func44, Tryd.ntmps44
 go_wp2
 repeat (go_quiet (fail); try go_wp2)
 go_loopg [7, 8] k (fun kq v7 v8 w' => ∃ (x7_1 : Int) (x8_1 : Int), v7 = .int .u32 x7_1 ∧ v8 = .int .u32 x8_1 ∧ Aside0 (hurdleref01_bits.l0 kq a0 a1 l2 x7_1 x8_1 = some r) ∧ Aside0 (kq ≤ k) ∧ Drawn0 w w')
 case atStart => exact ⟨(0), (0), jS, jS, H', ⟨Nat.le_refl _⟩, by repeat (first | exact Drawn0.refl _ | apply Drawn0.step)⟩
 case round =>
  clear H'
  obtain ⟨x7_1, x8_1, rfl, rfl, HA, HK1, ⟨m1, rfl⟩⟩ := hrel
  cases gk with
  | zero => exact absurd HA.out (by simp [hurdleref01_bits.l0])
  | succ k1 =>
   have H := HA.out
   clear HA
   simp only [hurdleref01_bits.l0] at H
   by_cases c4 : x8_1 < 32
   ·rw [if_pos c4] at H
    have c4b0 : decide (x8_1 < 32) = true := dT c4
    clear c4
    replace H := Option.bind_eq_some_iff.mp H
    obtain ⟨t255, A50, H⟩ := H
    try dsimp only at H
    have A5 := Aside0.mk A50
    clear A50
    replace H := Option.bind_eq_some_iff.mp H
    obtain ⟨t256, A60, H⟩ := H
    try dsimp only at H
    have A6 := Aside0.mk A60
    clear A60
    obtain ⟨ji7, hji7⟩ : ∃ j_ : Int, ((((2 * t255) % 4294967296) + t256) % 4294967296) = j_ := ⟨_, rfl⟩
    have hji7q : IntKind.i64.wrap (IntKind.u32.wrap (IntKind.u32.wrap (2 * t255) + t256)) = ji7 := by rw [← hji7, IntKind.wrap_u32, IntKind.wrap_u32, i64_w]; unfold wrap64; omega
    replace H : (if 0 ≤ (ji7) then (if (ji7) < (l2.length : Int) then ((hurdleref01_power.f k1 x8_1).bind fun t258 => (hurdleref01_bits.l0 k1 a0 a1 l2 ((x7_1 + (((rd l2 (ji7)) * ((t258) % 4294967296)) % 4294967296)) % 4294967296) ((x8_1 + 1) % 4294967296))) else (none)) else (none)) = some r := by first | (rw [hji7] at H; exact H) | (simp only [hji7] at H ⊢; exact H)
    (try rw [hji7] at A5)
    (try rw [hji7] at A6)
    by_cases c8 : 0 ≤ (ji7)
    ·rw [if_pos c8] at H
     have c8b0 : decide (0 ≤ (ji7)) = true := dT c8
     clear c8
     by_cases c9 : (ji7) < (l2.length : Int)
     ·rw [if_pos c9] at H
      have c9b0 : decide ((ji7) < (l2.length : Int)) = true := dT c9
      clear c9
      replace H := Option.bind_eq_some_iff.mp H
      obtain ⟨t258, A100, H⟩ := H
      try dsimp only at H
      have A10 := Aside0.mk A100
      clear A100
      have H' := Aside0.mk H
      clear H
      go_wp2_with (first | (go_at_call 55; (with_reducible refine (hurdleref01_bit.calls k1 a0 x8_1 t255 _ A5.out).mono ?_); rintro e w' ⟨rfl, ⟨nd, rfl⟩⟩; (try first | exact ⟨rfl, _, World.drewN_drewN _ _ _⟩ | exact ⟨rfl, _, Eq.trans (World.drewN_drewN _ _ _) (congrArg (World.drewN _) (Nat.add_assoc _ _ _))⟩)) | (go_at_call 55; (with_reducible refine (hurdleref01_bit.calls k1 a1 x8_1 t256 _ A6.out).mono ?_); rintro e w' ⟨rfl, ⟨nd, rfl⟩⟩; (try first | exact ⟨rfl, _, World.drewN_drewN _ _ _⟩ | exact ⟨rfl, _, Eq.trans (World.drewN_drewN _ _ _) (congrArg (World.drewN _) (Nat.add_assoc _ _ _))⟩); have p257 : 0 ≤ ((ji7) : Int) := oD (jA); have q257 : (ji7) < (l2.length : Int) := oD (jA); obtain ⟨ad257, e257, hx257_0⟩ := Kd.at_int HR2.out (ji7) p257 q257; cases e257; replace p257 := eq_true p257; replace q257 := eq_true q257) | (go_at_call 45; (with_reducible refine (hurdleref01_power.calls k1 x8_1 t258 _ A10.out).mono ?_); rintro e w' ⟨rfl, ⟨nd, rfl⟩⟩; (try first | exact ⟨rfl, _, World.drewN_drewN _ _ _⟩ | exact ⟨rfl, _, Eq.trans (World.drewN_drewN _ _ _) (congrArg (World.drewN _) (Nat.add_assoc _ _ _))⟩)))
      repeat (go_quiet (first | (go_at_call 55; (with_reducible refine (hurdleref01_bit.calls k1 a0 x8_1 t255 _ A5.out).mono ?_); rintro e w' ⟨rfl, ⟨nd, rfl⟩⟩; (try first | exact ⟨rfl, _, World.drewN_drewN _ _ _⟩ | exact ⟨rfl, _, Eq.trans (World.drewN_drewN _ _ _) (congrArg (World.drewN _) (Nat.add_assoc _ _ _))⟩)) | (go_at_call 55; (with_reducible refine (hurdleref01_bit.calls k1 a1 x8_1 t256 _ A6.out).mono ?_); rintro e w' ⟨rfl, ⟨nd, rfl⟩⟩; (try first | exact ⟨rfl, _, World.drewN_drewN _ _ _⟩ | exact ⟨rfl, _, Eq.trans (World.drewN_drewN _ _ _) (congrArg (World.drewN _) (Nat.add_assoc _ _ _))⟩); have p257 : 0 ≤ ((ji7) : Int) := oD (jA); have q257 : (ji7) < (l2.length : Int) := oD (jA); obtain ⟨ad257, e257, hx257_0⟩ := Kd.at_int HR2.out (ji7) p257 q257; cases e257; replace p257 := eq_true p257; replace q257 := eq_true q257) | (go_at_call 45; (with_reducible refine (hurdleref01_power.calls k1 x8_1 t258 _ A10.out).mono ?_); rintro e w' ⟨rfl, ⟨nd, rfl⟩⟩; (try first | exact ⟨rfl, _, World.drewN_drewN _ _ _⟩ | exact ⟨rfl, _, Eq.trans (World.drewN_drewN _ _ _) (congrArg (World.drewN _) (Nat.add_assoc _ _ _))⟩))); try go_wp2_with (first | (go_at_call 55; (with_reducible refine (hurdleref01_bit.calls k1 a0 x8_1 t255 _ A5.out).mono ?_); rintro e w' ⟨rfl, ⟨nd, rfl⟩⟩; (try first | exact ⟨rfl, _, World.drewN_drewN _ _ _⟩ | exact ⟨rfl, _, Eq.trans (World.drewN_drewN _ _ _) (congrArg (World.drewN _) (Nat.add_assoc _ _ _))⟩)) | (go_at_call 55; (with_reducible refine (hurdleref01_bit.calls k1 a1 x8_1 t256 _ A6.out).mono ?_); rintro e w' ⟨rfl, ⟨nd, rfl⟩⟩; (try first | exact ⟨rfl, _, World.drewN_drewN _ _ _⟩ | exact ⟨rfl, _, Eq.trans (World.drewN_drewN _ _ _) (congrArg (World.drewN _) (Nat.add_assoc _ _ _))⟩); have p257 : 0 ≤ ((ji7) : Int) := oD (jA); have q257 : (ji7) < (l2.length : Int) := oD (jA); obtain ⟨ad257, e257, hx257_0⟩ := Kd.at_int HR2.out (ji7) p257 q257; cases e257; replace p257 := eq_true p257; replace q257 := eq_true q257) | (go_at_call 45; (with_reducible refine (hurdleref01_power.calls k1 x8_1 t258 _ A10.out).mono ?_); rintro e w' ⟨rfl, ⟨nd, rfl⟩⟩; (try first | exact ⟨rfl, _, World.drewN_drewN _ _ _⟩ | exact ⟨rfl, _, Eq.trans (World.drewN_drewN _ _ _) (congrArg (World.drewN _) (Nat.add_assoc _ _ _))⟩))))
      go_roundg k1
      case measure => have := HK1.out; omega
      case rel => exact ⟨((x7_1 + (((rd l2 (ji7)) * ((t258) % 4294967296)) % 4294967296)) % 4294967296), ((x8_1 + 1) % 4294967296), (by first | rfl | (simp; done) | (simp only [← hji7] <;> (first | rfl | simp)) | (simp [*]; done)), jS, H', ⟨by have := HK1.out; omega⟩, by repeat (first | exact Drawn0.refl _ | apply Drawn0.step)⟩
     ·rw [if_neg c9] at H
      exact absurd H (by simp)
    ·rw [if_neg c8] at H
     exact absurd H (by simp)
   ·rw [if_neg c4] at H
    have c4b0 : decide (x8_1 < 32) = false := dF c4
    clear c4
    obtain rfl := Option.some.inj H
    go_wp2
    repeat (go_quiet (fail); try go_wp2)
    go_ret
    exact ⟨by first | rfl | (simp; done) | (simp [*]; done), by repeat (first | exact Drawn0.refl _ | apply Drawn0.step)⟩
end Go.Proofs.YtnchbnnijboklaaDoor.M
