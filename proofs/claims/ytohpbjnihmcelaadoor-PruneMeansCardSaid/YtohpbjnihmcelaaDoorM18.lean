/- What Go functions compute; their calls come to it. No condition. -/
import Derived.Test.YtohpbjnihmcelaaDoorM0
import Derived.Test.YtohpbjnihmcelaaDoorM17
namespace Go.Proofs.YtohpbjnihmcelaaDoor.M
open Go.RowKit Go.Proofs.YtohpbjnihmcelaaDoorW.PrintWords Go.Proofs.YtohpbjnihmcelaaDoorW.PrintLast Go.Proofs.YtohpbjnihmcelaaDoorW.PrintMore
attribute [local go_sem] max2_int min2_int max_two min_two max_three min_three max_four min_four   -- for this text's walks alone
set_option linter.unusedVariables false
set_option linter.unusedSimpArgs false
def r01_bits.l0 : Nat → Int → Int → List Int → Int → Int → Option (Int)
 | 0, _, _, _, _, _ => none
 | k + 1, x0, x1, x2, x7, x8 => if x8 < 32 then ((r01_bit.f k x0 x8).bind fun t181 => ((r01_bit.f k x1 x8).bind fun t182 => (if 0 ≤ ((((2 * t181) % 4294967296) + t182) % 4294967296) then (if ((((2 * t181) % 4294967296) + t182) % 4294967296) < (x2.length : Int) then ((r01_power.f k x8).bind fun t184 => (r01_bits.l0 k x0 x1 x2 ((x7 + (((rd x2 ((((2 * t181) % 4294967296) + t182) % 4294967296)) * ((t184) % 4294967296)) % 4294967296)) % 4294967296) ((x8 + 1) % 4294967296))) else (none)) else (none)))) else (some x7)
def r01_bits.f (k : Nat) (a0 : Int) (a1 : Int) (l2 : List Int) : Option (Int) := r01_bits.l0 k a0 a1 l2 0 0
theorem r01_bits.mono_l : ∀ k, (∀ y0 y1 y2 y3 y4, LeO (r01_bits.l0 k y0 y1 y2 y3 y4) (r01_bits.l0 (k + 1) y0 y1 y2 y3 y4))
 | 0 => fun _ _ _ _ _ r h => by simp [r01_bits.l0] at h
 | k + 1 => by
  have ih0 := r01_bits.mono_l k
  ·intro y0 y1 y2 y3 y4
   unfold r01_bits.l0
   repeat' first
   | (with_reducible apply ih0)
   | (with_reducible apply r01_bit.mono)
   | (with_reducible apply r01_power.mono)
   | (with_reducible exact LeO.refl _)
   | (with_reducible exact LeO.none _)
   | (with_reducible refine LeO.ite ?_ ?_)
   | (with_reducible refine LeO.bind ?_ (fun _ => ?_))
   | apply ih0
   | apply r01_bit.mono
   | apply r01_power.mono
   | exact LeO.none _
   | refine LeO.ite ?_ ?_
   | refine LeO.bind ?_ (fun _ => ?_)
theorem r01_bits.mono : ∀ a0 a1 a2 k, LeO (r01_bits.f k a0 a1 a2) (r01_bits.f (k + 1) a0 a1 a2) := by
 intro a0 a1 a2 k
 have ih0 := r01_bits.mono_l k
 unfold r01_bits.f
 repeat' first
   | (with_reducible apply ih0)
   | (with_reducible apply r01_bit.mono)
   | (with_reducible apply r01_power.mono)
   | (with_reducible exact LeO.refl _)
   | (with_reducible exact LeO.none _)
   | (with_reducible refine LeO.ite ?_ ?_)
   | (with_reducible refine LeO.bind ?_ (fun _ => ?_))
   | apply ih0
   | apply r01_bit.mono
   | apply r01_power.mono
   | exact LeO.none _
   | refine LeO.ite ?_ ?_
   | refine LeO.bind ?_ (fun _ => ?_)
set_option maxHeartbeats 8000000 in
set_option maxRecDepth 100000 in
theorem r01_bits.calls (k : Nat) (a0 : Int) (a1 : Int) (A2 : Option Addr) (c2 : Nat) (l2 : List Int) (r : Int) (w : World) (hr2 : Kd.C (Kd.int .u32) w A2 l2.length l2) (hc2 : l2.length ≤ c2) (h : r01_bits.f k a0 a1 l2 = some r) :
  Calls Tryd.prog 54 #[.int .u32 a0, .int .u32 a1, .slice A2 l2.length c2] w fun e w' => e = .returned (.int .u32 r) ∧ Drawn0 w w' := by
 have HR2 := Aside0.mk hr2
 have HC2 := Aside0.mk hc2
 clear hr2 hc2
 have H : (r01_bits.l0 k a0 a1 l2 0 0) = some r := h
 clear h
 have H' := Aside0.mk H
 clear H
 go_enter Tryd.func54, Tryd.ntmps54
 go_wp2
 repeat (go_quiet (fail); try go_wp2)
 go_loopg [7, 8] k (fun kq v7 v8 w' => ∃ (x7_1 : Int) (x8_1 : Int), v7 = .int .u32 x7_1 ∧ v8 = .int .u32 x8_1 ∧ Aside0 (r01_bits.l0 kq a0 a1 l2 x7_1 x8_1 = some r) ∧ Aside0 (kq ≤ k) ∧ Drawn0 w w')
 case atStart => exact ⟨(0), (0), jS, jS, H', ⟨Nat.le_refl _⟩, by repeat (first | exact Drawn0.refl _ | apply Drawn0.step)⟩
 case round =>
  clear H'
  obtain ⟨x7_1, x8_1, rfl, rfl, HA, HK1, ⟨m1, rfl⟩⟩ := hrel
  cases gk with
  | zero => exact absurd HA.out (by simp [r01_bits.l0])
  | succ k1 =>
   have H := HA.out
   clear HA
   simp only [r01_bits.l0] at H
   by_cases c4 : x8_1 < 32
   ·rw [if_pos c4] at H
    have c4b0 : decide (x8_1 < 32) = true := dT c4
    clear c4
    replace H := Option.bind_eq_some_iff.mp H
    obtain ⟨t181, A50, H⟩ := H
    try dsimp only at H
    have A5 := Aside0.mk A50
    clear A50
    replace H := Option.bind_eq_some_iff.mp H
    obtain ⟨t182, A60, H⟩ := H
    try dsimp only at H
    have A6 := Aside0.mk A60
    clear A60
    obtain ⟨ji7, hji7⟩ : ∃ j_ : Int, ((((2 * t181) % 4294967296) + t182) % 4294967296) = j_ := ⟨_, rfl⟩
    have hji7q : IntKind.i64.wrap (IntKind.u32.wrap (IntKind.u32.wrap (2 * t181) + t182)) = ji7 := by rw [← hji7, IntKind.wrap_u32, IntKind.wrap_u32, i64_w]; unfold wrap64; omega
    replace H : (if 0 ≤ (ji7) then (if (ji7) < (l2.length : Int) then ((r01_power.f k1 x8_1).bind fun t184 => (r01_bits.l0 k1 a0 a1 l2 ((x7_1 + (((rd l2 (ji7)) * ((t184) % 4294967296)) % 4294967296)) % 4294967296) ((x8_1 + 1) % 4294967296))) else (none)) else (none)) = some r := by first | (rw [hji7] at H; exact H) | (simp only [hji7] at H ⊢; exact H)
    (try rw [hji7] at A5)
    (try rw [hji7] at A6)
    by_cases c8 : 0 ≤ (ji7)
    ·rw [if_pos c8] at H
     have c8b0 : decide (0 ≤ (ji7)) = true := dT c8
     clear c8
     by_cases c9 : (ji7) < (l2.length : Int)
     ·rw [if_pos c9] at H
      have c9b0 : decide ((ji7) < (l2.length : Int)) = true := dT c9
      clear c9
      replace H := Option.bind_eq_some_iff.mp H
      obtain ⟨t184, A100, H⟩ := H
      try dsimp only at H
      have A10 := Aside0.mk A100
      clear A100
      have H' := Aside0.mk H
      clear H
      go_wp2_with (first | (go_at_call 58; (with_reducible refine (r01_bit.calls k1 a0 x8_1 t181 _ A5.out).mono ?_); rintro e w' ⟨rfl, ⟨nd, rfl⟩⟩; (try first | exact ⟨rfl, _, World.drewN_drewN _ _ _⟩ | exact ⟨rfl, _, Eq.trans (World.drewN_drewN _ _ _) (congrArg (World.drewN _) (Nat.add_assoc _ _ _))⟩)) | (go_at_call 58; (with_reducible refine (r01_bit.calls k1 a1 x8_1 t182 _ A6.out).mono ?_); rintro e w' ⟨rfl, ⟨nd, rfl⟩⟩; (try first | exact ⟨rfl, _, World.drewN_drewN _ _ _⟩ | exact ⟨rfl, _, Eq.trans (World.drewN_drewN _ _ _) (congrArg (World.drewN _) (Nat.add_assoc _ _ _))⟩); have p183 : 0 ≤ ((ji7) : Int) := oD (jA); have q183 : (ji7) < (l2.length : Int) := oD (jA); obtain ⟨ad183, e183, hx183_0⟩ := Kd.at_int HR2.out (ji7) p183 q183; cases e183; replace p183 := eq_true p183; replace q183 := eq_true q183) | (go_at_call 55; (with_reducible refine (r01_power.calls k1 x8_1 t184 _ A10.out).mono ?_); rintro e w' ⟨rfl, ⟨nd, rfl⟩⟩; (try first | exact ⟨rfl, _, World.drewN_drewN _ _ _⟩ | exact ⟨rfl, _, Eq.trans (World.drewN_drewN _ _ _) (congrArg (World.drewN _) (Nat.add_assoc _ _ _))⟩)))
      repeat (go_quiet (first | (go_at_call 58; (with_reducible refine (r01_bit.calls k1 a0 x8_1 t181 _ A5.out).mono ?_); rintro e w' ⟨rfl, ⟨nd, rfl⟩⟩; (try first | exact ⟨rfl, _, World.drewN_drewN _ _ _⟩ | exact ⟨rfl, _, Eq.trans (World.drewN_drewN _ _ _) (congrArg (World.drewN _) (Nat.add_assoc _ _ _))⟩)) | (go_at_call 58; (with_reducible refine (r01_bit.calls k1 a1 x8_1 t182 _ A6.out).mono ?_); rintro e w' ⟨rfl, ⟨nd, rfl⟩⟩; (try first | exact ⟨rfl, _, World.drewN_drewN _ _ _⟩ | exact ⟨rfl, _, Eq.trans (World.drewN_drewN _ _ _) (congrArg (World.drewN _) (Nat.add_assoc _ _ _))⟩); have p183 : 0 ≤ ((ji7) : Int) := oD (jA); have q183 : (ji7) < (l2.length : Int) := oD (jA); obtain ⟨ad183, e183, hx183_0⟩ := Kd.at_int HR2.out (ji7) p183 q183; cases e183; replace p183 := eq_true p183; replace q183 := eq_true q183) | (go_at_call 55; (with_reducible refine (r01_power.calls k1 x8_1 t184 _ A10.out).mono ?_); rintro e w' ⟨rfl, ⟨nd, rfl⟩⟩; (try first | exact ⟨rfl, _, World.drewN_drewN _ _ _⟩ | exact ⟨rfl, _, Eq.trans (World.drewN_drewN _ _ _) (congrArg (World.drewN _) (Nat.add_assoc _ _ _))⟩))); try go_wp2_with (first | (go_at_call 58; (with_reducible refine (r01_bit.calls k1 a0 x8_1 t181 _ A5.out).mono ?_); rintro e w' ⟨rfl, ⟨nd, rfl⟩⟩; (try first | exact ⟨rfl, _, World.drewN_drewN _ _ _⟩ | exact ⟨rfl, _, Eq.trans (World.drewN_drewN _ _ _) (congrArg (World.drewN _) (Nat.add_assoc _ _ _))⟩)) | (go_at_call 58; (with_reducible refine (r01_bit.calls k1 a1 x8_1 t182 _ A6.out).mono ?_); rintro e w' ⟨rfl, ⟨nd, rfl⟩⟩; (try first | exact ⟨rfl, _, World.drewN_drewN _ _ _⟩ | exact ⟨rfl, _, Eq.trans (World.drewN_drewN _ _ _) (congrArg (World.drewN _) (Nat.add_assoc _ _ _))⟩); have p183 : 0 ≤ ((ji7) : Int) := oD (jA); have q183 : (ji7) < (l2.length : Int) := oD (jA); obtain ⟨ad183, e183, hx183_0⟩ := Kd.at_int HR2.out (ji7) p183 q183; cases e183; replace p183 := eq_true p183; replace q183 := eq_true q183) | (go_at_call 55; (with_reducible refine (r01_power.calls k1 x8_1 t184 _ A10.out).mono ?_); rintro e w' ⟨rfl, ⟨nd, rfl⟩⟩; (try first | exact ⟨rfl, _, World.drewN_drewN _ _ _⟩ | exact ⟨rfl, _, Eq.trans (World.drewN_drewN _ _ _) (congrArg (World.drewN _) (Nat.add_assoc _ _ _))⟩))))
      go_roundg k1
      case measure => have := HK1.out; omega
      case rel => exact ⟨((x7_1 + (((rd l2 (ji7)) * ((t184) % 4294967296)) % 4294967296)) % 4294967296), ((x8_1 + 1) % 4294967296), (by first | rfl | (simp; done) | (simp only [← hji7] <;> (first | rfl | simp)) | (simp [*]; done)), jS, H', ⟨by have := HK1.out; omega⟩, by repeat (first | exact Drawn0.refl _ | apply Drawn0.step)⟩
     ·rw [if_neg c9] at H
      exact absurd H (by simp)
    ·rw [if_neg c8] at H
     exact absurd H (by simp)
   ·rw [if_neg c4] at H
    have c4b0 : decide (x8_1 < 32) = false := dF c4
    clear c4
    obtain rfl := Option.some.inj H
    go_wp2
    repeat (go_quiet (fail); try go_wp2)
    go_ret
    exact ⟨by first | rfl | (simp; done) | (simp [*]; done), by repeat (first | exact Drawn0.refl _ | apply Drawn0.step)⟩
end Go.Proofs.YtohpbjnihmcelaaDoor.M
