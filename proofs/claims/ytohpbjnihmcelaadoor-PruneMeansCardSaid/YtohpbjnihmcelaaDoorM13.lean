/- What Go functions compute; their calls come to it. No condition. -/
import Derived.Test.YtohpbjnihmcelaaDoorM0
import Derived.Test.YtohpbjnihmcelaaDoorM12
namespace Go.Proofs.YtohpbjnihmcelaaDoor.M
open Go.RowKit Go.Proofs.YtohpbjnihmcelaaDoorW.PrintWords Go.Proofs.YtohpbjnihmcelaaDoorW.PrintLast Go.Proofs.YtohpbjnihmcelaaDoorW.PrintMore
attribute [local go_sem] max2_int min2_int max_two min_two max_three min_three max_four min_four   -- for this text's walks alone
set_option linter.unusedVariables false
set_option linter.unusedSimpArgs false
def r02_place.l0 : Nat → Int → List Int → Int → Option (Int)
 | 0, _, _, _ => none
 | k + 1, x0, x3, x4 => if x4 < (x3.length : Int) then (if 0 ≤ x4 then (if (rd x3 x4) = x0 then (some x4) else (r02_place.l0 k x0 x3 (wrap64 (x4 + 1)))) else (none)) else (some (-1))
def r02_place.f (k : Nat) (a0 : Int) : Option (Int) := (r02_Ops.f).bind fun t159 => (r02_place.l0 k a0 t159 0)
theorem r02_place.mono_l : ∀ k, (∀ y0 y1 y2, LeO (r02_place.l0 k y0 y1 y2) (r02_place.l0 (k + 1) y0 y1 y2))
 | 0 => fun _ _ _ r h => by simp [r02_place.l0] at h
 | k + 1 => by
  have ih0 := r02_place.mono_l k
  ·intro y0 y1 y2
   unfold r02_place.l0
   repeat' first
   | (with_reducible apply ih0)
   | (with_reducible exact LeO.refl _)
   | (with_reducible exact LeO.none _)
   | (with_reducible refine LeO.ite ?_ ?_)
   | (with_reducible refine LeO.bind ?_ (fun _ => ?_))
   | apply ih0
   | exact LeO.none _
   | refine LeO.ite ?_ ?_
   | refine LeO.bind ?_ (fun _ => ?_)
theorem r02_place.mono : ∀ a0 k, LeO (r02_place.f k a0) (r02_place.f (k + 1) a0) := by
 intro a0 k
 have ih0 := r02_place.mono_l k
 unfold r02_place.f
 repeat' first
   | (with_reducible apply ih0)
   | (with_reducible exact LeO.refl _)
   | (with_reducible exact LeO.none _)
   | (with_reducible refine LeO.ite ?_ ?_)
   | (with_reducible refine LeO.bind ?_ (fun _ => ?_))
   | apply ih0
   | exact LeO.none _
   | refine LeO.ite ?_ ?_
   | refine LeO.bind ?_ (fun _ => ?_)
set_option maxHeartbeats 8000000 in
set_option maxRecDepth 100000 in
theorem r02_place.calls (k : Nat) (a0 : Int) (r : Int) (w : World) (h : r02_place.f k a0 = some r) :
  Calls Tryd.prog 33 #[.int .i64 a0] w fun e w' => e = .returned (.int .i64 r) ∧ Below w.heap.size w w' := by
 have HB := Aside0.mk (Below.refl w.heap.size w)
 have H : ((r02_Ops.f).bind fun t159 => (r02_place.l0 k a0 t159 0)) = some r := h
 clear h
 replace H := Option.bind_eq_some_iff.mp H
 obtain ⟨t159, A20, H⟩ := H
 try dsimp only at H
 have A2 := Aside0.mk A20
 clear A20
 have H' := Aside0.mk H
 clear H
 go_enter Tryd.func33, Tryd.ntmps33
 go_wp2_with (first | ((with_reducible refine gate_callee (f := 43) rfl ?_); refine goesL_ (some 5) rfl rfl Tryd.func43 (by kernel_rfl) rfl #[] rfl jZ ?_; (with_reducible refine (r02_Ops.calls  t159 _ A2.out).mono ?_); rintro e w3 ⟨v160, rfl, ho0, hb⟩; refine ⟨_, rfl, ?_⟩; have n0_ := Aside0.mk (Kd.R_lower ho0 (zZ (jH HB))); have n1_ := Aside0.mk (zT (jH HB) hb); clear HB; have HO161 := n0_; have HB := n1_; clear n0_ n1_; (try clear hb); (try clear hb2); (try clear hk); (try clear hi); (try clear ho0)))
 go_loopg [4] k (fun kq v4 w' => ∃ (x4_1 : Int), v4 = .int .i64 x4_1 ∧ Aside0 (r02_place.l0 kq a0 t159 x4_1 = some r) ∧ Aside0 (kq ≤ k) ∧ Aside0 (Kd.R (Kd.int .i64) 3 w' w.heap.size (fun _ => True) v160 t159) ∧ Aside0 (Below w.heap.size w w'))
 case atStart => exact ⟨(0), jS, H', ⟨Nat.le_refl _⟩, ⟨jR HO161⟩, ⟨jH HB⟩⟩
 case round =>
  clear H'
  obtain ⟨x4_1, rfl, HA, HK1, HO_3, HB⟩ := hrel
  cases gk with
  | zero => exact absurd HA.out (by simp [r02_place.l0])
  | succ k1 =>
   have H := HA.out
   clear HA
   simp only [r02_place.l0] at H
   by_cases c4 : x4_1 < (t159.length : Int)
   ·rw [if_pos c4] at H
    have c4b0 : decide (x4_1 < (t159.length : Int)) = true := dT c4
    clear c4
    by_cases c5 : 0 ≤ x4_1
    ·rw [if_pos c5] at H
     have c5b0 : decide (0 ≤ x4_1) = true := dT c5
     clear c5
     by_cases c6 : (rd t159 x4_1) = a0
     ·rw [if_pos c6] at H
      have c6b0 : ((rd t159 x4_1) == a0) = true := bI.mpr c6
      have c6b1 : ((rd t159 x4_1) != a0) = false := nF.mpr c6
      clear c6
      obtain rfl := Option.some.inj H
      obtain ⟨Ao7, co7, eo7⟩ := Kd.R_slice HO_3.out
      subst eo7
      have p162 : 0 ≤ (x4_1 : Int) := oD (jA)
      have q162 : x4_1 < (t159.length : Int) := oD (jA)
      obtain ⟨ad162, e162, hx162_0⟩ := Kd.at_int (Kd.R_reads' HO_3.out).2.2 x4_1 p162 q162
      cases e162
      replace p162 := eq_true p162
      replace q162 := eq_true q162
      go_wp2
      go_ret
      exact ⟨jE, jH HB⟩
     ·rw [if_neg c6] at H
      have c6b0 : ((rd t159 x4_1) == a0) = false := bF.mpr c6
      have c6b1 : ((rd t159 x4_1) != a0) = true := nI.mpr c6
      have H' := Aside0.mk H
      clear H
      obtain ⟨Ao8, co8, eo8⟩ := Kd.R_slice HO_3.out
      subst eo8
      have p162 : 0 ≤ (x4_1 : Int) := oD (jA)
      have q162 : x4_1 < (t159.length : Int) := oD (jA)
      obtain ⟨ad162, e162, hx162_0⟩ := Kd.at_int (Kd.R_reads' HO_3.out).2.2 x4_1 p162 q162
      cases e162
      replace p162 := eq_true p162
      replace q162 := eq_true q162
      go_wp2
      go_roundg k1
      case measure => have := HK1.out; omega
      case rel => exact ⟨(wrap64 (x4_1 + 1)), jS, H', ⟨by have := HK1.out; omega⟩, ⟨jR HO_3⟩, ⟨jH HB⟩⟩
    ·rw [if_neg c5] at H
     exact absurd H (by simp)
   ·rw [if_neg c4] at H
    have c4b0 : decide (x4_1 < (t159.length : Int)) = false := dF c4
    clear c4
    obtain rfl := Option.some.inj H
    obtain ⟨Ao9, co9, eo9⟩ := Kd.R_slice HO_3.out
    subst eo9
    go_wp2
    go_ret
    exact ⟨jE, jH HB⟩
def r02_Branch.f (k : Nat) (a0_0 : Int) (a0_1 : Int) (a0_2 : Int) (a0_3 : Int) : Option (Bool) := (r02_place.f k a0_0).bind fun t164 => ((r02_branch.f t164).bind fun t165 => (some t165))
theorem r02_Branch.mono : ∀ a0 a1 a2 a3 k, LeO (r02_Branch.f k a0 a1 a2 a3) (r02_Branch.f (k + 1) a0 a1 a2 a3) := by
 intro a0 a1 a2 a3 k
 unfold r02_Branch.f
 repeat' first
   | (with_reducible apply r02_place.mono)
   | (with_reducible exact LeO.refl _)
   | (with_reducible exact LeO.none _)
   | (with_reducible refine LeO.ite ?_ ?_)
   | (with_reducible refine LeO.bind ?_ (fun _ => ?_))
   | apply r02_place.mono
   | exact LeO.none _
   | refine LeO.ite ?_ ?_
   | refine LeO.bind ?_ (fun _ => ?_)
set_option maxHeartbeats 8000000 in
set_option maxRecDepth 100000 in
theorem r02_Branch.calls (k : Nat) (a0_0 : Int) (a0_1 : Int) (a0_2 : Int) (a0_3 : Int) (r : Bool) (w : World) (h : r02_Branch.f k a0_0 a0_1 a0_2 a0_3 = some r) :
  Calls Tryd.prog 25 #[.agg #[.int .i64 a0_0, .int .i64 a0_1, .int .i64 a0_2, .int .u32 a0_3]] w fun e w' => e = .returned (.bool r) ∧ Below w.heap.size w w' := by
 have hu45 := Tryd.underlying45
 have HB := Aside0.mk (Below.refl w.heap.size w)
 have H : ((r02_place.f k a0_0).bind fun t164 => ((r02_branch.f t164).bind fun t165 => (some t165))) = some r := h
 clear h
 replace H := Option.bind_eq_some_iff.mp H
 obtain ⟨t164, A20, H⟩ := H
 try dsimp only at H
 have A2 := Aside0.mk A20
 clear A20
 replace H := Option.bind_eq_some_iff.mp H
 obtain ⟨t165, A30, H⟩ := H
 try dsimp only at H
 have A3 := Aside0.mk A30
 clear A30
 obtain rfl := Option.some.inj H
 go_enter Tryd.func25, Tryd.ntmps25
 go_wp2_with (first | ((with_reducible refine gate_dst (N := 1) rfl ?_); refine box_event rfl (N := 1) rfl (cs := #[.int .i64 a0_0, .int .i64 a0_1, .int .i64 a0_2, .int .u32 a0_3]) (t := 45) jW ?_; intro gb163 hg w4 hbox hb; have n0_ := Aside0.mk (zT (jH HB) hb); have n1_ := Aside0.mk hbox; have n2_ := Aside0.mk (jG hg HB); have n3_ := Aside0.mk (jG hg HB); clear HB; have HB := n0_; have BK163 := n1_; have GW163 := n2_; have GE163 := n3_; clear n0_ n1_ n2_ n3_; clear hb hbox hg; have hcz5_0 : w4.cell? ⟨gb163, 0, none⟩ = some (.int .i64 a0_0) := (kC BK163.out 0).trans rfl; have hcz5_1 : w4.cell? ⟨gb163, 1, none⟩ = some (.int .i64 a0_1) := (kC BK163.out 1).trans rfl; have hcz5_2 : w4.cell? ⟨gb163, 2, none⟩ = some (.int .i64 a0_2) := (kC BK163.out 2).trans rfl; have hcz5_3 : w4.cell? ⟨gb163, 3, none⟩ = some (.int .u32 a0_3) := (kC BK163.out 3).trans rfl; have hfz5_0 := kF BK163.out 0; have hfz5_1 := kF BK163.out 1; have hfz5_2 := kF BK163.out 2; have hfz5_3 := kF BK163.out 3) | ((with_reducible refine gate_callee (f := 33) rfl ?_); refine goesL_ (some 5) rfl rfl Tryd.func33 (by kernel_rfl) rfl #[.int .i64 a0_0] rfl jZ ?_; (with_reducible refine (r02_place.calls k a0_0 t164 _ A2.out).mono ?_); rintro e w6 ⟨rfl, hb⟩; refine ⟨_, rfl, ?_⟩; have n0_ := Aside0.mk (jB BK163 hb); have n1_ := Aside0.mk (zT (jH HB) hb); clear BK163; clear HB; have BK163 := n0_; have HB := n1_; clear n0_ n1_; (try clear hb); (try clear hb2); (try clear hk); (try clear hi)) | ((with_reducible refine gate_callee (f := 32) rfl ?_); refine goesL_ (some 6) rfl rfl Tryd.func32 (by kernel_rfl) rfl #[.int .i64 t164] rfl jZ ?_; (with_reducible refine (r02_branch.calls t164 t165 _ A3.out).mono ?_); rintro e w' ⟨rfl, ⟨nd, rfl⟩⟩; refine ⟨_, rfl, ?_⟩))
 go_ret
 exact ⟨jE, jH HB⟩
def r02_plain.f (a0 : Int) : Option (Bool) := if a0 ≥ 13 then (if a0 ≤ 24 then (some true) else (if a0 = 30 then (some true) else (some (decide (a0 ≥ 35))))) else (if a0 = 30 then (some true) else (some (decide (a0 ≥ 35))))
set_option maxHeartbeats 8000000 in
set_option maxRecDepth 100000 in
theorem r02_plain.calls (a0 : Int) (r : Bool) (w : World) (h : r02_plain.f a0 = some r) :
  Calls Tryd.prog 53 #[.int .i64 a0] w fun e w' => e = .returned (.bool r) ∧ Drawn0 w w' := by
 have H : (if a0 ≥ 13 then (if a0 ≤ 24 then (some true) else (if a0 = 30 then (some true) else (some (decide (a0 ≥ 35))))) else (if a0 = 30 then (some true) else (some (decide (a0 ≥ 35))))) = some r := h
 clear h
 by_cases c2 : a0 ≥ 13
 ·rw [if_pos c2] at H
  have c2b0 : decide (13 ≤ a0) = true := dT c2
  clear c2
  by_cases c3 : a0 ≤ 24
  ·rw [if_pos c3] at H
   have c3b0 : decide (a0 ≤ 24) = true := dT c3
   clear c3
   obtain rfl := Option.some.inj H
   go_enter Tryd.func53, Tryd.ntmps53
   go_wp2
   go_ret
   exact ⟨by first | rfl | (simp; done) | (simp [*]; done), by repeat (first | exact Drawn0.refl _ | apply Drawn0.step)⟩
  ·rw [if_neg c3] at H
   have c3b0 : decide (a0 ≤ 24) = false := dF c3
   clear c3
   by_cases c4 : a0 = 30
   ·rw [if_pos c4] at H
    have c4b0 : (a0 == 30) = true := bI.mpr c4
    have c4b1 : (a0 != 30) = false := nF.mpr c4
    clear c4
    obtain rfl := Option.some.inj H
    go_enter Tryd.func53, Tryd.ntmps53
    go_wp2
    go_ret
    exact ⟨by first | rfl | (simp; done) | (simp [*]; done), by repeat (first | exact Drawn0.refl _ | apply Drawn0.step)⟩
   ·rw [if_neg c4] at H
    have c4b0 : (a0 == 30) = false := bF.mpr c4
    have c4b1 : (a0 != 30) = true := nI.mpr c4
    obtain rfl := Option.some.inj H
    go_enter Tryd.func53, Tryd.ntmps53
    go_wp2
    go_ret
    exact ⟨by first | rfl | (simp; done) | (simp [*]; done), by repeat (first | exact Drawn0.refl _ | apply Drawn0.step)⟩
 ·rw [if_neg c2] at H
  have c2b0 : decide (13 ≤ a0) = false := dF c2
  clear c2
  by_cases c5 : a0 = 30
  ·rw [if_pos c5] at H
   have c5b0 : (a0 == 30) = true := bI.mpr c5
   have c5b1 : (a0 != 30) = false := nF.mpr c5
   clear c5
   obtain rfl := Option.some.inj H
   go_enter Tryd.func53, Tryd.ntmps53
   go_wp2
   go_ret
   exact ⟨by first | rfl | (simp; done) | (simp [*]; done), by repeat (first | exact Drawn0.refl _ | apply Drawn0.step)⟩
  ·rw [if_neg c5] at H
   have c5b0 : (a0 == 30) = false := bF.mpr c5
   have c5b1 : (a0 != 30) = true := nI.mpr c5
   obtain rfl := Option.some.inj H
   go_enter Tryd.func53, Tryd.ntmps53
   go_wp2
   go_ret
   exact ⟨by first | rfl | (simp; done) | (simp [*]; done), by repeat (first | exact Drawn0.refl _ | apply Drawn0.step)⟩
end Go.Proofs.YtohpbjnihmcelaaDoor.M
