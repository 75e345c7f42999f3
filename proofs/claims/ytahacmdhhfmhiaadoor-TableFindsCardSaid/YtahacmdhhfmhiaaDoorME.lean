/- What Go functions compute; their calls come to it. No condition. -/
import Derived.Test.YtahacmdhhfmhiaaDoorM0
import Derived.Test.YtahacmdhhfmhiaaDoorM24
namespace Go.Proofs.YtahacmdhhfmhiaaDoor.M
open Go.RowKit Go.Proofs.YtahacmdhhfmhiaaDoorW.PrintWords Go.Proofs.YtahacmdhhfmhiaaDoorW.PrintLast Go.Proofs.YtahacmdhhfmhiaaDoorW.PrintMore
attribute [local go_sem] max2_int min2_int max_two min_two max_three min_three max_four min_four   -- for this text's walks alone
set_option linter.unusedVariables false
set_option linter.unusedSimpArgs false
def r02_place.l0 : Nat → Int → List Int → Int → Option (Int)
 | 0, _, _, _ => none
 | k + 1, x0, x3, x4 => if x4 < (x3.length : Int) then (if 0 ≤ x4 then (if (rd x3 x4) = x0 then (some x4) else (r02_place.l0 k x0 x3 (wrap64 (x4 + 1)))) else (none)) else (some (-1))
def r02_place.f (k : Nat) (a0 : Int) : Option (Int) := (r02_Ops.f).bind fun t415 => (r02_place.l0 k a0 t415 0)
theorem r02_place.mono_l : ∀ k, (∀ y0 y1 y2, LeO (r02_place.l0 k y0 y1 y2) (r02_place.l0 (k + 1) y0 y1 y2))
 | 0 => fun _ _ _ r h => by simp [r02_place.l0] at h
 | k + 1 => by
  have ih0 := r02_place.mono_l k
  ·intro y0 y1 y2
   unfold r02_place.l0
   repeat' first
   | (with_reducible apply ih0)
   | (with_reducible exact LeO.refl _)
   | (with_reducible exact LeO.none _)
   | (with_reducible refine LeO.ite ?_ ?_)
   | (with_reducible refine LeO.bind ?_ (fun _ => ?_))
   | apply ih0
   | exact LeO.none _
   | refine LeO.ite ?_ ?_
   | refine LeO.bind ?_ (fun _ => ?_)
theorem r02_place.mono : ∀ a0 k, LeO (r02_place.f k a0) (r02_place.f (k + 1) a0) := by
 intro a0 k
 have ih0 := r02_place.mono_l k
 unfold r02_place.f
 repeat' first
   | (with_reducible apply ih0)
   | (with_reducible exact LeO.refl _)
   | (with_reducible exact LeO.none _)
   | (with_reducible refine LeO.ite ?_ ?_)
   | (with_reducible refine LeO.bind ?_ (fun _ => ?_))
   | apply ih0
   | exact LeO.none _
   | refine LeO.ite ?_ ?_
   | refine LeO.bind ?_ (fun _ => ?_)
set_option maxHeartbeats 8000000 in
set_option maxRecDepth 100000 in
theorem r02_place.calls (k : Nat) (a0 : Int) (r : Int) (w : World) (h : r02_place.f k a0 = some r) :
  Calls Tryd.prog 62 #[.int .i64 a0] w fun e w' => e = .returned (.int .i64 r) ∧ Below w.heap.size w w' := by
 have HB := Aside0.mk (Below.refl w.heap.size w)
 have H : ((r02_Ops.f).bind fun t415 => (r02_place.l0 k a0 t415 0)) = some r := h
 clear h
 replace H := Option.bind_eq_some_iff.mp H
 obtain ⟨t415, A20, H⟩ := H
 try dsimp only at H
 have A2 := Aside0.mk A20
 clear A20
 have H' := Aside0.mk H
 clear H
 go_enter Tryd.func62, Tryd.ntmps62
 go_wp2_with (first | ((with_reducible refine gate_callee (f := 66) rfl ?_); refine goesL_ (some 5) rfl rfl Tryd.func66 (by kernel_rfl) rfl #[] rfl jZ ?_; (with_reducible refine (r02_Ops.calls  t415 _ A2.out).mono ?_); rintro e w3 ⟨v416, rfl, ho0, hb⟩; refine ⟨_, rfl, ?_⟩; have HO417 := Aside0.mk (Kd.R_lower ho0 (zZ (jH HB))); replace HB := Aside0.mk (zT (jH HB) hb); (try clear hb); (try clear hb2); (try clear hk); (try clear hi); (try clear ho0)))
 go_loopg [4] k (fun kq v4 w' => ∃ (x4_1 : Int), v4 = .int .i64 x4_1 ∧ Aside0 (r02_place.l0 kq a0 t415 x4_1 = some r) ∧ Aside0 (kq ≤ k) ∧ Aside0 (Kd.R (Kd.int .i64) 3 w' w.heap.size (fun _ => True) v416 t415) ∧ Aside0 (Below w.heap.size w w'))
 case atStart => exact ⟨(0), jS, H', ⟨Nat.le_refl _⟩, ⟨jR HO417⟩, ⟨jH HB⟩⟩
 case round =>
  clear H'
  obtain ⟨x4_1, rfl, HA, HK1, HO_3, HB⟩ := hrel
  cases gk with
  | zero => exact absurd HA.out (by simp [r02_place.l0])
  | succ k1 =>
   have H := HA.out
   clear HA
   simp only [r02_place.l0] at H
   by_cases c4 : x4_1 < (t415.length : Int)
   ·rw [if_pos c4] at H
    have c4b0 : decide (x4_1 < (t415.length : Int)) = true := dT c4
    clear c4
    by_cases c5 : 0 ≤ x4_1
    ·rw [if_pos c5] at H
     have c5b0 : decide (0 ≤ x4_1) = true := dT c5
     clear c5
     by_cases c6 : (rd t415 x4_1) = a0
     ·rw [if_pos c6] at H
      have c6b0 : ((rd t415 x4_1) == a0) = true := bI.mpr c6
      have c6b1 : ((rd t415 x4_1) != a0) = false := nF.mpr c6
      clear c6
      obtain rfl := Option.some.inj H
      obtain ⟨Ao7, co7, eo7⟩ := Kd.R_slice HO_3.out
      subst eo7
      have p418 : 0 ≤ (x4_1 : Int) := oD (jA)
      have q418 : x4_1 < (t415.length : Int) := oD (jA)
      obtain ⟨ad418, e418, hx418_0⟩ := Kd.at_int (Kd.R_reads' HO_3.out).2.2 x4_1 p418 q418
      cases e418
      replace p418 := eq_true p418
      replace q418 := eq_true q418
      go_wp2
      go_ret
      exact ⟨jE, jH HB⟩
     ·rw [if_neg c6] at H
      have c6b0 : ((rd t415 x4_1) == a0) = false := bF.mpr c6
      have c6b1 : ((rd t415 x4_1) != a0) = true := nI.mpr c6
      have H' := Aside0.mk H
      clear H
      obtain ⟨Ao8, co8, eo8⟩ := Kd.R_slice HO_3.out
      subst eo8
      have p418 : 0 ≤ (x4_1 : Int) := oD (jA)
      have q418 : x4_1 < (t415.length : Int) := oD (jA)
      obtain ⟨ad418, e418, hx418_0⟩ := Kd.at_int (Kd.R_reads' HO_3.out).2.2 x4_1 p418 q418
      cases e418
      replace p418 := eq_true p418
      replace q418 := eq_true q418
      go_wp2
      go_roundg k1
      case measure => have := HK1.out; omega
      case rel => exact ⟨(wrap64 (x4_1 + 1)), jS, H', ⟨by have := HK1.out; omega⟩, ⟨jR HO_3⟩, ⟨jH HB⟩⟩
    ·rw [if_neg c5] at H
     exact absurd H (by simp)
   ·rw [if_neg c4] at H
    have c4b0 : decide (x4_1 < (t415.length : Int)) = false := dF c4
    clear c4
    obtain rfl := Option.some.inj H
    obtain ⟨Ao9, co9, eo9⟩ := Kd.R_slice HO_3.out
    subst eo9
    go_wp2
    go_ret
    exact ⟨jE, jH HB⟩
def r02_Branch.f (k : Nat) (a0_0 : Int) (a0_1 : Int) (a0_2 : Int) (a0_3 : Int) : Option (Bool) := (r02_place.f k a0_0).bind fun t420 => ((r02_branch.f t420).bind fun t421 => (some t421))
theorem r02_Branch.mono : ∀ a0 a1 a2 a3 k, LeO (r02_Branch.f k a0 a1 a2 a3) (r02_Branch.f (k + 1) a0 a1 a2 a3) := by
 intro a0 a1 a2 a3 k
 unfold r02_Branch.f
 repeat' first
   | (with_reducible apply r02_place.mono)
   | (with_reducible exact LeO.refl _)
   | (with_reducible exact LeO.none _)
   | (with_reducible refine LeO.ite ?_ ?_)
   | (with_reducible refine LeO.bind ?_ (fun _ => ?_))
   | apply r02_place.mono
   | exact LeO.none _
   | refine LeO.ite ?_ ?_
   | refine LeO.bind ?_ (fun _ => ?_)
set_option maxHeartbeats 8000000 in
set_option maxRecDepth 100000 in
theorem r02_Branch.calls (k : Nat) (a0_0 : Int) (a0_1 : Int) (a0_2 : Int) (a0_3 : Int) (r : Bool) (w : World) (h : r02_Branch.f k a0_0 a0_1 a0_2 a0_3 = some r) :
  Calls Tryd.prog 48 #[.agg #[.int .i64 a0_0, .int .i64 a0_1, .int .i64 a0_2, .int .u32 a0_3]] w fun e w' => e = .returned (.bool r) ∧ Below w.heap.size w w' := by
 have hu59 := Tryd.underlying59
 have HB := Aside0.mk (Below.refl w.heap.size w)
 have H : ((r02_place.f k a0_0).bind fun t420 => ((r02_branch.f t420).bind fun t421 => (some t421))) = some r := h
 clear h
 replace H := Option.bind_eq_some_iff.mp H
 obtain ⟨t420, A20, H⟩ := H
 try dsimp only at H
 have A2 := Aside0.mk A20
 clear A20
 replace H := Option.bind_eq_some_iff.mp H
 obtain ⟨t421, A30, H⟩ := H
 try dsimp only at H
 have A3 := Aside0.mk A30
 clear A30
 obtain rfl := Option.some.inj H
 go_enter Tryd.func48, Tryd.ntmps48
 go_wp2_with (first | ((with_reducible refine gate_dst (N := 1) rfl ?_); refine box_event rfl (N := 1) rfl (cs := #[.int .i64 a0_0, .int .i64 a0_1, .int .i64 a0_2, .int .u32 a0_3]) (t := 59) jW ?_; intro gb419 hg w4 hbox hb; have BK419 := Aside0.mk hbox; have GW419 := Aside0.mk (jG hg HB); have GE419 := Aside0.mk (jG hg HB); replace HB := Aside0.mk (zT (jH HB) hb); clear hb hbox hg; obtain ⟨hcz5_0, hcz5_1, hcz5_2, hcz5_3, hfz5_0, hfz5_1, hfz5_2, hfz5_3⟩ := kQ4 BK419.out) | ((with_reducible refine gate_callee (f := 62) rfl ?_); refine goesL_ (some 5) rfl rfl Tryd.func62 (by kernel_rfl) rfl #[.int .i64 a0_0] rfl jZ ?_; (with_reducible refine (r02_place.calls k a0_0 t420 _ A2.out).mono ?_); rintro e w6 ⟨rfl, hb⟩; refine ⟨_, rfl, ?_⟩; replace BK419 := Aside0.mk (jB BK419 hb); replace HB := Aside0.mk (zT (jH HB) hb); (try clear hb); (try clear hb2); (try clear hk); (try clear hi)) | ((with_reducible refine gate_callee (f := 61) rfl ?_); refine goesL_ (some 6) rfl rfl Tryd.func61 (by kernel_rfl) rfl #[.int .i64 t420] rfl jZ ?_; (with_reducible refine (r02_branch.calls t420 t421 _ A3.out).mono ?_); rintro e w' ⟨rfl, ⟨nd, rfl⟩⟩; refine ⟨_, rfl, ?_⟩))
 go_ret
 exact ⟨jE, jH HB⟩
def r02_Ends.f (a0_0 : Int) (a0_1 : Int) (a0_2 : Int) (a0_3 : Int) : Option (Bool) := if a0_0 = 6 then (some true) else (some (a0_0 == 22))
set_option maxHeartbeats 8000000 in
set_option maxRecDepth 100000 in
theorem r02_Ends.calls (a0_0 : Int) (a0_1 : Int) (a0_2 : Int) (a0_3 : Int) (r : Bool) (w : World) (h : r02_Ends.f a0_0 a0_1 a0_2 a0_3 = some r) :
  Calls Tryd.prog 49 #[.agg #[.int .i64 a0_0, .int .i64 a0_1, .int .i64 a0_2, .int .u32 a0_3]] w fun e w' => e = .returned (.bool r) ∧ Below w.heap.size w w' := by
 have hu59 := Tryd.underlying59
 have HB := Aside0.mk (Below.refl w.heap.size w)
 have H : (if a0_0 = 6 then (some true) else (some (a0_0 == 22))) = some r := h
 clear h
 by_cases c2 : a0_0 = 6
 ·rw [if_pos c2] at H
  have c2b0 : (a0_0 == 6) = true := bI.mpr c2
  have c2b1 : (a0_0 != 6) = false := nF.mpr c2
  clear c2
  obtain rfl := Option.some.inj H
  go_enter Tryd.func49, Tryd.ntmps49
  go_wp2_with (first | ((with_reducible refine gate_dst (N := 1) rfl ?_); refine box_event rfl (N := 1) rfl (cs := #[.int .i64 a0_0, .int .i64 a0_1, .int .i64 a0_2, .int .u32 a0_3]) (t := 59) jW ?_; intro gb422 hg w3 hbox hb; have BK422 := Aside0.mk hbox; have GW422 := Aside0.mk (jG hg HB); have GE422 := Aside0.mk (jG hg HB); replace HB := Aside0.mk (zT (jH HB) hb); clear hb hbox hg; obtain ⟨hcz4_0, hcz4_1, hcz4_2, hcz4_3, hfz4_0, hfz4_1, hfz4_2, hfz4_3⟩ := kQ4 BK422.out))
  go_ret
  exact ⟨jE, jH HB⟩
 ·rw [if_neg c2] at H
  have c2b0 : (a0_0 == 6) = false := bF.mpr c2
  have c2b1 : (a0_0 != 6) = true := nI.mpr c2
  obtain rfl := Option.some.inj H
  go_enter Tryd.func49, Tryd.ntmps49
  go_wp2_with (first | ((with_reducible refine gate_dst (N := 1) rfl ?_); refine box_event rfl (N := 1) rfl (cs := #[.int .i64 a0_0, .int .i64 a0_1, .int .i64 a0_2, .int .u32 a0_3]) (t := 59) jW ?_; intro gb422 hg w5 hbox hb; have BK422 := Aside0.mk hbox; have GW422 := Aside0.mk (jG hg HB); have GE422 := Aside0.mk (jG hg HB); replace HB := Aside0.mk (zT (jH HB) hb); clear hb hbox hg; obtain ⟨hcz6_0, hcz6_1, hcz6_2, hcz6_3, hfz6_0, hfz6_1, hfz6_2, hfz6_3⟩ := kQ4 BK422.out))
  go_ret
  exact ⟨jE, jH HB⟩
def r02_plain.f (a0 : Int) : Option (Bool) := if a0 ≥ 13 then (if a0 ≤ 24 then (some true) else (if a0 = 30 then (some true) else (some (decide (a0 ≥ 35))))) else (if a0 = 30 then (some true) else (some (decide (a0 ≥ 35))))
set_option maxHeartbeats 8000000 in
set_option maxRecDepth 100000 in
theorem r02_plain.calls (a0 : Int) (r : Bool) (w : World) (h : r02_plain.f a0 = some r) :
  Calls Tryd.prog 65 #[.int .i64 a0] w fun e w' => e = .returned (.bool r) ∧ Drawn0 w w' := by
 have H : (if a0 ≥ 13 then (if a0 ≤ 24 then (some true) else (if a0 = 30 then (some true) else (some (decide (a0 ≥ 35))))) else (if a0 = 30 then (some true) else (some (decide (a0 ≥ 35))))) = some r := h
 clear h
 by_cases c2 : a0 ≥ 13
 ·rw [if_pos c2] at H
  have c2b0 : decide (13 ≤ a0) = true := dT c2
  clear c2
  by_cases c3 : a0 ≤ 24
  ·rw [if_pos c3] at H
   have c3b0 : decide (a0 ≤ 24) = true := dT c3
   clear c3
   obtain rfl := Option.some.inj H
   go_enter Tryd.func65, Tryd.ntmps65
   go_wp2
   go_ret
   exact ⟨by first | rfl | (simp; done) | (simp [*]; done), by repeat (first | exact Drawn0.refl _ | apply Drawn0.step)⟩
  ·rw [if_neg c3] at H
   have c3b0 : decide (a0 ≤ 24) = false := dF c3
   clear c3
   by_cases c4 : a0 = 30
   ·rw [if_pos c4] at H
    have c4b0 : (a0 == 30) = true := bI.mpr c4
    have c4b1 : (a0 != 30) = false := nF.mpr c4
    clear c4
    obtain rfl := Option.some.inj H
    go_enter Tryd.func65, Tryd.ntmps65
    go_wp2
    go_ret
    exact ⟨by first | rfl | (simp; done) | (simp [*]; done), by repeat (first | exact Drawn0.refl _ | apply Drawn0.step)⟩
   ·rw [if_neg c4] at H
    have c4b0 : (a0 == 30) = false := bF.mpr c4
    have c4b1 : (a0 != 30) = true := nI.mpr c4
    obtain rfl := Option.some.inj H
    go_enter Tryd.func65, Tryd.ntmps65
    go_wp2
    go_ret
    exact ⟨by first | rfl | (simp; done) | (simp [*]; done), by repeat (first | exact Drawn0.refl _ | apply Drawn0.step)⟩
 ·rw [if_neg c2] at H
  have c2b0 : decide (13 ≤ a0) = false := dF c2
  clear c2
  by_cases c5 : a0 = 30
  ·rw [if_pos c5] at H
   have c5b0 : (a0 == 30) = true := bI.mpr c5
   have c5b1 : (a0 != 30) = false := nF.mpr c5
   clear c5
   obtain rfl := Option.some.inj H
   go_enter Tryd.func65, Tryd.ntmps65
   go_wp2
   go_ret
   exact ⟨by first | rfl | (simp; done) | (simp [*]; done), by repeat (first | exact Drawn0.refl _ | apply Drawn0.step)⟩
  ·rw [if_neg c5] at H
   have c5b0 : (a0 == 30) = false := bF.mpr c5
   have c5b1 : (a0 != 30) = true := nI.mpr c5
   obtain rfl := Option.some.inj H
   go_enter Tryd.func65, Tryd.ntmps65
   go_wp2
   go_ret
   exact ⟨by first | rfl | (simp; done) | (simp [*]; done), by repeat (first | exact Drawn0.refl _ | apply Drawn0.step)⟩
end Go.Proofs.YtahacmdhhfmhiaaDoor.M

/- What Go functions compute; their calls come to it. No condition. -/
namespace Go.Proofs.YtahacmdhhfmhiaaDoor.M
open Go.RowKit Go.Proofs.YtahacmdhhfmhiaaDoorW.PrintWords Go.Proofs.YtahacmdhhfmhiaaDoorW.PrintLast Go.Proofs.YtahacmdhhfmhiaaDoorW.PrintMore
attribute [local go_sem] max2_int min2_int max_two min_two max_three min_three max_four min_four   -- for this text's walks alone
set_option linter.unusedVariables false
set_option linter.unusedSimpArgs false
def r02_Right.j0 : Nat → Int → Bool → Int → Int → Int → Int → Option (Bool)
 | 0, _, _, _, _, _, _ => none
 | k + 1, x3, x17, x424000, x424001, x424002, x424003 => if x17 = true then (some false) else ((r02_branch.f x3).bind fun t426 => (if t426 = true then (if x424001 ≥ 0 then (if x424001 < 256 then (if x424002 ≥ 0 then (some (decide (x424002 < 256))) else (some false)) else (some false)) else (some false)) else (if x424001 = 0 then (some (x424002 == 0)) else (some false))))
def r02_Right.f (k : Nat) (a0_0 : Int) (a0_1 : Int) (a0_2 : Int) (a0_3 : Int) : Option (Bool) := (r02_place.f k a0_0).bind fun t424 => (if t424 < 0 then (r02_Right.j0 k t424 true a0_0 a0_1 a0_2 a0_3) else ((r02_plain.f t424).bind fun t425 => (if t425 = true then (r02_Right.j0 k t424 (a0_3 != 0) a0_0 a0_1 a0_2 a0_3) else (r02_Right.j0 k t424 false a0_0 a0_1 a0_2 a0_3))))
theorem r02_Right.mono_l : ∀ k, (∀ y0 y1 y2 y3 y4 y5, LeO (r02_Right.j0 k y0 y1 y2 y3 y4 y5) (r02_Right.j0 (k + 1) y0 y1 y2 y3 y4 y5))
 | 0 => fun _ _ _ _ _ _ r h => by simp [r02_Right.j0] at h
 | k + 1 => by
  have ih0 := r02_Right.mono_l k
  ·intro y0 y1 y2 y3 y4 y5
   unfold r02_Right.j0
   repeat' first
   | (with_reducible apply ih0)
   | (with_reducible apply r02_place.mono)
   | (with_reducible exact LeO.refl _)
   | (with_reducible exact LeO.none _)
   | (with_reducible refine LeO.ite ?_ ?_)
   | (with_reducible refine LeO.bind ?_ (fun _ => ?_))
   | apply ih0
   | apply r02_place.mono
   | exact LeO.none _
   | refine LeO.ite ?_ ?_
   | refine LeO.bind ?_ (fun _ => ?_)
theorem r02_Right.mono : ∀ a0 a1 a2 a3 k, LeO (r02_Right.f k a0 a1 a2 a3) (r02_Right.f (k + 1) a0 a1 a2 a3) := by
 intro a0 a1 a2 a3 k
 have ih0 := r02_Right.mono_l k
 unfold r02_Right.f
 repeat' first
   | (with_reducible apply ih0)
   | (with_reducible apply r02_place.mono)
   | (with_reducible exact LeO.refl _)
   | (with_reducible exact LeO.none _)
   | (with_reducible refine LeO.ite ?_ ?_)
   | (with_reducible refine LeO.bind ?_ (fun _ => ?_))
   | apply ih0
   | apply r02_place.mono
   | exact LeO.none _
   | refine LeO.ite ?_ ?_
   | refine LeO.bind ?_ (fun _ => ?_)
set_option maxHeartbeats 8000000 in
set_option maxRecDepth 100000 in
theorem r02_Right.calls (k : Nat) (a0_0 : Int) (a0_1 : Int) (a0_2 : Int) (a0_3 : Int) (r : Bool) (w : World) (h : r02_Right.f k a0_0 a0_1 a0_2 a0_3 = some r) :
  Calls Tryd.prog 60 #[.agg #[.int .i64 a0_0, .int .i64 a0_1, .int .i64 a0_2, .int .u32 a0_3]] w fun e w' => e = .returned (.bool r) ∧ Below w.heap.size w w' := by
 have hu59 := Tryd.underlying59
 have HB := Aside0.mk (Below.refl w.heap.size w)
 have H : ((r02_place.f k a0_0).bind fun t424 => (if t424 < 0 then (r02_Right.j0 k t424 true a0_0 a0_1 a0_2 a0_3) else ((r02_plain.f t424).bind fun t425 => (if t425 = true then (r02_Right.j0 k t424 (a0_3 != 0) a0_0 a0_1 a0_2 a0_3) else (r02_Right.j0 k t424 false a0_0 a0_1 a0_2 a0_3))))) = some r := h
 clear h
 replace H := Option.bind_eq_some_iff.mp H
 obtain ⟨t424, A20, H⟩ := H
 try dsimp only at H
 have A2 := Aside0.mk A20
 clear A20
 have HC3 := Aside0.mk H
 clear H
 go_enter Tryd.func60, Tryd.ntmps60
 go_upto_region 2 with (first | ((with_reducible refine gate_dst (N := 1) rfl ?_); refine box_event rfl (N := 1) rfl (cs := #[.int .i64 a0_0, .int .i64 a0_1, .int .i64 a0_2, .int .u32 a0_3]) (t := 59) jW ?_; intro gb423 hg w4 hbox hb; have BK423 := Aside0.mk hbox; have GW423 := Aside0.mk (jG hg HB); have GE423 := Aside0.mk (jG hg HB); replace HB := Aside0.mk (zT (jH HB) hb); clear hb hbox hg; obtain ⟨hcz5_0, hcz5_1, hcz5_2, hcz5_3, hfz5_0, hfz5_1, hfz5_2, hfz5_3⟩ := kQ4 BK423.out) | ((with_reducible refine gate_callee (f := 62) rfl ?_); refine goesL_ (some 6) rfl rfl Tryd.func62 (by kernel_rfl) rfl #[.int .i64 a0_0] rfl jZ ?_; (with_reducible refine (r02_place.calls k a0_0 t424 _ A2.out).mono ?_); rintro e w6 ⟨rfl, hb⟩; refine ⟨_, rfl, ?_⟩; replace BK423 := Aside0.mk (jB BK423 hb); replace HB := Aside0.mk (zT (jH HB) hb); (try clear hb); (try clear hb2); (try clear hk); (try clear hi)))
 (try simp only [Act.put, List.setIfInBounds_toArray, List.set_cons_zero, List.set_cons_succ])
 go_cut [17] (fun v17 wc => ∃ (kq : Nat) (x17_2 : Bool), v17 = .bool x17_2 ∧ Aside0 (r02_Right.j0 kq t424 x17_2 a0_0 a0_1 a0_2 a0_3 = some r) ∧ Aside0 (kq ≤ k) ∧ Aside0 (wc.heap[gb423]? = some (.cells #[.int .i64 a0_0, .int .i64 a0_1, .int .i64 a0_2, .int .u32 a0_3] 59 (0, 0))) ∧ Aside0 (Below w.heap.size w wc))
 case first =>
  have H := HC3.out
  clear HC3
  by_cases c7 : t424 < 0
  ·rw [if_pos c7] at H
   have c7b0 : decide (t424 < 0) = true := dT c7
   clear c7
   (first | rw [c7b0] | (simp only [i64_w, i32_w]; rw [c7b0]) | skip)
   have H' := Aside0.mk H
   clear H
   go_wp2
   go_meet
   case rel => exact ⟨_, (true), jS, H', ⟨jO⟩, ⟨jK BK423⟩, ⟨jH HB⟩⟩
  ·rw [if_neg c7] at H
   have c7b0 : decide (t424 < 0) = false := dF c7
   clear c7
   (first | rw [c7b0] | (simp only [i64_w, i32_w]; rw [c7b0]) | skip)
   replace H := Option.bind_eq_some_iff.mp H
   obtain ⟨t425, A80, H⟩ := H
   try dsimp only at H
   have A8 := Aside0.mk A80
   clear A80
   by_cases c9 : t425 = true
   ·subst c9
    rw [if_pos rfl] at H
    have H' := Aside0.mk H
    clear H
    go_wp2_with (first | (go_at_call 65; (with_reducible refine (r02_plain.calls t424 true _ A8.out).mono ?_); rintro e w' ⟨rfl, ⟨nd, rfl⟩⟩; obtain ⟨hcz10_0, hcz10_1, hcz10_2, hcz10_3, hfz10_0, hfz10_1, hfz10_2, hfz10_3⟩ := kQ4 BK423.out))
    go_meet
    case rel => exact ⟨_, ((a0_3 != 0)), jS, H', ⟨jO⟩, ⟨jK BK423⟩, ⟨jH HB⟩⟩
   ·replace c9 := Bool.eq_false_iff.mpr c9
    subst c9
    rw [if_neg (show ¬ (false = true) by decide)] at H
    have H' := Aside0.mk H
    clear H
    go_wp2_with (first | (go_at_call 65; (with_reducible refine (r02_plain.calls t424 false _ A8.out).mono ?_); rintro e w' ⟨rfl, ⟨nd, rfl⟩⟩))
    go_meet
    case rel => exact ⟨_, (false), jS, H', ⟨jO⟩, ⟨jK BK423⟩, ⟨jH HB⟩⟩
 case rest =>
  clear HC3
  obtain ⟨kq, x17_2, rfl, HA, HJ2, BK423, HB⟩ := hcut
  cases kq with
  | zero => exact absurd HA.out (by simp [r02_Right.j0])
  | succ kj2 =>
   have H := HA.out
   clear HA
   simp only [r02_Right.j0] at H
   by_cases c11 : x17_2 = true
   ·subst c11
    rw [if_pos rfl] at H
    obtain rfl := Option.some.inj H
    go_wp2
    go_ret
    exact ⟨jE, jH HB⟩
   ·replace c11 := Bool.eq_false_iff.mpr c11
    subst c11
    rw [if_neg (show ¬ (false = true) by decide)] at H
    replace H := Option.bind_eq_some_iff.mp H
    obtain ⟨t426, A120, H⟩ := H
    try dsimp only at H
    have A12 := Aside0.mk A120
    clear A120
    by_cases c13 : t426 = true
    ·subst c13
     rw [if_pos rfl] at H
     by_cases c14 : a0_1 ≥ 0
     ·rw [if_pos c14] at H
      have c14b0 : decide (0 ≤ a0_1) = true := dT c14
      clear c14
      by_cases c15 : a0_1 < 256
      ·rw [if_pos c15] at H
       have c15b0 : decide (a0_1 < 256) = true := dT c15
       clear c15
       by_cases c16 : a0_2 ≥ 0
       ·rw [if_pos c16] at H
        have c16b0 : decide (0 ≤ a0_2) = true := dT c16
        clear c16
        obtain rfl := Option.some.inj H
        go_wp2_with (first | ((with_reducible refine gate_callee (f := 61) rfl ?_); refine goesL_ (some 19) rfl rfl Tryd.func61 (by kernel_rfl) rfl #[.int .i64 t424] rfl jZ ?_; (with_reducible refine (r02_branch.calls t424 true _ A12.out).mono ?_); rintro e w' ⟨rfl, ⟨nd, rfl⟩⟩; refine ⟨_, rfl, ?_⟩; obtain ⟨hcz17_0, hcz17_1, hcz17_2, hcz17_3, hfz17_0, hfz17_1, hfz17_2, hfz17_3⟩ := kQ4 BK423.out))
        go_ret
        exact ⟨jE, jH HB⟩
       ·rw [if_neg c16] at H
        have c16b0 : decide (0 ≤ a0_2) = false := dF c16
        clear c16
        obtain rfl := Option.some.inj H
        go_wp2_with (first | ((with_reducible refine gate_callee (f := 61) rfl ?_); refine goesL_ (some 19) rfl rfl Tryd.func61 (by kernel_rfl) rfl #[.int .i64 t424] rfl jZ ?_; (with_reducible refine (r02_branch.calls t424 true _ A12.out).mono ?_); rintro e w' ⟨rfl, ⟨nd, rfl⟩⟩; refine ⟨_, rfl, ?_⟩; obtain ⟨hcz18_0, hcz18_1, hcz18_2, hcz18_3, hfz18_0, hfz18_1, hfz18_2, hfz18_3⟩ := kQ4 BK423.out))
        go_ret
        exact ⟨jE, jH HB⟩
      ·rw [if_neg c15] at H
       have c15b0 : decide (a0_1 < 256) = false := dF c15
       clear c15
       obtain rfl := Option.some.inj H
       go_wp2_with (first | ((with_reducible refine gate_callee (f := 61) rfl ?_); refine goesL_ (some 19) rfl rfl Tryd.func61 (by kernel_rfl) rfl #[.int .i64 t424] rfl jZ ?_; (with_reducible refine (r02_branch.calls t424 true _ A12.out).mono ?_); rintro e w' ⟨rfl, ⟨nd, rfl⟩⟩; refine ⟨_, rfl, ?_⟩; obtain ⟨hcz19_0, hcz19_1, hcz19_2, hcz19_3, hfz19_0, hfz19_1, hfz19_2, hfz19_3⟩ := kQ4 BK423.out))
       go_ret
       exact ⟨jE, jH HB⟩
     ·rw [if_neg c14] at H
      have c14b0 : decide (0 ≤ a0_1) = false := dF c14
      clear c14
      obtain rfl := Option.some.inj H
      go_wp2_with (first | ((with_reducible refine gate_callee (f := 61) rfl ?_); refine goesL_ (some 19) rfl rfl Tryd.func61 (by kernel_rfl) rfl #[.int .i64 t424] rfl jZ ?_; (with_reducible refine (r02_branch.calls t424 true _ A12.out).mono ?_); rintro e w' ⟨rfl, ⟨nd, rfl⟩⟩; refine ⟨_, rfl, ?_⟩; obtain ⟨hcz20_0, hcz20_1, hcz20_2, hcz20_3, hfz20_0, hfz20_1, hfz20_2, hfz20_3⟩ := kQ4 BK423.out))
      go_ret
      exact ⟨jE, jH HB⟩
    ·replace c13 := Bool.eq_false_iff.mpr c13
     subst c13
     rw [if_neg (show ¬ (false = true) by decide)] at H
     by_cases c21 : a0_1 = 0
     ·rw [if_pos c21] at H
      have c21b0 : (a0_1 == 0) = true := bI.mpr c21
      have c21b1 : (a0_1 != 0) = false := nF.mpr c21
      clear c21
      obtain rfl := Option.some.inj H
      go_wp2_with (first | ((with_reducible refine gate_callee (f := 61) rfl ?_); refine goesL_ (some 19) rfl rfl Tryd.func61 (by kernel_rfl) rfl #[.int .i64 t424] rfl jZ ?_; (with_reducible refine (r02_branch.calls t424 false _ A12.out).mono ?_); rintro e w' ⟨rfl, ⟨nd, rfl⟩⟩; refine ⟨_, rfl, ?_⟩; obtain ⟨hcz22_0, hcz22_1, hcz22_2, hcz22_3, hfz22_0, hfz22_1, hfz22_2, hfz22_3⟩ := kQ4 BK423.out))
      go_ret
      exact ⟨jE, jH HB⟩
     ·rw [if_neg c21] at H
      have c21b0 : (a0_1 == 0) = false := bF.mpr c21
      have c21b1 : (a0_1 != 0) = true := nI.mpr c21
      obtain rfl := Option.some.inj H
      go_wp2_with (first | ((with_reducible refine gate_callee (f := 61) rfl ?_); refine goesL_ (some 19) rfl rfl Tryd.func61 (by kernel_rfl) rfl #[.int .i64 t424] rfl jZ ?_; (with_reducible refine (r02_branch.calls t424 false _ A12.out).mono ?_); rintro e w' ⟨rfl, ⟨nd, rfl⟩⟩; refine ⟨_, rfl, ?_⟩; obtain ⟨hcz23_0, hcz23_1, hcz23_2, hcz23_3, hfz23_0, hfz23_1, hfz23_2, hfz23_3⟩ := kQ4 BK423.out))
      go_ret
      exact ⟨jE, jH HB⟩
end Go.Proofs.YtahacmdhhfmhiaaDoor.M
