/- What Go functions compute; their calls come to it. No condition. -/
import Derived.Test.YtahacmdhhfmhiaaDoorM0
import Derived.Test.YtahacmdhhfmhiaaDoorMD
namespace Go.Proofs.YtahacmdhhfmhiaaDoor.M
open Go.RowKit Go.Proofs.YtahacmdhhfmhiaaDoorW.PrintWords Go.Proofs.YtahacmdhhfmhiaaDoorW.PrintLast Go.Proofs.YtahacmdhhfmhiaaDoorW.PrintMore
attribute [local go_sem] max2_int min2_int max_two min_two max_three min_three max_four min_four   -- for this text's walks alone
set_option linter.unusedVariables false
set_option linter.unusedSimpArgs false
def r02_place.l0 : Nat → Int → List Int → Int → Option (Int)
 | 0, _, _, _ => none
 | k + 1, x0, x3, x4 => if x4 < (x3.length : Int) then (if 0 ≤ x4 then (if (rd x3 x4) = x0 then (some x4) else (r02_place.l0 k x0 x3 (wrap64 (x4 + 1)))) else (none)) else (some (-1))
def r02_place.f (k : Nat) (a0 : Int) : Option (Int) := (r02_Ops.f).bind fun t415 => (r02_place.l0 k a0 t415 0)
theorem r02_place.mono_l : ∀ k, (∀ y0 y1 y2, LeO (r02_place.l0 k y0 y1 y2) (r02_place.l0 (k + 1) y0 y1 y2))
 | 0 => fun _ _ _ r h => by simp [r02_place.l0] at h
 | k + 1 => by
  have ih0 := r02_place.mono_l k
  ·intro y0 y1 y2
   unfold r02_place.l0
   repeat' first
   | (with_reducible apply ih0)
   | (with_reducible exact LeO.refl _)
   | (with_reducible exact LeO.none _)
   | (with_reducible refine LeO.ite ?_ ?_)
   | (with_reducible refine LeO.bind ?_ (fun _ => ?_))
   | apply ih0
   | exact LeO.none _
   | refine LeO.ite ?_ ?_
   | refine LeO.bind ?_ (fun _ => ?_)
theorem r02_place.mono : ∀ a0 k, LeO (r02_place.f k a0) (r02_place.f (k + 1) a0) := by
 intro a0 k
 have ih0 := r02_place.mono_l k
 unfold r02_place.f
 repeat' first
   | (with_reducible apply ih0)
   | (with_reducible exact LeO.refl _)
   | (with_reducible exact LeO.none _)
   | (with_reducible refine LeO.ite ?_ ?_)
   | (with_reducible refine LeO.bind ?_ (fun _ => ?_))
   | apply ih0
   | exact LeO.none _
   | refine LeO.ite ?_ ?_
   | refine LeO.bind ?_ (fun _ => ?_)
set_option maxHeartbeats 8000000 in
set_option maxRecDepth 100000 in
theorem r02_place.calls (k : Nat) (a0 : Int) (r : Int) (w : World) (h : r02_place.f k a0 = some r) :
  Calls Tryd.prog 62 #[.int .i64 a0] w fun e w' => e = .returned (.int .i64 r) ∧ Below w.heap.size w w' := by
 have HB := Aside0.mk (Below.refl w.heap.size w)
 have H : ((r02_Ops.f).bind fun t415 => (r02_place.l0 k a0 t415 0)) = some r := h
 clear h
 replace H := Option.bind_eq_some_iff.mp H
 obtain ⟨t415, A20, H⟩ := H
 try dsimp only at H
 have A2 := Aside0.mk A20
 clear A20
 have H' := Aside0.mk H
 clear H
 go_enter Tryd.func62, Tryd.ntmps62
 go_wp2_with (first | ((with_reducible refine gate_callee (f := 66) rfl ?_); refine goesL_ (some 5) rfl rfl Tryd.func66 (by kernel_rfl) rfl #[] rfl jZ ?_; (with_reducible refine (r02_Ops.calls  t415 _ A2.out).mono ?_); rintro e w3 ⟨v416, rfl, ho0, hb⟩; refine ⟨_, rfl, ?_⟩; have HO417 := Aside0.mk (Kd.R_lower ho0 (zZ (jH HB))); replace HB := Aside0.mk (zT (jH HB) hb); (try clear hb); (try clear hb2); (try clear hk); (try clear hi); (try clear ho0)))
 go_loopg [4] k (fun kq v4 w' => ∃ (x4_1 : Int), v4 = .int .i64 x4_1 ∧ Aside0 (r02_place.l0 kq a0 t415 x4_1 = some r) ∧ Aside0 (kq ≤ k) ∧ Aside0 (Kd.R (Kd.int .i64) 3 w' w.heap.size (fun _ => True) v416 t415) ∧ Aside0 (Below w.heap.size w w'))
 case atStart => exact ⟨(0), jS, H', ⟨Nat.le_refl _⟩, ⟨jR HO417⟩, ⟨jH HB⟩⟩
 case round =>
  clear H'
  obtain ⟨x4_1, rfl, HA, HK1, HO_3, HB⟩ := hrel
  cases gk with
  | zero => exact absurd HA.out (by simp [r02_place.l0])
  | succ k1 =>
   have H := HA.out
   clear HA
   simp only [r02_place.l0] at H
   by_cases c4 : x4_1 < (t415.length : Int)
   ·rw [if_pos c4] at H
    have c4b0 := dT c4
    clear c4
    by_cases c5 : 0 ≤ x4_1
    ·rw [if_pos c5] at H
     have c5b0 := dT c5
     clear c5
     by_cases c6 : (rd t415 x4_1) = a0
     ·rw [if_pos c6] at H
      have c6b0 : ((rd t415 x4_1) == a0) = true := bI.mpr c6
      have c6b1 : ((rd t415 x4_1) != a0) = false := nF.mpr c6
      clear c6
      obtain rfl := Option.some.inj H
      obtain ⟨Ao7, co7, eo7⟩ := Kd.R_slice HO_3.out
      subst eo7
      have p418 : 0 ≤ (x4_1 : Int) := oD (jA)
      have q418 : x4_1 < (t415.length : Int) := oD (jA)
      obtain ⟨ad418, e418, hx418_0⟩ := Kd.at_int (Kd.R_reads' HO_3.out).2.2 x4_1 p418 q418
      cases e418
      replace p418 := eq_true p418
      replace q418 := eq_true q418
      go_wp2
      go_ret
      exact ⟨jE, jH HB⟩
     ·rw [if_neg c6] at H
      have c6b0 : ((rd t415 x4_1) == a0) = false := bF.mpr c6
      have c6b1 : ((rd t415 x4_1) != a0) = true := nI.mpr c6
      have H' := Aside0.mk H
      clear H
      obtain ⟨Ao8, co8, eo8⟩ := Kd.R_slice HO_3.out
      subst eo8
      have p418 : 0 ≤ (x4_1 : Int) := oD (jA)
      have q418 : x4_1 < (t415.length : Int) := oD (jA)
      obtain ⟨ad418, e418, hx418_0⟩ := Kd.at_int (Kd.R_reads' HO_3.out).2.2 x4_1 p418 q418
      cases e418
      replace p418 := eq_true p418
      replace q418 := eq_true q418
      go_wp2
      go_roundg k1
      case measure => have := HK1.out; omega
      case rel => exact ⟨(wrap64 (x4_1 + 1)), jS, H', ⟨by have := HK1.out; omega⟩, ⟨jR HO_3⟩, ⟨jH HB⟩⟩
    ·rw [if_neg c5] at H
     exact absurd H (by simp)
   ·rw [if_neg c4] at H
    have c4b0 := dF c4
    clear c4
    obtain rfl := Option.some.inj H
    obtain ⟨Ao9, co9, eo9⟩ := Kd.R_slice HO_3.out
    subst eo9
    go_wp2
    go_ret
    exact ⟨jE, jH HB⟩
def r02_Branch.f (k : Nat) (a0_0 : Int) (a0_1 : Int) (a0_2 : Int) (a0_3 : Int) : Option (Bool) := (r02_place.f k a0_0).bind fun t420 => ((r02_branch.f t420).bind fun t421 => (some t421))
set_option maxHeartbeats 8000000 in
set_option maxRecDepth 100000 in
theorem r02_Branch.calls (k : Nat) (a0_0 : Int) (a0_1 : Int) (a0_2 : Int) (a0_3 : Int) (r : Bool) (w : World) (h : r02_Branch.f k a0_0 a0_1 a0_2 a0_3 = some r) :
  Calls Tryd.prog 48 #[.agg #[.int .i64 a0_0, .int .i64 a0_1, .int .i64 a0_2, .int .u32 a0_3]] w fun e w' => e = .returned (.bool r) ∧ Below w.heap.size w w' := by
 have hu59 := Tryd.underlying59
 have HB := Aside0.mk (Below.refl w.heap.size w)
 have H : ((r02_place.f k a0_0).bind fun t420 => ((r02_branch.f t420).bind fun t421 => (some t421))) = some r := h
 clear h
 replace H := Option.bind_eq_some_iff.mp H
 obtain ⟨t420, A20, H⟩ := H
 try dsimp only at H
 have A2 := Aside0.mk A20
 clear A20
 replace H := Option.bind_eq_some_iff.mp H
 obtain ⟨t421, A30, H⟩ := H
 try dsimp only at H
 have A3 := Aside0.mk A30
 clear A30
 obtain rfl := Option.some.inj H
 go_enter Tryd.func48, Tryd.ntmps48
 go_wp2_with (first | ((with_reducible refine gate_dst (N := 1) rfl ?_); refine box_event rfl (N := 1) rfl (cs := #[.int .i64 a0_0, .int .i64 a0_1, .int .i64 a0_2, .int .u32 a0_3]) (t := 59) jW ?_; intro gb419 hg w4 hbox hb; have BK419 := Aside0.mk hbox; have GW419 := Aside0.mk (jG hg HB); have GE419 := Aside0.mk (jG hg HB); replace HB := Aside0.mk (zT (jH HB) hb); clear hb hbox hg; obtain ⟨hcz5_0, hcz5_1, hcz5_2, hcz5_3, hfz5_0, hfz5_1, hfz5_2, hfz5_3⟩ := kQ4 BK419.out) | ((with_reducible refine gate_callee (f := 62) rfl ?_); refine goesL_ (some 5) rfl rfl Tryd.func62 (by kernel_rfl) rfl #[.int .i64 a0_0] rfl jZ ?_; (with_reducible refine (r02_place.calls k a0_0 t420 _ A2.out).mono ?_); rintro e w6 ⟨rfl, hb⟩; refine ⟨_, rfl, ?_⟩; replace BK419 := Aside0.mk (jB BK419 hb); replace HB := Aside0.mk (zT (jH HB) hb); (try clear hb); (try clear hb2); (try clear hk); (try clear hi)) | ((with_reducible refine gate_callee (f := 61) rfl ?_); refine goesL_ (some 6) rfl rfl Tryd.func61 (by kernel_rfl) rfl #[.int .i64 t420] rfl jZ ?_; (with_reducible refine (r02_branch.calls t420 t421 _ A3.out).mono ?_); rintro e w' ⟨rfl, ⟨nd, rfl⟩⟩; refine ⟨_, rfl, ?_⟩))
 go_ret
 exact ⟨jE, jH HB⟩
def r02_Ends.f (a0_0 : Int) (a0_1 : Int) (a0_2 : Int) (a0_3 : Int) : Option (Bool) := if a0_0 = 6 then (some true) else (some (a0_0 == 22))
set_option maxHeartbeats 8000000 in
set_option maxRecDepth 100000 in
theorem r02_Ends.calls (a0_0 : Int) (a0_1 : Int) (a0_2 : Int) (a0_3 : Int) (r : Bool) (w : World) (h : r02_Ends.f a0_0 a0_1 a0_2 a0_3 = some r) :
  Calls Tryd.prog 49 #[.agg #[.int .i64 a0_0, .int .i64 a0_1, .int .i64 a0_2, .int .u32 a0_3]] w fun e w' => e = .returned (.bool r) ∧ Below w.heap.size w w' := by
 have hu59 := Tryd.underlying59
 have HB := Aside0.mk (Below.refl w.heap.size w)
 have H : (if a0_0 = 6 then (some true) else (some (a0_0 == 22))) = some r := h
 clear h
 by_cases c2 : a0_0 = 6
 ·rw [if_pos c2] at H
  have c2b0 : (a0_0 == 6) = true := bI.mpr c2
  have c2b1 : (a0_0 != 6) = false := nF.mpr c2
  clear c2
  obtain rfl := Option.some.inj H
  go_enter Tryd.func49, Tryd.ntmps49
  go_wp2_with (first | ((with_reducible refine gate_dst (N := 1) rfl ?_); refine box_event rfl (N := 1) rfl (cs := #[.int .i64 a0_0, .int .i64 a0_1, .int .i64 a0_2, .int .u32 a0_3]) (t := 59) jW ?_; intro gb422 hg w3 hbox hb; have BK422 := Aside0.mk hbox; have GW422 := Aside0.mk (jG hg HB); have GE422 := Aside0.mk (jG hg HB); replace HB := Aside0.mk (zT (jH HB) hb); clear hb hbox hg; obtain ⟨hcz4_0, hcz4_1, hcz4_2, hcz4_3, hfz4_0, hfz4_1, hfz4_2, hfz4_3⟩ := kQ4 BK422.out))
  go_ret
  exact ⟨jE, jH HB⟩
 ·rw [if_neg c2] at H
  have c2b0 : (a0_0 == 6) = false := bF.mpr c2
  have c2b1 : (a0_0 != 6) = true := nI.mpr c2
  obtain rfl := Option.some.inj H
  go_enter Tryd.func49, Tryd.ntmps49
  go_wp2_with (first | ((with_reducible refine gate_dst (N := 1) rfl ?_); refine box_event rfl (N := 1) rfl (cs := #[.int .i64 a0_0, .int .i64 a0_1, .int .i64 a0_2, .int .u32 a0_3]) (t := 59) jW ?_; intro gb422 hg w5 hbox hb; have BK422 := Aside0.mk hbox; have GW422 := Aside0.mk (jG hg HB); have GE422 := Aside0.mk (jG hg HB); replace HB := Aside0.mk (zT (jH HB) hb); clear hb hbox hg; obtain ⟨hcz6_0, hcz6_1, hcz6_2, hcz6_3, hfz6_0, hfz6_1, hfz6_2, hfz6_3⟩ := kQ4 BK422.out))
  go_ret
  exact ⟨jE, jH HB⟩
def r02_plain.f (a0 : Int) : Option (Bool) := if a0 ≥ 13 then (if a0 ≤ 24 then (some true) else (if a0 = 30 then (some true) else (some (decide (a0 ≥ 35))))) else (if a0 = 30 then (some true) else (some (decide (a0 ≥ 35))))
set_option maxHeartbeats 8000000 in
set_option maxRecDepth 100000 in
theorem r02_plain.calls (a0 : Int) (r : Bool) (w : World) (h : r02_plain.f a0 = some r) :
  Calls Tryd.prog 65 #[.int .i64 a0] w fun e w' => e = .returned (.bool r) ∧ Drawn0 w w' := by
 have H : (if a0 ≥ 13 then (if a0 ≤ 24 then (some true) else (if a0 = 30 then (some true) else (some (decide (a0 ≥ 35))))) else (if a0 = 30 then (some true) else (some (decide (a0 ≥ 35))))) = some r := h
 clear h
 by_cases c2 : a0 ≥ 13
 ·rw [if_pos c2] at H
  have c2b0 : decide (13 ≤ a0) = true := dT c2
  clear c2
  by_cases c3 : a0 ≤ 24
  ·rw [if_pos c3] at H
   have c3b0 := dT c3
   clear c3
   obtain rfl := Option.some.inj H
   go_enter Tryd.func65, Tryd.ntmps65
   go_wp2
   go_ret
   exact ⟨by first | rfl | (simp; done) | (simp [*]; done), by repeat (first | exact Drawn0.refl _ | apply Drawn0.step)⟩
  ·rw [if_neg c3] at H
   have c3b0 := dF c3
   clear c3
   by_cases c4 : a0 = 30
   ·rw [if_pos c4] at H
    have c4b0 : (a0 == 30) = true := bI.mpr c4
    have c4b1 : (a0 != 30) = false := nF.mpr c4
    clear c4
    obtain rfl := Option.some.inj H
    go_enter Tryd.func65, Tryd.ntmps65
    go_wp2
    go_ret
    exact ⟨by first | rfl | (simp; done) | (simp [*]; done), by repeat (first | exact Drawn0.refl _ | apply Drawn0.step)⟩
   ·rw [if_neg c4] at H
    have c4b0 : (a0 == 30) = false := bF.mpr c4
    have c4b1 : (a0 != 30) = true := nI.mpr c4
    obtain rfl := Option.some.inj H
    go_enter Tryd.func65, Tryd.ntmps65
    go_wp2
    go_ret
    exact ⟨by first | rfl | (simp; done) | (simp [*]; done), by repeat (first | exact Drawn0.refl _ | apply Drawn0.step)⟩
 ·rw [if_neg c2] at H
  have c2b0 : decide (13 ≤ a0) = false := dF c2
  clear c2
  by_cases c5 : a0 = 30
  ·rw [if_pos c5] at H
   have c5b0 : (a0 == 30) = true := bI.mpr c5
   have c5b1 : (a0 != 30) = false := nF.mpr c5
   clear c5
   obtain rfl := Option.some.inj H
   go_enter Tryd.func65, Tryd.ntmps65
   go_wp2
   go_ret
   exact ⟨by first | rfl | (simp; done) | (simp [*]; done), by repeat (first | exact Drawn0.refl _ | apply Drawn0.step)⟩
  ·rw [if_neg c5] at H
   have c5b0 : (a0 == 30) = false := bF.mpr c5
   have c5b1 : (a0 != 30) = true := nI.mpr c5
   obtain rfl := Option.some.inj H
   go_enter Tryd.func65, Tryd.ntmps65
   go_wp2
   go_ret
   exact ⟨by first | rfl | (simp; done) | (simp [*]; done), by repeat (first | exact Drawn0.refl _ | apply Drawn0.step)⟩
def r02_Right.j0 : Nat → Int → Bool → Int → Int → Int → Int → Option (Bool)
 | 0, _, _, _, _, _, _ => none
 | k + 1, x3, x17, x424000, x424001, x424002, x424003 => if x17 = true then (some false) else ((r02_branch.f x3).bind fun t426 => (if t426 = true then (if x424001 ≥ 0 then (if x424001 < 256 then (if x424002 ≥ 0 then (some (decide (x424002 < 256))) else (some false)) else (some false)) else (some false)) else (if x424001 = 0 then (some (x424002 == 0)) else (some false))))
def r02_Right.f (k : Nat) (a0_0 : Int) (a0_1 : Int) (a0_2 : Int) (a0_3 : Int) : Option (Bool) := (r02_place.f k a0_0).bind fun t424 => (if t424 < 0 then (r02_Right.j0 k t424 true a0_0 a0_1 a0_2 a0_3) else ((r02_plain.f t424).bind fun t425 => (if t425 = true then (r02_Right.j0 k t424 (a0_3 != 0) a0_0 a0_1 a0_2 a0_3) else (r02_Right.j0 k t424 false a0_0 a0_1 a0_2 a0_3))))
set_option maxHeartbeats 8000000 in
set_option maxRecDepth 100000 in
theorem r02_Right.calls (k : Nat) (a0_0 : Int) (a0_1 : Int) (a0_2 : Int) (a0_3 : Int) (r : Bool) (w : World) (h : r02_Right.f k a0_0 a0_1 a0_2 a0_3 = some r) :
  Calls Tryd.prog 60 #[.agg #[.int .i64 a0_0, .int .i64 a0_1, .int .i64 a0_2, .int .u32 a0_3]] w fun e w' => e = .returned (.bool r) ∧ Below w.heap.size w w' := by
 have hu59 := Tryd.underlying59
 have HB := Aside0.mk (Below.refl w.heap.size w)
 have H : ((r02_place.f k a0_0).bind fun t424 => (if t424 < 0 then (r02_Right.j0 k t424 true a0_0 a0_1 a0_2 a0_3) else ((r02_plain.f t424).bind fun t425 => (if t425 = true then (r02_Right.j0 k t424 (a0_3 != 0) a0_0 a0_1 a0_2 a0_3) else (r02_Right.j0 k t424 false a0_0 a0_1 a0_2 a0_3))))) = some r := h
 clear h
 replace H := Option.bind_eq_some_iff.mp H
 obtain ⟨t424, A20, H⟩ := H
 try dsimp only at H
 have A2 := Aside0.mk A20
 clear A20
 have HC3 := Aside0.mk H
 clear H
 go_enter Tryd.func60, Tryd.ntmps60
 go_upto_region 2 with (first | ((with_reducible refine gate_dst (N := 1) rfl ?_); refine box_event rfl (N := 1) rfl (cs := #[.int .i64 a0_0, .int .i64 a0_1, .int .i64 a0_2, .int .u32 a0_3]) (t := 59) jW ?_; intro gb423 hg w4 hbox hb; have BK423 := Aside0.mk hbox; have GW423 := Aside0.mk (jG hg HB); have GE423 := Aside0.mk (jG hg HB); replace HB := Aside0.mk (zT (jH HB) hb); clear hb hbox hg; obtain ⟨hcz5_0, hcz5_1, hcz5_2, hcz5_3, hfz5_0, hfz5_1, hfz5_2, hfz5_3⟩ := kQ4 BK423.out) | ((with_reducible refine gate_callee (f := 62) rfl ?_); refine goesL_ (some 6) rfl rfl Tryd.func62 (by kernel_rfl) rfl #[.int .i64 a0_0] rfl jZ ?_; (with_reducible refine (r02_place.calls k a0_0 t424 _ A2.out).mono ?_); rintro e w6 ⟨rfl, hb⟩; refine ⟨_, rfl, ?_⟩; replace BK423 := Aside0.mk (jB BK423 hb); replace HB := Aside0.mk (zT (jH HB) hb); (try clear hb); (try clear hb2); (try clear hk); (try clear hi)))
 (try simp only [Act.put, List.setIfInBounds_toArray, List.set_cons_zero, List.set_cons_succ])
 go_cut [17] (fun v17 wc => ∃ (kq : Nat) (x17_2 : Bool), v17 = .bool x17_2 ∧ Aside0 (r02_Right.j0 kq t424 x17_2 a0_0 a0_1 a0_2 a0_3 = some r) ∧ Aside0 (kq ≤ k) ∧ Aside0 (wc.heap[gb423]? = some (.cells #[.int .i64 a0_0, .int .i64 a0_1, .int .i64 a0_2, .int .u32 a0_3] 59 (0, 0))) ∧ Aside0 (Below w.heap.size w wc))
 case first =>
  have H := HC3.out
  clear HC3
  by_cases c7 : t424 < 0
  ·rw [if_pos c7] at H
   have c7b0 := dT c7
   clear c7
   (first | rw [c7b0] | (simp only [i64_w, i32_w]; rw [c7b0]) | skip)
   have H' := Aside0.mk H
   clear H
   go_wp2
   go_meet
   case rel => exact ⟨_, (true), jS, H', ⟨jO⟩, ⟨jK BK423⟩, ⟨jH HB⟩⟩
  ·rw [if_neg c7] at H
   have c7b0 := dF c7
   clear c7
   (first | rw [c7b0] | (simp only [i64_w, i32_w]; rw [c7b0]) | skip)
   replace H := Option.bind_eq_some_iff.mp H
   obtain ⟨t425, A80, H⟩ := H
   try dsimp only at H
   have A8 := Aside0.mk A80
   clear A80
   by_cases c9 : t425 = true
   ·subst c9
    rw [if_pos rfl] at H
    have H' := Aside0.mk H
    clear H
    go_wp2_with (first | (go_at_call 65; (with_reducible refine (r02_plain.calls t424 true _ A8.out).mono ?_); rintro e w' ⟨rfl, ⟨nd, rfl⟩⟩; obtain ⟨hcz10_0, hcz10_1, hcz10_2, hcz10_3, hfz10_0, hfz10_1, hfz10_2, hfz10_3⟩ := kQ4 BK423.out))
    go_meet
    case rel => exact ⟨_, ((a0_3 != 0)), jS, H', ⟨jO⟩, ⟨jK BK423⟩, ⟨jH HB⟩⟩
   ·replace c9 := Bool.eq_false_iff.mpr c9
    subst c9
    rw [if_neg (show ¬ (false = true) by decide)] at H
    have H' := Aside0.mk H
    clear H
    go_wp2_with (first | (go_at_call 65; (with_reducible refine (r02_plain.calls t424 false _ A8.out).mono ?_); rintro e w' ⟨rfl, ⟨nd, rfl⟩⟩))
    go_meet
    case rel => exact ⟨_, (false), jS, H', ⟨jO⟩, ⟨jK BK423⟩, ⟨jH HB⟩⟩
 case rest =>
  clear HC3
  obtain ⟨kq, x17_2, rfl, HA, HJ2, BK423, HB⟩ := hcut
  cases kq with
  | zero => exact absurd HA.out (by simp [r02_Right.j0])
  | succ kj2 =>
   have H := HA.out
   clear HA
   simp only [r02_Right.j0] at H
   by_cases c11 : x17_2 = true
   ·subst c11
    rw [if_pos rfl] at H
    obtain rfl := Option.some.inj H
    go_wp2
    go_ret
    exact ⟨jE, jH HB⟩
   ·replace c11 := Bool.eq_false_iff.mpr c11
    subst c11
    rw [if_neg (show ¬ (false = true) by decide)] at H
    replace H := Option.bind_eq_some_iff.mp H
    obtain ⟨t426, A120, H⟩ := H
    try dsimp only at H
    have A12 := Aside0.mk A120
    clear A120
    by_cases c13 : t426 = true
    ·subst c13
     rw [if_pos rfl] at H
     by_cases c14 : a0_1 ≥ 0
     ·rw [if_pos c14] at H
      have c14b0 : decide (0 ≤ a0_1) = true := dT c14
      clear c14
      by_cases c15 : a0_1 < 256
      ·rw [if_pos c15] at H
       have c15b0 := dT c15
       clear c15
       by_cases c16 : a0_2 ≥ 0
       ·rw [if_pos c16] at H
        have c16b0 : decide (0 ≤ a0_2) = true := dT c16
        clear c16
        obtain rfl := Option.some.inj H
        go_wp2_with (first | ((with_reducible refine gate_callee (f := 61) rfl ?_); refine goesL_ (some 19) rfl rfl Tryd.func61 (by kernel_rfl) rfl #[.int .i64 t424] rfl jZ ?_; (with_reducible refine (r02_branch.calls t424 true _ A12.out).mono ?_); rintro e w' ⟨rfl, ⟨nd, rfl⟩⟩; refine ⟨_, rfl, ?_⟩; obtain ⟨hcz17_0, hcz17_1, hcz17_2, hcz17_3, hfz17_0, hfz17_1, hfz17_2, hfz17_3⟩ := kQ4 BK423.out))
        go_ret
        exact ⟨jE, jH HB⟩
       ·rw [if_neg c16] at H
        have c16b0 : decide (0 ≤ a0_2) = false := dF c16
        clear c16
        obtain rfl := Option.some.inj H
        go_wp2_with (first | ((with_reducible refine gate_callee (f := 61) rfl ?_); refine goesL_ (some 19) rfl rfl Tryd.func61 (by kernel_rfl) rfl #[.int .i64 t424] rfl jZ ?_; (with_reducible refine (r02_branch.calls t424 true _ A12.out).mono ?_); rintro e w' ⟨rfl, ⟨nd, rfl⟩⟩; refine ⟨_, rfl, ?_⟩; obtain ⟨hcz18_0, hcz18_1, hcz18_2, hcz18_3, hfz18_0, hfz18_1, hfz18_2, hfz18_3⟩ := kQ4 BK423.out))
        go_ret
        exact ⟨jE, jH HB⟩
      ·rw [if_neg c15] at H
       have c15b0 := dF c15
       clear c15
       obtain rfl := Option.some.inj H
       go_wp2_with (first | ((with_reducible refine gate_callee (f := 61) rfl ?_); refine goesL_ (some 19) rfl rfl Tryd.func61 (by kernel_rfl) rfl #[.int .i64 t424] rfl jZ ?_; (with_reducible refine (r02_branch.calls t424 true _ A12.out).mono ?_); rintro e w' ⟨rfl, ⟨nd, rfl⟩⟩; refine ⟨_, rfl, ?_⟩; obtain ⟨hcz19_0, hcz19_1, hcz19_2, hcz19_3, hfz19_0, hfz19_1, hfz19_2, hfz19_3⟩ := kQ4 BK423.out))
       go_ret
       exact ⟨jE, jH HB⟩
     ·rw [if_neg c14] at H
      have c14b0 : decide (0 ≤ a0_1) = false := dF c14
      clear c14
      obtain rfl := Option.some.inj H
      go_wp2_with (first | ((with_reducible refine gate_callee (f := 61) rfl ?_); refine goesL_ (some 19) rfl rfl Tryd.func61 (by kernel_rfl) rfl #[.int .i64 t424] rfl jZ ?_; (with_reducible refine (r02_branch.calls t424 true _ A12.out).mono ?_); rintro e w' ⟨rfl, ⟨nd, rfl⟩⟩; refine ⟨_, rfl, ?_⟩; obtain ⟨hcz20_0, hcz20_1, hcz20_2, hcz20_3, hfz20_0, hfz20_1, hfz20_2, hfz20_3⟩ := kQ4 BK423.out))
      go_ret
      exact ⟨jE, jH HB⟩
    ·replace c13 := Bool.eq_false_iff.mpr c13
     subst c13
     rw [if_neg (show ¬ (false = true) by decide)] at H
     by_cases c21 : a0_1 = 0
     ·rw [if_pos c21] at H
      have c21b0 : (a0_1 == 0) = true := bI.mpr c21
      have c21b1 : (a0_1 != 0) = false := nF.mpr c21
      clear c21
      obtain rfl := Option.some.inj H
      go_wp2_with (first | ((with_reducible refine gate_callee (f := 61) rfl ?_); refine goesL_ (some 19) rfl rfl Tryd.func61 (by kernel_rfl) rfl #[.int .i64 t424] rfl jZ ?_; (with_reducible refine (r02_branch.calls t424 false _ A12.out).mono ?_); rintro e w' ⟨rfl, ⟨nd, rfl⟩⟩; refine ⟨_, rfl, ?_⟩; obtain ⟨hcz22_0, hcz22_1, hcz22_2, hcz22_3, hfz22_0, hfz22_1, hfz22_2, hfz22_3⟩ := kQ4 BK423.out))
      go_ret
      exact ⟨jE, jH HB⟩
     ·rw [if_neg c21] at H
      have c21b0 : (a0_1 == 0) = false := bF.mpr c21
      have c21b1 : (a0_1 != 0) = true := nI.mpr c21
      obtain rfl := Option.some.inj H
      go_wp2_with (first | ((with_reducible refine gate_callee (f := 61) rfl ?_); refine goesL_ (some 19) rfl rfl Tryd.func61 (by kernel_rfl) rfl #[.int .i64 t424] rfl jZ ?_; (with_reducible refine (r02_branch.calls t424 false _ A12.out).mono ?_); rintro e w' ⟨rfl, ⟨nd, rfl⟩⟩; refine ⟨_, rfl, ?_⟩; obtain ⟨hcz23_0, hcz23_1, hcz23_2, hcz23_3, hfz23_0, hfz23_1, hfz23_2, hfz23_3⟩ := kQ4 BK423.out))
      go_ret
      exact ⟨jE, jH HB⟩
mutual
def r05_One.j0 : Nat → Int → Int → Bool → Int → Int → Int → Int → Option (Int)
 | 0, _, _, _, _, _, _, _ => none
 | k + 1, x1, x2, x24, x428000, x428001, x428002, x428003 => if x24 = true then (some 6) else (if x428000 = 2 then (r05_One.j1 k x1 x2 (decide (x428003 > 15)) x428000 x428001 x428002 x428003) else (if x428000 = 3 then (r05_One.j1 k x1 x2 (decide (x428003 > 15)) x428000 x428001 x428002 x428003) else (if x428000 = 96 then (r05_One.j1 k x1 x2 (decide (x428003 > 15)) x428000 x428001 x428002 x428003) else (if x428000 = 97 then (r05_One.j1 k x1 x2 (decide (x428003 > 15)) x428000 x428001 x428002 x428003) else (r05_One.j1 k x1 x2 false x428000 x428001 x428002 x428003)))))
def r05_One.j1 : Nat → Int → Int → Bool → Int → Int → Int → Int → Option (Int)
 | 0, _, _, _, _, _, _, _ => none
 | k + 1, x1, x2, x47, x428000, x428001, x428002, x428003 => if x47 = true then (some 7) else (if x428000 = 52 then (r05_One.j2 k x1 x2 (x428003 == 0) x428000 x428001 x428002 x428003) else (r05_One.j2 k x1 x2 false x428000 x428001 x428002 x428003))
def r05_One.j2 : Nat → Int → Int → Bool → Int → Int → Int → Int → Option (Int)
 | 0, _, _, _, _, _, _, _ => none
 | k + 1, x1, x2, x55, x428000, x428001, x428002, x428003 => if x55 = true then (some 8) else (if x428000 = 100 then (r05_One.j3 k x1 x2 (decide (x428003 > 31)) x428000 x428001 x428002 x428003) else (if x428000 = 116 then (r05_One.j3 k x1 x2 (decide (x428003 > 31)) x428000 x428001 x428002 x428003) else (r05_One.j3 k x1 x2 false x428000 x428001 x428002 x428003)))
def r05_One.j3 : Nat → Int → Int → Bool → Int → Int → Int → Int → Option (Int)
 | 0, _, _, _, _, _, _, _ => none
 | k + 1, x1, x2, x68, x428000, x428001, x428002, x428003 => if x68 = true then (some 1) else (if x428000 = 5 then (r05_One.j4 k (wrap64 ((wrap64 (x2 - 1)) - x1)) (decide ((IntKind.u64.wrap (x428003)) ≥ (IntKind.u64.wrap (wrap64 ((wrap64 (x2 - 1)) - x1))))) x428000 x428001 x428002 x428003) else (r05_One.j4 k (wrap64 ((wrap64 (x2 - 1)) - x1)) false x428000 x428001 x428002 x428003))
def r05_One.j4 : Nat → Int → Bool → Int → Int → Int → Int → Option (Int)
 | 0, _, _, _, _, _, _ => none
 | k + 1, x7, x83, x428000, x428001, x428002, x428003 => if x83 = true then (some 4) else ((r02_Branch.f k x428000 x428001 x428002 x428003).bind fun t429 => (if t429 = true then (if x428001 ≥ x7 then (some 4) else (if x428002 ≥ x7 then (some 4) else (some 0))) else (some 0)))
end
def r05_One.f (k : Nat) (a0_0 : Int) (a0_1 : Int) (a0_2 : Int) (a0_3 : Int) (a1 : Int) (a2 : Int) : Option (Int) := (r02_Right.f k a0_0 a0_1 a0_2 a0_3).bind fun t428 => (if t428 = true then (if a0_0 = 32 then (if (Int.tmod a0_3 4) = 0 then (r05_One.j0 k a1 a2 (decide (a0_3 > 60)) a0_0 a0_1 a0_2 a0_3) else (r05_One.j0 k a1 a2 true a0_0 a0_1 a0_2 a0_3)) else (r05_One.j0 k a1 a2 false a0_0 a0_1 a0_2 a0_3)) else (some 1))
set_option maxHeartbeats 8000000 in
set_option maxRecDepth 100000 in
theorem r05_One.calls (k : Nat) (a0_0 : Int) (a0_1 : Int) (a0_2 : Int) (a0_3 : Int) (a1 : Int) (a2 : Int) (r : Int) (w : World) (h : r05_One.f k a0_0 a0_1 a0_2 a0_3 a1 a2 = some r) :
  Calls Tryd.prog 50 #[.agg #[.int .i64 a0_0, .int .i64 a0_1, .int .i64 a0_2, .int .u32 a0_3], .int .i64 a1, .int .i64 a2] w fun e w' => e = .returned (.int .i64 r) ∧ Below w.heap.size w w' := by
 have hu59 := Tryd.underlying59
 have HB := Aside0.mk (Below.refl w.heap.size w)
 have H : ((r02_Right.f k a0_0 a0_1 a0_2 a0_3).bind fun t428 => (if t428 = true then (if a0_0 = 32 then (if (Int.tmod a0_3 4) = 0 then (r05_One.j0 k a1 a2 (decide (a0_3 > 60)) a0_0 a0_1 a0_2 a0_3) else (r05_One.j0 k a1 a2 true a0_0 a0_1 a0_2 a0_3)) else (r05_One.j0 k a1 a2 false a0_0 a0_1 a0_2 a0_3)) else (some 1))) = some r := h
 clear h
 replace H := Option.bind_eq_some_iff.mp H
 obtain ⟨t428, A40, H⟩ := H
 try dsimp only at H
 have A4 := Aside0.mk A40
 clear A40
 by_cases c5 : t428 = true
 ·subst c5
  rw [if_pos rfl] at H
  have HC6 := Aside0.mk H
  clear H
  go_enter Tryd.func50, Tryd.ntmps50
  go_upto_region 3 with (first | ((with_reducible refine gate_dst (N := 3) rfl ?_); refine box_event rfl (N := 3) rfl (cs := #[.int .i64 a0_0, .int .i64 a0_1, .int .i64 a0_2, .int .u32 a0_3]) (t := 59) jW ?_; intro gb427 hg w7 hbox hb; have BK427 := Aside0.mk hbox; have GW427 := Aside0.mk (jG hg HB); have GE427 := Aside0.mk (jG hg HB); replace HB := Aside0.mk (zT (jH HB) hb); clear hb hbox hg; obtain ⟨hcz8_0, hcz8_1, hcz8_2, hcz8_3, hfz8_0, hfz8_1, hfz8_2, hfz8_3⟩ := kQ4 BK427.out) | ((with_reducible refine gate_callee (f := 60) rfl ?_); refine goesL_ (some 9) rfl rfl Tryd.func60 (by kernel_rfl) rfl #[.agg #[.int .i64 a0_0, .int .i64 a0_1, .int .i64 a0_2, .int .u32 a0_3]] rfl jZ ?_; (with_reducible refine (r02_Right.calls k a0_0 a0_1 a0_2 a0_3 true _ A4.out).mono ?_); rintro e w9 ⟨rfl, hb⟩; refine ⟨_, rfl, ?_⟩; replace BK427 := Aside0.mk (jB BK427 hb); replace HB := Aside0.mk (zT (jH HB) hb); (try clear hb); (try clear hb2); (try clear hk); (try clear hi)))
  (try simp only [Act.put, List.setIfInBounds_toArray, List.set_cons_zero, List.set_cons_succ])
  go_cut [24] (fun v24 wc => ∃ (kq : Nat) (x24_5 : Bool), v24 = .bool x24_5 ∧ Aside0 (r05_One.j0 kq a1 a2 x24_5 a0_0 a0_1 a0_2 a0_3 = some r) ∧ Aside0 (kq ≤ k) ∧ Aside0 (wc.heap[gb427]? = some (.cells #[.int .i64 a0_0, .int .i64 a0_1, .int .i64 a0_2, .int .u32 a0_3] 59 (0, 0))) ∧ Aside0 (Below w.heap.size w wc))
  case first =>
   have H := HC6.out
   clear HC6
   by_cases c10 : a0_0 = 32
   ·rw [if_pos c10] at H
    have c10b0 : (a0_0 == 32) = true := bI.mpr c10
    have c10b1 : (a0_0 != 32) = false := nF.mpr c10
    clear c10
    (first | rw [c10b0] | (simp only [i64_w, i32_w]; rw [c10b0]) | skip)
    by_cases c11 : (Int.tmod a0_3 4) = 0
    ·rw [if_pos c11] at H
     have c11b0 : ((Int.tmod a0_3 4) == 0) = true := bI.mpr c11
     have c11b1 : ((Int.tmod a0_3 4) != 0) = false := nF.mpr c11
     clear c11
     have H' := Aside0.mk H
     clear H
     obtain ⟨hcz12_0, hcz12_1, hcz12_2, hcz12_3, hfz12_0, hfz12_1, hfz12_2, hfz12_3⟩ := kQ4 BK427.out
     go_wp2
     go_meet
     case rel => exact ⟨_, (decide (a0_3 > 60)), jS, H', ⟨jO⟩, ⟨jK BK427⟩, ⟨jH HB⟩⟩
    ·rw [if_neg c11] at H
     have c11b0 : ((Int.tmod a0_3 4) == 0) = false := bF.mpr c11
     have c11b1 : ((Int.tmod a0_3 4) != 0) = true := nI.mpr c11
     have H' := Aside0.mk H
     clear H
     obtain ⟨hcz13_0, hcz13_1, hcz13_2, hcz13_3, hfz13_0, hfz13_1, hfz13_2, hfz13_3⟩ := kQ4 BK427.out
     go_wp2
     go_meet
     case rel => exact ⟨_, (true), jS, H', ⟨jO⟩, ⟨jK BK427⟩, ⟨jH HB⟩⟩
   ·rw [if_neg c10] at H
    have c10b0 : (a0_0 == 32) = false := bF.mpr c10
    have c10b1 : (a0_0 != 32) = true := nI.mpr c10
    (first | rw [c10b0] | (simp only [i64_w, i32_w]; rw [c10b0]) | skip)
    have H' := Aside0.mk H
    clear H
    obtain ⟨hcz14_0, hcz14_1, hcz14_2, hcz14_3, hfz14_0, hfz14_1, hfz14_2, hfz14_3⟩ := kQ4 BK427.out
    go_wp2
    go_meet
    case rel => exact ⟨_, (false), jS, H', ⟨jO⟩, ⟨jK BK427⟩, ⟨jH HB⟩⟩
  case rest =>
   clear HC6
   obtain ⟨kq, x24_5, rfl, HA, HJ5, BK427, HB⟩ := hcut
   cases kq with
   | zero => exact absurd HA.out (by simp [r05_One.j0])
   | succ kj5 =>
    have H := HA.out
    clear HA
    simp only [r05_One.j0] at H
    by_cases c15 : x24_5 = true
    ·subst c15
     rw [if_pos rfl] at H
     obtain rfl := Option.some.inj H
     go_wp2
     go_ret
     exact ⟨jE, jH HB⟩
    ·replace c15 := Bool.eq_false_iff.mpr c15
     subst c15
     rw [if_neg (show ¬ (false = true) by decide)] at H
     have HC16 := Aside0.mk H
     clear H
     go_upto_region 5 with (fail)
     go_cut [47] (fun v47 wc => ∃ (kq : Nat) (x47_15 : Bool), v47 = .bool x47_15 ∧ Aside0 (r05_One.j1 kq a1 a2 x47_15 a0_0 a0_1 a0_2 a0_3 = some r) ∧ Aside0 (kq ≤ kj5) ∧ Aside0 (wc.heap[gb427]? = some (.cells #[.int .i64 a0_0, .int .i64 a0_1, .int .i64 a0_2, .int .u32 a0_3] 59 (0, 0))) ∧ Aside0 (Below w.heap.size w wc))
     case first =>
      have H := HC16.out
      clear HC16
      by_cases c17 : a0_0 = 2
      ·rw [if_pos c17] at H
       have c17b0 : (a0_0 == 2) = true := bI.mpr c17
       have c17b1 : (a0_0 != 2) = false := nF.mpr c17
       clear c17
       (first | rw [c17b0] | (simp only [i64_w, i32_w]; rw [c17b0]) | skip)
       have H' := Aside0.mk H
       clear H
       obtain ⟨hcz18_0, hcz18_1, hcz18_2, hcz18_3, hfz18_0, hfz18_1, hfz18_2, hfz18_3⟩ := kQ4 BK427.out
       go_wp2
       go_meet
       case rel => exact ⟨_, (decide (a0_3 > 15)), jS, H', ⟨by have := HJ5.out; first | omega | exact Nat.le_refl _⟩, ⟨jK BK427⟩, ⟨jH HB⟩⟩
      ·rw [if_neg c17] at H
       have c17b0 : (a0_0 == 2) = false := bF.mpr c17
       have c17b1 : (a0_0 != 2) = true := nI.mpr c17
       (first | rw [c17b0] | (simp only [i64_w, i32_w]; rw [c17b0]) | skip)
       by_cases c19 : a0_0 = 3
       ·rw [if_pos c19] at H
        have c19b0 : (a0_0 == 3) = true := bI.mpr c19
        have c19b1 : (a0_0 != 3) = false := nF.mpr c19
        clear c19
        have H' := Aside0.mk H
        clear H
        obtain ⟨hcz20_0, hcz20_1, hcz20_2, hcz20_3, hfz20_0, hfz20_1, hfz20_2, hfz20_3⟩ := kQ4 BK427.out
        go_wp2
        go_meet
        case rel => exact ⟨_, (decide (a0_3 > 15)), jS, H', ⟨by have := HJ5.out; first | omega | exact Nat.le_refl _⟩, ⟨jK BK427⟩, ⟨jH HB⟩⟩
       ·rw [if_neg c19] at H
        have c19b0 : (a0_0 == 3) = false := bF.mpr c19
        have c19b1 : (a0_0 != 3) = true := nI.mpr c19
        by_cases c21 : a0_0 = 96
        ·rw [if_pos c21] at H
         have c21b0 : (a0_0 == 96) = true := bI.mpr c21
         have c21b1 : (a0_0 != 96) = false := nF.mpr c21
         clear c21
         have H' := Aside0.mk H
         clear H
         obtain ⟨hcz22_0, hcz22_1, hcz22_2, hcz22_3, hfz22_0, hfz22_1, hfz22_2, hfz22_3⟩ := kQ4 BK427.out
         go_wp2
         go_meet
         case rel => exact ⟨_, (decide (a0_3 > 15)), jS, H', ⟨by have := HJ5.out; first | omega | exact Nat.le_refl _⟩, ⟨jK BK427⟩, ⟨jH HB⟩⟩
        ·rw [if_neg c21] at H
         have c21b0 : (a0_0 == 96) = false := bF.mpr c21
         have c21b1 : (a0_0 != 96) = true := nI.mpr c21
         by_cases c23 : a0_0 = 97
         ·rw [if_pos c23] at H
          have c23b0 : (a0_0 == 97) = true := bI.mpr c23
          have c23b1 : (a0_0 != 97) = false := nF.mpr c23
          clear c23
          have H' := Aside0.mk H
          clear H
          obtain ⟨hcz24_0, hcz24_1, hcz24_2, hcz24_3, hfz24_0, hfz24_1, hfz24_2, hfz24_3⟩ := kQ4 BK427.out
          go_wp2
          go_meet
          case rel => exact ⟨_, (decide (a0_3 > 15)), jS, H', ⟨by have := HJ5.out; first | omega | exact Nat.le_refl _⟩, ⟨jK BK427⟩, ⟨jH HB⟩⟩
         ·rw [if_neg c23] at H
          have c23b0 : (a0_0 == 97) = false := bF.mpr c23
          have c23b1 : (a0_0 != 97) = true := nI.mpr c23
          have H' := Aside0.mk H
          clear H
          obtain ⟨hcz25_0, hcz25_1, hcz25_2, hcz25_3, hfz25_0, hfz25_1, hfz25_2, hfz25_3⟩ := kQ4 BK427.out
          go_wp2
          go_meet
          case rel => exact ⟨_, (false), jS, H', ⟨by have := HJ5.out; first | omega | exact Nat.le_refl _⟩, ⟨jK BK427⟩, ⟨jH HB⟩⟩
     case rest =>
      clear HC16
      obtain ⟨kq, x47_15, rfl, HA, HJ15, BK427, HB⟩ := hcut
      cases kq with
      | zero => exact absurd HA.out (by simp [r05_One.j1])
      | succ kj15 =>
       have H := HA.out
       clear HA
       simp only [r05_One.j1] at H
       by_cases c26 : x47_15 = true
       ·subst c26
        rw [if_pos rfl] at H
        obtain rfl := Option.some.inj H
        go_wp2
        go_ret
        exact ⟨jE, jH HB⟩
       ·replace c26 := Bool.eq_false_iff.mpr c26
        subst c26
        rw [if_neg (show ¬ (false = true) by decide)] at H
        have HC27 := Aside0.mk H
        clear H
        go_upto_region 7 with (fail)
        go_cut [55] (fun v55 wc => ∃ (kq : Nat) (x55_26 : Bool), v55 = .bool x55_26 ∧ Aside0 (r05_One.j2 kq a1 a2 x55_26 a0_0 a0_1 a0_2 a0_3 = some r) ∧ Aside0 (kq ≤ kj15) ∧ Aside0 (wc.heap[gb427]? = some (.cells #[.int .i64 a0_0, .int .i64 a0_1, .int .i64 a0_2, .int .u32 a0_3] 59 (0, 0))) ∧ Aside0 (Below w.heap.size w wc))
        case first =>
         have H := HC27.out
         clear HC27
         by_cases c28 : a0_0 = 52
         ·rw [if_pos c28] at H
          have c28b0 : (a0_0 == 52) = true := bI.mpr c28
          have c28b1 : (a0_0 != 52) = false := nF.mpr c28
          clear c28
          (first | rw [c28b0] | (simp only [i64_w, i32_w]; rw [c28b0]) | skip)
          have H' := Aside0.mk H
          clear H
          obtain ⟨hcz29_0, hcz29_1, hcz29_2, hcz29_3, hfz29_0, hfz29_1, hfz29_2, hfz29_3⟩ := kQ4 BK427.out
          go_wp2
          go_meet
          case rel => exact ⟨_, ((a0_3 == 0)), jS, H', ⟨by have := HJ5.out; have := HJ15.out; first | omega | exact Nat.le_refl _⟩, ⟨jK BK427⟩, ⟨jH HB⟩⟩
         ·rw [if_neg c28] at H
          have c28b0 : (a0_0 == 52) = false := bF.mpr c28
          have c28b1 : (a0_0 != 52) = true := nI.mpr c28
          (first | rw [c28b0] | (simp only [i64_w, i32_w]; rw [c28b0]) | skip)
          have H' := Aside0.mk H
          clear H
          obtain ⟨hcz30_0, hcz30_1, hcz30_2, hcz30_3, hfz30_0, hfz30_1, hfz30_2, hfz30_3⟩ := kQ4 BK427.out
          go_wp2
          go_meet
          case rel => exact ⟨_, (false), jS, H', ⟨by have := HJ5.out; have := HJ15.out; first | omega | exact Nat.le_refl _⟩, ⟨jK BK427⟩, ⟨jH HB⟩⟩
        case rest =>
         clear HC27
         obtain ⟨kq, x55_26, rfl, HA, HJ26, BK427, HB⟩ := hcut
         cases kq with
         | zero => exact absurd HA.out (by simp [r05_One.j2])
         | succ kj26 =>
          have H := HA.out
          clear HA
          simp only [r05_One.j2] at H
          by_cases c31 : x55_26 = true
          ·subst c31
           rw [if_pos rfl] at H
           obtain rfl := Option.some.inj H
           go_wp2
           go_ret
           exact ⟨jE, jH HB⟩
          ·replace c31 := Bool.eq_false_iff.mpr c31
           subst c31
           rw [if_neg (show ¬ (false = true) by decide)] at H
           have HC32 := Aside0.mk H
           clear H
           go_upto_region 9 with (fail)
           go_cut [68] (fun v68 wc => ∃ (kq : Nat) (x68_31 : Bool), v68 = .bool x68_31 ∧ Aside0 (r05_One.j3 kq a1 a2 x68_31 a0_0 a0_1 a0_2 a0_3 = some r) ∧ Aside0 (kq ≤ kj26) ∧ Aside0 (wc.heap[gb427]? = some (.cells #[.int .i64 a0_0, .int .i64 a0_1, .int .i64 a0_2, .int .u32 a0_3] 59 (0, 0))) ∧ Aside0 (Below w.heap.size w wc))
           case first =>
            have H := HC32.out
            clear HC32
            by_cases c33 : a0_0 = 100
            ·rw [if_pos c33] at H
             have c33b0 : (a0_0 == 100) = true := bI.mpr c33
             have c33b1 : (a0_0 != 100) = false := nF.mpr c33
             clear c33
             (first | rw [c33b0] | (simp only [i64_w, i32_w]; rw [c33b0]) | skip)
             have H' := Aside0.mk H
             clear H
             obtain ⟨hcz34_0, hcz34_1, hcz34_2, hcz34_3, hfz34_0, hfz34_1, hfz34_2, hfz34_3⟩ := kQ4 BK427.out
             go_wp2
             go_meet
             case rel => exact ⟨_, (decide (a0_3 > 31)), jS, H', ⟨by have := HJ5.out; have := HJ15.out; have := HJ26.out; first | omega | exact Nat.le_refl _⟩, ⟨jK BK427⟩, ⟨jH HB⟩⟩
            ·rw [if_neg c33] at H
             have c33b0 : (a0_0 == 100) = false := bF.mpr c33
             have c33b1 : (a0_0 != 100) = true := nI.mpr c33
             (first | rw [c33b0] | (simp only [i64_w, i32_w]; rw [c33b0]) | skip)
             by_cases c35 : a0_0 = 116
             ·rw [if_pos c35] at H
              have c35b0 : (a0_0 == 116) = true := bI.mpr c35
              have c35b1 : (a0_0 != 116) = false := nF.mpr c35
              clear c35
              have H' := Aside0.mk H
              clear H
              obtain ⟨hcz36_0, hcz36_1, hcz36_2, hcz36_3, hfz36_0, hfz36_1, hfz36_2, hfz36_3⟩ := kQ4 BK427.out
              go_wp2
              go_meet
              case rel => exact ⟨_, (decide (a0_3 > 31)), jS, H', ⟨by have := HJ5.out; have := HJ15.out; have := HJ26.out; first | omega | exact Nat.le_refl _⟩, ⟨jK BK427⟩, ⟨jH HB⟩⟩
             ·rw [if_neg c35] at H
              have c35b0 : (a0_0 == 116) = false := bF.mpr c35
              have c35b1 : (a0_0 != 116) = true := nI.mpr c35
              have H' := Aside0.mk H
              clear H
              obtain ⟨hcz37_0, hcz37_1, hcz37_2, hcz37_3, hfz37_0, hfz37_1, hfz37_2, hfz37_3⟩ := kQ4 BK427.out
              go_wp2
              go_meet
              case rel => exact ⟨_, (false), jS, H', ⟨by have := HJ5.out; have := HJ15.out; have := HJ26.out; first | omega | exact Nat.le_refl _⟩, ⟨jK BK427⟩, ⟨jH HB⟩⟩
           case rest =>
            clear HC32
            obtain ⟨kq, x68_31, rfl, HA, HJ31, BK427, HB⟩ := hcut
            cases kq with
            | zero => exact absurd HA.out (by simp [r05_One.j3])
            | succ kj31 =>
             have H := HA.out
             clear HA
             simp only [r05_One.j3] at H
             by_cases c38 : x68_31 = true
             ·subst c38
              rw [if_pos rfl] at H
              obtain rfl := Option.some.inj H
              go_wp2
              go_ret
              exact ⟨jE, jH HB⟩
             ·replace c38 := Bool.eq_false_iff.mpr c38
              subst c38
              rw [if_neg (show ¬ (false = true) by decide)] at H
              have HC39 := Aside0.mk H
              clear H
              go_upto_region 12 with (fail)
              go_cut [83] (fun v83 wc => ∃ (kq : Nat) (x83_38 : Bool), v83 = .bool x83_38 ∧ Aside0 (r05_One.j4 kq (wrap64 ((wrap64 (a2 - 1)) - a1)) x83_38 a0_0 a0_1 a0_2 a0_3 = some r) ∧ Aside0 (kq ≤ kj31) ∧ Aside0 (wc.heap[gb427]? = some (.cells #[.int .i64 a0_0, .int .i64 a0_1, .int .i64 a0_2, .int .u32 a0_3] 59 (0, 0))) ∧ Aside0 (Below w.heap.size w wc))
              case first =>
               have H := HC39.out
               clear HC39
               by_cases c40 : a0_0 = 5
               ·rw [if_pos c40] at H
                have c40b0 : (a0_0 == 5) = true := bI.mpr c40
                have c40b1 : (a0_0 != 5) = false := nF.mpr c40
                clear c40
                (first | rw [c40b0] | (simp only [i64_w, i32_w]; rw [c40b0]) | skip)
                have H' := Aside0.mk H
                clear H
                obtain ⟨hcz41_0, hcz41_1, hcz41_2, hcz41_3, hfz41_0, hfz41_1, hfz41_2, hfz41_3⟩ := kQ4 BK427.out
                go_wp2
                go_meet
                case rel => exact ⟨_, (decide ((IntKind.u64.wrap (a0_3)) ≥ (IntKind.u64.wrap (wrap64 ((wrap64 (a2 - 1)) - a1))))), jS, H', ⟨by have := HJ5.out; have := HJ15.out; have := HJ26.out; have := HJ31.out; first | omega | exact Nat.le_refl _⟩, ⟨jK BK427⟩, ⟨jH HB⟩⟩
               ·rw [if_neg c40] at H
                have c40b0 : (a0_0 == 5) = false := bF.mpr c40
                have c40b1 : (a0_0 != 5) = true := nI.mpr c40
                (first | rw [c40b0] | (simp only [i64_w, i32_w]; rw [c40b0]) | skip)
                have H' := Aside0.mk H
                clear H
                obtain ⟨hcz42_0, hcz42_1, hcz42_2, hcz42_3, hfz42_0, hfz42_1, hfz42_2, hfz42_3⟩ := kQ4 BK427.out
                go_wp2
                go_meet
                case rel => exact ⟨_, (false), jS, H', ⟨by have := HJ5.out; have := HJ15.out; have := HJ26.out; have := HJ31.out; first | omega | exact Nat.le_refl _⟩, ⟨jK BK427⟩, ⟨jH HB⟩⟩
              case rest =>
               clear HC39
               obtain ⟨kq, x83_38, rfl, HA, HJ38, BK427, HB⟩ := hcut
               cases kq with
               | zero => exact absurd HA.out (by simp [r05_One.j4])
               | succ kj38 =>
                have H := HA.out
                clear HA
                simp only [r05_One.j4] at H
                by_cases c43 : x83_38 = true
                ·subst c43
                 rw [if_pos rfl] at H
                 obtain rfl := Option.some.inj H
                 go_wp2
                 go_ret
                 exact ⟨jE, jH HB⟩
                ·replace c43 := Bool.eq_false_iff.mpr c43
                 subst c43
                 rw [if_neg (show ¬ (false = true) by decide)] at H
                 replace H := Option.bind_eq_some_iff.mp H
                 obtain ⟨t429, A440, H⟩ := H
                 try dsimp only at H
                 have A44 := Aside0.mk A440
                 clear A440
                 by_cases c45 : t429 = true
                 ·subst c45
                  rw [if_pos rfl] at H
                  by_cases c46 : a0_1 ≥ (wrap64 ((wrap64 (a2 - 1)) - a1))
                  ·rw [if_pos c46] at H
                   have c46b0 : decide ((wrap64 ((wrap64 (a2 - 1)) - a1)) ≤ a0_1) = true := dT c46
                   clear c46
                   obtain rfl := Option.some.inj H
                   obtain ⟨hcz47_0, hcz47_1, hcz47_2, hcz47_3, hfz47_0, hfz47_1, hfz47_2, hfz47_3⟩ := kQ4 BK427.out
                   go_wp2_with (first | ((with_reducible refine gate_callee (f := 48) rfl ?_); refine goesL_ (some 85) rfl rfl Tryd.func48 (by kernel_rfl) rfl #[.agg #[.int .i64 a0_0, .int .i64 a0_1, .int .i64 a0_2, .int .u32 a0_3]] rfl jZ ?_; (with_reducible refine (r02_Branch.calls kj38 a0_0 a0_1 a0_2 a0_3 true _ A44.out).mono ?_); rintro e w48 ⟨rfl, hb⟩; refine ⟨_, rfl, ?_⟩; replace BK427 := Aside0.mk (jB BK427 hb); replace HB := Aside0.mk (zT (jH HB) hb); (try clear hb); (try clear hb2); (try clear hk); (try clear hi); obtain ⟨hcz49_0, hcz49_1, hcz49_2, hcz49_3, hfz49_0, hfz49_1, hfz49_2, hfz49_3⟩ := kQ4 BK427.out))
                   go_ret
                   exact ⟨jE, jH HB⟩
                  ·rw [if_neg c46] at H
                   have c46b0 : decide ((wrap64 ((wrap64 (a2 - 1)) - a1)) ≤ a0_1) = false := dF c46
                   clear c46
                   by_cases c50 : a0_2 ≥ (wrap64 ((wrap64 (a2 - 1)) - a1))
                   ·rw [if_pos c50] at H
                    have c50b0 : decide ((wrap64 ((wrap64 (a2 - 1)) - a1)) ≤ a0_2) = true := dT c50
                    clear c50
                    obtain rfl := Option.some.inj H
                    obtain ⟨hcz51_0, hcz51_1, hcz51_2, hcz51_3, hfz51_0, hfz51_1, hfz51_2, hfz51_3⟩ := kQ4 BK427.out
                    go_wp2_with (first | ((with_reducible refine gate_callee (f := 48) rfl ?_); refine goesL_ (some 85) rfl rfl Tryd.func48 (by kernel_rfl) rfl #[.agg #[.int .i64 a0_0, .int .i64 a0_1, .int .i64 a0_2, .int .u32 a0_3]] rfl jZ ?_; (with_reducible refine (r02_Branch.calls kj38 a0_0 a0_1 a0_2 a0_3 true _ A44.out).mono ?_); rintro e w52 ⟨rfl, hb⟩; refine ⟨_, rfl, ?_⟩; replace BK427 := Aside0.mk (jB BK427 hb); replace HB := Aside0.mk (zT (jH HB) hb); (try clear hb); (try clear hb2); (try clear hk); (try clear hi); obtain ⟨hcz53_0, hcz53_1, hcz53_2, hcz53_3, hfz53_0, hfz53_1, hfz53_2, hfz53_3⟩ := kQ4 BK427.out))
                    go_ret
                    exact ⟨jE, jH HB⟩
                   ·rw [if_neg c50] at H
                    have c50b0 : decide ((wrap64 ((wrap64 (a2 - 1)) - a1)) ≤ a0_2) = false := dF c50
                    clear c50
                    obtain rfl := Option.some.inj H
                    obtain ⟨hcz54_0, hcz54_1, hcz54_2, hcz54_3, hfz54_0, hfz54_1, hfz54_2, hfz54_3⟩ := kQ4 BK427.out
                    go_wp2_with (first | ((with_reducible refine gate_callee (f := 48) rfl ?_); refine goesL_ (some 85) rfl rfl Tryd.func48 (by kernel_rfl) rfl #[.agg #[.int .i64 a0_0, .int .i64 a0_1, .int .i64 a0_2, .int .u32 a0_3]] rfl jZ ?_; (with_reducible refine (r02_Branch.calls kj38 a0_0 a0_1 a0_2 a0_3 true _ A44.out).mono ?_); rintro e w55 ⟨rfl, hb⟩; refine ⟨_, rfl, ?_⟩; replace BK427 := Aside0.mk (jB BK427 hb); replace HB := Aside0.mk (zT (jH HB) hb); (try clear hb); (try clear hb2); (try clear hk); (try clear hi); obtain ⟨hcz56_0, hcz56_1, hcz56_2, hcz56_3, hfz56_0, hfz56_1, hfz56_2, hfz56_3⟩ := kQ4 BK427.out))
                    go_ret
                    exact ⟨jE, jH HB⟩
                 ·replace c45 := Bool.eq_false_iff.mpr c45
                  subst c45
                  rw [if_neg (show ¬ (false = true) by decide)] at H
                  obtain rfl := Option.some.inj H
                  obtain ⟨hcz57_0, hcz57_1, hcz57_2, hcz57_3, hfz57_0, hfz57_1, hfz57_2, hfz57_3⟩ := kQ4 BK427.out
                  go_wp2_with (first | ((with_reducible refine gate_callee (f := 48) rfl ?_); refine goesL_ (some 85) rfl rfl Tryd.func48 (by kernel_rfl) rfl #[.agg #[.int .i64 a0_0, .int .i64 a0_1, .int .i64 a0_2, .int .u32 a0_3]] rfl jZ ?_; (with_reducible refine (r02_Branch.calls kj38 a0_0 a0_1 a0_2 a0_3 false _ A44.out).mono ?_); rintro e w58 ⟨rfl, hb⟩; refine ⟨_, rfl, ?_⟩; replace BK427 := Aside0.mk (jB BK427 hb); replace HB := Aside0.mk (zT (jH HB) hb); (try clear hb); (try clear hb2); (try clear hk); (try clear hi)))
                  go_ret
                  exact ⟨jE, jH HB⟩
 ·replace c5 := Bool.eq_false_iff.mpr c5
  subst c5
  rw [if_neg (show ¬ (false = true) by decide)] at H
  obtain rfl := Option.some.inj H
  go_enter Tryd.func50, Tryd.ntmps50
  go_wp2_with (first | ((with_reducible refine gate_dst (N := 3) rfl ?_); refine box_event rfl (N := 3) rfl (cs := #[.int .i64 a0_0, .int .i64 a0_1, .int .i64 a0_2, .int .u32 a0_3]) (t := 59) jW ?_; intro gb427 hg w59 hbox hb; have BK427 := Aside0.mk hbox; have GW427 := Aside0.mk (jG hg HB); have GE427 := Aside0.mk (jG hg HB); replace HB := Aside0.mk (zT (jH HB) hb); clear hb hbox hg; obtain ⟨hcz60_0, hcz60_1, hcz60_2, hcz60_3, hfz60_0, hfz60_1, hfz60_2, hfz60_3⟩ := kQ4 BK427.out) | ((with_reducible refine gate_callee (f := 60) rfl ?_); refine goesL_ (some 9) rfl rfl Tryd.func60 (by kernel_rfl) rfl #[.agg #[.int .i64 a0_0, .int .i64 a0_1, .int .i64 a0_2, .int .u32 a0_3]] rfl jZ ?_; (with_reducible refine (r02_Right.calls k a0_0 a0_1 a0_2 a0_3 false _ A4.out).mono ?_); rintro e w61 ⟨rfl, hb⟩; refine ⟨_, rfl, ?_⟩; replace BK427 := Aside0.mk (jB BK427 hb); replace HB := Aside0.mk (zT (jH HB) hb); (try clear hb); (try clear hb2); (try clear hk); (try clear hi)))
  go_ret
  exact ⟨jE, jH HB⟩
def r17_Right.l0 : Nat → List (S59) → Int → Option (Bool)
 | 0, _, _ => none
 | k + 1, x0, x3 => if x3 < (x0.length : Int) then (if 0 ≤ x3 then (if ((rd_T59 x0 x3).f0) = 5 then (some false) else ((r02_Branch.f k ((rd_T59 x0 x3).f0) ((rd_T59 x0 x3).f1) ((rd_T59 x0 x3).f2) ((rd_T59 x0 x3).f3)).bind fun t432 => (if t432 = true then (some false) else ((r02_Ends.f ((rd_T59 x0 x3).f0) ((rd_T59 x0 x3).f1) ((rd_T59 x0 x3).f2) ((rd_T59 x0 x3).f3)).bind fun t434 => (if t434 = true then (some false) else ((r05_One.f k ((rd_T59 x0 x3).f0) ((rd_T59 x0 x3).f1) ((rd_T59 x0 x3).f2) ((rd_T59 x0 x3).f3) 0 2).bind fun t436 => (if t436 = 0 then (r17_Right.l0 k x0 (wrap64 (x3 + 1))) else (some false)))))))) else (none)) else (some (decide ((x0.length : Int) ≤ 32)))
def r17_Right.f (k : Nat) (l0 : List (S59)) : Option (Bool) := r17_Right.l0 k l0 0
set_option maxHeartbeats 8000000 in
set_option maxRecDepth 100000 in
theorem r17_Right.calls (k : Nat) (A0 : Option Addr) (c0 : Nat) (l0 : List (S59)) (r : Bool) (w : World) (hr0 : Kd.C k59 w A0 l0.length l0) (hc0 : l0.length ≤ c0) (h : r17_Right.f k l0 = some r) :
  Calls Tryd.prog 40 #[.slice A0 l0.length c0] w fun e w' => e = .returned (.bool r) ∧ Below w.heap.size w w' := by
 have hu59 := Tryd.underlying59
 have HR0 := Aside0.mk hr0
 have HC0 := Aside0.mk hc0
 clear hr0 hc0
 have HB := Aside0.mk (Below.refl w.heap.size w)
 have H : (r17_Right.l0 k l0 0) = some r := h
 clear h
 have H' := Aside0.mk H
 clear H
 go_enter Tryd.func40, Tryd.ntmps40
 go_wp2
 go_loopg [3] k (fun kq v3 w' => ∃ (x3_1 : Int), v3 = .int .i64 x3_1 ∧ Aside0 (r17_Right.l0 kq l0 x3_1 = some r) ∧ Aside0 (kq ≤ k) ∧ Aside0 (Below w.heap.size w w'))
 case atStart => exact ⟨(0), jS, H', ⟨Nat.le_refl _⟩, ⟨jH HB⟩⟩
 case round =>
  clear H'
  obtain ⟨x3_1, rfl, HA, HK1, HB⟩ := hrel
  cases gk with
  | zero => exact absurd HA.out (by simp [r17_Right.l0])
  | succ k1 =>
   have H := HA.out
   clear HA
   simp only [r17_Right.l0] at H
   by_cases c2 : x3_1 < (l0.length : Int)
   ·rw [if_pos c2] at H
    have c2b0 := dT c2
    clear c2
    by_cases c3 : 0 ≤ x3_1
    ·rw [if_pos c3] at H
     have c3b0 := dT c3
     clear c3
     by_cases c4 : ((rd_T59 l0 x3_1).f0) = 5
     ·rw [if_pos c4] at H
      have c4b0 : (((rd_T59 l0 x3_1).f0) == 5) = true := bI.mpr c4
      have c4b1 : (((rd_T59 l0 x3_1).f0) != 5) = false := nF.mpr c4
      clear c4
      obtain rfl := Option.some.inj H
      have p430 : 0 ≤ (x3_1 : Int) := oD (jA)
      have q430 : x3_1 < (l0.length : Int) := oD (jA)
      obtain ⟨ad430, e430, hx430_0, hx430_1, hx430_2, hx430_3⟩ := at_T59 HR0.out x3_1 p430 q430
      cases e430
      replace hx430_0 := (HB.out.cell (bL w _ hx430_0)).trans hx430_0
      replace hx430_1 := (HB.out.cell (bL w _ hx430_1)).trans hx430_1
      replace hx430_2 := (HB.out.cell (bL w _ hx430_2)).trans hx430_2
      replace hx430_3 := (HB.out.cell (bL w _ hx430_3)).trans hx430_3
      replace p430 := eq_true p430
      replace q430 := eq_true q430
      go_wp2
      go_ret
      exact ⟨jE, jH HB⟩
     ·rw [if_neg c4] at H
      have c4b0 : (((rd_T59 l0 x3_1).f0) == 5) = false := bF.mpr c4
      have c4b1 : (((rd_T59 l0 x3_1).f0) != 5) = true := nI.mpr c4
      replace H := Option.bind_eq_some_iff.mp H
      obtain ⟨t432, A50, H⟩ := H
      try dsimp only at H
      have A5 := Aside0.mk A50
      clear A50
      by_cases c6 : t432 = true
      ·subst c6
       rw [if_pos rfl] at H
       obtain rfl := Option.some.inj H
       have p430 : 0 ≤ (x3_1 : Int) := oD (jA)
       have q430 : x3_1 < (l0.length : Int) := oD (jA)
       obtain ⟨ad430, e430, hx430_0, hx430_1, hx430_2, hx430_3⟩ := at_T59 HR0.out x3_1 p430 q430
       cases e430
       replace hx430_0 := (HB.out.cell (bL w _ hx430_0)).trans hx430_0
       replace hx430_1 := (HB.out.cell (bL w _ hx430_1)).trans hx430_1
       replace hx430_2 := (HB.out.cell (bL w _ hx430_2)).trans hx430_2
       replace hx430_3 := (HB.out.cell (bL w _ hx430_3)).trans hx430_3
       replace p430 := eq_true p430
       replace q430 := eq_true q430
       have p431 : 0 ≤ (x3_1 : Int) := oD (jA)
       have q431 : x3_1 < (l0.length : Int) := oD (jA)
       obtain ⟨ad431, e431, hx431_0, hx431_1, hx431_2, hx431_3⟩ := at_T59 HR0.out x3_1 p431 q431
       obtain rfl : ad430 = ad431 := (by injection e431)
       replace hx431_0 := (HB.out.cell (bL w _ hx431_0)).trans hx431_0
       replace hx431_1 := (HB.out.cell (bL w _ hx431_1)).trans hx431_1
       replace hx431_2 := (HB.out.cell (bL w _ hx431_2)).trans hx431_2
       replace hx431_3 := (HB.out.cell (bL w _ hx431_3)).trans hx431_3
       replace p431 := eq_true p431
       replace q431 := eq_true q431
       go_wp2_with (first | (go_at_call 48; (with_reducible refine (r02_Branch.calls k1 ((rd_T59 l0 x3_1).f0) ((rd_T59 l0 x3_1).f1) ((rd_T59 l0 x3_1).f2) ((rd_T59 l0 x3_1).f3) true _ A5.out).mono ?_); rintro e w7 ⟨rfl, hb⟩; replace HB := Aside0.mk (zT (jH HB) hb); (try clear hb); (try clear hb2); (try clear hk); (try clear hi)))
       go_ret
       exact ⟨jE, jH HB⟩
      ·replace c6 := Bool.eq_false_iff.mpr c6
       subst c6
       rw [if_neg (show ¬ (false = true) by decide)] at H
       replace H := Option.bind_eq_some_iff.mp H
       obtain ⟨t434, A80, H⟩ := H
       try dsimp only at H
       have A8 := Aside0.mk A80
       clear A80
       by_cases c9 : t434 = true
       ·subst c9
        rw [if_pos rfl] at H
        obtain rfl := Option.some.inj H
        have p430 : 0 ≤ (x3_1 : Int) := oD (jA)
        have q430 : x3_1 < (l0.length : Int) := oD (jA)
        obtain ⟨ad430, e430, hx430_0, hx430_1, hx430_2, hx430_3⟩ := at_T59 HR0.out x3_1 p430 q430
        cases e430
        replace hx430_0 := (HB.out.cell (bL w _ hx430_0)).trans hx430_0
        replace hx430_1 := (HB.out.cell (bL w _ hx430_1)).trans hx430_1
        replace hx430_2 := (HB.out.cell (bL w _ hx430_2)).trans hx430_2
        replace hx430_3 := (HB.out.cell (bL w _ hx430_3)).trans hx430_3
        replace p430 := eq_true p430
        replace q430 := eq_true q430
        have p431 : 0 ≤ (x3_1 : Int) := oD (jA)
        have q431 : x3_1 < (l0.length : Int) := oD (jA)
        obtain ⟨ad431, e431, hx431_0, hx431_1, hx431_2, hx431_3⟩ := at_T59 HR0.out x3_1 p431 q431
        obtain rfl : ad430 = ad431 := (by injection e431)
        replace hx431_0 := (HB.out.cell (bL w _ hx431_0)).trans hx431_0
        replace hx431_1 := (HB.out.cell (bL w _ hx431_1)).trans hx431_1
        replace hx431_2 := (HB.out.cell (bL w _ hx431_2)).trans hx431_2
        replace hx431_3 := (HB.out.cell (bL w _ hx431_3)).trans hx431_3
        replace p431 := eq_true p431
        replace q431 := eq_true q431
        go_wp2_with (first | (go_at_call 48; (with_reducible refine (r02_Branch.calls k1 ((rd_T59 l0 x3_1).f0) ((rd_T59 l0 x3_1).f1) ((rd_T59 l0 x3_1).f2) ((rd_T59 l0 x3_1).f3) false _ A5.out).mono ?_); rintro e w10 ⟨rfl, hb⟩; replace HB := Aside0.mk (zT (jH HB) hb); (try clear hb); (try clear hb2); (try clear hk); (try clear hi); have p433 : 0 ≤ (x3_1 : Int) := oD (jA); have q433 : x3_1 < (l0.length : Int) := oD (jA); obtain ⟨ad433, e433, hx433_0, hx433_1, hx433_2, hx433_3⟩ := at_T59 HR0.out x3_1 p433 q433; obtain rfl : ad430 = ad433 := (by injection e433); replace hx433_0 := (HB.out.cell (bL w _ hx433_0)).trans hx433_0; replace hx433_1 := (HB.out.cell (bL w _ hx433_1)).trans hx433_1; replace hx433_2 := (HB.out.cell (bL w _ hx433_2)).trans hx433_2; replace hx433_3 := (HB.out.cell (bL w _ hx433_3)).trans hx433_3; replace p433 := eq_true p433; replace q433 := eq_true q433) | (go_at_call 49; (with_reducible refine (r02_Ends.calls ((rd_T59 l0 x3_1).f0) ((rd_T59 l0 x3_1).f1) ((rd_T59 l0 x3_1).f2) ((rd_T59 l0 x3_1).f3) true _ A8.out).mono ?_); rintro e w11 ⟨rfl, hb⟩; replace HB := Aside0.mk (zT (jH HB) hb); (try clear hb); (try clear hb2); (try clear hk); (try clear hi)))
        go_ret
        exact ⟨jE, jH HB⟩
       ·replace c9 := Bool.eq_false_iff.mpr c9
        subst c9
        rw [if_neg (show ¬ (false = true) by decide)] at H
        replace H := Option.bind_eq_some_iff.mp H
        obtain ⟨t436, A120, H⟩ := H
        try dsimp only at H
        have A12 := Aside0.mk A120
        clear A120
        by_cases c13 : t436 = 0
        ·rw [if_pos c13] at H
         have c13b0 : (t436 == 0) = true := bI.mpr c13
         have c13b1 : (t436 != 0) = false := nF.mpr c13
         clear c13
         have H' := Aside0.mk H
         clear H
         have p430 : 0 ≤ (x3_1 : Int) := oD (jA)
         have q430 : x3_1 < (l0.length : Int) := oD (jA)
         obtain ⟨ad430, e430, hx430_0, hx430_1, hx430_2, hx430_3⟩ := at_T59 HR0.out x3_1 p430 q430
         cases e430
         replace hx430_0 := (HB.out.cell (bL w _ hx430_0)).trans hx430_0
         replace hx430_1 := (HB.out.cell (bL w _ hx430_1)).trans hx430_1
         replace hx430_2 := (HB.out.cell (bL w _ hx430_2)).trans hx430_2
         replace hx430_3 := (HB.out.cell (bL w _ hx430_3)).trans hx430_3
         replace p430 := eq_true p430
         replace q430 := eq_true q430
         have p431 : 0 ≤ (x3_1 : Int) := oD (jA)
         have q431 : x3_1 < (l0.length : Int) := oD (jA)
         obtain ⟨ad431, e431, hx431_0, hx431_1, hx431_2, hx431_3⟩ := at_T59 HR0.out x3_1 p431 q431
         obtain rfl : ad430 = ad431 := (by injection e431)
         replace hx431_0 := (HB.out.cell (bL w _ hx431_0)).trans hx431_0
         replace hx431_1 := (HB.out.cell (bL w _ hx431_1)).trans hx431_1
         replace hx431_2 := (HB.out.cell (bL w _ hx431_2)).trans hx431_2
         replace hx431_3 := (HB.out.cell (bL w _ hx431_3)).trans hx431_3
         replace p431 := eq_true p431
         replace q431 := eq_true q431
         go_wp2_with (first | (go_at_call 48; (with_reducible refine (r02_Branch.calls k1 ((rd_T59 l0 x3_1).f0) ((rd_T59 l0 x3_1).f1) ((rd_T59 l0 x3_1).f2) ((rd_T59 l0 x3_1).f3) false _ A5.out).mono ?_); rintro e w14 ⟨rfl, hb⟩; replace HB := Aside0.mk (zT (jH HB) hb); (try clear hb); (try clear hb2); (try clear hk); (try clear hi); have p433 : 0 ≤ (x3_1 : Int) := oD (jA); have q433 : x3_1 < (l0.length : Int) := oD (jA); obtain ⟨ad433, e433, hx433_0, hx433_1, hx433_2, hx433_3⟩ := at_T59 HR0.out x3_1 p433 q433; obtain rfl : ad430 = ad433 := (by injection e433); replace hx433_0 := (HB.out.cell (bL w _ hx433_0)).trans hx433_0; replace hx433_1 := (HB.out.cell (bL w _ hx433_1)).trans hx433_1; replace hx433_2 := (HB.out.cell (bL w _ hx433_2)).trans hx433_2; replace hx433_3 := (HB.out.cell (bL w _ hx433_3)).trans hx433_3; replace p433 := eq_true p433; replace q433 := eq_true q433) | (go_at_call 49; (with_reducible refine (r02_Ends.calls ((rd_T59 l0 x3_1).f0) ((rd_T59 l0 x3_1).f1) ((rd_T59 l0 x3_1).f2) ((rd_T59 l0 x3_1).f3) false _ A8.out).mono ?_); rintro e w15 ⟨rfl, hb⟩; replace HB := Aside0.mk (zT (jH HB) hb); (try clear hb); (try clear hb2); (try clear hk); (try clear hi); have p435 : 0 ≤ (x3_1 : Int) := oD (jA); have q435 : x3_1 < (l0.length : Int) := oD (jA); obtain ⟨ad435, e435, hx435_0, hx435_1, hx435_2, hx435_3⟩ := at_T59 HR0.out x3_1 p435 q435; obtain rfl : ad430 = ad435 := (by injection e435); replace hx435_0 := (HB.out.cell (bL w _ hx435_0)).trans hx435_0; replace hx435_1 := (HB.out.cell (bL w _ hx435_1)).trans hx435_1; replace hx435_2 := (HB.out.cell (bL w _ hx435_2)).trans hx435_2; replace hx435_3 := (HB.out.cell (bL w _ hx435_3)).trans hx435_3; replace p435 := eq_true p435; replace q435 := eq_true q435) | (go_at_call 50; (with_reducible refine (r05_One.calls k1 ((rd_T59 l0 x3_1).f0) ((rd_T59 l0 x3_1).f1) ((rd_T59 l0 x3_1).f2) ((rd_T59 l0 x3_1).f3) 0 2 t436 _ A12.out).mono ?_); rintro e w16 ⟨rfl, hb⟩; replace HB := Aside0.mk (zT (jH HB) hb); (try clear hb); (try clear hb2); (try clear hk); (try clear hi)))
         go_roundg k1
         case measure => have := HK1.out; omega
         case rel => exact ⟨(wrap64 (x3_1 + 1)), jS, H', ⟨by have := HK1.out; omega⟩, ⟨jH HB⟩⟩
        ·rw [if_neg c13] at H
         have c13b0 : (t436 == 0) = false := bF.mpr c13
         have c13b1 : (t436 != 0) = true := nI.mpr c13
         obtain rfl := Option.some.inj H
         have p430 : 0 ≤ (x3_1 : Int) := oD (jA)
         have q430 : x3_1 < (l0.length : Int) := oD (jA)
         obtain ⟨ad430, e430, hx430_0, hx430_1, hx430_2, hx430_3⟩ := at_T59 HR0.out x3_1 p430 q430
         cases e430
         replace hx430_0 := (HB.out.cell (bL w _ hx430_0)).trans hx430_0
         replace hx430_1 := (HB.out.cell (bL w _ hx430_1)).trans hx430_1
         replace hx430_2 := (HB.out.cell (bL w _ hx430_2)).trans hx430_2
         replace hx430_3 := (HB.out.cell (bL w _ hx430_3)).trans hx430_3
         replace p430 := eq_true p430
         replace q430 := eq_true q430
         have p431 : 0 ≤ (x3_1 : Int) := oD (jA)
         have q431 : x3_1 < (l0.length : Int) := oD (jA)
         obtain ⟨ad431, e431, hx431_0, hx431_1, hx431_2, hx431_3⟩ := at_T59 HR0.out x3_1 p431 q431
         obtain rfl : ad430 = ad431 := (by injection e431)
         replace hx431_0 := (HB.out.cell (bL w _ hx431_0)).trans hx431_0
         replace hx431_1 := (HB.out.cell (bL w _ hx431_1)).trans hx431_1
         replace hx431_2 := (HB.out.cell (bL w _ hx431_2)).trans hx431_2
         replace hx431_3 := (HB.out.cell (bL w _ hx431_3)).trans hx431_3
         replace p431 := eq_true p431
         replace q431 := eq_true q431
         go_wp2_with (first | (go_at_call 48; (with_reducible refine (r02_Branch.calls k1 ((rd_T59 l0 x3_1).f0) ((rd_T59 l0 x3_1).f1) ((rd_T59 l0 x3_1).f2) ((rd_T59 l0 x3_1).f3) false _ A5.out).mono ?_); rintro e w17 ⟨rfl, hb⟩; replace HB := Aside0.mk (zT (jH HB) hb); (try clear hb); (try clear hb2); (try clear hk); (try clear hi); have p433 : 0 ≤ (x3_1 : Int) := oD (jA); have q433 : x3_1 < (l0.length : Int) := oD (jA); obtain ⟨ad433, e433, hx433_0, hx433_1, hx433_2, hx433_3⟩ := at_T59 HR0.out x3_1 p433 q433; obtain rfl : ad430 = ad433 := (by injection e433); replace hx433_0 := (HB.out.cell (bL w _ hx433_0)).trans hx433_0; replace hx433_1 := (HB.out.cell (bL w _ hx433_1)).trans hx433_1; replace hx433_2 := (HB.out.cell (bL w _ hx433_2)).trans hx433_2; replace hx433_3 := (HB.out.cell (bL w _ hx433_3)).trans hx433_3; replace p433 := eq_true p433; replace q433 := eq_true q433) | (go_at_call 49; (with_reducible refine (r02_Ends.calls ((rd_T59 l0 x3_1).f0) ((rd_T59 l0 x3_1).f1) ((rd_T59 l0 x3_1).f2) ((rd_T59 l0 x3_1).f3) false _ A8.out).mono ?_); rintro e w18 ⟨rfl, hb⟩; replace HB := Aside0.mk (zT (jH HB) hb); (try clear hb); (try clear hb2); (try clear hk); (try clear hi); have p435 : 0 ≤ (x3_1 : Int) := oD (jA); have q435 : x3_1 < (l0.length : Int) := oD (jA); obtain ⟨ad435, e435, hx435_0, hx435_1, hx435_2, hx435_3⟩ := at_T59 HR0.out x3_1 p435 q435; obtain rfl : ad430 = ad435 := (by injection e435); replace hx435_0 := (HB.out.cell (bL w _ hx435_0)).trans hx435_0; replace hx435_1 := (HB.out.cell (bL w _ hx435_1)).trans hx435_1; replace hx435_2 := (HB.out.cell (bL w _ hx435_2)).trans hx435_2; replace hx435_3 := (HB.out.cell (bL w _ hx435_3)).trans hx435_3; replace p435 := eq_true p435; replace q435 := eq_true q435) | (go_at_call 50; (with_reducible refine (r05_One.calls k1 ((rd_T59 l0 x3_1).f0) ((rd_T59 l0 x3_1).f1) ((rd_T59 l0 x3_1).f2) ((rd_T59 l0 x3_1).f3) 0 2 t436 _ A12.out).mono ?_); rintro e w19 ⟨rfl, hb⟩; replace HB := Aside0.mk (zT (jH HB) hb); (try clear hb); (try clear hb2); (try clear hk); (try clear hi)))
         go_ret
         exact ⟨jE, jH HB⟩
    ·rw [if_neg c3] at H
     exact absurd H (by simp)
   ·rw [if_neg c2] at H
    have c2b0 := dF c2
    clear c2
    obtain rfl := Option.some.inj H
    go_wp2
    go_ret
    exact ⟨jE, jH HB⟩
end Go.Proofs.YtahacmdhhfmhiaaDoor.M
