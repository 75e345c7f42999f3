/- By a program of this session: what Go functions of the seat compute, as Lean functions, each with a proof that the call of the Go function comes to that. -/
import Derived.Test.YtnchbnnijboklaaDoorM0
namespace Go.Proofs.YtnchbnnijboklaaDoor.M
open Go.RowKit Go.Proofs.YtnchbnnijboklaaDoorW.PrintWords Go.Proofs.YtnchbnnijboklaaDoorW.PrintLast Go.Proofs.YtnchbnnijboklaaDoorW.PrintMore
attribute [local go_sem] max2_int min2_int max_two min_two max_three min_three max_four min_four   -- for this text's walks alone
set_option linter.unusedVariables false
set_option linter.unusedSimpArgs false
def hurdleref02_branch.f (a0 : Int) : Option (Bool) := some (decide (a0 ≥ 31))
set_option maxHeartbeats 8000000 in
set_option maxRecDepth 100000 in
theorem hurdleref02_branch.calls (a0 : Int) (r : Bool) (w : World) (h : hurdleref02_branch.f a0 = some r) :
  Calls Tryd.prog 37 #[.int .i64 a0] w fun e w' => e = .returned (.bool r) ∧ Drawn0 w w' := by
 have H : (some (decide (a0 ≥ 31))) = some r := h
 clear h
 obtain rfl := Option.some.inj H
 go_enter Tryd.func37, Tryd.ntmps37
 go_wp2
 go_ret
 exact ⟨by first | rfl | (simp; done) | (simp [*]; done), by repeat (first | exact Drawn0.refl _ | apply Drawn0.step)⟩
def hurdleref02_Ops.f  : Option (List Int) := some (([0, 1, 2, 3, 4, 20, 36, 52, 68, 84, 100, 116, 164, 12, 28, 44, 60, 76, 92, 108, 124, 172, 132, 7, 135, 32, 96, 97, 5, 6, 22, 21, 37, 53, 69, 29, 45, 61, 77] : List Int))
set_option maxHeartbeats 8000000 in
set_option maxRecDepth 100000 in
theorem hurdleref02_Ops.calls  (r : List Int) (w : World) (h : hurdleref02_Ops.f  = some r) :
  Calls Tryd.prog 49 #[] w fun e w' => ∃ v0_ : Value, e = .returned (v0_) ∧ Kd.R (Kd.int .i64) 3 w' w.heap.size (fun _ => True) v0_ r ∧ Below w.heap.size w w' := by
 have HB := Aside0.mk (Below.refl w.heap.size w)
 have H : (some (([0, 1, 2, 3, 4, 20, 36, 52, 68, 84, 100, 116, 164, 12, 28, 44, 60, 76, 92, 108, 124, 172, 132, 7, 135, 32, 96, 97, 5, 6, 22, 21, 37, 53, 69, 29, 45, 61, 77] : List Int))) = some r := h
 clear h
 obtain ⟨y215, hy215⟩ : ∃ y_ : List Int, y_ = (([0, 1, 2, 3, 4, 20, 36, 52, 68, 84, 100, 116, 164, 12, 28, 44, 60, 76, 92, 108, 124, 172, 132, 7, 135, 32, 96, 97, 5, 6, 22, 21, 37, 53, 69, 29, 45, 61, 77] : List Int)) := ⟨_, rfl⟩
 simp only [Option.bind_some, ← hy215] at H
 have Ny215 := Aside0.mk hy215
 clear hy215
 obtain rfl := Option.some.inj H
 go_enter Tryd.func49, Tryd.ntmps49
 go_wp2_with (first | ((with_reducible refine gate_dst (N := 1) rfl ?_); refine Kd.R_lit (Kd.int .i64) _ 3 ?hg (N := 1) ?hd (xs := ([0, 1, 2, 3, 4, 20, 36, 52, 68, 84, 100, 116, 164, 12, 28, 44, 60, 76, 92, 108, 124, 172, 132, 7, 135, 32, 96, 97, 5, 6, 22, 21, 37, 53, 69, 29, 45, 61, 77] : List Int)) (inner := [.int .i64 0, .int .i64 1, .int .i64 2, .int .i64 3, .int .i64 4, .int .i64 20, .int .i64 36, .int .i64 52, .int .i64 68, .int .i64 84, .int .i64 100, .int .i64 116, .int .i64 164, .int .i64 12, .int .i64 28, .int .i64 44, .int .i64 60, .int .i64 76, .int .i64 92, .int .i64 108, .int .i64 124, .int .i64 172, .int .i64 132, .int .i64 7, .int .i64 135, .int .i64 32, .int .i64 96, .int .i64 97, .int .i64 5, .int .i64 6, .int .i64 22, .int .i64 21, .int .i64 37, .int .i64 53, .int .i64 69, .int .i64 29, .int .i64 45, .int .i64 61, .int .i64 77]) (ok := fun _ => True) (okp := fun _ => True) ?hr ?hp (fun _ hk => hk) trivial (Below.refl _ _) (Nat.le_refl _) (by simp) ?_; (case hd => rfl); (case hg => rfl); (case hr => first | (go_simp; done) | (go_simp; rfl)); (case hp => exact (Reps.one (show Kd.M (Kd.int .i64) _ _ _ 0 [.int .i64 0] from rfl) (Reps.one (show Kd.M (Kd.int .i64) _ _ _ 1 [.int .i64 1] from rfl) (Reps.one (show Kd.M (Kd.int .i64) _ _ _ 2 [.int .i64 2] from rfl) (Reps.one (show Kd.M (Kd.int .i64) _ _ _ 3 [.int .i64 3] from rfl) (Reps.one (show Kd.M (Kd.int .i64) _ _ _ 4 [.int .i64 4] from rfl) (Reps.one (show Kd.M (Kd.int .i64) _ _ _ 20 [.int .i64 20] from rfl) (Reps.one (show Kd.M (Kd.int .i64) _ _ _ 36 [.int .i64 36] from rfl) (Reps.one (show Kd.M (Kd.int .i64) _ _ _ 52 [.int .i64 52] from rfl) (Reps.one (show Kd.M (Kd.int .i64) _ _ _ 68 [.int .i64 68] from rfl) (Reps.one (show Kd.M (Kd.int .i64) _ _ _ 84 [.int .i64 84] from rfl) (Reps.one (show Kd.M (Kd.int .i64) _ _ _ 100 [.int .i64 100] from rfl) (Reps.one (show Kd.M (Kd.int .i64) _ _ _ 116 [.int .i64 116] from rfl) (Reps.one (show Kd.M (Kd.int .i64) _ _ _ 164 [.int .i64 164] from rfl) (Reps.one (show Kd.M (Kd.int .i64) _ _ _ 12 [.int .i64 12] from rfl) (Reps.one (show Kd.M (Kd.int .i64) _ _ _ 28 [.int .i64 28] from rfl) (Reps.one (show Kd.M (Kd.int .i64) _ _ _ 44 [.int .i64 44] from rfl) (Reps.one (show Kd.M (Kd.int .i64) _ _ _ 60 [.int .i64 60] from rfl) (Reps.one (show Kd.M (Kd.int .i64) _ _ _ 76 [.int .i64 76] from rfl) (Reps.one (show Kd.M (Kd.int .i64) _ _ _ 92 [.int .i64 92] from rfl) (Reps.one (show Kd.M (Kd.int .i64) _ _ _ 108 [.int .i64 108] from rfl) (Reps.one (show Kd.M (Kd.int .i64) _ _ _ 124 [.int .i64 124] from rfl) (Reps.one (show Kd.M (Kd.int .i64) _ _ _ 172 [.int .i64 172] from rfl) (Reps.one (show Kd.M (Kd.int .i64) _ _ _ 132 [.int .i64 132] from rfl) (Reps.one (show Kd.M (Kd.int .i64) _ _ _ 7 [.int .i64 7] from rfl) (Reps.one (show Kd.M (Kd.int .i64) _ _ _ 135 [.int .i64 135] from rfl) (Reps.one (show Kd.M (Kd.int .i64) _ _ _ 32 [.int .i64 32] from rfl) (Reps.one (show Kd.M (Kd.int .i64) _ _ _ 96 [.int .i64 96] from rfl) (Reps.one (show Kd.M (Kd.int .i64) _ _ _ 97 [.int .i64 97] from rfl) (Reps.one (show Kd.M (Kd.int .i64) _ _ _ 5 [.int .i64 5] from rfl) (Reps.one (show Kd.M (Kd.int .i64) _ _ _ 6 [.int .i64 6] from rfl) (Reps.one (show Kd.M (Kd.int .i64) _ _ _ 22 [.int .i64 22] from rfl) (Reps.one (show Kd.M (Kd.int .i64) _ _ _ 21 [.int .i64 21] from rfl) (Reps.one (show Kd.M (Kd.int .i64) _ _ _ 37 [.int .i64 37] from rfl) (Reps.one (show Kd.M (Kd.int .i64) _ _ _ 53 [.int .i64 53] from rfl) (Reps.one (show Kd.M (Kd.int .i64) _ _ _ 69 [.int .i64 69] from rfl) (Reps.one (show Kd.M (Kd.int .i64) _ _ _ 29 [.int .i64 29] from rfl) (Reps.one (show Kd.M (Kd.int .i64) _ _ _ 45 [.int .i64 45] from rfl) (Reps.one (show Kd.M (Kd.int .i64) _ _ _ 61 [.int .i64 61] from rfl) (Reps.one (show Kd.M (Kd.int .i64) _ _ _ 77 [.int .i64 77] from rfl) (Reps.none _ _))))))))))))))))))))))))))))))))))))))))); intro v216 w1 ho2 hb hg_ hnew_; clear hg_ hnew_; (first | rw [← Ny215.out] at ho2 | (simp only [Int.reduceToNat] at ho2; rw [← Ny215.out] at ho2)); have n0_ := Aside0.mk (Kd.R_lower ho2 (zZ (jH HB))); have n1_ := Aside0.mk (zT (jH HB) hb); clear HB; have HO217 := n0_; have HB := n1_; clear n0_ n1_; clear hb ho2))
 go_ret
 exact ⟨_, jE, by (with_reducible repeat (first | apply Kd.R_alloc | apply Kd.R_drewN | apply Kd.R_drew)); exact HO217.out, jH HB⟩
def hurdleref02_place.l0 : Nat → Int → List Int → Int → Option (Int)
 | 0, _, _, _ => none
 | k + 1, x0, x3, x4 => if x4 < (x3.length : Int) then (if 0 ≤ x4 then (if (rd x3 x4) = x0 then (some x4) else (hurdleref02_place.l0 k x0 x3 (wrap64 (x4 + 1)))) else (none)) else (some (-1))
def hurdleref02_place.f (k : Nat) (a0 : Int) : Option (Int) := (hurdleref02_Ops.f).bind fun t218 => (hurdleref02_place.l0 k a0 t218 0)
theorem hurdleref02_place.mono_l : ∀ k, (∀ y0 y1 y2, LeO (hurdleref02_place.l0 k y0 y1 y2) (hurdleref02_place.l0 (k + 1) y0 y1 y2))
 | 0 => fun _ _ _ r h => by simp [hurdleref02_place.l0] at h
 | k + 1 => by
  have ih0 := hurdleref02_place.mono_l k
  ·intro y0 y1 y2
   unfold hurdleref02_place.l0
   repeat' first
   | (with_reducible exact ih0 _ _ _)
   | (with_reducible exact LeO.refl _)
   | (with_reducible exact LeO.none _)
   | (with_reducible refine LeO.ite ?_ ?_)
   | (with_reducible refine LeO.bind ?_ (fun _ => ?_))
   | exact ih0 _ _ _
   | exact LeO.none _
   | refine LeO.ite ?_ ?_
   | refine LeO.bind ?_ (fun _ => ?_)
theorem hurdleref02_place.mono : ∀ a0 k, LeO (hurdleref02_place.f k a0) (hurdleref02_place.f (k + 1) a0) := by
 intro a0 k
 have ih0 := hurdleref02_place.mono_l k
 unfold hurdleref02_place.f
 repeat' first
   | (with_reducible exact ih0 _ _ _)
   | (with_reducible exact LeO.refl _)
   | (with_reducible exact LeO.none _)
   | (with_reducible refine LeO.ite ?_ ?_)
   | (with_reducible refine LeO.bind ?_ (fun _ => ?_))
   | exact ih0 _ _ _
   | exact LeO.none _
   | refine LeO.ite ?_ ?_
   | refine LeO.bind ?_ (fun _ => ?_)
set_option maxHeartbeats 8000000 in
set_option maxRecDepth 100000 in
theorem hurdleref02_place.calls (k : Nat) (a0 : Int) (r : Int) (w : World) (h : hurdleref02_place.f k a0 = some r) :
  Calls Tryd.prog 38 #[.int .i64 a0] w fun e w' => e = .returned (.int .i64 r) ∧ Below w.heap.size w w' := by
 have HB := Aside0.mk (Below.refl w.heap.size w)
 have H : ((hurdleref02_Ops.f).bind fun t218 => (hurdleref02_place.l0 k a0 t218 0)) = some r := h
 clear h
 replace H := Option.bind_eq_some_iff.mp H
 obtain ⟨t218, A20, H⟩ := H
 try dsimp only at H
 have A2 := Aside0.mk A20
 clear A20
 have H' := Aside0.mk H
 clear H
 go_enter Tryd.func38, Tryd.ntmps38
 go_wp2_with (first | ((with_reducible refine gate_callee (f := 49) rfl ?_); refine goesL_ (some 5) rfl rfl Tryd.func49 (by kernel_rfl) rfl #[] rfl jZ ?_; (with_reducible refine (hurdleref02_Ops.calls  t218 _ A2.out).mono ?_); rintro e w3 ⟨v219, rfl, ho0, hb⟩; refine ⟨_, rfl, ?_⟩; have n0_ := Aside0.mk (Kd.R_lower ho0 (zZ (jH HB))); have n1_ := Aside0.mk (zT (jH HB) hb); clear HB; have HO220 := n0_; have HB := n1_; clear n0_ n1_; (try clear hb); (try clear hb2); (try clear hk); (try clear hi); (try clear ho0)))
 go_loopg [4] k (fun kq v4 w' => ∃ (x4_1 : Int), v4 = .int .i64 x4_1 ∧ Aside0 (hurdleref02_place.l0 kq a0 t218 x4_1 = some r) ∧ Aside0 (kq ≤ k) ∧ Aside0 (Kd.R (Kd.int .i64) 3 w' w.heap.size (fun _ => True) v219 t218) ∧ Aside0 (Below w.heap.size w w'))
 case atStart => exact ⟨(0), jS, H', ⟨Nat.le_refl _⟩, ⟨jR HO220⟩, ⟨jH HB⟩⟩
 case round =>
  clear H'
  obtain ⟨x4_1, rfl, HA, HK1, HO_3, HB⟩ := hrel
  cases gk with
  | zero => exact absurd HA.out (by simp [hurdleref02_place.l0])
  | succ k1 =>
   have H := HA.out
   clear HA
   simp only [hurdleref02_place.l0] at H
   by_cases c4 : x4_1 < (t218.length : Int)
   ·rw [if_pos c4] at H
    have c4b0 : decide (x4_1 < (t218.length : Int)) = true := dT c4
    clear c4
    by_cases c5 : 0 ≤ x4_1
    ·rw [if_pos c5] at H
     have c5b0 : decide (0 ≤ x4_1) = true := dT c5
     clear c5
     by_cases c6 : (rd t218 x4_1) = a0
     ·rw [if_pos c6] at H
      have c6b0 : ((rd t218 x4_1) == a0) = true := bI.mpr c6
      have c6b1 : ((rd t218 x4_1) != a0) = false := nF.mpr c6
      clear c6
      obtain rfl := Option.some.inj H
      obtain ⟨Ao7, co7, eo7⟩ := Kd.R_slice HO_3.out
      subst eo7
      have p221 : 0 ≤ (x4_1 : Int) := oD (jA)
      have q221 : x4_1 < (t218.length : Int) := oD (jA)
      obtain ⟨ad221, e221, hx221_0⟩ := Kd.at_int (Kd.R_reads' HO_3.out).2.2 x4_1 p221 q221
      cases e221
      replace p221 := eq_true p221
      replace q221 := eq_true q221
      go_wp2
      go_ret
      exact ⟨jE, jH HB⟩
     ·rw [if_neg c6] at H
      have c6b0 : ((rd t218 x4_1) == a0) = false := bF.mpr c6
      have c6b1 : ((rd t218 x4_1) != a0) = true := nI.mpr c6
      have H' := Aside0.mk H
      clear H
      obtain ⟨Ao8, co8, eo8⟩ := Kd.R_slice HO_3.out
      subst eo8
      have p221 : 0 ≤ (x4_1 : Int) := oD (jA)
      have q221 : x4_1 < (t218.length : Int) := oD (jA)
      obtain ⟨ad221, e221, hx221_0⟩ := Kd.at_int (Kd.R_reads' HO_3.out).2.2 x4_1 p221 q221
      cases e221
      replace p221 := eq_true p221
      replace q221 := eq_true q221
      go_wp2
      go_roundg k1
      case measure => have := HK1.out; omega
      case rel => exact ⟨(wrap64 (x4_1 + 1)), jS, H', ⟨by have := HK1.out; omega⟩, ⟨jR HO_3⟩, ⟨jH HB⟩⟩
    ·rw [if_neg c5] at H
     exact absurd H (by simp)
   ·rw [if_neg c4] at H
    have c4b0 : decide (x4_1 < (t218.length : Int)) = false := dF c4
    clear c4
    obtain rfl := Option.some.inj H
    obtain ⟨Ao9, co9, eo9⟩ := Kd.R_slice HO_3.out
    subst eo9
    go_wp2
    go_ret
    exact ⟨jE, jH HB⟩
def hurdleref02_Branch.f (k : Nat) (a0_0 : Int) (a0_1 : Int) (a0_2 : Int) (a0_3 : Int) : Option (Bool) := (hurdleref02_place.f k a0_0).bind fun t223 => ((hurdleref02_branch.f t223).bind fun t224 => (some t224))
theorem hurdleref02_Branch.mono : ∀ a0 a1 a2 a3 k, LeO (hurdleref02_Branch.f k a0 a1 a2 a3) (hurdleref02_Branch.f (k + 1) a0 a1 a2 a3) := by
 intro a0 a1 a2 a3 k
 unfold hurdleref02_Branch.f
 repeat' first
   | (with_reducible exact hurdleref02_place.mono _ _)
   | (with_reducible exact LeO.refl _)
   | (with_reducible exact LeO.none _)
   | (with_reducible refine LeO.ite ?_ ?_)
   | (with_reducible refine LeO.bind ?_ (fun _ => ?_))
   | exact hurdleref02_place.mono _ _
   | exact LeO.none _
   | refine LeO.ite ?_ ?_
   | refine LeO.bind ?_ (fun _ => ?_)
set_option maxHeartbeats 8000000 in
set_option maxRecDepth 100000 in
theorem hurdleref02_Branch.calls (k : Nat) (a0_0 : Int) (a0_1 : Int) (a0_2 : Int) (a0_3 : Int) (r : Bool) (w : World) (h : hurdleref02_Branch.f k a0_0 a0_1 a0_2 a0_3 = some r) :
  Calls Tryd.prog 30 #[.agg #[.int .i64 a0_0, .int .i64 a0_1, .int .i64 a0_2, .int .u32 a0_3]] w fun e w' => e = .returned (.bool r) ∧ Below w.heap.size w w' := by
 have hu30 := Tryd.underlying30
 have HB := Aside0.mk (Below.refl w.heap.size w)
 have H : ((hurdleref02_place.f k a0_0).bind fun t223 => ((hurdleref02_branch.f t223).bind fun t224 => (some t224))) = some r := h
 clear h
 replace H := Option.bind_eq_some_iff.mp H
 obtain ⟨t223, A20, H⟩ := H
 try dsimp only at H
 have A2 := Aside0.mk A20
 clear A20
 replace H := Option.bind_eq_some_iff.mp H
 obtain ⟨t224, A30, H⟩ := H
 try dsimp only at H
 have A3 := Aside0.mk A30
 clear A30
 obtain rfl := Option.some.inj H
 go_enter Tryd.func30, Tryd.ntmps30
 go_wp2_with (first | ((with_reducible refine gate_dst (N := 1) rfl ?_); refine box_event ?hg (N := 1) ?hd (cs := #[.int .i64 a0_0, .int .i64 a0_1, .int .i64 a0_2, .int .u32 a0_3]) (t := 30) ?hr ?_; (case hd => rfl); (case hg => rfl); (case hr => first | (go_simp; done) | (go_simp; rfl)); intro gb222 hg w4 hbox hb; have n0_ := Aside0.mk (zT (jH HB) hb); have n1_ := Aside0.mk (hbox); have n2_ := Aside0.mk ((by rw [hg]; exact (zZ (jH HB)) : w.heap.size ≤ gb222)); have n3_ := Aside0.mk ((by rw [hg]; exact (zZ (jH HB)) : w.heap.size ≤ gb222)); clear HB; have HB := n0_; have BK222 := n1_; have GW222 := n2_; have GE222 := n3_; clear n0_ n1_ n2_ n3_; clear hb hbox hg; have hcz5_0 : w4.cell? ⟨gb222, 0, none⟩ = some (.int .i64 a0_0) := (kC BK222.out 0).trans rfl; have hcz5_1 : w4.cell? ⟨gb222, 1, none⟩ = some (.int .i64 a0_1) := (kC BK222.out 1).trans rfl; have hcz5_2 : w4.cell? ⟨gb222, 2, none⟩ = some (.int .i64 a0_2) := (kC BK222.out 2).trans rfl; have hcz5_3 : w4.cell? ⟨gb222, 3, none⟩ = some (.int .u32 a0_3) := (kC BK222.out 3).trans rfl; have hfz5_0 := kF BK222.out 0; have hfz5_1 := kF BK222.out 1; have hfz5_2 := kF BK222.out 2; have hfz5_3 := kF BK222.out 3) | ((with_reducible refine gate_callee (f := 38) rfl ?_); refine goesL_ (some 5) rfl rfl Tryd.func38 (by kernel_rfl) rfl #[.int .i64 a0_0] rfl jZ ?_; (with_reducible refine (hurdleref02_place.calls k a0_0 t223 _ A2.out).mono ?_); rintro e w6 ⟨rfl, hb⟩; refine ⟨_, rfl, ?_⟩; have n0_ := Aside0.mk (jB BK222 hb); have n1_ := Aside0.mk (zT (jH HB) hb); clear BK222; clear HB; have BK222 := n0_; have HB := n1_; clear n0_ n1_; (try clear hb); (try clear hb2); (try clear hk); (try clear hi)) | ((with_reducible refine gate_callee (f := 37) rfl ?_); refine goesL_ (some 6) rfl rfl Tryd.func37 (by kernel_rfl) rfl #[.int .i64 t223] rfl jZ ?_; (with_reducible refine (hurdleref02_branch.calls t223 t224 _ A3.out).mono ?_); rintro e w' ⟨rfl, ⟨nd, rfl⟩⟩; refine ⟨_, rfl, ?_⟩))
 go_ret
 exact ⟨jE, jH HB⟩
def hurdleref02_plain.f (a0 : Int) : Option (Bool) := if a0 ≥ 13 then (if a0 ≤ 24 then (some true) else (if a0 = 30 then (some true) else (some (decide (a0 ≥ 35))))) else (if a0 = 30 then (some true) else (some (decide (a0 ≥ 35))))
set_option maxHeartbeats 8000000 in
set_option maxRecDepth 100000 in
theorem hurdleref02_plain.calls (a0 : Int) (r : Bool) (w : World) (h : hurdleref02_plain.f a0 = some r) :
  Calls Tryd.prog 39 #[.int .i64 a0] w fun e w' => e = .returned (.bool r) ∧ Drawn0 w w' := by
 have H : (if a0 ≥ 13 then (if a0 ≤ 24 then (some true) else (if a0 = 30 then (some true) else (some (decide (a0 ≥ 35))))) else (if a0 = 30 then (some true) else (some (decide (a0 ≥ 35))))) = some r := h
 clear h
 by_cases c2 : a0 ≥ 13
 ·rw [if_pos c2] at H
  have c2b0 : decide (13 ≤ a0) = true := dT c2
  clear c2
  by_cases c3 : a0 ≤ 24
  ·rw [if_pos c3] at H
   have c3b0 : decide (a0 ≤ 24) = true := dT c3
   clear c3
   obtain rfl := Option.some.inj H
   go_enter Tryd.func39, Tryd.ntmps39
   go_wp2
   go_ret
   exact ⟨by first | rfl | (simp; done) | (simp [*]; done), by repeat (first | exact Drawn0.refl _ | apply Drawn0.step)⟩
  ·rw [if_neg c3] at H
   have c3b0 : decide (a0 ≤ 24) = false := dF c3
   clear c3
   by_cases c4 : a0 = 30
   ·rw [if_pos c4] at H
    have c4b0 : (a0 == 30) = true := bI.mpr c4
    have c4b1 : (a0 != 30) = false := nF.mpr c4
    clear c4
    obtain rfl := Option.some.inj H
    go_enter Tryd.func39, Tryd.ntmps39
    go_wp2
    go_ret
    exact ⟨by first | rfl | (simp; done) | (simp [*]; done), by repeat (first | exact Drawn0.refl _ | apply Drawn0.step)⟩
   ·rw [if_neg c4] at H
    have c4b0 : (a0 == 30) = false := bF.mpr c4
    have c4b1 : (a0 != 30) = true := nI.mpr c4
    obtain rfl := Option.some.inj H
    go_enter Tryd.func39, Tryd.ntmps39
    go_wp2
    go_ret
    exact ⟨by first | rfl | (simp; done) | (simp [*]; done), by repeat (first | exact Drawn0.refl _ | apply Drawn0.step)⟩
 ·rw [if_neg c2] at H
  have c2b0 : decide (13 ≤ a0) = false := dF c2
  clear c2
  by_cases c5 : a0 = 30
  ·rw [if_pos c5] at H
   have c5b0 : (a0 == 30) = true := bI.mpr c5
   have c5b1 : (a0 != 30) = false := nF.mpr c5
   clear c5
   obtain rfl := Option.some.inj H
   go_enter Tryd.func39, Tryd.ntmps39
   go_wp2
   go_ret
   exact ⟨by first | rfl | (simp; done) | (simp [*]; done), by repeat (first | exact Drawn0.refl _ | apply Drawn0.step)⟩
  ·rw [if_neg c5] at H
   have c5b0 : (a0 == 30) = false := bF.mpr c5
   have c5b1 : (a0 != 30) = true := nI.mpr c5
   obtain rfl := Option.some.inj H
   go_enter Tryd.func39, Tryd.ntmps39
   go_wp2
   go_ret
   exact ⟨by first | rfl | (simp; done) | (simp [*]; done), by repeat (first | exact Drawn0.refl _ | apply Drawn0.step)⟩
end Go.Proofs.YtnchbnnijboklaaDoor.M
