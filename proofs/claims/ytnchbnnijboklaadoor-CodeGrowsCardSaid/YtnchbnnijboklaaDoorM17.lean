/- By a program of this session: what Go functions of the seat compute, as Lean functions, each with a proof that the call of the Go function comes to that. -/
import Derived.Test.YtnchbnnijboklaaDoorM0
import Derived.Test.YtnchbnnijboklaaDoorM7
import Derived.Test.YtnchbnnijboklaaDoorM9
import Derived.Test.YtnchbnnijboklaaDoorM15
import Derived.Test.YtnchbnnijboklaaDoorM16
namespace Go.Proofs.YtnchbnnijboklaaDoor.M
open Go.RowKit Go.Proofs.YtnchbnnijboklaaDoorW.PrintWords Go.Proofs.YtnchbnnijboklaaDoorW.PrintLast Go.Proofs.YtnchbnnijboklaaDoorW.PrintMore
attribute [local go_sem] max2_int min2_int max_two min_two max_three min_three max_four min_four   -- for this text's walks alone
set_option linter.unusedVariables false
set_option linter.unusedSimpArgs false

/-! ### hurdlelaw12_CodeGrows: function 3 -/
mutual
def hurdlelaw12_CodeGrows.l0 : Nat → List (S30) → List (S33) → Int → Option (Bool)
  | 0, _, _, _ => none
  | k + 1, x0, x1, x5 => if x5 < (x1.length : Int) then (hurdlelaw12_CodeGrows.j1 k x0 x1 x5 (decide (x5 < 60))) else (hurdlelaw12_CodeGrows.j1 k x0 x1 x5 false)
def hurdlelaw12_CodeGrows.j1 : Nat → List (S30) → List (S33) → Int → Bool → Option (Bool)
  | 0, _, _, _, _ => none
  | k + 1, x0, x1, x5, x23 => if x23 = true then (if 0 ≤ x5 then (if x5 < (x1.length : Int) then ((hurdlelaw12_Do.f k x0 ((rd_T33 x1 x5).f0) ((rd_T33 x1 x5).f1.f0) ((rd_T33 x1 x5).f1.f1) ((rd_T33 x1 x5).f1.f2) ((rd_T33 x1 x5).f1.f3) ((rd_T33 x1 x5).f2) ((rd_T33 x1 x5).f3)).bind fun bt295 => ((hurdlelaw12_means.f k x0 ((rd_T33 x1 x5).f0) ((rd_T33 x1 x5).f1.f0) ((rd_T33 x1 x5).f1.f1) ((rd_T33 x1 x5).f1.f2) ((rd_T33 x1 x5).f1.f3) ((rd_T33 x1 x5).f2) ((rd_T33 x1 x5).f3)).bind fun bt301 => ((hurdleref03_Same.f k bt295.1 bt301.1).bind fun t306 => (if t306 = true then (if bt295.2.1 = bt301.2.1 then (if bt295.2.2 = bt301.2.2 then (hurdlelaw12_CodeGrows.l0 k bt295.1 x1 (wrap64 (x5 + 1))) else (none)) else (none)) else (none))))) else (none)) else (none)) else ((hurdlelaw12_knows.f k).bind fun t293 => (some t293))
end
def hurdlelaw12_CodeGrows.f (k : Nat) (l0 : List (S30)) (l1 : List (S33)) : Option (Bool) := if (l0.length : Int) > 1000 then ((hurdlelaw12_knows.f k).bind fun t292 => (some t292)) else (hurdlelaw12_CodeGrows.l0 k l0 l1 0)
theorem hurdlelaw12_CodeGrows.mono_l : ∀ k, (∀ y0 y1 y2, LeO (hurdlelaw12_CodeGrows.l0 k y0 y1 y2) (hurdlelaw12_CodeGrows.l0 (k + 1) y0 y1 y2)) ∧ (∀ y0 y1 y2 y3, LeO (hurdlelaw12_CodeGrows.j1 k y0 y1 y2 y3) (hurdlelaw12_CodeGrows.j1 (k + 1) y0 y1 y2 y3))
  | 0 => ⟨fun _ _ _ r h => by simp [hurdlelaw12_CodeGrows.l0] at h, fun _ _ _ _ r h => by simp [hurdlelaw12_CodeGrows.j1] at h⟩
  | k + 1 => by
    obtain ⟨ih0, ih1⟩ := hurdlelaw12_CodeGrows.mono_l k
    refine ⟨?_, ?_⟩
    · intro y0 y1 y2
      unfold hurdlelaw12_CodeGrows.l0
      repeat' first
      | (with_reducible exact ih0 _ _ _)
      | (with_reducible exact ih1 _ _ _ _)
      | (with_reducible exact hurdlelaw12_Do.mono _ _ _ _ _ _ _ _ _)
      | (with_reducible exact hurdlelaw12_knows.mono _)
      | (with_reducible exact hurdlelaw12_means.mono _ _ _ _ _ _ _ _ _)
      | (with_reducible exact hurdleref03_Same.mono _ _ _)
      | (with_reducible exact LeO.refl _)
      | (with_reducible exact LeO.none _)
      | (with_reducible refine LeO.ite ?_ ?_)
      | (with_reducible refine LeO.bind ?_ (fun _ => ?_))
      | exact ih0 _ _ _
      | exact ih1 _ _ _ _
      | exact hurdlelaw12_Do.mono _ _ _ _ _ _ _ _ _
      | exact hurdlelaw12_knows.mono _
      | exact hurdlelaw12_means.mono _ _ _ _ _ _ _ _ _
      | exact hurdleref03_Same.mono _ _ _
      | exact LeO.none _
      | refine LeO.ite ?_ ?_
      | refine LeO.bind ?_ (fun _ => ?_)
    · intro y0 y1 y2 y3
      unfold hurdlelaw12_CodeGrows.j1
      repeat' first
      | (with_reducible exact ih0 _ _ _)
      | (with_reducible exact ih1 _ _ _ _)
      | (with_reducible exact hurdlelaw12_Do.mono _ _ _ _ _ _ _ _ _)
      | (with_reducible exact hurdlelaw12_knows.mono _)
      | (with_reducible exact hurdlelaw12_means.mono _ _ _ _ _ _ _ _ _)
      | (with_reducible exact hurdleref03_Same.mono _ _ _)
      | (with_reducible exact LeO.refl _)
      | (with_reducible exact LeO.none _)
      | (with_reducible refine LeO.ite ?_ ?_)
      | (with_reducible refine LeO.bind ?_ (fun _ => ?_))
      | exact ih0 _ _ _
      | exact ih1 _ _ _ _
      | exact hurdlelaw12_Do.mono _ _ _ _ _ _ _ _ _
      | exact hurdlelaw12_knows.mono _
      | exact hurdlelaw12_means.mono _ _ _ _ _ _ _ _ _
      | exact hurdleref03_Same.mono _ _ _
      | exact LeO.none _
      | refine LeO.ite ?_ ?_
      | refine LeO.bind ?_ (fun _ => ?_)
theorem hurdlelaw12_CodeGrows.mono : ∀ a0 a1 k, LeO (hurdlelaw12_CodeGrows.f k a0 a1) (hurdlelaw12_CodeGrows.f (k + 1) a0 a1) := by
  intro a0 a1 k
  obtain ⟨ih0, ih1⟩ := hurdlelaw12_CodeGrows.mono_l k
  unfold hurdlelaw12_CodeGrows.f
  repeat' first
      | (with_reducible exact ih0 _ _ _)
      | (with_reducible exact ih1 _ _ _ _)
      | (with_reducible exact hurdlelaw12_Do.mono _ _ _ _ _ _ _ _ _)
      | (with_reducible exact hurdlelaw12_knows.mono _)
      | (with_reducible exact hurdlelaw12_means.mono _ _ _ _ _ _ _ _ _)
      | (with_reducible exact hurdleref03_Same.mono _ _ _)
      | (with_reducible exact LeO.refl _)
      | (with_reducible exact LeO.none _)
      | (with_reducible refine LeO.ite ?_ ?_)
      | (with_reducible refine LeO.bind ?_ (fun _ => ?_))
      | exact ih0 _ _ _
      | exact ih1 _ _ _ _
      | exact hurdlelaw12_Do.mono _ _ _ _ _ _ _ _ _
      | exact hurdlelaw12_knows.mono _
      | exact hurdlelaw12_means.mono _ _ _ _ _ _ _ _ _
      | exact hurdleref03_Same.mono _ _ _
      | exact LeO.none _
      | refine LeO.ite ?_ ?_
      | refine LeO.bind ?_ (fun _ => ?_)
set_option maxHeartbeats 8000000 in
set_option maxRecDepth 100000 in
theorem hurdlelaw12_CodeGrows.calls (k : Nat) (P0_ : Nat → Prop) (A0 : Option Addr) (c0 : Nat) (l0 : List (S30)) (A1 : Option Addr) (c1 : Nat) (l1 : List (S33)) (r : Bool) (w : World) (hs0 : Kd.V k30 30 w w.heap.size (fun k_ => P0_ k_) (.slice A0 l0.length c0) l0) (hr1 : Kd.C k33 w A1 l1.length l1) (hc1 : l1.length ≤ c1) (hG : Glob w) (h : hurdlelaw12_CodeGrows.f k l0 l1 = some r) :
    Calls Tryd.prog 3 #[.slice A0 l0.length c0, .slice A1 l1.length c1] w fun e w' => e = .returned (.bool r) ∧ Below w.heap.size w w' := by
  have hu33 := Tryd.underlying33
  have HG := Aside0.mk hG
  clear hG
  have HO0 := Aside0.mk (show Kd.V k30 30 w w.heap.size (fun k_ => (P0_ k_ ∨ w.heap.size ≤ k_)) (.slice A0 l0.length c0) l0 from Kd.V_mono hs0 (fun k_ hk => .inl hk))
  have HR1 := Aside0.mk hr1
  have HC1 := Aside0.mk hc1
  clear hr1 hc1
  have HB := Aside0.mk (Below.refl w.heap.size w)
  have H : (if (l0.length : Int) > 1000 then ((hurdlelaw12_knows.f k).bind fun t292 => (some t292)) else (hurdlelaw12_CodeGrows.l0 k l0 l1 0)) = some r := h
  clear h
  by_cases c3 : (l0.length : Int) > 1000
  · rw [if_pos c3] at H
    have c3b0 : decide (1000 < (l0.length : Int)) = true := decide_eq_true c3
    have c3b1 : decide (1000 < l0.length) = true := decide_eq_true (by omega)
    clear c3
    replace H := Option.bind_eq_some_iff.mp H
    obtain ⟨t292, A40, H⟩ := H
    replace H : (some t292) = some r := H
    have A4 := Aside0.mk A40
    clear A40
    obtain rfl := Option.some.inj H
    go_enter Tryd.func3, Tryd.ntmps3
    go_wp2_with (first | ((with_reducible refine gate_callee (f := 8) rfl ?_); refine goesL_ (some 15) rfl rfl Tryd.func8 (by kernel_rfl) rfl #[] rfl (by (try simp only [List.map_toArray, List.map_cons, List.map_nil]); first | done | rfl | (simp only [List.length_drop, List.length_take]; rfl)) ?_; (with_reducible refine (hurdlelaw12_knows.calls k  t292 _ ?side1 A4.out).mono ?_); (case side1 => exact Glob.below HG.out (by repeat (first | (with_reducible first | exact HB.out | apply below_alloc | apply pw_below_drewN | apply below_drew1) | exact HB.out))); rintro e w5 ⟨rfl, hb⟩; refine ⟨_, rfl, ?_⟩; have n0_ := Aside0.mk (Kd.V_below (by (with_reducible repeat (first | apply Kd.V_alloc | apply Kd.V_drewN | apply Kd.V_drew)); exact HO0.out) hb); have n1_ := Aside0.mk (below_step (by repeat (first | (with_reducible first | exact HB.out | apply below_alloc | apply pw_below_drewN | apply below_drew1) | exact HB.out)) hb); clear HO0; clear HB; have HO0 := n0_; have HB := n1_; clear n0_ n1_; (try clear hb); (try clear hb2); (try clear hk); (try clear hi)))
    go_ret
    exact ⟨by first | rfl | (simp [errW_none, errW_some] <;> rfl) | (simp [*, errW_none, errW_some] <;> rfl), by repeat (first | (with_reducible first | exact HB.out | apply below_alloc | apply pw_below_drewN | apply below_drew1) | exact HB.out)⟩
  · rw [if_neg c3] at H
    have c3b0 : decide (1000 < (l0.length : Int)) = false := decide_eq_false c3
    have c3b1 : decide (1000 < l0.length) = false := decide_eq_false (by omega)
    clear c3
    have H' := Aside0.mk H
    clear H
    go_enter Tryd.func3, Tryd.ntmps3
    go_wp2
    go_loopg [0, 5] k (fun kq v0 v5 w' => ∃ (x0_1 : List (S30)) (x5_1 : Int), v5 = .int .i64 x5_1 ∧ Aside0 (hurdlelaw12_CodeGrows.l0 kq x0_1 l1 x5_1 = some r) ∧ Aside0 (kq ≤ k) ∧ Aside0 (Kd.V k30 30 w' w.heap.size (fun k_ => (P0_ k_ ∨ w.heap.size ≤ k_)) v0 x0_1) ∧ Aside0 (Below w.heap.size w w'))
    case atStart => exact ⟨(l0), (0), (by first | rfl | (simp; done) | (simp [*]; done)), H', ⟨Nat.le_refl _⟩, ⟨by (with_reducible repeat (first | apply Kd.V_alloc | apply Kd.V_drewN | apply Kd.V_drew)); exact HO0.out⟩, ⟨by repeat (first | (with_reducible first | exact HB.out | apply below_alloc | apply pw_below_drewN | apply below_drew1) | exact HB.out)⟩⟩
    case round =>
      clear H'
      try clear c1
      try clear p2
      try clear c3
      try clear c3b0
      try clear c3b1
      obtain ⟨x0_1, x5_1, rfl, HA, HK1, HO_0, HB⟩ := hrel
      cases gk with
      | zero => exact absurd HA.out (by simp [hurdlelaw12_CodeGrows.l0])
      | succ k1 =>
        have H := HA.out
        clear HA
        simp only [hurdlelaw12_CodeGrows.l0] at H
        have HC6 := Aside0.mk H
        clear H
        go_upto_region 4 with (fail)
        go_cut [23] (fun v23 wc => ∃ (kq : Nat) (x23_5 : Bool), v23 = .bool x23_5 ∧ Aside0 (hurdlelaw12_CodeGrows.j1 kq x0_1 l1 x5_1 x23_5 = some r) ∧ Aside0 (kq ≤ k1) ∧ Aside0 (Kd.V k30 30 wc w.heap.size (fun k_ => (P0_ k_ ∨ w.heap.size ≤ k_)) u0 x0_1) ∧ Aside0 (Below w.heap.size w wc))
        case first =>
          have H := HC6.out
          clear HC6
          by_cases c7 : x5_1 < (l1.length : Int)
          · rw [if_pos c7] at H
            have c7b0 : decide (x5_1 < (l1.length : Int)) = true := decide_eq_true c7
            clear c7
            (first | rw [c7b0] | (simp only [i64_w, i32_w]; rw [c7b0]) | skip)
            have H' := Aside0.mk H
            clear H
            go_wp2
            go_meet
            case rel => exact ⟨_, (decide (x5_1 < 60)), (by first | rfl | (simp; done) | (simp [*]; done)), H', ⟨by have := HK1.out; first | omega | exact Nat.le_refl _⟩, ⟨by (with_reducible repeat (first | apply Kd.V_alloc | apply Kd.V_drewN | apply Kd.V_drew)); exact HO_0.out⟩, ⟨by repeat (first | (with_reducible first | exact HB.out | apply below_alloc | apply pw_below_drewN | apply below_drew1) | exact HB.out)⟩⟩
          · rw [if_neg c7] at H
            have c7b0 : decide (x5_1 < (l1.length : Int)) = false := decide_eq_false c7
            clear c7
            (first | rw [c7b0] | (simp only [i64_w, i32_w]; rw [c7b0]) | skip)
            have H' := Aside0.mk H
            clear H
            go_wp2
            go_meet
            case rel => exact ⟨_, (false), (by first | rfl | (simp; done) | (simp [*]; done)), H', ⟨by have := HK1.out; first | omega | exact Nat.le_refl _⟩, ⟨by (with_reducible repeat (first | apply Kd.V_alloc | apply Kd.V_drewN | apply Kd.V_drew)); exact HO_0.out⟩, ⟨by repeat (first | (with_reducible first | exact HB.out | apply below_alloc | apply pw_below_drewN | apply below_drew1) | exact HB.out)⟩⟩
        case rest =>
          clear HC6
          try clear c1
          try clear p2
          try clear c3
          try clear c3b0
          try clear c3b1
          try clear c7
          try clear c7b0
          try clear p2
          obtain ⟨kq, x23_5, rfl, HA, HJ5, HO_0, HB⟩ := hcut
          cases kq with
          | zero => exact absurd HA.out (by simp [hurdlelaw12_CodeGrows.j1])
          | succ kj5 =>
            have H := HA.out
            clear HA
            simp only [hurdlelaw12_CodeGrows.j1] at H
            by_cases c8 : x23_5 = true
            · subst c8
              have H1 : (if 0 ≤ x5_1 then (if x5_1 < (l1.length : Int) then ((hurdlelaw12_Do.f kj5 x0_1 ((rd_T33 l1 x5_1).f0) ((rd_T33 l1 x5_1).f1.f0) ((rd_T33 l1 x5_1).f1.f1) ((rd_T33 l1 x5_1).f1.f2) ((rd_T33 l1 x5_1).f1.f3) ((rd_T33 l1 x5_1).f2) ((rd_T33 l1 x5_1).f3)).bind fun bt295 => ((hurdlelaw12_means.f kj5 x0_1 ((rd_T33 l1 x5_1).f0) ((rd_T33 l1 x5_1).f1.f0) ((rd_T33 l1 x5_1).f1.f1) ((rd_T33 l1 x5_1).f1.f2) ((rd_T33 l1 x5_1).f1.f3) ((rd_T33 l1 x5_1).f2) ((rd_T33 l1 x5_1).f3)).bind fun bt301 => ((hurdleref03_Same.f kj5 bt295.1 bt301.1).bind fun t306 => (if t306 = true then (if bt295.2.1 = bt301.2.1 then (if bt295.2.2 = bt301.2.2 then (hurdlelaw12_CodeGrows.l0 kj5 bt295.1 l1 (wrap64 (x5_1 + 1))) else (none)) else (none)) else (none))))) else (none)) else (none)) = some r := by rw [if_pos rfl] at H; exact H
              clear H
              have H := H1
              clear H1
              by_cases c9 : 0 ≤ x5_1
              · rw [if_pos c9] at H
                have c9b0 : decide (0 ≤ x5_1) = true := decide_eq_true c9
                clear c9
                by_cases c10 : x5_1 < (l1.length : Int)
                · rw [if_pos c10] at H
                  have c10b0 : decide (x5_1 < (l1.length : Int)) = true := decide_eq_true c10
                  clear c10
                  replace H := Option.bind_eq_some_iff.mp H
                  obtain ⟨⟨t295, t298, t299⟩, A110, H⟩ := H
                  replace H : ((hurdlelaw12_means.f kj5 x0_1 ((rd_T33 l1 x5_1).f0) ((rd_T33 l1 x5_1).f1.f0) ((rd_T33 l1 x5_1).f1.f1) ((rd_T33 l1 x5_1).f1.f2) ((rd_T33 l1 x5_1).f1.f3) ((rd_T33 l1 x5_1).f2) ((rd_T33 l1 x5_1).f3)).bind fun bt301 => ((hurdleref03_Same.f kj5 t295 bt301.1).bind fun t306 => (if t306 = true then (if t298 = bt301.2.1 then (if t299 = bt301.2.2 then (hurdlelaw12_CodeGrows.l0 kj5 t295 l1 (wrap64 (x5_1 + 1))) else (none)) else (none)) else (none)))) = some r := H
                  have A11 := Aside0.mk A110
                  clear A110
                  replace H := Option.bind_eq_some_iff.mp H
                  obtain ⟨⟨t301, t304, t305⟩, A120, H⟩ := H
                  replace H : ((hurdleref03_Same.f kj5 t295 t301).bind fun t306 => (if t306 = true then (if t298 = t304 then (if t299 = t305 then (hurdlelaw12_CodeGrows.l0 kj5 t295 l1 (wrap64 (x5_1 + 1))) else (none)) else (none)) else (none))) = some r := H
                  have A12 := Aside0.mk A120
                  clear A120
                  replace H := Option.bind_eq_some_iff.mp H
                  obtain ⟨t306, A130, H⟩ := H
                  replace H : (if t306 = true then (if t298 = t304 then (if t299 = t305 then (hurdlelaw12_CodeGrows.l0 kj5 t295 l1 (wrap64 (x5_1 + 1))) else (none)) else (none)) else (none)) = some r := H
                  have A13 := Aside0.mk A130
                  clear A130
                  by_cases c14 : t306 = true
                  · subst c14
                    have H1 : (if t298 = t304 then (if t299 = t305 then (hurdlelaw12_CodeGrows.l0 kj5 t295 l1 (wrap64 (x5_1 + 1))) else (none)) else (none)) = some r := by rw [if_pos rfl] at H; exact H
                    clear H
                    have H := H1
                    clear H1
                    by_cases c15 : t298 = t304
                    · rw [if_pos c15] at H
                      have c15b0 : (t298 == t304) = true := beq_iff_eq.mpr c15
                      have c15b1 : (t298 != t304) = false := bne_eq_false_iff_eq.mpr c15
                      clear c15
                      by_cases c16 : t299 = t305
                      · rw [if_pos c16] at H
                        have c16b0 : (t299 == t305) = true := beq_iff_eq.mpr c16
                        have c16b1 : (t299 != t305) = false := bne_eq_false_iff_eq.mpr c16
                        clear c16
                        have H' := Aside0.mk H
                        clear H
                        have p294 : 0 ≤ (x5_1 : Int) := of_decide_eq_true (by first | (with_reducible assumption) | assumption)
                        have q294 : x5_1 < (l1.length : Int) := of_decide_eq_true (by first | (with_reducible assumption) | assumption)
                        obtain ⟨ad294, e294, hx294_0, hx294_1, hx294_2, hx294_3, hx294_4, hx294_5, hx294_6⟩ := at_T33 HR1.out x5_1 p294 q294
                        cases e294
                        replace hx294_0 := (HB.out.cell (World.block_lt_of_cell? w _ hx294_0)).trans hx294_0
                        replace hx294_1 := (HB.out.cell (World.block_lt_of_cell? w _ hx294_1)).trans hx294_1
                        replace hx294_2 := (HB.out.cell (World.block_lt_of_cell? w _ hx294_2)).trans hx294_2
                        replace hx294_3 := (HB.out.cell (World.block_lt_of_cell? w _ hx294_3)).trans hx294_3
                        replace hx294_4 := (HB.out.cell (World.block_lt_of_cell? w _ hx294_4)).trans hx294_4
                        replace hx294_5 := (HB.out.cell (World.block_lt_of_cell? w _ hx294_5)).trans hx294_5
                        replace hx294_6 := (HB.out.cell (World.block_lt_of_cell? w _ hx294_6)).trans hx294_6
                        replace p294 := eq_true p294
                        replace q294 := eq_true q294
                        obtain ⟨Ao17, co17, eo17⟩ := Kd.V_slice HO_0.out
                        subst eo17
                        go_wp2_with (first | ((with_reducible refine gate_callee (f := 9) rfl ?_); refine goesL_ (some 32) rfl rfl Tryd.func9 (by kernel_rfl) rfl #[.slice Ao17 x0_1.length co17, .agg #[.int .i64 ((rd_T33 l1 x5_1).f0), .int .i64 ((rd_T33 l1 x5_1).f1.f0), .int .i64 ((rd_T33 l1 x5_1).f1.f1), .int .i64 ((rd_T33 l1 x5_1).f1.f2), .int .u32 ((rd_T33 l1 x5_1).f1.f3), .int .u16 ((rd_T33 l1 x5_1).f2), .int .u16 ((rd_T33 l1 x5_1).f3)]] rfl (by (try simp only [List.map_toArray, List.map_cons, List.map_nil]); first | done | rfl | (simp only [List.length_drop, List.length_take]; rfl)) ?_; (with_reducible refine (hurdlelaw12_Do.calls kj5 (fun k_ => (P0_ k_ ∨ w.heap.size ≤ k_)) _ _ x0_1 ((rd_T33 l1 x5_1).f0) ((rd_T33 l1 x5_1).f1.f0) ((rd_T33 l1 x5_1).f1.f1) ((rd_T33 l1 x5_1).f1.f2) ((rd_T33 l1 x5_1).f1.f3) ((rd_T33 l1 x5_1).f2) ((rd_T33 l1 x5_1).f3) t295 t298 t299 _ ?side1 ?side2 A11.out).mono ?_); (case side1 => exact HO_0.out); (case side2 => exact Glob.below HG.out (by repeat (first | (with_reducible first | exact HB.out | apply below_alloc | apply pw_below_drewN | apply below_drew1) | exact HB.out))); rintro e w18 ⟨v296, rfl, ho0, hb⟩; refine ⟨_, rfl, ?_⟩; have n0_ := Aside0.mk (Kd.V_below (by (with_reducible repeat (first | apply Kd.V_alloc | apply Kd.V_drewN | apply Kd.V_drew)); exact HO_0.out) hb); have n1_ := Aside0.mk (Kd.V_lower (Kd.V_mono (ok' := fun k_ => (P0_ k_ ∨ w.heap.size ≤ k_)) ho0 (fun k_ hk_ => Or.elim hk_ (fun hs_ => hs_) (fun hn_ => (.inr (Nat.le_trans (below_size (by repeat (first | (with_reducible first | exact HB.out | apply below_alloc | apply pw_below_drewN | apply below_drew1) | exact HB.out))) hn_))))) (below_size (by repeat (first | (with_reducible first | exact HB.out | apply below_alloc | apply pw_below_drewN | apply below_drew1) | exact HB.out)))); have n2_ := Aside0.mk (below_step (by repeat (first | (with_reducible first | exact HB.out | apply below_alloc | apply pw_below_drewN | apply below_drew1) | exact HB.out)) hb); clear HO_0; clear HB; have HO_0 := n0_; have HO297 := n1_; have HB := n2_; clear n0_ n1_ n2_; (try clear hb); (try clear hb2); (try clear hk); (try clear hi); (try clear ho0); have p300 : 0 ≤ (x5_1 : Int) := of_decide_eq_true (by first | (with_reducible assumption) | assumption); have q300 : x5_1 < (l1.length : Int) := of_decide_eq_true (by first | (with_reducible assumption) | assumption); obtain ⟨ad300, e300, hx300_0, hx300_1, hx300_2, hx300_3, hx300_4, hx300_5, hx300_6⟩ := at_T33 HR1.out x5_1 p300 q300; obtain rfl : ad294 = ad300 := (by injection e300); replace hx300_0 := (HB.out.cell (World.block_lt_of_cell? w _ hx300_0)).trans hx300_0; replace hx300_1 := (HB.out.cell (World.block_lt_of_cell? w _ hx300_1)).trans hx300_1; replace hx300_2 := (HB.out.cell (World.block_lt_of_cell? w _ hx300_2)).trans hx300_2; replace hx300_3 := (HB.out.cell (World.block_lt_of_cell? w _ hx300_3)).trans hx300_3; replace hx300_4 := (HB.out.cell (World.block_lt_of_cell? w _ hx300_4)).trans hx300_4; replace hx300_5 := (HB.out.cell (World.block_lt_of_cell? w _ hx300_5)).trans hx300_5; replace hx300_6 := (HB.out.cell (World.block_lt_of_cell? w _ hx300_6)).trans hx300_6; replace p300 := eq_true p300; replace q300 := eq_true q300) | ((with_reducible refine gate_callee (f := 10) rfl ?_); refine goesL_ (some 42) rfl rfl Tryd.func10 (by kernel_rfl) rfl #[.slice Ao17 x0_1.length co17, .agg #[.int .i64 ((rd_T33 l1 x5_1).f0), .int .i64 ((rd_T33 l1 x5_1).f1.f0), .int .i64 ((rd_T33 l1 x5_1).f1.f1), .int .i64 ((rd_T33 l1 x5_1).f1.f2), .int .u32 ((rd_T33 l1 x5_1).f1.f3), .int .u16 ((rd_T33 l1 x5_1).f2), .int .u16 ((rd_T33 l1 x5_1).f3)]] rfl (by (try simp only [List.map_toArray, List.map_cons, List.map_nil]); first | done | rfl | (simp only [List.length_drop, List.length_take]; rfl)) ?_; (with_reducible refine (hurdlelaw12_means.calls kj5 (fun k_ => (P0_ k_ ∨ w.heap.size ≤ k_)) _ _ x0_1 ((rd_T33 l1 x5_1).f0) ((rd_T33 l1 x5_1).f1.f0) ((rd_T33 l1 x5_1).f1.f1) ((rd_T33 l1 x5_1).f1.f2) ((rd_T33 l1 x5_1).f1.f3) ((rd_T33 l1 x5_1).f2) ((rd_T33 l1 x5_1).f3) t301 t304 t305 _ ?side1 A12.out).mono ?_); (case side1 => exact HO_0.out); rintro e w19 ⟨v302, rfl, ho0, hb⟩; refine ⟨_, rfl, ?_⟩; have n0_ := Aside0.mk (Kd.V_below (by (with_reducible repeat (first | apply Kd.V_alloc | apply Kd.V_drewN | apply Kd.V_drew)); exact HO_0.out) hb); have n1_ := Aside0.mk (Kd.V_below (by (with_reducible repeat (first | apply Kd.V_alloc | apply Kd.V_drewN | apply Kd.V_drew)); exact HO297.out) hb); have n2_ := Aside0.mk (Kd.V_lower (Kd.V_mono (ok' := fun k_ => (P0_ k_ ∨ w.heap.size ≤ k_)) ho0 (fun k_ hk_ => Or.elim hk_ (fun hs_ => hs_) (fun hn_ => (.inr (Nat.le_trans (below_size (by repeat (first | (with_reducible first | exact HB.out | apply below_alloc | apply pw_below_drewN | apply below_drew1) | exact HB.out))) hn_))))) (below_size (by repeat (first | (with_reducible first | exact HB.out | apply below_alloc | apply pw_below_drewN | apply below_drew1) | exact HB.out)))); have n3_ := Aside0.mk (below_step (by repeat (first | (with_reducible first | exact HB.out | apply below_alloc | apply pw_below_drewN | apply below_drew1) | exact HB.out)) hb); clear HO_0; clear HO297; clear HB; have HO_0 := n0_; have HO297 := n1_; have HO303 := n2_; have HB := n3_; clear n0_ n1_ n2_ n3_; (try clear hb); (try clear hb2); (try clear hk); (try clear hi); (try clear ho0); obtain ⟨Ao20, co20, eo20⟩ := Kd.V_slice HO297.out; subst eo20; obtain ⟨Ao21, co21, eo21⟩ := Kd.V_slice HO303.out; subst eo21) | ((with_reducible refine gate_callee (f := 11) rfl ?_); refine goesL_ (some 48) rfl rfl Tryd.func11 (by kernel_rfl) rfl #[.slice Ao20 t295.length co20, .slice Ao21 t301.length co21] rfl (by (try simp only [List.map_toArray, List.map_cons, List.map_nil]); first | done | rfl | (simp only [List.length_drop, List.length_take]; rfl)) ?_; (with_reducible refine (hurdleref03_Same.calls kj5 _ _ t295 _ _ t301 true _ ?side1 ?side2 ?side3 ?side4 A13.out).mono ?_); (case side1 => repeat (first | exact (Kd.V_reads' HO297.out).2.2 | (with_reducible refine Kd.C_alloc ?_ _) | (with_reducible refine Kd.C_drewN ?_ _) | (with_reducible refine Kd.C_drew ?_))); (case side2 => exact (Kd.V_reads' HO297.out).2.1); (case side3 => repeat (first | exact (Kd.V_reads' HO303.out).2.2 | (with_reducible refine Kd.C_alloc ?_ _) | (with_reducible refine Kd.C_drewN ?_ _) | (with_reducible refine Kd.C_drew ?_))); (case side4 => exact (Kd.V_reads' HO303.out).2.1); rintro e w' ⟨rfl, ⟨nd, rfl⟩⟩; refine ⟨_, rfl, ?_⟩))
                        go_roundg kj5
                        case measure => have := HK1.out; have := HJ5.out; omega
                        case rel => exact ⟨(t295), (wrap64 (x5_1 + 1)), (by first | rfl | (simp; done) | (simp [*]; done)), H', ⟨by have := HK1.out; have := HJ5.out; omega⟩, ⟨by (with_reducible repeat (first | apply Kd.V_alloc | apply Kd.V_drewN | apply Kd.V_drew)); exact HO297.out⟩, ⟨by repeat (first | (with_reducible first | exact HB.out | apply below_alloc | apply pw_below_drewN | apply below_drew1) | exact HB.out)⟩⟩
                      · rw [if_neg c16] at H
                        exact absurd H (by simp)
                    · rw [if_neg c15] at H
                      exact absurd H (by simp)
                  · replace c14 := Bool.eq_false_iff.mpr c14
                    subst c14
                    have H1 : (none) = some r := by rw [if_neg (show ¬ (false = true) by decide)] at H; exact H
                    clear H
                    have H := H1
                    clear H1
                    exact absurd H (by simp)
                · rw [if_neg c10] at H
                  exact absurd H (by simp)
              · rw [if_neg c9] at H
                exact absurd H (by simp)
            · replace c8 := Bool.eq_false_iff.mpr c8
              subst c8
              have H1 : ((hurdlelaw12_knows.f kj5).bind fun t293 => (some t293)) = some r := by rw [if_neg (show ¬ (false = true) by decide)] at H; exact H
              clear H
              have H := H1
              clear H1
              replace H := Option.bind_eq_some_iff.mp H
              obtain ⟨t293, A220, H⟩ := H
              replace H : (some t293) = some r := H
              have A22 := Aside0.mk A220
              clear A220
              obtain rfl := Option.some.inj H
              go_wp2_with (first | ((with_reducible refine gate_callee (f := 8) rfl ?_); refine goesL_ (some 61) rfl rfl Tryd.func8 (by kernel_rfl) rfl #[] rfl (by (try simp only [List.map_toArray, List.map_cons, List.map_nil]); first | done | rfl | (simp only [List.length_drop, List.length_take]; rfl)) ?_; (with_reducible refine (hurdlelaw12_knows.calls kj5  t293 _ ?side1 A22.out).mono ?_); (case side1 => exact Glob.below HG.out (by repeat (first | (with_reducible first | exact HB.out | apply below_alloc | apply pw_below_drewN | apply below_drew1) | exact HB.out))); rintro e w23 ⟨rfl, hb⟩; refine ⟨_, rfl, ?_⟩; have n0_ := Aside0.mk (Kd.V_below (by (with_reducible repeat (first | apply Kd.V_alloc | apply Kd.V_drewN | apply Kd.V_drew)); exact HO_0.out) hb); have n1_ := Aside0.mk (below_step (by repeat (first | (with_reducible first | exact HB.out | apply below_alloc | apply pw_below_drewN | apply below_drew1) | exact HB.out)) hb); clear HO_0; clear HB; have HO_0 := n0_; have HB := n1_; clear n0_ n1_; (try clear hb); (try clear hb2); (try clear hk); (try clear hi)))
              go_ret
              exact ⟨by first | rfl | (simp [errW_none, errW_some] <;> rfl) | (simp [*, errW_none, errW_some] <;> rfl), by repeat (first | (with_reducible first | exact HB.out | apply below_alloc | apply pw_below_drewN | apply below_drew1) | exact HB.out)⟩

end Go.Proofs.YtnchbnnijboklaaDoor.M
