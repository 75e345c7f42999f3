/- By a program of this session: what Go functions of the seat compute, as Lean functions, each with a proof that the call of the Go function comes to that. -/
import Derived.Test.YtnchbnnijboklaaDoorM0
import Derived.Test.YtnchbnnijboklaaDoorM7
import Derived.Test.YtnchbnnijboklaaDoorM9
import Derived.Test.YtnchbnnijboklaaDoorM16
namespace Go.Proofs.YtnchbnnijboklaaDoor.M
open Go.RowKit Go.Proofs.YtnchbnnijboklaaDoorW.PrintWords Go.Proofs.YtnchbnnijboklaaDoorW.PrintLast Go.Proofs.YtnchbnnijboklaaDoorW.PrintMore
attribute [local go_sem] max2_int min2_int max_two min_two max_three min_three max_four min_four   -- for this text's walks alone
set_option linter.unusedVariables false
set_option linter.unusedSimpArgs false

/-! ### hurdlelaw12_CodeKeeps: function 5 -/
mutual
def hurdlelaw12_CodeKeeps.j1 : Nat → List (S30) → List (S30) → Option (Bool)
  | 0, _, _ => none
  | k + 1, x0, x5 => if (x5.length : Int) < (x0.length : Int) then (none) else (if 0 ≤ (wrap64 ((x5.length : Int) - (x0.length : Int))) then (if (wrap64 ((x5.length : Int) - (x0.length : Int))) ≤ (x5.length : Int) then ((hurdleref03_Same.f k (x5.drop ((wrap64 ((x5.length : Int) - (x0.length : Int))) : Int).toNat) x0).bind fun t344 => (if t344 = true then ((hurdlelaw12_knows.f k).bind fun t345 => (some t345)) else (none))) else (none)) else (none))
def hurdlelaw12_CodeKeeps.l0 : Nat → List (S30) → List (S33) → List (S30) → Int → Option (Bool)
  | 0, _, _, _, _ => none
  | k + 1, x0, x1, x5, x6 => if x6 < (x1.length : Int) then (if x6 < 60 then (if 0 ≤ x6 then ((hurdlelaw12_Do.f k x5 ((rd_T33 x1 x6).f0) ((rd_T33 x1 x6).f1.f0) ((rd_T33 x1 x6).f1.f1) ((rd_T33 x1 x6).f1.f2) ((rd_T33 x1 x6).f1.f3) ((rd_T33 x1 x6).f2) ((rd_T33 x1 x6).f3)).bind fun bt334 => (hurdlelaw12_CodeKeeps.l0 k x0 x1 bt334.1 (wrap64 (x6 + 1)))) else (none)) else (hurdlelaw12_CodeKeeps.j1 k x0 x5)) else (hurdlelaw12_CodeKeeps.j1 k x0 x5)
end
def hurdlelaw12_CodeKeeps.f (k : Nat) (l0 : List (S30)) (l1 : List (S33)) : Option (Bool) := if (l0.length : Int) > 1000 then ((hurdlelaw12_knows.f k).bind fun t332 => (some t332)) else (hurdlelaw12_CodeKeeps.l0 k l0 l1 l0 0)
theorem hurdlelaw12_CodeKeeps.mono_l : ∀ k, (∀ y0 y1, LeO (hurdlelaw12_CodeKeeps.j1 k y0 y1) (hurdlelaw12_CodeKeeps.j1 (k + 1) y0 y1)) ∧ (∀ y0 y1 y2 y3, LeO (hurdlelaw12_CodeKeeps.l0 k y0 y1 y2 y3) (hurdlelaw12_CodeKeeps.l0 (k + 1) y0 y1 y2 y3))
  | 0 => ⟨fun _ _ r h => by simp [hurdlelaw12_CodeKeeps.j1] at h, fun _ _ _ _ r h => by simp [hurdlelaw12_CodeKeeps.l0] at h⟩
  | k + 1 => by
    obtain ⟨ih0, ih1⟩ := hurdlelaw12_CodeKeeps.mono_l k
    refine ⟨?_, ?_⟩
    · intro y0 y1
      unfold hurdlelaw12_CodeKeeps.j1
      repeat' first
      | (with_reducible exact ih0 _ _)
      | (with_reducible exact ih1 _ _ _ _)
      | (with_reducible exact hurdlelaw12_Do.mono _ _ _ _ _ _ _ _ _)
      | (with_reducible exact hurdlelaw12_knows.mono _)
      | (with_reducible exact hurdleref03_Same.mono _ _ _)
      | (with_reducible exact LeO.refl _)
      | (with_reducible exact LeO.none _)
      | (with_reducible refine LeO.ite ?_ ?_)
      | (with_reducible refine LeO.bind ?_ (fun _ => ?_))
      | exact ih0 _ _
      | exact ih1 _ _ _ _
      | exact hurdlelaw12_Do.mono _ _ _ _ _ _ _ _ _
      | exact hurdlelaw12_knows.mono _
      | exact hurdleref03_Same.mono _ _ _
      | exact LeO.none _
      | refine LeO.ite ?_ ?_
      | refine LeO.bind ?_ (fun _ => ?_)
    · intro y0 y1 y2 y3
      unfold hurdlelaw12_CodeKeeps.l0
      repeat' first
      | (with_reducible exact ih0 _ _)
      | (with_reducible exact ih1 _ _ _ _)
      | (with_reducible exact hurdlelaw12_Do.mono _ _ _ _ _ _ _ _ _)
      | (with_reducible exact hurdlelaw12_knows.mono _)
      | (with_reducible exact hurdleref03_Same.mono _ _ _)
      | (with_reducible exact LeO.refl _)
      | (with_reducible exact LeO.none _)
      | (with_reducible refine LeO.ite ?_ ?_)
      | (with_reducible refine LeO.bind ?_ (fun _ => ?_))
      | exact ih0 _ _
      | exact ih1 _ _ _ _
      | exact hurdlelaw12_Do.mono _ _ _ _ _ _ _ _ _
      | exact hurdlelaw12_knows.mono _
      | exact hurdleref03_Same.mono _ _ _
      | exact LeO.none _
      | refine LeO.ite ?_ ?_
      | refine LeO.bind ?_ (fun _ => ?_)
theorem hurdlelaw12_CodeKeeps.mono : ∀ a0 a1 k, LeO (hurdlelaw12_CodeKeeps.f k a0 a1) (hurdlelaw12_CodeKeeps.f (k + 1) a0 a1) := by
  intro a0 a1 k
  obtain ⟨ih0, ih1⟩ := hurdlelaw12_CodeKeeps.mono_l k
  unfold hurdlelaw12_CodeKeeps.f
  repeat' first
      | (with_reducible exact ih0 _ _)
      | (with_reducible exact ih1 _ _ _ _)
      | (with_reducible exact hurdlelaw12_Do.mono _ _ _ _ _ _ _ _ _)
      | (with_reducible exact hurdlelaw12_knows.mono _)
      | (with_reducible exact hurdleref03_Same.mono _ _ _)
      | (with_reducible exact LeO.refl _)
      | (with_reducible exact LeO.none _)
      | (with_reducible refine LeO.ite ?_ ?_)
      | (with_reducible refine LeO.bind ?_ (fun _ => ?_))
      | exact ih0 _ _
      | exact ih1 _ _ _ _
      | exact hurdlelaw12_Do.mono _ _ _ _ _ _ _ _ _
      | exact hurdlelaw12_knows.mono _
      | exact hurdleref03_Same.mono _ _ _
      | exact LeO.none _
      | refine LeO.ite ?_ ?_
      | refine LeO.bind ?_ (fun _ => ?_)
set_option maxHeartbeats 8000000 in
set_option maxRecDepth 100000 in
theorem hurdlelaw12_CodeKeeps.calls (k : Nat) (P0_ : Nat → Prop) (A0 : Option Addr) (c0 : Nat) (l0 : List (S30)) (A1 : Option Addr) (c1 : Nat) (l1 : List (S33)) (r : Bool) (w : World) (hs0 : Kd.V k30 30 w w.heap.size (fun k_ => P0_ k_) (.slice A0 l0.length c0) l0) (hr1 : Kd.C k33 w A1 l1.length l1) (hc1 : l1.length ≤ c1) (hG : Glob w) (h : hurdlelaw12_CodeKeeps.f k l0 l1 = some r) :
    Calls Tryd.prog 5 #[.slice A0 l0.length c0, .slice A1 l1.length c1] w fun e w' => e = .returned (.bool r) ∧ Below w.heap.size w w' := by
  have hu33 := Tryd.underlying33
  have HG := Aside0.mk hG
  clear hG
  have HO0 := Aside0.mk (show Kd.V k30 30 w w.heap.size (fun k_ => (P0_ k_ ∨ w.heap.size ≤ k_)) (.slice A0 l0.length c0) l0 from Kd.V_mono hs0 (fun k_ hk => .inl hk))
  have HR1 := Aside0.mk hr1
  have HC1 := Aside0.mk hc1
  clear hr1 hc1
  have HB := Aside0.mk (Below.refl w.heap.size w)
  have H : (if (l0.length : Int) > 1000 then ((hurdlelaw12_knows.f k).bind fun t332 => (some t332)) else (hurdlelaw12_CodeKeeps.l0 k l0 l1 l0 0)) = some r := h
  clear h
  by_cases c3 : (l0.length : Int) > 1000
  · rw [if_pos c3] at H
    have c3b0 : decide (1000 < (l0.length : Int)) = true := decide_eq_true c3
    have c3b1 : decide (1000 < l0.length) = true := decide_eq_true (by omega)
    clear c3
    replace H := Option.bind_eq_some_iff.mp H
    obtain ⟨t332, A40, H⟩ := H
    replace H : (some t332) = some r := H
    have A4 := Aside0.mk A40
    clear A40
    obtain rfl := Option.some.inj H
    go_enter Tryd.func5, Tryd.ntmps5
    go_wp2_with (first | ((with_reducible refine gate_callee (f := 8) rfl ?_); refine goesL_ (some 13) rfl rfl Tryd.func8 (by kernel_rfl) rfl #[] rfl (by (try simp only [List.map_toArray, List.map_cons, List.map_nil]); first | done | rfl | (simp only [List.length_drop, List.length_take]; rfl)) ?_; (with_reducible refine (hurdlelaw12_knows.calls k  t332 _ ?side1 A4.out).mono ?_); (case side1 => exact Glob.below HG.out (by repeat (first | (with_reducible first | exact HB.out | apply below_alloc | apply pw_below_drewN | apply below_drew1) | exact HB.out))); rintro e w5 ⟨rfl, hb⟩; refine ⟨_, rfl, ?_⟩; have n0_ := Aside0.mk (Kd.V_below (by (with_reducible repeat (first | apply Kd.V_alloc | apply Kd.V_drewN | apply Kd.V_drew)); exact HO0.out) hb); have n1_ := Aside0.mk (below_step (by repeat (first | (with_reducible first | exact HB.out | apply below_alloc | apply pw_below_drewN | apply below_drew1) | exact HB.out)) hb); clear HO0; clear HB; have HO0 := n0_; have HB := n1_; clear n0_ n1_; (try clear hb); (try clear hb2); (try clear hk); (try clear hi)))
    go_ret
    exact ⟨by first | rfl | (simp [errW_none, errW_some] <;> rfl) | (simp [*, errW_none, errW_some] <;> rfl), by repeat (first | (with_reducible first | exact HB.out | apply below_alloc | apply pw_below_drewN | apply below_drew1) | exact HB.out)⟩
  · rw [if_neg c3] at H
    have c3b0 : decide (1000 < (l0.length : Int)) = false := decide_eq_false c3
    have c3b1 : decide (1000 < l0.length) = false := decide_eq_false (by omega)
    clear c3
    have HC6 := Aside0.mk H
    clear H
    go_enter Tryd.func5, Tryd.ntmps5
    go_upto_block 0 with (fail)
    go_cut [5] (fun v5 wc => ∃ (kq : Nat) (x5_5 : List (S30)), Aside0 (hurdlelaw12_CodeKeeps.j1 kq l0 x5_5 = some r) ∧ Aside0 (kq ≤ k) ∧ Aside0 (Kd.V k30 30 wc w.heap.size (fun k_ => (P0_ k_ ∨ w.heap.size ≤ k_)) (.slice A0 l0.length c0) l0) ∧ Aside0 (Kd.V k30 30 wc w.heap.size (fun k_ => (P0_ k_ ∨ w.heap.size ≤ k_)) v5 x5_5) ∧ Aside0 (Below w.heap.size w wc))
    case first =>
      have H := HC6.out
      clear HC6
      have H' := Aside0.mk H
      clear H
      go_wp2
      go_loopg [5, 6] k (fun kq v5 v6 w' => ∃ (x5_1 : List (S30)) (x6_1 : Int), v6 = .int .i64 x6_1 ∧ Aside0 (hurdlelaw12_CodeKeeps.l0 kq l0 l1 x5_1 x6_1 = some r) ∧ Aside0 (kq ≤ k) ∧ Aside0 (Kd.V k30 30 w' w.heap.size (fun k_ => (P0_ k_ ∨ w.heap.size ≤ k_)) (.slice A0 l0.length c0) l0) ∧ Aside0 (Kd.V k30 30 w' w.heap.size (fun k_ => (P0_ k_ ∨ w.heap.size ≤ k_)) v5 x5_1) ∧ Aside0 (Below w.heap.size w w'))
      case atStart => exact ⟨(l0), (0), (by first | rfl | (simp; done) | (simp [*]; done)), H', ⟨Nat.le_refl _⟩, ⟨by (with_reducible repeat (first | apply Kd.V_alloc | apply Kd.V_drewN | apply Kd.V_drew)); exact HO0.out⟩, ⟨by (with_reducible repeat (first | apply Kd.V_alloc | apply Kd.V_drewN | apply Kd.V_drew)); exact HO0.out⟩, ⟨by repeat (first | (with_reducible first | exact HB.out | apply below_alloc | apply pw_below_drewN | apply below_drew1) | exact HB.out)⟩⟩
      case round =>
        clear H'
        try clear c1
        try clear p2
        try clear c3
        try clear c3b0
        try clear c3b1
        try clear c5
        obtain ⟨x5_1, x6_1, rfl, HA, HK1, HO_0, HO_5, HB⟩ := hrel
        cases gk with
        | zero => exact absurd HA.out (by simp [hurdlelaw12_CodeKeeps.l0])
        | succ k1 =>
          have H := HA.out
          clear HA
          simp only [hurdlelaw12_CodeKeeps.l0] at H
          by_cases c7 : x6_1 < (l1.length : Int)
          · rw [if_pos c7] at H
            have c7b0 : decide (x6_1 < (l1.length : Int)) = true := decide_eq_true c7
            clear c7
            (first | rw [c7b0] | (simp only [i64_w, i32_w]; rw [c7b0]) | skip)
            by_cases c8 : x6_1 < 60
            · rw [if_pos c8] at H
              have c8b0 : decide (x6_1 < 60) = true := decide_eq_true c8
              clear c8
              by_cases c9 : 0 ≤ x6_1
              · rw [if_pos c9] at H
                have c9b0 : decide (0 ≤ x6_1) = true := decide_eq_true c9
                clear c9
                replace H := Option.bind_eq_some_iff.mp H
                obtain ⟨⟨t334, t337, t338⟩, A100, H⟩ := H
                replace H : (hurdlelaw12_CodeKeeps.l0 k1 l0 l1 t334 (wrap64 (x6_1 + 1))) = some r := H
                have A10 := Aside0.mk A100
                clear A100
                have H' := Aside0.mk H
                clear H
                have p333 : 0 ≤ (x6_1 : Int) := of_decide_eq_true (by first | (with_reducible assumption) | assumption)
                have q333 : x6_1 < (l1.length : Int) := of_decide_eq_true (by first | (with_reducible assumption) | assumption)
                obtain ⟨ad333, e333, hx333_0, hx333_1, hx333_2, hx333_3, hx333_4, hx333_5, hx333_6⟩ := at_T33 HR1.out x6_1 p333 q333
                cases e333
                replace hx333_0 := (HB.out.cell (World.block_lt_of_cell? w _ hx333_0)).trans hx333_0
                replace hx333_1 := (HB.out.cell (World.block_lt_of_cell? w _ hx333_1)).trans hx333_1
                replace hx333_2 := (HB.out.cell (World.block_lt_of_cell? w _ hx333_2)).trans hx333_2
                replace hx333_3 := (HB.out.cell (World.block_lt_of_cell? w _ hx333_3)).trans hx333_3
                replace hx333_4 := (HB.out.cell (World.block_lt_of_cell? w _ hx333_4)).trans hx333_4
                replace hx333_5 := (HB.out.cell (World.block_lt_of_cell? w _ hx333_5)).trans hx333_5
                replace hx333_6 := (HB.out.cell (World.block_lt_of_cell? w _ hx333_6)).trans hx333_6
                replace p333 := eq_true p333
                replace q333 := eq_true q333
                obtain ⟨Ao11, co11, eo11⟩ := Kd.V_slice HO_5.out
                subst eo11
                go_wp2_with (first | ((with_reducible refine gate_callee (f := 9) rfl ?_); refine goesL_ (some 31) rfl rfl Tryd.func9 (by kernel_rfl) rfl #[.slice Ao11 x5_1.length co11, .agg #[.int .i64 ((rd_T33 l1 x6_1).f0), .int .i64 ((rd_T33 l1 x6_1).f1.f0), .int .i64 ((rd_T33 l1 x6_1).f1.f1), .int .i64 ((rd_T33 l1 x6_1).f1.f2), .int .u32 ((rd_T33 l1 x6_1).f1.f3), .int .u16 ((rd_T33 l1 x6_1).f2), .int .u16 ((rd_T33 l1 x6_1).f3)]] rfl (by (try simp only [List.map_toArray, List.map_cons, List.map_nil]); first | done | rfl | (simp only [List.length_drop, List.length_take]; rfl)) ?_; (with_reducible refine (hurdlelaw12_Do.calls k1 (fun k_ => (P0_ k_ ∨ w.heap.size ≤ k_)) _ _ x5_1 ((rd_T33 l1 x6_1).f0) ((rd_T33 l1 x6_1).f1.f0) ((rd_T33 l1 x6_1).f1.f1) ((rd_T33 l1 x6_1).f1.f2) ((rd_T33 l1 x6_1).f1.f3) ((rd_T33 l1 x6_1).f2) ((rd_T33 l1 x6_1).f3) t334 t337 t338 _ ?side1 ?side2 A10.out).mono ?_); (case side1 => exact HO_5.out); (case side2 => exact Glob.below HG.out (by repeat (first | (with_reducible first | exact HB.out | apply below_alloc | apply pw_below_drewN | apply below_drew1) | exact HB.out))); rintro e w12 ⟨v335, rfl, ho0, hb⟩; refine ⟨_, rfl, ?_⟩; have n0_ := Aside0.mk (Kd.V_below (by (with_reducible repeat (first | apply Kd.V_alloc | apply Kd.V_drewN | apply Kd.V_drew)); exact HO_0.out) hb); have n1_ := Aside0.mk (Kd.V_below (by (with_reducible repeat (first | apply Kd.V_alloc | apply Kd.V_drewN | apply Kd.V_drew)); exact HO_5.out) hb); have n2_ := Aside0.mk (Kd.V_lower (Kd.V_mono (ok' := fun k_ => (P0_ k_ ∨ w.heap.size ≤ k_)) ho0 (fun k_ hk_ => Or.elim hk_ (fun hs_ => hs_) (fun hn_ => (.inr (Nat.le_trans (below_size (by repeat (first | (with_reducible first | exact HB.out | apply below_alloc | apply pw_below_drewN | apply below_drew1) | exact HB.out))) hn_))))) (below_size (by repeat (first | (with_reducible first | exact HB.out | apply below_alloc | apply pw_below_drewN | apply below_drew1) | exact HB.out)))); have n3_ := Aside0.mk (below_step (by repeat (first | (with_reducible first | exact HB.out | apply below_alloc | apply pw_below_drewN | apply below_drew1) | exact HB.out)) hb); clear HO_0; clear HO_5; clear HB; have HO_0 := n0_; have HO_5 := n1_; have HO336 := n2_; have HB := n3_; clear n0_ n1_ n2_ n3_; (try clear hb); (try clear hb2); (try clear hk); (try clear hi); (try clear ho0)))
                go_roundg k1
                case measure => have := HK1.out; omega
                case rel => exact ⟨(t334), (wrap64 (x6_1 + 1)), (by first | rfl | (simp; done) | (simp [*]; done)), H', ⟨by have := HK1.out; omega⟩, ⟨by (with_reducible repeat (first | apply Kd.V_alloc | apply Kd.V_drewN | apply Kd.V_drew)); exact HO_0.out⟩, ⟨by (with_reducible repeat (first | apply Kd.V_alloc | apply Kd.V_drewN | apply Kd.V_drew)); exact HO336.out⟩, ⟨by repeat (first | (with_reducible first | exact HB.out | apply below_alloc | apply pw_below_drewN | apply below_drew1) | exact HB.out)⟩⟩
              · rw [if_neg c9] at H
                exact absurd H (by simp)
            · rw [if_neg c8] at H
              have c8b0 : decide (x6_1 < 60) = false := decide_eq_false c8
              clear c8
              have H' := Aside0.mk H
              clear H
              go_wp2
              go_meet
              case rel => exact ⟨_, (x5_1), H', ⟨by have := HK1.out; first | omega | exact Nat.le_refl _⟩, ⟨by (with_reducible repeat (first | apply Kd.V_alloc | apply Kd.V_drewN | apply Kd.V_drew)); exact HO_0.out⟩, ⟨by (with_reducible repeat (first | apply Kd.V_alloc | apply Kd.V_drewN | apply Kd.V_drew)); exact HO_5.out⟩, ⟨by repeat (first | (with_reducible first | exact HB.out | apply below_alloc | apply pw_below_drewN | apply below_drew1) | exact HB.out)⟩⟩
          · rw [if_neg c7] at H
            have c7b0 : decide (x6_1 < (l1.length : Int)) = false := decide_eq_false c7
            clear c7
            (first | rw [c7b0] | (simp only [i64_w, i32_w]; rw [c7b0]) | skip)
            have H' := Aside0.mk H
            clear H
            go_wp2
            go_meet
            case rel => exact ⟨_, (x5_1), H', ⟨by have := HK1.out; first | omega | exact Nat.le_refl _⟩, ⟨by (with_reducible repeat (first | apply Kd.V_alloc | apply Kd.V_drewN | apply Kd.V_drew)); exact HO_0.out⟩, ⟨by (with_reducible repeat (first | apply Kd.V_alloc | apply Kd.V_drewN | apply Kd.V_drew)); exact HO_5.out⟩, ⟨by repeat (first | (with_reducible first | exact HB.out | apply below_alloc | apply pw_below_drewN | apply below_drew1) | exact HB.out)⟩⟩
    case rest =>
      clear HC6
      try clear c1
      try clear p2
      try clear c3
      try clear c3b0
      try clear c3b1
      try clear p3
      try clear q3
      try clear hx3
      try clear c5
      try clear p6
      try clear c7
      try clear c7b0
      try clear c8
      try clear c8b0
      try clear c9
      try clear c9b0
      try clear hx333_0
      try clear hx333_1
      try clear hx333_2
      try clear hx333_3
      try clear hx333_4
      try clear hx333_5
      try clear hx333_6
      try clear p2
      try clear p333
      try clear q333
      obtain ⟨kq, x5_5, HA, HJ5, HO_0, HO_5, HB⟩ := hcut
      cases kq with
      | zero => exact absurd HA.out (by simp [hurdlelaw12_CodeKeeps.j1])
      | succ kj5 =>
        have H := HA.out
        clear HA
        simp only [hurdlelaw12_CodeKeeps.j1] at H
        by_cases c13 : (x5_5.length : Int) < (l0.length : Int)
        · rw [if_pos c13] at H
          exact absurd H (by simp)
        · rw [if_neg c13] at H
          have c13b0 : decide ((x5_5.length : Int) < (l0.length : Int)) = false := decide_eq_false c13
          have c13b1 : decide (x5_5.length < l0.length) = false := decide_eq_false (fun h => c13 (Int.ofNat_lt.mpr h))
          clear c13
          obtain ⟨ji14, hji14⟩ : ∃ j_ : Int, (wrap64 ((x5_5.length : Int) - (l0.length : Int))) = j_ := ⟨_, rfl⟩
          replace H : (if 0 ≤ (ji14) then (if (ji14) ≤ (x5_5.length : Int) then ((hurdleref03_Same.f kj5 (x5_5.drop ((ji14) : Int).toNat) l0).bind fun t344 => (if t344 = true then ((hurdlelaw12_knows.f kj5).bind fun t345 => (some t345)) else (none))) else (none)) else (none)) = some r := by first | (rw [hji14] at H; exact H) | (simp only [hji14] at H ⊢; exact H)
          have hji14w : (IntKind.i64.wrap ((x5_5.length : Int) - (l0.length : Int))) = ji14 := (i64_w _).trans hji14
          by_cases c15 : 0 ≤ (ji14)
          · rw [if_pos c15] at H
            have c15b0 := eq_true c15
            have c15b1 : decide (0 ≤ (ji14)) = true := decide_eq_true c15
            clear c15
            by_cases c16 : (ji14) ≤ (x5_5.length : Int)
            · rw [if_pos c16] at H
              have c16b0 := eq_true c16
              have c16b1 : decide ((ji14) ≤ (x5_5.length : Int)) = true := decide_eq_true c16
              clear c16
              obtain ⟨y339, hy339⟩ : ∃ y_ : List (S30), y_ = (x5_5.drop ((ji14) : Int).toNat) := ⟨_, rfl⟩
              replace H : ((hurdleref03_Same.f kj5 y339 l0).bind fun t344 => (if t344 = true then ((hurdlelaw12_knows.f kj5).bind fun t345 => (some t345)) else (none))) = some r := by first | (rw [hy339]; with_reducible exact H) | (have H2_ := (Option.bind_some _ _).symm.trans H; rw [hy339]; with_reducible exact H2_) | (have H2_ := (Option.bind_some _ _).symm.trans H; with_reducible exact H2_) | with_reducible exact H | (rw [hy339]; exact H) | exact H
              have Ny339 := Aside0.mk hy339
              clear hy339
              replace H := Option.bind_eq_some_iff.mp H
              obtain ⟨t344, A170, H⟩ := H
              replace H : (if t344 = true then ((hurdlelaw12_knows.f kj5).bind fun t345 => (some t345)) else (none)) = some r := H
              have A17 := Aside0.mk A170
              clear A170
              by_cases c18 : t344 = true
              · subst c18
                have H1 : ((hurdlelaw12_knows.f kj5).bind fun t345 => (some t345)) = some r := by rw [if_pos rfl] at H; exact H
                clear H
                have H := H1
                clear H1
                replace H := Option.bind_eq_some_iff.mp H
                obtain ⟨t345, A190, H⟩ := H
                replace H : (some t345) = some r := H
                have A19 := Aside0.mk A190
                clear A190
                obtain rfl := Option.some.inj H
                obtain ⟨Ao20, co20, eo20⟩ := Kd.V_slice HO_5.out
                subst eo20
                have q21 : ((ji14) : Int) ≤ ((x5_5.length : Int) : Int) := of_decide_eq_true (by first | (with_reducible assumption) | assumption)
                obtain ⟨i021, hi021, _, hsz21, _⟩ := info_parts info30
                have hroom21 : x5_5.length ≤ co20 := (Kd.V_reads' HO_5.out).2.1
                have hC21 : Kd.F k30 _ _ Ao20 x5_5.length x5_5 := (Kd.V_at (base := w.heap.size) HO_5.out).2.2
                have q021 : (0 : Int) ≤ ((ji14) : Int) := of_decide_eq_true (by first | (with_reducible assumption) | assumption)
                have hcut21 := cut_from (P := Tryd.prog) 22 30 .i64 Tryd.underlying22 hi021 4 hsz21 Ao20 x5_5.length co20 (ji14) q021 q21
                have hr21 := Kd.F_cut (m := ((ji14) : Int).toNat) (c := co20) hC21 (by omega) hroom21
                obtain ⟨A21, hA21⟩ : ∃ A1, A1 = (if co20 = ((ji14) : Int).toNat then Ao20 else (Ao20 : Option Addr).map (·.add (((ji14) : Int).toNat * 4))) := ⟨_, rfl⟩
                obtain ⟨c21, hc21⟩ : ∃ c1, c1 = co20 - ((ji14) : Int).toNat := ⟨_, rfl⟩
                have hy21 : y339.length = x5_5.length - ((ji14) : Int).toNat := (by rw [Ny339.out, List.length_drop] <;> omega)
                rw [show (x5_5).drop ((ji14) : Int).toNat = y339 from Ny339.out.symm] at hr21
                replace hr21 : Kd.F k30 _ _ A21 y339.length y339 := (by rw [hA21]; exact hr21)
                rw [← hy21, ← hA21, ← hc21] at hcut21
                have HO343 := Aside0.mk (show Kd.V k30 30 _ w.heap.size _ (.slice A21 y339.length c21) y339 from Kd.V_mk (by rw [hy21, hc21]; exact Nat.sub_le_sub_right hroom21 _) hr21)
                have HC343 := Aside0.mk (show y339.length ≤ c21 from by rw [hy21, hc21]; exact Nat.sub_le_sub_right hroom21 _)
                clear hr21 hC21 hroom21 hi021 hsz21 hc21
                have KY21 := Aside0.mk hy21
                have KA21 := Aside0.mk hA21
                clear hy21 hA21
                replace q21 := eq_true q21
                go_wp2_with (first | ((with_reducible refine gate_callee (f := 11) rfl ?_); refine goesL_ (some 49) rfl rfl Tryd.func11 (by kernel_rfl) rfl #[.slice A21 y339.length c21, .slice A0 l0.length c0] rfl (by (try simp only [List.map_toArray, List.map_cons, List.map_nil]); first | done | rfl | (simp only [List.length_drop, List.length_take]; rfl)) ?_; (with_reducible refine (hurdleref03_Same.calls kj5 _ _ y339 _ _ l0 true _ ?side1 ?side2 ?side3 ?side4 A17.out).mono ?_); (case side1 => repeat (first | exact (Kd.V_reads' HO343.out).2.2 | (with_reducible refine Kd.C_alloc ?_ _) | (with_reducible refine Kd.C_drewN ?_ _) | (with_reducible refine Kd.C_drew ?_))); (case side2 => exact (Kd.V_reads' HO343.out).2.1); (case side3 => repeat (first | exact (Kd.V_reads' HO_0.out).2.2 | (with_reducible refine Kd.C_alloc ?_ _) | (with_reducible refine Kd.C_drewN ?_ _) | (with_reducible refine Kd.C_drew ?_))); (case side4 => exact (Kd.V_reads' HO_0.out).2.1); rintro e w' ⟨rfl, ⟨nd, rfl⟩⟩; refine ⟨_, rfl, ?_⟩) | (go_at_call 8; (with_reducible refine (hurdlelaw12_knows.calls kj5  t345 _ ?side1 A19.out).mono ?_); (case side1 => exact Glob.below HG.out (by repeat (first | (with_reducible first | exact HB.out | apply below_alloc | apply pw_below_drewN | apply below_drew1) | exact HB.out))); rintro e w22 ⟨rfl, hb⟩; have n0_ := Aside0.mk (Kd.V_below (by (with_reducible repeat (first | apply Kd.V_alloc | apply Kd.V_drewN | apply Kd.V_drew)); exact HO_0.out) hb); have n1_ := Aside0.mk (Kd.V_below (by (with_reducible repeat (first | apply Kd.V_alloc | apply Kd.V_drewN | apply Kd.V_drew)); exact HO_5.out) hb); have n2_ := Aside0.mk (Kd.V_below (by (with_reducible repeat (first | apply Kd.V_alloc | apply Kd.V_drewN | apply Kd.V_drew)); exact HO343.out) hb); have n3_ := Aside0.mk (below_step (by repeat (first | (with_reducible first | exact HB.out | apply below_alloc | apply pw_below_drewN | apply below_drew1) | exact HB.out)) hb); clear HO_0; clear HO_5; clear HO343; clear HB; have HO_0 := n0_; have HO_5 := n1_; have HO343 := n2_; have HB := n3_; clear n0_ n1_ n2_ n3_; (try clear hb); (try clear hb2); (try clear hk); (try clear hi)))
                go_ret
                exact ⟨by first | rfl | (simp [errW_none, errW_some] <;> rfl) | (simp only [← hji14]; first | rfl | (simp [errW_none, errW_some] <;> rfl)) | (simp [*, errW_none, errW_some] <;> rfl), by repeat (first | (with_reducible first | exact HB.out | apply below_alloc | apply pw_below_drewN | apply below_drew1) | exact HB.out)⟩
              · replace c18 := Bool.eq_false_iff.mpr c18
                subst c18
                have H1 : (none) = some r := by rw [if_neg (show ¬ (false = true) by decide)] at H; exact H
                clear H
                have H := H1
                clear H1
                exact absurd H (by simp)
            · rw [if_neg c16] at H
              exact absurd H (by simp)
          · rw [if_neg c15] at H
            exact absurd H (by simp)

end Go.Proofs.YtnchbnnijboklaaDoor.M
