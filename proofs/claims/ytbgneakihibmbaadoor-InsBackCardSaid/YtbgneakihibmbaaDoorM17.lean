/- By a program of this session: what Go functions of the seat compute, as Lean functions, each with a proof that the call of the Go function comes to that. -/
import Derived.Test.YtbgneakihibmbaaDoorM0
import Derived.Test.YtbgneakihibmbaaDoorM6
namespace Go.Proofs.YtbgneakihibmbaaDoor.M
open Go.RowKit Go.Proofs.YtbgneakihibmbaaDoorW.PrintWords Go.Proofs.YtbgneakihibmbaaDoorW.PrintLast Go.Proofs.YtbgneakihibmbaaDoorW.PrintMore
attribute [local go_sem] max2_int min2_int max_two min_two max_three min_three max_four min_four   -- for this text's walks alone
set_option linter.unusedVariables false
set_option linter.unusedSimpArgs false

/-! ### hurdleref02_Alu: function 17 -/
def hurdleref02_Alu.j0 : Nat → Int → Bool → Int → Int → Int → Int → Option (Int × Bool × Bool)
  | 0, _, _, _, _, _, _ => none
  | k + 1, x5, x14, x236000, x236001, x236002, x236003 => if x14 = true then (some (x236000, false, true)) else (if x5 ≥ 13 then (if x5 ≤ 21 then (some (wrap64 (x236000 - 8), true, true)) else (some (0, false, false))) else (some (0, false, false)))
def hurdleref02_Alu.f (k : Nat) (a0_0 : Int) (a0_1 : Int) (a0_2 : Int) (a0_3 : Int) : Option (Int × Bool × Bool) := (hurdleref02_place.f k a0_0).bind fun t236 => (if t236 ≥ 4 then (hurdleref02_Alu.j0 k t236 (decide (t236 ≤ 12)) a0_0 a0_1 a0_2 a0_3) else (hurdleref02_Alu.j0 k t236 false a0_0 a0_1 a0_2 a0_3))
theorem hurdleref02_Alu.mono_l : ∀ k, (∀ y0 y1 y2 y3 y4 y5, LeO (hurdleref02_Alu.j0 k y0 y1 y2 y3 y4 y5) (hurdleref02_Alu.j0 (k + 1) y0 y1 y2 y3 y4 y5))
  | 0 => fun _ _ _ _ _ _ r h => by simp [hurdleref02_Alu.j0] at h
  | k + 1 => by
    have ih0 := hurdleref02_Alu.mono_l k
    · intro y0 y1 y2 y3 y4 y5
      unfold hurdleref02_Alu.j0
      repeat' first
      | (with_reducible exact ih0 _ _ _ _ _ _)
      | (with_reducible exact hurdleref02_place.mono _ _)
      | (with_reducible exact LeO.refl _)
      | (with_reducible exact LeO.none _)
      | (with_reducible refine LeO.ite ?_ ?_)
      | (with_reducible refine LeO.bind ?_ (fun _ => ?_))
      | exact ih0 _ _ _ _ _ _
      | exact hurdleref02_place.mono _ _
      | exact LeO.none _
      | refine LeO.ite ?_ ?_
      | refine LeO.bind ?_ (fun _ => ?_)
theorem hurdleref02_Alu.mono : ∀ a0 a1 a2 a3 k, LeO (hurdleref02_Alu.f k a0 a1 a2 a3) (hurdleref02_Alu.f (k + 1) a0 a1 a2 a3) := by
  intro a0 a1 a2 a3 k
  have ih0 := hurdleref02_Alu.mono_l k
  unfold hurdleref02_Alu.f
  repeat' first
      | (with_reducible exact ih0 _ _ _ _ _ _)
      | (with_reducible exact hurdleref02_place.mono _ _)
      | (with_reducible exact LeO.refl _)
      | (with_reducible exact LeO.none _)
      | (with_reducible refine LeO.ite ?_ ?_)
      | (with_reducible refine LeO.bind ?_ (fun _ => ?_))
      | exact ih0 _ _ _ _ _ _
      | exact hurdleref02_place.mono _ _
      | exact LeO.none _
      | refine LeO.ite ?_ ?_
      | refine LeO.bind ?_ (fun _ => ?_)
set_option maxHeartbeats 8000000 in
set_option maxRecDepth 100000 in
theorem hurdleref02_Alu.calls (k : Nat) (a0_0 : Int) (a0_1 : Int) (a0_2 : Int) (a0_3 : Int) (r1 : Int) (r2 : Bool) (r3 : Bool) (w : World) (h : hurdleref02_Alu.f k a0_0 a0_1 a0_2 a0_3 = some (r1, r2, r3)) :
    Calls Tryd.prog 17 #[.agg #[.int .i64 a0_0, .int .i64 a0_1, .int .i64 a0_2, .int .u32 a0_3]] w fun e w' => e = .returned (.tuple #[.int .i64 r1, .bool r2, .bool r3]) ∧ Below w.heap.size w w' := by
  have hu24 := Tryd.underlying24
  have HB := Aside0.mk (Below.refl w.heap.size w)
  have H : ((hurdleref02_place.f k a0_0).bind fun t236 => (if t236 ≥ 4 then (hurdleref02_Alu.j0 k t236 (decide (t236 ≤ 12)) a0_0 a0_1 a0_2 a0_3) else (hurdleref02_Alu.j0 k t236 false a0_0 a0_1 a0_2 a0_3))) = some (r1, r2, r3) := h
  clear h
  replace H := Option.bind_eq_some_iff.mp H
  obtain ⟨t236, A20, H⟩ := H
  replace H : (if t236 ≥ 4 then (hurdleref02_Alu.j0 k t236 (decide (t236 ≤ 12)) a0_0 a0_1 a0_2 a0_3) else (hurdleref02_Alu.j0 k t236 false a0_0 a0_1 a0_2 a0_3)) = some (r1, r2, r3) := H
  have A2 := Aside0.mk A20
  clear A20
  have HC3 := Aside0.mk H
  clear H
  go_enter Tryd.func17, Tryd.ntmps17
  go_upto_region 2 with (first | ((with_reducible refine gate_dst (N := 1) rfl ?_); refine box_event ?hg (N := 1) ?hd (cs := #[.int .i64 a0_0, .int .i64 a0_1, .int .i64 a0_2, .int .u32 a0_3]) (t := 24) ?hr ?_; (case hd => rfl); (case hg => rfl); (case hr => first | (go_simp; done) | (go_simp; rfl)); intro gb235 hg w4 hbox hb; have n0_ := Aside0.mk (below_step (by repeat (first | (with_reducible first | exact HB.out | apply below_alloc | apply pw_below_drewN | apply below_drew1) | exact HB.out)) hb); have n1_ := Aside0.mk (hbox); have n2_ := Aside0.mk ((by rw [hg]; exact (below_size (by repeat (first | (with_reducible first | exact HB.out | apply below_alloc | apply pw_below_drewN | apply below_drew1) | exact HB.out))) : w.heap.size ≤ gb235)); have n3_ := Aside0.mk ((by rw [hg]; exact (below_size (by repeat (first | (with_reducible first | exact HB.out | apply below_alloc | apply pw_below_drewN | apply below_drew1) | exact HB.out))) : w.heap.size ≤ gb235)); clear HB; have HB := n0_; have BK235 := n1_; have GW235 := n2_; have GE235 := n3_; clear n0_ n1_ n2_ n3_; clear hb hbox hg; have hcz5_0 : w4.cell? ⟨gb235, 0, none⟩ = some (.int .i64 a0_0) := (blk_cell BK235.out 0).trans rfl; have hcz5_1 : w4.cell? ⟨gb235, 1, none⟩ = some (.int .i64 a0_1) := (blk_cell BK235.out 1).trans rfl; have hcz5_2 : w4.cell? ⟨gb235, 2, none⟩ = some (.int .i64 a0_2) := (blk_cell BK235.out 2).trans rfl; have hcz5_3 : w4.cell? ⟨gb235, 3, none⟩ = some (.int .u32 a0_3) := (blk_cell BK235.out 3).trans rfl; have hfz5_0 := blk_frozen BK235.out 0; have hfz5_1 := blk_frozen BK235.out 1; have hfz5_2 := blk_frozen BK235.out 2; have hfz5_3 := blk_frozen BK235.out 3) | ((with_reducible refine gate_callee (f := 24) rfl ?_); refine goesL_ (some 8) rfl rfl Tryd.func24 (by kernel_rfl) rfl #[.int .i64 a0_0] rfl (by (try simp only [List.map_toArray, List.map_cons, List.map_nil]); first | done | rfl | (simp only [List.length_drop, List.length_take]; rfl)) ?_; (with_reducible refine (hurdleref02_place.calls k a0_0 t236 _ A2.out).mono ?_); rintro e w6 ⟨rfl, hb⟩; refine ⟨_, rfl, ?_⟩; have n0_ := Aside0.mk (blk_below (g := gb235) (o := .cells #[.int .i64 a0_0, .int .i64 a0_1, .int .i64 a0_2, .int .u32 a0_3] 24 (0, 0)) (by (with_reducible repeat (first | refine blk_drewN ?_ _ | refine blk_drew ?_ | refine blk_alloc ?_ _)); exact BK235.out) hb); have n1_ := Aside0.mk (below_step (by repeat (first | (with_reducible first | exact HB.out | apply below_alloc | apply pw_below_drewN | apply below_drew1 | refine below_set ?_ GE235.out) | exact HB.out)) hb); clear BK235; clear HB; have BK235 := n0_; have HB := n1_; clear n0_ n1_; (try clear hb); (try clear hb2); (try clear hk); (try clear hi)))
  (try simp only [Act.put, List.setIfInBounds_toArray, List.set_cons_zero, List.set_cons_succ])
  go_cut [14] (fun v14 wc => ∃ (kq : Nat) (x14_2 : Bool), v14 = .bool x14_2 ∧ Aside0 (hurdleref02_Alu.j0 kq t236 x14_2 a0_0 a0_1 a0_2 a0_3 = some (r1, r2, r3)) ∧ Aside0 (kq ≤ k) ∧ Aside0 (wc.heap[gb235]? = some (.cells #[.int .i64 a0_0, .int .i64 a0_1, .int .i64 a0_2, .int .u32 a0_3] 24 (0, 0))) ∧ Aside0 (Below w.heap.size w wc))
  case first =>
    have H := HC3.out
    clear HC3
    by_cases c7 : t236 ≥ 4
    · rw [if_pos c7] at H
      have c7b0 : decide (4 ≤ t236) = true := decide_eq_true c7
      clear c7
      (first | rw [c7b0] | (simp only [i64_w, i32_w]; rw [c7b0]) | skip)
      have H' := Aside0.mk H
      clear H
      go_wp2
      go_meet
      case rel => exact ⟨_, (decide (t236 ≤ 12)), (by first | rfl | (simp; done) | (simp [*]; done)), H', ⟨by first | omega | exact Nat.le_refl _⟩, ⟨by (with_reducible repeat (first | refine blk_drewN ?_ _ | refine blk_drew ?_ | refine blk_alloc ?_ _)); exact BK235.out⟩, ⟨by repeat (first | (with_reducible first | exact HB.out | apply below_alloc | apply pw_below_drewN | apply below_drew1 | refine below_set ?_ GE235.out) | exact HB.out)⟩⟩
    · rw [if_neg c7] at H
      have c7b0 : decide (4 ≤ t236) = false := decide_eq_false c7
      clear c7
      (first | rw [c7b0] | (simp only [i64_w, i32_w]; rw [c7b0]) | skip)
      have H' := Aside0.mk H
      clear H
      go_wp2
      go_meet
      case rel => exact ⟨_, (false), (by first | rfl | (simp; done) | (simp [*]; done)), H', ⟨by first | omega | exact Nat.le_refl _⟩, ⟨by (with_reducible repeat (first | refine blk_drewN ?_ _ | refine blk_drew ?_ | refine blk_alloc ?_ _)); exact BK235.out⟩, ⟨by repeat (first | (with_reducible first | exact HB.out | apply below_alloc | apply pw_below_drewN | apply below_drew1 | refine below_set ?_ GE235.out) | exact HB.out)⟩⟩
  case rest =>
    clear HC3
    try clear c1
    try clear c2
    try clear p2
    try clear c7
    try clear c7b0
    try clear hcz5_0
    try clear hcz5_1
    try clear hcz5_2
    try clear hcz5_3
    try clear hfz5_0
    try clear hfz5_1
    try clear hfz5_2
    try clear hfz5_3
    obtain ⟨kq, x14_2, rfl, HA, HJ2, BK235, HB⟩ := hcut
    cases kq with
    | zero => exact absurd HA.out (by simp [hurdleref02_Alu.j0])
    | succ kj2 =>
      have H := HA.out
      clear HA
      simp only [hurdleref02_Alu.j0] at H
      by_cases c8 : x14_2 = true
      · subst c8
        have H1 : (some (a0_0, false, true)) = some (r1, r2, r3) := by rw [if_pos rfl] at H; exact H
        clear H
        have H := H1
        clear H1
        simp only [Option.some.injEq, Prod.mk.injEq] at H
        obtain ⟨rfl, rfl, rfl⟩ := H
        have hcz9_0 : wc.cell? ⟨gb235, 0, none⟩ = some (.int .i64 a0_0) := (blk_cell BK235.out 0).trans rfl
        have hcz9_1 : wc.cell? ⟨gb235, 1, none⟩ = some (.int .i64 a0_1) := (blk_cell BK235.out 1).trans rfl
        have hcz9_2 : wc.cell? ⟨gb235, 2, none⟩ = some (.int .i64 a0_2) := (blk_cell BK235.out 2).trans rfl
        have hcz9_3 : wc.cell? ⟨gb235, 3, none⟩ = some (.int .u32 a0_3) := (blk_cell BK235.out 3).trans rfl
        have hfz9_0 := blk_frozen BK235.out 0
        have hfz9_1 := blk_frozen BK235.out 1
        have hfz9_2 := blk_frozen BK235.out 2
        have hfz9_3 := blk_frozen BK235.out 3
        go_wp2
        go_ret3
        exact ⟨by first | rfl | (simp [errW_none, errW_some] <;> rfl) | (simp [*, errW_none, errW_some] <;> rfl), by repeat (first | (with_reducible first | exact HB.out | apply below_alloc | apply pw_below_drewN | apply below_drew1 | refine below_set ?_ GE235.out) | exact HB.out)⟩
      · replace c8 := Bool.eq_false_iff.mpr c8
        subst c8
        have H1 : (if t236 ≥ 13 then (if t236 ≤ 21 then (some (wrap64 (a0_0 - 8), true, true)) else (some (0, false, false))) else (some (0, false, false))) = some (r1, r2, r3) := by rw [if_neg (show ¬ (false = true) by decide)] at H; exact H
        clear H
        have H := H1
        clear H1
        by_cases c10 : t236 ≥ 13
        · rw [if_pos c10] at H
          have c10b0 : decide (13 ≤ t236) = true := decide_eq_true c10
          clear c10
          by_cases c11 : t236 ≤ 21
          · rw [if_pos c11] at H
            have c11b0 : decide (t236 ≤ 21) = true := decide_eq_true c11
            clear c11
            simp only [Option.some.injEq, Prod.mk.injEq] at H
            obtain ⟨rfl, rfl, rfl⟩ := H
            have hcz12_0 : wc.cell? ⟨gb235, 0, none⟩ = some (.int .i64 a0_0) := (blk_cell BK235.out 0).trans rfl
            have hcz12_1 : wc.cell? ⟨gb235, 1, none⟩ = some (.int .i64 a0_1) := (blk_cell BK235.out 1).trans rfl
            have hcz12_2 : wc.cell? ⟨gb235, 2, none⟩ = some (.int .i64 a0_2) := (blk_cell BK235.out 2).trans rfl
            have hcz12_3 : wc.cell? ⟨gb235, 3, none⟩ = some (.int .u32 a0_3) := (blk_cell BK235.out 3).trans rfl
            have hfz12_0 := blk_frozen BK235.out 0
            have hfz12_1 := blk_frozen BK235.out 1
            have hfz12_2 := blk_frozen BK235.out 2
            have hfz12_3 := blk_frozen BK235.out 3
            go_wp2
            go_ret3
            exact ⟨by first | rfl | (simp [errW_none, errW_some] <;> rfl) | (simp [*, errW_none, errW_some] <;> rfl), by repeat (first | (with_reducible first | exact HB.out | apply below_alloc | apply pw_below_drewN | apply below_drew1 | refine below_set ?_ GE235.out) | exact HB.out)⟩
          · rw [if_neg c11] at H
            have c11b0 : decide (t236 ≤ 21) = false := decide_eq_false c11
            clear c11
            simp only [Option.some.injEq, Prod.mk.injEq] at H
            obtain ⟨rfl, rfl, rfl⟩ := H
            go_wp2
            go_ret3
            exact ⟨by first | rfl | (simp [errW_none, errW_some] <;> rfl) | (simp [*, errW_none, errW_some] <;> rfl), by repeat (first | (with_reducible first | exact HB.out | apply below_alloc | apply pw_below_drewN | apply below_drew1 | refine below_set ?_ GE235.out) | exact HB.out)⟩
        · rw [if_neg c10] at H
          have c10b0 : decide (13 ≤ t236) = false := decide_eq_false c10
          clear c10
          simp only [Option.some.injEq, Prod.mk.injEq] at H
          obtain ⟨rfl, rfl, rfl⟩ := H
          go_wp2
          go_ret3
          exact ⟨by first | rfl | (simp [errW_none, errW_some] <;> rfl) | (simp [*, errW_none, errW_some] <;> rfl), by repeat (first | (with_reducible first | exact HB.out | apply below_alloc | apply pw_below_drewN | apply below_drew1 | refine below_set ?_ GE235.out) | exact HB.out)⟩

/-! ### hurdleref02_Branch: function 19 -/
def hurdleref02_Branch.f (k : Nat) (a0_0 : Int) (a0_1 : Int) (a0_2 : Int) (a0_3 : Int) : Option (Bool) := (hurdleref02_place.f k a0_0).bind fun t238 => ((hurdleref02_branch.f t238).bind fun t239 => (some t239))
theorem hurdleref02_Branch.mono : ∀ a0 a1 a2 a3 k, LeO (hurdleref02_Branch.f k a0 a1 a2 a3) (hurdleref02_Branch.f (k + 1) a0 a1 a2 a3) := by
  intro a0 a1 a2 a3 k
  unfold hurdleref02_Branch.f
  repeat' first
      | (with_reducible exact hurdleref02_place.mono _ _)
      | (with_reducible exact LeO.refl _)
      | (with_reducible exact LeO.none _)
      | (with_reducible refine LeO.ite ?_ ?_)
      | (with_reducible refine LeO.bind ?_ (fun _ => ?_))
      | exact hurdleref02_place.mono _ _
      | exact LeO.none _
      | refine LeO.ite ?_ ?_
      | refine LeO.bind ?_ (fun _ => ?_)
set_option maxHeartbeats 8000000 in
set_option maxRecDepth 100000 in
theorem hurdleref02_Branch.calls (k : Nat) (a0_0 : Int) (a0_1 : Int) (a0_2 : Int) (a0_3 : Int) (r : Bool) (w : World) (h : hurdleref02_Branch.f k a0_0 a0_1 a0_2 a0_3 = some r) :
    Calls Tryd.prog 19 #[.agg #[.int .i64 a0_0, .int .i64 a0_1, .int .i64 a0_2, .int .u32 a0_3]] w fun e w' => e = .returned (.bool r) ∧ Below w.heap.size w w' := by
  have hu24 := Tryd.underlying24
  have HB := Aside0.mk (Below.refl w.heap.size w)
  have H : ((hurdleref02_place.f k a0_0).bind fun t238 => ((hurdleref02_branch.f t238).bind fun t239 => (some t239))) = some r := h
  clear h
  replace H := Option.bind_eq_some_iff.mp H
  obtain ⟨t238, A20, H⟩ := H
  replace H : ((hurdleref02_branch.f t238).bind fun t239 => (some t239)) = some r := H
  have A2 := Aside0.mk A20
  clear A20
  replace H := Option.bind_eq_some_iff.mp H
  obtain ⟨t239, A30, H⟩ := H
  replace H : (some t239) = some r := H
  have A3 := Aside0.mk A30
  clear A30
  obtain rfl := Option.some.inj H
  go_enter Tryd.func19, Tryd.ntmps19
  go_wp2_with (first | ((with_reducible refine gate_dst (N := 1) rfl ?_); refine box_event ?hg (N := 1) ?hd (cs := #[.int .i64 a0_0, .int .i64 a0_1, .int .i64 a0_2, .int .u32 a0_3]) (t := 24) ?hr ?_; (case hd => rfl); (case hg => rfl); (case hr => first | (go_simp; done) | (go_simp; rfl)); intro gb237 hg w4 hbox hb; have n0_ := Aside0.mk (below_step (by repeat (first | (with_reducible first | exact HB.out | apply below_alloc | apply pw_below_drewN | apply below_drew1) | exact HB.out)) hb); have n1_ := Aside0.mk (hbox); have n2_ := Aside0.mk ((by rw [hg]; exact (below_size (by repeat (first | (with_reducible first | exact HB.out | apply below_alloc | apply pw_below_drewN | apply below_drew1) | exact HB.out))) : w.heap.size ≤ gb237)); have n3_ := Aside0.mk ((by rw [hg]; exact (below_size (by repeat (first | (with_reducible first | exact HB.out | apply below_alloc | apply pw_below_drewN | apply below_drew1) | exact HB.out))) : w.heap.size ≤ gb237)); clear HB; have HB := n0_; have BK237 := n1_; have GW237 := n2_; have GE237 := n3_; clear n0_ n1_ n2_ n3_; clear hb hbox hg; have hcz5_0 : w4.cell? ⟨gb237, 0, none⟩ = some (.int .i64 a0_0) := (blk_cell BK237.out 0).trans rfl; have hcz5_1 : w4.cell? ⟨gb237, 1, none⟩ = some (.int .i64 a0_1) := (blk_cell BK237.out 1).trans rfl; have hcz5_2 : w4.cell? ⟨gb237, 2, none⟩ = some (.int .i64 a0_2) := (blk_cell BK237.out 2).trans rfl; have hcz5_3 : w4.cell? ⟨gb237, 3, none⟩ = some (.int .u32 a0_3) := (blk_cell BK237.out 3).trans rfl; have hfz5_0 := blk_frozen BK237.out 0; have hfz5_1 := blk_frozen BK237.out 1; have hfz5_2 := blk_frozen BK237.out 2; have hfz5_3 := blk_frozen BK237.out 3) | ((with_reducible refine gate_callee (f := 24) rfl ?_); refine goesL_ (some 5) rfl rfl Tryd.func24 (by kernel_rfl) rfl #[.int .i64 a0_0] rfl (by (try simp only [List.map_toArray, List.map_cons, List.map_nil]); first | done | rfl | (simp only [List.length_drop, List.length_take]; rfl)) ?_; (with_reducible refine (hurdleref02_place.calls k a0_0 t238 _ A2.out).mono ?_); rintro e w6 ⟨rfl, hb⟩; refine ⟨_, rfl, ?_⟩; have n0_ := Aside0.mk (blk_below (g := gb237) (o := .cells #[.int .i64 a0_0, .int .i64 a0_1, .int .i64 a0_2, .int .u32 a0_3] 24 (0, 0)) (by (with_reducible repeat (first | refine blk_drewN ?_ _ | refine blk_drew ?_ | refine blk_alloc ?_ _)); exact BK237.out) hb); have n1_ := Aside0.mk (below_step (by repeat (first | (with_reducible first | exact HB.out | apply below_alloc | apply pw_below_drewN | apply below_drew1 | refine below_set ?_ GE237.out) | exact HB.out)) hb); clear BK237; clear HB; have BK237 := n0_; have HB := n1_; clear n0_ n1_; (try clear hb); (try clear hb2); (try clear hk); (try clear hi)) | ((with_reducible refine gate_callee (f := 26) rfl ?_); refine goesL_ (some 6) rfl rfl Tryd.func26 (by kernel_rfl) rfl #[.int .i64 t238] rfl (by (try simp only [List.map_toArray, List.map_cons, List.map_nil]); first | done | rfl | (simp only [List.length_drop, List.length_take]; rfl)) ?_; (with_reducible refine (hurdleref02_branch.calls t238 t239 _ A3.out).mono ?_); rintro e w' ⟨rfl, ⟨nd, rfl⟩⟩; refine ⟨_, rfl, ?_⟩))
  go_ret
  exact ⟨by first | rfl | (simp [errW_none, errW_some] <;> rfl) | (simp [*, errW_none, errW_some] <;> rfl), by repeat (first | (with_reducible first | exact HB.out | apply below_alloc | apply pw_below_drewN | apply below_drew1 | refine below_set ?_ GE237.out) | exact HB.out)⟩

/-! ### hurdleref02_Ends: function 21 -/
def hurdleref02_Ends.f (a0_0 : Int) (a0_1 : Int) (a0_2 : Int) (a0_3 : Int) : Option (Bool) := if a0_0 = 6 then (some true) else (some (a0_0 == 22))
set_option maxHeartbeats 8000000 in
set_option maxRecDepth 100000 in
theorem hurdleref02_Ends.calls (a0_0 : Int) (a0_1 : Int) (a0_2 : Int) (a0_3 : Int) (r : Bool) (w : World) (h : hurdleref02_Ends.f a0_0 a0_1 a0_2 a0_3 = some r) :
    Calls Tryd.prog 21 #[.agg #[.int .i64 a0_0, .int .i64 a0_1, .int .i64 a0_2, .int .u32 a0_3]] w fun e w' => e = .returned (.bool r) ∧ Below w.heap.size w w' := by
  have hu24 := Tryd.underlying24
  have HB := Aside0.mk (Below.refl w.heap.size w)
  have H : (if a0_0 = 6 then (some true) else (some (a0_0 == 22))) = some r := h
  clear h
  by_cases c2 : a0_0 = 6
  · rw [if_pos c2] at H
    have c2b0 : (a0_0 == 6) = true := beq_iff_eq.mpr c2
    have c2b1 : (a0_0 != 6) = false := bne_eq_false_iff_eq.mpr c2
    clear c2
    obtain rfl := Option.some.inj H
    go_enter Tryd.func21, Tryd.ntmps21
    go_wp2_with (first | ((with_reducible refine gate_dst (N := 1) rfl ?_); refine box_event ?hg (N := 1) ?hd (cs := #[.int .i64 a0_0, .int .i64 a0_1, .int .i64 a0_2, .int .u32 a0_3]) (t := 24) ?hr ?_; (case hd => rfl); (case hg => rfl); (case hr => first | (go_simp; done) | (go_simp; rfl)); intro gb240 hg w3 hbox hb; have n0_ := Aside0.mk (below_step (by repeat (first | (with_reducible first | exact HB.out | apply below_alloc | apply pw_below_drewN | apply below_drew1) | exact HB.out)) hb); have n1_ := Aside0.mk (hbox); have n2_ := Aside0.mk ((by rw [hg]; exact (below_size (by repeat (first | (with_reducible first | exact HB.out | apply below_alloc | apply pw_below_drewN | apply below_drew1) | exact HB.out))) : w.heap.size ≤ gb240)); have n3_ := Aside0.mk ((by rw [hg]; exact (below_size (by repeat (first | (with_reducible first | exact HB.out | apply below_alloc | apply pw_below_drewN | apply below_drew1) | exact HB.out))) : w.heap.size ≤ gb240)); clear HB; have HB := n0_; have BK240 := n1_; have GW240 := n2_; have GE240 := n3_; clear n0_ n1_ n2_ n3_; clear hb hbox hg; have hcz4_0 : w3.cell? ⟨gb240, 0, none⟩ = some (.int .i64 a0_0) := (blk_cell BK240.out 0).trans rfl; have hcz4_1 : w3.cell? ⟨gb240, 1, none⟩ = some (.int .i64 a0_1) := (blk_cell BK240.out 1).trans rfl; have hcz4_2 : w3.cell? ⟨gb240, 2, none⟩ = some (.int .i64 a0_2) := (blk_cell BK240.out 2).trans rfl; have hcz4_3 : w3.cell? ⟨gb240, 3, none⟩ = some (.int .u32 a0_3) := (blk_cell BK240.out 3).trans rfl; have hfz4_0 := blk_frozen BK240.out 0; have hfz4_1 := blk_frozen BK240.out 1; have hfz4_2 := blk_frozen BK240.out 2; have hfz4_3 := blk_frozen BK240.out 3))
    go_ret
    exact ⟨by first | rfl | (simp [errW_none, errW_some] <;> rfl) | (simp [*, errW_none, errW_some] <;> rfl), by repeat (first | (with_reducible first | exact HB.out | apply below_alloc | apply pw_below_drewN | apply below_drew1 | refine below_set ?_ GE240.out) | exact HB.out)⟩
  · rw [if_neg c2] at H
    have c2b0 : (a0_0 == 6) = false := beq_eq_false_iff_ne.mpr c2
    have c2b1 : (a0_0 != 6) = true := bne_iff_ne.mpr c2
    obtain rfl := Option.some.inj H
    go_enter Tryd.func21, Tryd.ntmps21
    go_wp2_with (first | ((with_reducible refine gate_dst (N := 1) rfl ?_); refine box_event ?hg (N := 1) ?hd (cs := #[.int .i64 a0_0, .int .i64 a0_1, .int .i64 a0_2, .int .u32 a0_3]) (t := 24) ?hr ?_; (case hd => rfl); (case hg => rfl); (case hr => first | (go_simp; done) | (go_simp; rfl)); intro gb240 hg w5 hbox hb; have n0_ := Aside0.mk (below_step (by repeat (first | (with_reducible first | exact HB.out | apply below_alloc | apply pw_below_drewN | apply below_drew1) | exact HB.out)) hb); have n1_ := Aside0.mk (hbox); have n2_ := Aside0.mk ((by rw [hg]; exact (below_size (by repeat (first | (with_reducible first | exact HB.out | apply below_alloc | apply pw_below_drewN | apply below_drew1) | exact HB.out))) : w.heap.size ≤ gb240)); have n3_ := Aside0.mk ((by rw [hg]; exact (below_size (by repeat (first | (with_reducible first | exact HB.out | apply below_alloc | apply pw_below_drewN | apply below_drew1) | exact HB.out))) : w.heap.size ≤ gb240)); clear HB; have HB := n0_; have BK240 := n1_; have GW240 := n2_; have GE240 := n3_; clear n0_ n1_ n2_ n3_; clear hb hbox hg; have hcz6_0 : w5.cell? ⟨gb240, 0, none⟩ = some (.int .i64 a0_0) := (blk_cell BK240.out 0).trans rfl; have hcz6_1 : w5.cell? ⟨gb240, 1, none⟩ = some (.int .i64 a0_1) := (blk_cell BK240.out 1).trans rfl; have hcz6_2 : w5.cell? ⟨gb240, 2, none⟩ = some (.int .i64 a0_2) := (blk_cell BK240.out 2).trans rfl; have hcz6_3 : w5.cell? ⟨gb240, 3, none⟩ = some (.int .u32 a0_3) := (blk_cell BK240.out 3).trans rfl; have hfz6_0 := blk_frozen BK240.out 0; have hfz6_1 := blk_frozen BK240.out 1; have hfz6_2 := blk_frozen BK240.out 2; have hfz6_3 := blk_frozen BK240.out 3))
    go_ret
    exact ⟨by first | rfl | (simp [errW_none, errW_some] <;> rfl) | (simp [*, errW_none, errW_some] <;> rfl), by repeat (first | (with_reducible first | exact HB.out | apply below_alloc | apply pw_below_drewN | apply below_drew1 | refine below_set ?_ GE240.out) | exact HB.out)⟩

end Go.Proofs.YtbgneakihibmbaaDoor.M
