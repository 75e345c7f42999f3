/- By a program of this session: what Go functions of the seat compute, as Lean functions, each with a proof that the call of the Go function comes to that. -/
import Derived.Test.YtbgneakihibmbaaDoorM0
import Derived.Test.YtbgneakihibmbaaDoorM7
import Derived.Test.YtbgneakihibmbaaDoorM10
import Derived.Test.YtbgneakihibmbaaDoorM11
namespace Go.Proofs.YtbgneakihibmbaaDoor.M
open Go.RowKit Go.Proofs.YtbgneakihibmbaaDoorW.PrintWords Go.Proofs.YtbgneakihibmbaaDoorW.PrintLast Go.Proofs.YtbgneakihibmbaaDoorW.PrintMore
attribute [local go_sem] max2_int min2_int max_two min_two max_three min_three max_four min_four   -- for this text's walks alone
set_option linter.unusedVariables false
set_option linter.unusedSimpArgs false

/-! ### hurdlelaw02_InsOnly: function 8 -/
mutual
def hurdlelaw02_InsOnly.j0 : Nat → Int → Int → Int → Int → Int → Option (Bool)
  | 0, _, _, _, _, _ => none
  | k + 1, x6, x283000, x283001, x283002, x283003 => (ins_Branch.f x283000 x283001 x283002 x283003).bind fun t286 => (if t286 = true then (hurdlelaw02_InsOnly.j1 k (wrap64 (x6 + 1)) x283000 x283001 x283002 x283003) else (hurdlelaw02_InsOnly.j1 k x6 x283000 x283001 x283002 x283003))
def hurdlelaw02_InsOnly.j1 : Nat → Int → Int → Int → Int → Int → Option (Bool)
  | 0, _, _, _, _, _ => none
  | k + 1, x6, x283000, x283001, x283002, x283003 => (ins_Ends.f x283000 x283001 x283002 x283003).bind fun t287 => (if t287 = true then (if (wrap64 (x6 + 1)) ≤ 1 then (if (wrap64 (x6 + 1)) = 0 then ((hurdlelaw02_knows.f k).bind fun t288 => (some t288)) else ((hurdleref02_Right.f k x283000 0 0 0).bind fun t289 => (if t289 = true then ((hurdlelaw02_knows.f k).bind fun t290 => (some t290)) else (none)))) else (none)) else (if x6 ≤ 1 then (if x6 = 0 then ((hurdlelaw02_knows.f k).bind fun t291 => (some t291)) else ((hurdleref02_Right.f k x283000 0 0 0).bind fun t292 => (if t292 = true then ((hurdlelaw02_knows.f k).bind fun t293 => (some t293)) else (none)))) else (none)))
end
def hurdlelaw02_InsOnly.f (k : Nat) (a0_0 : Int) (a0_1 : Int) (a0_2 : Int) (a0_3 : Int) : Option (Bool) := (ins_Alu.f a0_0 a0_1 a0_2 a0_3).bind fun bt283 => (if bt283.2.2 = true then (hurdlelaw02_InsOnly.j0 k (0 + 1) a0_0 a0_1 a0_2 a0_3) else (hurdlelaw02_InsOnly.j0 k 0 a0_0 a0_1 a0_2 a0_3))
theorem hurdlelaw02_InsOnly.mono_l : ∀ k, (∀ y0 y1 y2 y3 y4, LeO (hurdlelaw02_InsOnly.j0 k y0 y1 y2 y3 y4) (hurdlelaw02_InsOnly.j0 (k + 1) y0 y1 y2 y3 y4)) ∧ (∀ y0 y1 y2 y3 y4, LeO (hurdlelaw02_InsOnly.j1 k y0 y1 y2 y3 y4) (hurdlelaw02_InsOnly.j1 (k + 1) y0 y1 y2 y3 y4))
  | 0 => ⟨fun _ _ _ _ _ r h => by simp [hurdlelaw02_InsOnly.j0] at h, fun _ _ _ _ _ r h => by simp [hurdlelaw02_InsOnly.j1] at h⟩
  | k + 1 => by
    obtain ⟨ih0, ih1⟩ := hurdlelaw02_InsOnly.mono_l k
    refine ⟨?_, ?_⟩
    · intro y0 y1 y2 y3 y4
      unfold hurdlelaw02_InsOnly.j0
      repeat' first
      | (with_reducible exact ih0 _ _ _ _ _)
      | (with_reducible exact ih1 _ _ _ _ _)
      | (with_reducible exact hurdlelaw02_knows.mono _)
      | (with_reducible exact hurdleref02_Right.mono _ _ _ _ _)
      | (with_reducible exact LeO.refl _)
      | (with_reducible exact LeO.none _)
      | (with_reducible refine LeO.ite ?_ ?_)
      | (with_reducible refine LeO.bind ?_ (fun _ => ?_))
      | exact ih0 _ _ _ _ _
      | exact ih1 _ _ _ _ _
      | exact hurdlelaw02_knows.mono _
      | exact hurdleref02_Right.mono _ _ _ _ _
      | exact LeO.none _
      | refine LeO.ite ?_ ?_
      | refine LeO.bind ?_ (fun _ => ?_)
    · intro y0 y1 y2 y3 y4
      unfold hurdlelaw02_InsOnly.j1
      repeat' first
      | (with_reducible exact ih0 _ _ _ _ _)
      | (with_reducible exact ih1 _ _ _ _ _)
      | (with_reducible exact hurdlelaw02_knows.mono _)
      | (with_reducible exact hurdleref02_Right.mono _ _ _ _ _)
      | (with_reducible exact LeO.refl _)
      | (with_reducible exact LeO.none _)
      | (with_reducible refine LeO.ite ?_ ?_)
      | (with_reducible refine LeO.bind ?_ (fun _ => ?_))
      | exact ih0 _ _ _ _ _
      | exact ih1 _ _ _ _ _
      | exact hurdlelaw02_knows.mono _
      | exact hurdleref02_Right.mono _ _ _ _ _
      | exact LeO.none _
      | refine LeO.ite ?_ ?_
      | refine LeO.bind ?_ (fun _ => ?_)
theorem hurdlelaw02_InsOnly.mono : ∀ a0 a1 a2 a3 k, LeO (hurdlelaw02_InsOnly.f k a0 a1 a2 a3) (hurdlelaw02_InsOnly.f (k + 1) a0 a1 a2 a3) := by
  intro a0 a1 a2 a3 k
  obtain ⟨ih0, ih1⟩ := hurdlelaw02_InsOnly.mono_l k
  unfold hurdlelaw02_InsOnly.f
  repeat' first
      | (with_reducible exact ih0 _ _ _ _ _)
      | (with_reducible exact ih1 _ _ _ _ _)
      | (with_reducible exact hurdlelaw02_knows.mono _)
      | (with_reducible exact hurdleref02_Right.mono _ _ _ _ _)
      | (with_reducible exact LeO.refl _)
      | (with_reducible exact LeO.none _)
      | (with_reducible refine LeO.ite ?_ ?_)
      | (with_reducible refine LeO.bind ?_ (fun _ => ?_))
      | exact ih0 _ _ _ _ _
      | exact ih1 _ _ _ _ _
      | exact hurdlelaw02_knows.mono _
      | exact hurdleref02_Right.mono _ _ _ _ _
      | exact LeO.none _
      | refine LeO.ite ?_ ?_
      | refine LeO.bind ?_ (fun _ => ?_)
set_option maxHeartbeats 8000000 in
set_option maxRecDepth 100000 in
theorem hurdlelaw02_InsOnly.calls (k : Nat) (a0_0 : Int) (a0_1 : Int) (a0_2 : Int) (a0_3 : Int) (r : Bool) (w : World) (hG : Glob w) (h : hurdlelaw02_InsOnly.f k a0_0 a0_1 a0_2 a0_3 = some r) :
    Calls Tryd.prog 8 #[.agg #[.int .i64 a0_0, .int .i64 a0_1, .int .i64 a0_2, .int .u32 a0_3]] w fun e w' => e = .returned (.bool r) ∧ Below w.heap.size w w' := by
  have hu24 := Tryd.underlying24
  have HG := Aside0.mk hG
  clear hG
  have HB := Aside0.mk (Below.refl w.heap.size w)
  have H : ((ins_Alu.f a0_0 a0_1 a0_2 a0_3).bind fun bt283 => (if bt283.2.2 = true then (hurdlelaw02_InsOnly.j0 k (0 + 1) a0_0 a0_1 a0_2 a0_3) else (hurdlelaw02_InsOnly.j0 k 0 a0_0 a0_1 a0_2 a0_3))) = some r := h
  clear h
  replace H := Option.bind_eq_some_iff.mp H
  obtain ⟨⟨t283, t284, t285⟩, A20, H⟩ := H
  replace H : (if t285 = true then (hurdlelaw02_InsOnly.j0 k (0 + 1) a0_0 a0_1 a0_2 a0_3) else (hurdlelaw02_InsOnly.j0 k 0 a0_0 a0_1 a0_2 a0_3)) = some r := H
  have A2 := Aside0.mk A20
  clear A20
  have HC3 := Aside0.mk H
  clear H
  go_enter Tryd.func8, Tryd.ntmps8
  go_upto_if 13 with (first | ((with_reducible refine gate_dst (N := 1) rfl ?_); refine box_event ?hg (N := 1) ?hd (cs := #[.int .i64 a0_0, .int .i64 a0_1, .int .i64 a0_2, .int .u32 a0_3]) (t := 24) ?hr ?_; (case hd => rfl); (case hg => rfl); (case hr => first | (go_simp; done) | (go_simp; rfl)); intro gb282 hg w4 hbox hb; have n0_ := Aside0.mk (below_step (by repeat (first | (with_reducible first | exact HB.out | apply below_alloc | apply pw_below_drewN | apply below_drew1) | exact HB.out)) hb); have n1_ := Aside0.mk (hbox); have n2_ := Aside0.mk ((by rw [hg]; exact (below_size (by repeat (first | (with_reducible first | exact HB.out | apply below_alloc | apply pw_below_drewN | apply below_drew1) | exact HB.out))) : w.heap.size ≤ gb282)); have n3_ := Aside0.mk ((by rw [hg]; exact (below_size (by repeat (first | (with_reducible first | exact HB.out | apply below_alloc | apply pw_below_drewN | apply below_drew1) | exact HB.out))) : w.heap.size ≤ gb282)); clear HB; have HB := n0_; have BK282 := n1_; have GW282 := n2_; have GE282 := n3_; clear n0_ n1_ n2_ n3_; clear hb hbox hg; have hcz5_0 : w4.cell? ⟨gb282, 0, none⟩ = some (.int .i64 a0_0) := (blk_cell BK282.out 0).trans rfl; have hcz5_1 : w4.cell? ⟨gb282, 1, none⟩ = some (.int .i64 a0_1) := (blk_cell BK282.out 1).trans rfl; have hcz5_2 : w4.cell? ⟨gb282, 2, none⟩ = some (.int .i64 a0_2) := (blk_cell BK282.out 2).trans rfl; have hcz5_3 : w4.cell? ⟨gb282, 3, none⟩ = some (.int .u32 a0_3) := (blk_cell BK282.out 3).trans rfl; have hfz5_0 := blk_frozen BK282.out 0; have hfz5_1 := blk_frozen BK282.out 1; have hfz5_2 := blk_frozen BK282.out 2; have hfz5_3 := blk_frozen BK282.out 3) | ((with_reducible refine gate_callee (f := 16) rfl ?_); refine goesL_ (some 9) rfl rfl Tryd.func16 (by kernel_rfl) rfl #[.agg #[.int .i64 a0_0, .int .i64 a0_1, .int .i64 a0_2, .int .u32 a0_3]] rfl (by (try simp only [List.map_toArray, List.map_cons, List.map_nil]); first | done | rfl | (simp only [List.length_drop, List.length_take]; rfl)) ?_; (with_reducible refine (ins_Alu.calls a0_0 a0_1 a0_2 a0_3 t283 t284 t285 _ ?side1 A2.out).mono ?_); (case side1 => exact Glob.below HG.out (by repeat (first | (with_reducible first | exact HB.out | apply below_alloc | apply pw_below_drewN | apply below_drew1 | refine below_set ?_ GE282.out) | exact HB.out))); rintro e w6 ⟨rfl, hb⟩; refine ⟨_, rfl, ?_⟩; have n0_ := Aside0.mk (blk_below (g := gb282) (o := .cells #[.int .i64 a0_0, .int .i64 a0_1, .int .i64 a0_2, .int .u32 a0_3] 24 (0, 0)) (by (with_reducible repeat (first | refine blk_drewN ?_ _ | refine blk_drew ?_ | refine blk_alloc ?_ _)); exact BK282.out) hb); have n1_ := Aside0.mk (below_step (by repeat (first | (with_reducible first | exact HB.out | apply below_alloc | apply pw_below_drewN | apply below_drew1 | refine below_set ?_ GE282.out) | exact HB.out)) hb); clear BK282; clear HB; have BK282 := n0_; have HB := n1_; clear n0_ n1_; (try clear hb); (try clear hb2); (try clear hk); (try clear hi)))
  (try simp only [Act.put, List.setIfInBounds_toArray, List.set_cons_zero, List.set_cons_succ])
  go_cut [6] (fun v6 wc => ∃ (kq : Nat) (x6_2 : Int), v6 = .int .i64 x6_2 ∧ Aside0 (hurdlelaw02_InsOnly.j0 kq x6_2 a0_0 a0_1 a0_2 a0_3 = some r) ∧ Aside0 (kq ≤ k) ∧ Aside0 (wc.heap[gb282]? = some (.cells #[.int .i64 a0_0, .int .i64 a0_1, .int .i64 a0_2, .int .u32 a0_3] 24 (0, 0))) ∧ Aside0 (Below w.heap.size w wc))
  case first =>
    have H := HC3.out
    clear HC3
    by_cases c7 : t285 = true
    · subst c7
      have H1 : (hurdlelaw02_InsOnly.j0 k (0 + 1) a0_0 a0_1 a0_2 a0_3) = some r := by rw [if_pos rfl] at H; exact H
      clear H
      have H := H1
      clear H1
      have H' := Aside0.mk H
      clear H
      go_wp2
      go_meet
      case rel => exact ⟨_, (0 + 1), (by first | rfl | (simp; done) | (simp [*]; done)), H', ⟨by first | omega | exact Nat.le_refl _⟩, ⟨by (with_reducible repeat (first | refine blk_drewN ?_ _ | refine blk_drew ?_ | refine blk_alloc ?_ _)); exact BK282.out⟩, ⟨by repeat (first | (with_reducible first | exact HB.out | apply below_alloc | apply pw_below_drewN | apply below_drew1 | refine below_set ?_ GE282.out) | exact HB.out)⟩⟩
    · replace c7 := Bool.eq_false_iff.mpr c7
      subst c7
      have H1 : (hurdlelaw02_InsOnly.j0 k 0 a0_0 a0_1 a0_2 a0_3) = some r := by rw [if_neg (show ¬ (false = true) by decide)] at H; exact H
      clear H
      have H := H1
      clear H1
      have H' := Aside0.mk H
      clear H
      go_wp2
      go_meet
      case rel => exact ⟨_, (0), (by first | rfl | (simp; done) | (simp [*]; done)), H', ⟨by first | omega | exact Nat.le_refl _⟩, ⟨by (with_reducible repeat (first | refine blk_drewN ?_ _ | refine blk_drew ?_ | refine blk_alloc ?_ _)); exact BK282.out⟩, ⟨by repeat (first | (with_reducible first | exact HB.out | apply below_alloc | apply pw_below_drewN | apply below_drew1 | refine below_set ?_ GE282.out) | exact HB.out)⟩⟩
  case rest =>
    clear HC3
    try clear c1
    try clear p2
    try clear c7
    try clear hcz5_0
    try clear hcz5_1
    try clear hcz5_2
    try clear hcz5_3
    try clear hfz5_0
    try clear hfz5_1
    try clear hfz5_2
    try clear hfz5_3
    obtain ⟨kq, x6_2, rfl, HA, HJ2, BK282, HB⟩ := hcut
    cases kq with
    | zero => exact absurd HA.out (by simp [hurdlelaw02_InsOnly.j0])
    | succ kj2 =>
      have H := HA.out
      clear HA
      simp only [hurdlelaw02_InsOnly.j0] at H
      replace H := Option.bind_eq_some_iff.mp H
      obtain ⟨t286, A80, H⟩ := H
      replace H : (if t286 = true then (hurdlelaw02_InsOnly.j1 kj2 (wrap64 (x6_2 + 1)) a0_0 a0_1 a0_2 a0_3) else (hurdlelaw02_InsOnly.j1 kj2 x6_2 a0_0 a0_1 a0_2 a0_3)) = some r := H
      have A8 := Aside0.mk A80
      clear A80
      have HC9 := Aside0.mk H
      clear H
      have hcz10_0 : wc.cell? ⟨gb282, 0, none⟩ = some (.int .i64 a0_0) := (blk_cell BK282.out 0).trans rfl
      have hcz10_1 : wc.cell? ⟨gb282, 1, none⟩ = some (.int .i64 a0_1) := (blk_cell BK282.out 1).trans rfl
      have hcz10_2 : wc.cell? ⟨gb282, 2, none⟩ = some (.int .i64 a0_2) := (blk_cell BK282.out 2).trans rfl
      have hcz10_3 : wc.cell? ⟨gb282, 3, none⟩ = some (.int .u32 a0_3) := (blk_cell BK282.out 3).trans rfl
      have hfz10_0 := blk_frozen BK282.out 0
      have hfz10_1 := blk_frozen BK282.out 1
      have hfz10_2 := blk_frozen BK282.out 2
      have hfz10_3 := blk_frozen BK282.out 3
      go_upto_if 17 with (first | ((with_reducible refine gate_callee (f := 18) rfl ?_); refine goesL_ (some 17) rfl rfl Tryd.func18 (by kernel_rfl) rfl #[.agg #[.int .i64 a0_0, .int .i64 a0_1, .int .i64 a0_2, .int .u32 a0_3]] rfl (by (try simp only [List.map_toArray, List.map_cons, List.map_nil]); first | done | rfl | (simp only [List.length_drop, List.length_take]; rfl)) ?_; (with_reducible refine (ins_Branch.calls a0_0 a0_1 a0_2 a0_3 t286 _ ?side1 A8.out).mono ?_); (case side1 => exact Glob.below HG.out (by repeat (first | (with_reducible first | exact HB.out | apply below_alloc | apply pw_below_drewN | apply below_drew1 | refine below_set ?_ GE282.out) | exact HB.out))); rintro e w11 ⟨rfl, hb⟩; refine ⟨_, rfl, ?_⟩; have n0_ := Aside0.mk (blk_below (g := gb282) (o := .cells #[.int .i64 a0_0, .int .i64 a0_1, .int .i64 a0_2, .int .u32 a0_3] 24 (0, 0)) (by (with_reducible repeat (first | refine blk_drewN ?_ _ | refine blk_drew ?_ | refine blk_alloc ?_ _)); exact BK282.out) hb); have n1_ := Aside0.mk (below_step (by repeat (first | (with_reducible first | exact HB.out | apply below_alloc | apply pw_below_drewN | apply below_drew1 | refine below_set ?_ GE282.out) | exact HB.out)) hb); clear BK282; clear HB; have BK282 := n0_; have HB := n1_; clear n0_ n1_; (try clear hb); (try clear hb2); (try clear hk); (try clear hi)))
      (try simp only [Act.put, List.setIfInBounds_toArray, List.set_cons_zero, List.set_cons_succ])
      go_cut [6] (fun v6 wc => ∃ (kq : Nat) (x6_8 : Int), v6 = .int .i64 x6_8 ∧ Aside0 (hurdlelaw02_InsOnly.j1 kq x6_8 a0_0 a0_1 a0_2 a0_3 = some r) ∧ Aside0 (kq ≤ kj2) ∧ Aside0 (wc.heap[gb282]? = some (.cells #[.int .i64 a0_0, .int .i64 a0_1, .int .i64 a0_2, .int .u32 a0_3] 24 (0, 0))) ∧ Aside0 (Below w.heap.size w wc))
      case first =>
        have H := HC9.out
        clear HC9
        by_cases c12 : t286 = true
        · subst c12
          have H1 : (hurdlelaw02_InsOnly.j1 kj2 (wrap64 (x6_2 + 1)) a0_0 a0_1 a0_2 a0_3) = some r := by rw [if_pos rfl] at H; exact H
          clear H
          have H := H1
          clear H1
          have H' := Aside0.mk H
          clear H
          go_wp2
          go_meet
          case rel => exact ⟨_, (wrap64 (x6_2 + 1)), (by first | rfl | (simp; done) | (simp [*]; done)), H', ⟨by have := HJ2.out; first | omega | exact Nat.le_refl _⟩, ⟨by (with_reducible repeat (first | refine blk_drewN ?_ _ | refine blk_drew ?_ | refine blk_alloc ?_ _)); exact BK282.out⟩, ⟨by repeat (first | (with_reducible first | exact HB.out | apply below_alloc | apply pw_below_drewN | apply below_drew1 | refine below_set ?_ GE282.out) | exact HB.out)⟩⟩
        · replace c12 := Bool.eq_false_iff.mpr c12
          subst c12
          have H1 : (hurdlelaw02_InsOnly.j1 kj2 x6_2 a0_0 a0_1 a0_2 a0_3) = some r := by rw [if_neg (show ¬ (false = true) by decide)] at H; exact H
          clear H
          have H := H1
          clear H1
          have H' := Aside0.mk H
          clear H
          go_wp2
          go_meet
          case rel => exact ⟨_, (x6_2), (by first | rfl | (simp; done) | (simp [*]; done)), H', ⟨by have := HJ2.out; first | omega | exact Nat.le_refl _⟩, ⟨by (with_reducible repeat (first | refine blk_drewN ?_ _ | refine blk_drew ?_ | refine blk_alloc ?_ _)); exact BK282.out⟩, ⟨by repeat (first | (with_reducible first | exact HB.out | apply below_alloc | apply pw_below_drewN | apply below_drew1 | refine below_set ?_ GE282.out) | exact HB.out)⟩⟩
      case rest =>
        clear HC9
        try clear c1
        try clear p2
        try clear p6
        try clear c7
        try clear c8
        try clear c12
        try clear hcz10_0
        try clear hcz10_1
        try clear hcz10_2
        try clear hcz10_3
        try clear hcz5_0
        try clear hcz5_1
        try clear hcz5_2
        try clear hcz5_3
        try clear hfz10_0
        try clear hfz10_1
        try clear hfz10_2
        try clear hfz10_3
        try clear hfz5_0
        try clear hfz5_1
        try clear hfz5_2
        try clear hfz5_3
        try clear p2
        obtain ⟨kq, x6_8, rfl, HA, HJ8, BK282, HB⟩ := hcut
        cases kq with
        | zero => exact absurd HA.out (by simp [hurdlelaw02_InsOnly.j1])
        | succ kj8 =>
          have H := HA.out
          clear HA
          simp only [hurdlelaw02_InsOnly.j1] at H
          replace H := Option.bind_eq_some_iff.mp H
          obtain ⟨t287, A130, H⟩ := H
          replace H : (if t287 = true then (if (wrap64 (x6_8 + 1)) ≤ 1 then (if (wrap64 (x6_8 + 1)) = 0 then ((hurdlelaw02_knows.f kj8).bind fun t288 => (some t288)) else ((hurdleref02_Right.f kj8 a0_0 0 0 0).bind fun t289 => (if t289 = true then ((hurdlelaw02_knows.f kj8).bind fun t290 => (some t290)) else (none)))) else (none)) else (if x6_8 ≤ 1 then (if x6_8 = 0 then ((hurdlelaw02_knows.f kj8).bind fun t291 => (some t291)) else ((hurdleref02_Right.f kj8 a0_0 0 0 0).bind fun t292 => (if t292 = true then ((hurdlelaw02_knows.f kj8).bind fun t293 => (some t293)) else (none)))) else (none))) = some r := H
          have A13 := Aside0.mk A130
          clear A130
          by_cases c14 : t287 = true
          · subst c14
            have H1 : (if (wrap64 (x6_8 + 1)) ≤ 1 then (if (wrap64 (x6_8 + 1)) = 0 then ((hurdlelaw02_knows.f kj8).bind fun t288 => (some t288)) else ((hurdleref02_Right.f kj8 a0_0 0 0 0).bind fun t289 => (if t289 = true then ((hurdlelaw02_knows.f kj8).bind fun t290 => (some t290)) else (none)))) else (none)) = some r := by rw [if_pos rfl] at H; exact H
            clear H
            have H := H1
            clear H1
            by_cases c15 : (wrap64 (x6_8 + 1)) ≤ 1
            · rw [if_pos c15] at H
              have c15b0 : decide ((wrap64 (x6_8 + 1)) ≤ 1) = true := decide_eq_true c15
              clear c15
              by_cases c16 : (wrap64 (x6_8 + 1)) = 0
              · rw [if_pos c16] at H
                have c16b0 : ((wrap64 (x6_8 + 1)) == 0) = true := beq_iff_eq.mpr c16
                have c16b1 : ((wrap64 (x6_8 + 1)) != 0) = false := bne_eq_false_iff_eq.mpr c16
                clear c16
                replace H := Option.bind_eq_some_iff.mp H
                obtain ⟨t288, A170, H⟩ := H
                replace H : (some t288) = some r := H
                have A17 := Aside0.mk A170
                clear A170
                obtain rfl := Option.some.inj H
                have hcz18_0 : wc.cell? ⟨gb282, 0, none⟩ = some (.int .i64 a0_0) := (blk_cell BK282.out 0).trans rfl
                have hcz18_1 : wc.cell? ⟨gb282, 1, none⟩ = some (.int .i64 a0_1) := (blk_cell BK282.out 1).trans rfl
                have hcz18_2 : wc.cell? ⟨gb282, 2, none⟩ = some (.int .i64 a0_2) := (blk_cell BK282.out 2).trans rfl
                have hcz18_3 : wc.cell? ⟨gb282, 3, none⟩ = some (.int .u32 a0_3) := (blk_cell BK282.out 3).trans rfl
                have hfz18_0 := blk_frozen BK282.out 0
                have hfz18_1 := blk_frozen BK282.out 1
                have hfz18_2 := blk_frozen BK282.out 2
                have hfz18_3 := blk_frozen BK282.out 3
                go_wp2_with (first | ((with_reducible refine gate_callee (f := 20) rfl ?_); refine goesL_ (some 21) rfl rfl Tryd.func20 (by kernel_rfl) rfl #[.agg #[.int .i64 a0_0, .int .i64 a0_1, .int .i64 a0_2, .int .u32 a0_3]] rfl (by (try simp only [List.map_toArray, List.map_cons, List.map_nil]); first | done | rfl | (simp only [List.length_drop, List.length_take]; rfl)) ?_; (with_reducible refine (ins_Ends.calls a0_0 a0_1 a0_2 a0_3 true _ A13.out).mono ?_); rintro e w19 ⟨rfl, hb⟩; refine ⟨_, rfl, ?_⟩; have n0_ := Aside0.mk (blk_below (g := gb282) (o := .cells #[.int .i64 a0_0, .int .i64 a0_1, .int .i64 a0_2, .int .u32 a0_3] 24 (0, 0)) (by (with_reducible repeat (first | refine blk_drewN ?_ _ | refine blk_drew ?_ | refine blk_alloc ?_ _)); exact BK282.out) hb); have n1_ := Aside0.mk (below_step (by repeat (first | (with_reducible first | exact HB.out | apply below_alloc | apply pw_below_drewN | apply below_drew1 | refine below_set ?_ GE282.out) | exact HB.out)) hb); clear BK282; clear HB; have BK282 := n0_; have HB := n1_; clear n0_ n1_; (try clear hb); (try clear hb2); (try clear hk); (try clear hi)) | (go_at_call 12; (with_reducible refine (hurdlelaw02_knows.calls kj8  t288 _ ?side1 A17.out).mono ?_); (case side1 => exact Glob.below HG.out (by repeat (first | (with_reducible first | exact HB.out | apply below_alloc | apply pw_below_drewN | apply below_drew1 | refine below_set ?_ GE282.out) | exact HB.out))); rintro e w20 ⟨rfl, hb⟩; have n0_ := Aside0.mk (blk_below (g := gb282) (o := .cells #[.int .i64 a0_0, .int .i64 a0_1, .int .i64 a0_2, .int .u32 a0_3] 24 (0, 0)) (by (with_reducible repeat (first | refine blk_drewN ?_ _ | refine blk_drew ?_ | refine blk_alloc ?_ _)); exact BK282.out) hb); have n1_ := Aside0.mk (below_step (by repeat (first | (with_reducible first | exact HB.out | apply below_alloc | apply pw_below_drewN | apply below_drew1 | refine below_set ?_ GE282.out) | exact HB.out)) hb); clear BK282; clear HB; have BK282 := n0_; have HB := n1_; clear n0_ n1_; (try clear hb); (try clear hb2); (try clear hk); (try clear hi)))
                go_ret
                exact ⟨by first | rfl | (simp [errW_none, errW_some] <;> rfl) | (simp [*, errW_none, errW_some] <;> rfl), by repeat (first | (with_reducible first | exact HB.out | apply below_alloc | apply pw_below_drewN | apply below_drew1 | refine below_set ?_ GE282.out) | exact HB.out)⟩
              · rw [if_neg c16] at H
                have c16b0 : ((wrap64 (x6_8 + 1)) == 0) = false := beq_eq_false_iff_ne.mpr c16
                have c16b1 : ((wrap64 (x6_8 + 1)) != 0) = true := bne_iff_ne.mpr c16
                replace H := Option.bind_eq_some_iff.mp H
                obtain ⟨t289, A210, H⟩ := H
                replace H : (if t289 = true then ((hurdlelaw02_knows.f kj8).bind fun t290 => (some t290)) else (none)) = some r := H
                have A21 := Aside0.mk A210
                clear A210
                by_cases c22 : t289 = true
                · subst c22
                  have H1 : ((hurdlelaw02_knows.f kj8).bind fun t290 => (some t290)) = some r := by rw [if_pos rfl] at H; exact H
                  clear H
                  have H := H1
                  clear H1
                  replace H := Option.bind_eq_some_iff.mp H
                  obtain ⟨t290, A230, H⟩ := H
                  replace H : (some t290) = some r := H
                  have A23 := Aside0.mk A230
                  clear A230
                  obtain rfl := Option.some.inj H
                  have hcz24_0 : wc.cell? ⟨gb282, 0, none⟩ = some (.int .i64 a0_0) := (blk_cell BK282.out 0).trans rfl
                  have hcz24_1 : wc.cell? ⟨gb282, 1, none⟩ = some (.int .i64 a0_1) := (blk_cell BK282.out 1).trans rfl
                  have hcz24_2 : wc.cell? ⟨gb282, 2, none⟩ = some (.int .i64 a0_2) := (blk_cell BK282.out 2).trans rfl
                  have hcz24_3 : wc.cell? ⟨gb282, 3, none⟩ = some (.int .u32 a0_3) := (blk_cell BK282.out 3).trans rfl
                  have hfz24_0 := blk_frozen BK282.out 0
                  have hfz24_1 := blk_frozen BK282.out 1
                  have hfz24_2 := blk_frozen BK282.out 2
                  have hfz24_3 := blk_frozen BK282.out 3
                  go_wp2_with (first | ((with_reducible refine gate_callee (f := 20) rfl ?_); refine goesL_ (some 21) rfl rfl Tryd.func20 (by kernel_rfl) rfl #[.agg #[.int .i64 a0_0, .int .i64 a0_1, .int .i64 a0_2, .int .u32 a0_3]] rfl (by (try simp only [List.map_toArray, List.map_cons, List.map_nil]); first | done | rfl | (simp only [List.length_drop, List.length_take]; rfl)) ?_; (with_reducible refine (ins_Ends.calls a0_0 a0_1 a0_2 a0_3 true _ A13.out).mono ?_); rintro e w25 ⟨rfl, hb⟩; refine ⟨_, rfl, ?_⟩; have n0_ := Aside0.mk (blk_below (g := gb282) (o := .cells #[.int .i64 a0_0, .int .i64 a0_1, .int .i64 a0_2, .int .u32 a0_3] 24 (0, 0)) (by (with_reducible repeat (first | refine blk_drewN ?_ _ | refine blk_drew ?_ | refine blk_alloc ?_ _)); exact BK282.out) hb); have n1_ := Aside0.mk (below_step (by repeat (first | (with_reducible first | exact HB.out | apply below_alloc | apply pw_below_drewN | apply below_drew1 | refine below_set ?_ GE282.out) | exact HB.out)) hb); clear BK282; clear HB; have BK282 := n0_; have HB := n1_; clear n0_ n1_; (try clear hb); (try clear hb2); (try clear hk); (try clear hi); have hcz26_0 : w25.cell? ⟨gb282, 0, none⟩ = some (.int .i64 a0_0) := (blk_cell BK282.out 0).trans rfl; have hcz26_1 : w25.cell? ⟨gb282, 1, none⟩ = some (.int .i64 a0_1) := (blk_cell BK282.out 1).trans rfl; have hcz26_2 : w25.cell? ⟨gb282, 2, none⟩ = some (.int .i64 a0_2) := (blk_cell BK282.out 2).trans rfl; have hcz26_3 : w25.cell? ⟨gb282, 3, none⟩ = some (.int .u32 a0_3) := (blk_cell BK282.out 3).trans rfl; have hfz26_0 := blk_frozen BK282.out 0; have hfz26_1 := blk_frozen BK282.out 1; have hfz26_2 := blk_frozen BK282.out 2; have hfz26_3 := blk_frozen BK282.out 3) | (go_at_call 10; (with_reducible refine (hurdleref02_Right.calls kj8 a0_0 0 0 0 true _ A21.out).mono ?_); rintro e w27 ⟨rfl, hb⟩; have n0_ := Aside0.mk (blk_below (g := gb282) (o := .cells #[.int .i64 a0_0, .int .i64 a0_1, .int .i64 a0_2, .int .u32 a0_3] 24 (0, 0)) (by (with_reducible repeat (first | refine blk_drewN ?_ _ | refine blk_drew ?_ | refine blk_alloc ?_ _)); exact BK282.out) hb); have n1_ := Aside0.mk (below_step (by repeat (first | (with_reducible first | exact HB.out | apply below_alloc | apply pw_below_drewN | apply below_drew1 | refine below_set ?_ GE282.out) | exact HB.out)) hb); clear BK282; clear HB; have BK282 := n0_; have HB := n1_; clear n0_ n1_; (try clear hb); (try clear hb2); (try clear hk); (try clear hi)) | (go_at_call 12; (with_reducible refine (hurdlelaw02_knows.calls kj8  t290 _ ?side1 A23.out).mono ?_); (case side1 => exact Glob.below HG.out (by repeat (first | (with_reducible first | exact HB.out | apply below_alloc | apply pw_below_drewN | apply below_drew1 | refine below_set ?_ GE282.out) | exact HB.out))); rintro e w28 ⟨rfl, hb⟩; have n0_ := Aside0.mk (blk_below (g := gb282) (o := .cells #[.int .i64 a0_0, .int .i64 a0_1, .int .i64 a0_2, .int .u32 a0_3] 24 (0, 0)) (by (with_reducible repeat (first | refine blk_drewN ?_ _ | refine blk_drew ?_ | refine blk_alloc ?_ _)); exact BK282.out) hb); have n1_ := Aside0.mk (below_step (by repeat (first | (with_reducible first | exact HB.out | apply below_alloc | apply pw_below_drewN | apply below_drew1 | refine below_set ?_ GE282.out) | exact HB.out)) hb); clear BK282; clear HB; have BK282 := n0_; have HB := n1_; clear n0_ n1_; (try clear hb); (try clear hb2); (try clear hk); (try clear hi)))
                  go_ret
                  exact ⟨by first | rfl | (simp [errW_none, errW_some] <;> rfl) | (simp [*, errW_none, errW_some] <;> rfl), by repeat (first | (with_reducible first | exact HB.out | apply below_alloc | apply pw_below_drewN | apply below_drew1 | refine below_set ?_ GE282.out) | exact HB.out)⟩
                · replace c22 := Bool.eq_false_iff.mpr c22
                  subst c22
                  have H1 : (none) = some r := by rw [if_neg (show ¬ (false = true) by decide)] at H; exact H
                  clear H
                  have H := H1
                  clear H1
                  exact absurd H (by simp)
            · rw [if_neg c15] at H
              exact absurd H (by simp)
          · replace c14 := Bool.eq_false_iff.mpr c14
            subst c14
            have H1 : (if x6_8 ≤ 1 then (if x6_8 = 0 then ((hurdlelaw02_knows.f kj8).bind fun t291 => (some t291)) else ((hurdleref02_Right.f kj8 a0_0 0 0 0).bind fun t292 => (if t292 = true then ((hurdlelaw02_knows.f kj8).bind fun t293 => (some t293)) else (none)))) else (none)) = some r := by rw [if_neg (show ¬ (false = true) by decide)] at H; exact H
            clear H
            have H := H1
            clear H1
            by_cases c29 : x6_8 ≤ 1
            · rw [if_pos c29] at H
              have c29b0 : decide (x6_8 ≤ 1) = true := decide_eq_true c29
              clear c29
              by_cases c30 : x6_8 = 0
              · rw [if_pos c30] at H
                have c30b0 : (x6_8 == 0) = true := beq_iff_eq.mpr c30
                have c30b1 : (x6_8 != 0) = false := bne_eq_false_iff_eq.mpr c30
                clear c30
                replace H := Option.bind_eq_some_iff.mp H
                obtain ⟨t291, A310, H⟩ := H
                replace H : (some t291) = some r := H
                have A31 := Aside0.mk A310
                clear A310
                obtain rfl := Option.some.inj H
                have hcz32_0 : wc.cell? ⟨gb282, 0, none⟩ = some (.int .i64 a0_0) := (blk_cell BK282.out 0).trans rfl
                have hcz32_1 : wc.cell? ⟨gb282, 1, none⟩ = some (.int .i64 a0_1) := (blk_cell BK282.out 1).trans rfl
                have hcz32_2 : wc.cell? ⟨gb282, 2, none⟩ = some (.int .i64 a0_2) := (blk_cell BK282.out 2).trans rfl
                have hcz32_3 : wc.cell? ⟨gb282, 3, none⟩ = some (.int .u32 a0_3) := (blk_cell BK282.out 3).trans rfl
                have hfz32_0 := blk_frozen BK282.out 0
                have hfz32_1 := blk_frozen BK282.out 1
                have hfz32_2 := blk_frozen BK282.out 2
                have hfz32_3 := blk_frozen BK282.out 3
                go_wp2_with (first | ((with_reducible refine gate_callee (f := 20) rfl ?_); refine goesL_ (some 21) rfl rfl Tryd.func20 (by kernel_rfl) rfl #[.agg #[.int .i64 a0_0, .int .i64 a0_1, .int .i64 a0_2, .int .u32 a0_3]] rfl (by (try simp only [List.map_toArray, List.map_cons, List.map_nil]); first | done | rfl | (simp only [List.length_drop, List.length_take]; rfl)) ?_; (with_reducible refine (ins_Ends.calls a0_0 a0_1 a0_2 a0_3 false _ A13.out).mono ?_); rintro e w33 ⟨rfl, hb⟩; refine ⟨_, rfl, ?_⟩; have n0_ := Aside0.mk (blk_below (g := gb282) (o := .cells #[.int .i64 a0_0, .int .i64 a0_1, .int .i64 a0_2, .int .u32 a0_3] 24 (0, 0)) (by (with_reducible repeat (first | refine blk_drewN ?_ _ | refine blk_drew ?_ | refine blk_alloc ?_ _)); exact BK282.out) hb); have n1_ := Aside0.mk (below_step (by repeat (first | (with_reducible first | exact HB.out | apply below_alloc | apply pw_below_drewN | apply below_drew1 | refine below_set ?_ GE282.out) | exact HB.out)) hb); clear BK282; clear HB; have BK282 := n0_; have HB := n1_; clear n0_ n1_; (try clear hb); (try clear hb2); (try clear hk); (try clear hi)) | (go_at_call 12; (with_reducible refine (hurdlelaw02_knows.calls kj8  t291 _ ?side1 A31.out).mono ?_); (case side1 => exact Glob.below HG.out (by repeat (first | (with_reducible first | exact HB.out | apply below_alloc | apply pw_below_drewN | apply below_drew1 | refine below_set ?_ GE282.out) | exact HB.out))); rintro e w34 ⟨rfl, hb⟩; have n0_ := Aside0.mk (blk_below (g := gb282) (o := .cells #[.int .i64 a0_0, .int .i64 a0_1, .int .i64 a0_2, .int .u32 a0_3] 24 (0, 0)) (by (with_reducible repeat (first | refine blk_drewN ?_ _ | refine blk_drew ?_ | refine blk_alloc ?_ _)); exact BK282.out) hb); have n1_ := Aside0.mk (below_step (by repeat (first | (with_reducible first | exact HB.out | apply below_alloc | apply pw_below_drewN | apply below_drew1 | refine below_set ?_ GE282.out) | exact HB.out)) hb); clear BK282; clear HB; have BK282 := n0_; have HB := n1_; clear n0_ n1_; (try clear hb); (try clear hb2); (try clear hk); (try clear hi)))
                go_ret
                exact ⟨by first | rfl | (simp [errW_none, errW_some] <;> rfl) | (simp [*, errW_none, errW_some] <;> rfl), by repeat (first | (with_reducible first | exact HB.out | apply below_alloc | apply pw_below_drewN | apply below_drew1 | refine below_set ?_ GE282.out) | exact HB.out)⟩
              · rw [if_neg c30] at H
                have c30b0 : (x6_8 == 0) = false := beq_eq_false_iff_ne.mpr c30
                have c30b1 : (x6_8 != 0) = true := bne_iff_ne.mpr c30
                replace H := Option.bind_eq_some_iff.mp H
                obtain ⟨t292, A350, H⟩ := H
                replace H : (if t292 = true then ((hurdlelaw02_knows.f kj8).bind fun t293 => (some t293)) else (none)) = some r := H
                have A35 := Aside0.mk A350
                clear A350
                by_cases c36 : t292 = true
                · subst c36
                  have H1 : ((hurdlelaw02_knows.f kj8).bind fun t293 => (some t293)) = some r := by rw [if_pos rfl] at H; exact H
                  clear H
                  have H := H1
                  clear H1
                  replace H := Option.bind_eq_some_iff.mp H
                  obtain ⟨t293, A370, H⟩ := H
                  replace H : (some t293) = some r := H
                  have A37 := Aside0.mk A370
                  clear A370
                  obtain rfl := Option.some.inj H
                  have hcz38_0 : wc.cell? ⟨gb282, 0, none⟩ = some (.int .i64 a0_0) := (blk_cell BK282.out 0).trans rfl
                  have hcz38_1 : wc.cell? ⟨gb282, 1, none⟩ = some (.int .i64 a0_1) := (blk_cell BK282.out 1).trans rfl
                  have hcz38_2 : wc.cell? ⟨gb282, 2, none⟩ = some (.int .i64 a0_2) := (blk_cell BK282.out 2).trans rfl
                  have hcz38_3 : wc.cell? ⟨gb282, 3, none⟩ = some (.int .u32 a0_3) := (blk_cell BK282.out 3).trans rfl
                  have hfz38_0 := blk_frozen BK282.out 0
                  have hfz38_1 := blk_frozen BK282.out 1
                  have hfz38_2 := blk_frozen BK282.out 2
                  have hfz38_3 := blk_frozen BK282.out 3
                  go_wp2_with (first | ((with_reducible refine gate_callee (f := 20) rfl ?_); refine goesL_ (some 21) rfl rfl Tryd.func20 (by kernel_rfl) rfl #[.agg #[.int .i64 a0_0, .int .i64 a0_1, .int .i64 a0_2, .int .u32 a0_3]] rfl (by (try simp only [List.map_toArray, List.map_cons, List.map_nil]); first | done | rfl | (simp only [List.length_drop, List.length_take]; rfl)) ?_; (with_reducible refine (ins_Ends.calls a0_0 a0_1 a0_2 a0_3 false _ A13.out).mono ?_); rintro e w39 ⟨rfl, hb⟩; refine ⟨_, rfl, ?_⟩; have n0_ := Aside0.mk (blk_below (g := gb282) (o := .cells #[.int .i64 a0_0, .int .i64 a0_1, .int .i64 a0_2, .int .u32 a0_3] 24 (0, 0)) (by (with_reducible repeat (first | refine blk_drewN ?_ _ | refine blk_drew ?_ | refine blk_alloc ?_ _)); exact BK282.out) hb); have n1_ := Aside0.mk (below_step (by repeat (first | (with_reducible first | exact HB.out | apply below_alloc | apply pw_below_drewN | apply below_drew1 | refine below_set ?_ GE282.out) | exact HB.out)) hb); clear BK282; clear HB; have BK282 := n0_; have HB := n1_; clear n0_ n1_; (try clear hb); (try clear hb2); (try clear hk); (try clear hi); have hcz40_0 : w39.cell? ⟨gb282, 0, none⟩ = some (.int .i64 a0_0) := (blk_cell BK282.out 0).trans rfl; have hcz40_1 : w39.cell? ⟨gb282, 1, none⟩ = some (.int .i64 a0_1) := (blk_cell BK282.out 1).trans rfl; have hcz40_2 : w39.cell? ⟨gb282, 2, none⟩ = some (.int .i64 a0_2) := (blk_cell BK282.out 2).trans rfl; have hcz40_3 : w39.cell? ⟨gb282, 3, none⟩ = some (.int .u32 a0_3) := (blk_cell BK282.out 3).trans rfl; have hfz40_0 := blk_frozen BK282.out 0; have hfz40_1 := blk_frozen BK282.out 1; have hfz40_2 := blk_frozen BK282.out 2; have hfz40_3 := blk_frozen BK282.out 3) | (go_at_call 10; (with_reducible refine (hurdleref02_Right.calls kj8 a0_0 0 0 0 true _ A35.out).mono ?_); rintro e w41 ⟨rfl, hb⟩; have n0_ := Aside0.mk (blk_below (g := gb282) (o := .cells #[.int .i64 a0_0, .int .i64 a0_1, .int .i64 a0_2, .int .u32 a0_3] 24 (0, 0)) (by (with_reducible repeat (first | refine blk_drewN ?_ _ | refine blk_drew ?_ | refine blk_alloc ?_ _)); exact BK282.out) hb); have n1_ := Aside0.mk (below_step (by repeat (first | (with_reducible first | exact HB.out | apply below_alloc | apply pw_below_drewN | apply below_drew1 | refine below_set ?_ GE282.out) | exact HB.out)) hb); clear BK282; clear HB; have BK282 := n0_; have HB := n1_; clear n0_ n1_; (try clear hb); (try clear hb2); (try clear hk); (try clear hi)) | (go_at_call 12; (with_reducible refine (hurdlelaw02_knows.calls kj8  t293 _ ?side1 A37.out).mono ?_); (case side1 => exact Glob.below HG.out (by repeat (first | (with_reducible first | exact HB.out | apply below_alloc | apply pw_below_drewN | apply below_drew1 | refine below_set ?_ GE282.out) | exact HB.out))); rintro e w42 ⟨rfl, hb⟩; have n0_ := Aside0.mk (blk_below (g := gb282) (o := .cells #[.int .i64 a0_0, .int .i64 a0_1, .int .i64 a0_2, .int .u32 a0_3] 24 (0, 0)) (by (with_reducible repeat (first | refine blk_drewN ?_ _ | refine blk_drew ?_ | refine blk_alloc ?_ _)); exact BK282.out) hb); have n1_ := Aside0.mk (below_step (by repeat (first | (with_reducible first | exact HB.out | apply below_alloc | apply pw_below_drewN | apply below_drew1 | refine below_set ?_ GE282.out) | exact HB.out)) hb); clear BK282; clear HB; have BK282 := n0_; have HB := n1_; clear n0_ n1_; (try clear hb); (try clear hb2); (try clear hk); (try clear hi)))
                  go_ret
                  exact ⟨by first | rfl | (simp [errW_none, errW_some] <;> rfl) | (simp [*, errW_none, errW_some] <;> rfl), by repeat (first | (with_reducible first | exact HB.out | apply below_alloc | apply pw_below_drewN | apply below_drew1 | refine below_set ?_ GE282.out) | exact HB.out)⟩
                · replace c36 := Bool.eq_false_iff.mpr c36
                  subst c36
                  have H1 : (none) = some r := by rw [if_neg (show ¬ (false = true) by decide)] at H; exact H
                  clear H
                  have H := H1
                  clear H1
                  exact absurd H (by simp)
            · rw [if_neg c29] at H
              exact absurd H (by simp)

end Go.Proofs.YtbgneakihibmbaaDoor.M
