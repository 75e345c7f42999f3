/- By a program of this session: what Go functions of the seat compute, as Lean functions, each with a proof that the call of the Go function comes to that. -/
import Derived.Test.YtacfdcgogadamaaDoorM0
import Derived.Test.YtacfdcgogadamaaDoorM10
import Derived.Test.YtacfdcgogadamaaDoorM11
namespace Go.Proofs.YtacfdcgogadamaaDoor.M
open Go.RowKit Go.Proofs.YtacfdcgogadamaaDoorW.PrintWords Go.Proofs.YtacfdcgogadamaaDoorW.PrintLast Go.Proofs.YtacfdcgogadamaaDoorW.PrintMore
attribute [local go_sem] max2_int min2_int max_two min_two max_three min_three max_four min_four   -- for this text's walks alone
set_option linter.unusedVariables false
set_option linter.unusedSimpArgs false

/-! ### hurdleref05_Next: function 16 -/
mutual
def hurdleref05_Next.l0 : Nat → List (S36) → Int → List Int → Int → Int → Int → Int → Int → Option (List Int)
  | 0, _, _, _, _, _, _, _, _ => none
  | k + 1, x0, x1, x6, x7, x213000, x213001, x213002, x213003 => if x7 < (x0.length : Int) then (if x213000 = 5 then (hurdleref05_Next.j1 k x0 x1 x6 x7 (wrap64 ((wrap64 (x7 - x1)) - 1)) ((IntKind.u64.wrap (wrap64 ((wrap64 (x7 - x1)) - 1))) == (IntKind.u64.wrap (x213003))) x213000 x213001 x213002 x213003) else (hurdleref05_Next.j1 k x0 x1 x6 x7 (wrap64 ((wrap64 (x7 - x1)) - 1)) ((wrap64 ((wrap64 (x7 - x1)) - 1)) == 0) x213000 x213001 x213002 x213003)) else (some x6)
def hurdleref05_Next.j1 : Nat → List (S36) → Int → List Int → Int → Int → Bool → Int → Int → Int → Int → Option (List Int)
  | 0, _, _, _, _, _, _, _, _, _, _ => none
  | k + 1, x0, x1, x6, x7, x8, x9, x213000, x213001, x213002, x213003 => (hurdleref02_Branch.f k x213000 x213001 x213002 x213003).bind fun t213 => (if t213 = true then (if x8 = x213001 then ((hurdleref02_Ends.f x213000 x213001 x213002 x213003).bind fun t214 => (if t214 = true then (hurdleref05_Next.l0 k x0 x1 x6 (wrap64 (x7 + 1)) x213000 x213001 x213002 x213003) else (if x6.length < 17592186044416 then (hurdleref05_Next.l0 k x0 x1 (x6 ++ [x7]) (wrap64 (x7 + 1)) x213000 x213001 x213002 x213003) else (none)))) else (if x8 = x213002 then ((hurdleref02_Ends.f x213000 x213001 x213002 x213003).bind fun t218 => (if t218 = true then (hurdleref05_Next.l0 k x0 x1 x6 (wrap64 (x7 + 1)) x213000 x213001 x213002 x213003) else (if x6.length < 17592186044416 then (hurdleref05_Next.l0 k x0 x1 (x6 ++ [x7]) (wrap64 (x7 + 1)) x213000 x213001 x213002 x213003) else (none)))) else (hurdleref05_Next.l0 k x0 x1 x6 (wrap64 (x7 + 1)) x213000 x213001 x213002 x213003))) else (if x9 = true then ((hurdleref02_Ends.f x213000 x213001 x213002 x213003).bind fun t222 => (if t222 = true then (hurdleref05_Next.l0 k x0 x1 x6 (wrap64 (x7 + 1)) x213000 x213001 x213002 x213003) else (if x6.length < 17592186044416 then (hurdleref05_Next.l0 k x0 x1 (x6 ++ [x7]) (wrap64 (x7 + 1)) x213000 x213001 x213002 x213003) else (none)))) else (hurdleref05_Next.l0 k x0 x1 x6 (wrap64 (x7 + 1)) x213000 x213001 x213002 x213003)))
end
def hurdleref05_Next.f (k : Nat) (l0 : List (S36)) (a1 : Int) : Option (List Int) := if 0 ≤ a1 then (if a1 < (l0.length : Int) then (hurdleref05_Next.l0 k l0 a1 ([] : List Int) (wrap64 (a1 + 1)) ((rd_T36 l0 a1).f0) ((rd_T36 l0 a1).f1) ((rd_T36 l0 a1).f2) ((rd_T36 l0 a1).f3)) else (none)) else (none)
theorem hurdleref05_Next.mono_l : ∀ k, (∀ y0 y1 y2 y3 y4 y5 y6 y7, LeO (hurdleref05_Next.l0 k y0 y1 y2 y3 y4 y5 y6 y7) (hurdleref05_Next.l0 (k + 1) y0 y1 y2 y3 y4 y5 y6 y7)) ∧ (∀ y0 y1 y2 y3 y4 y5 y6 y7 y8 y9, LeO (hurdleref05_Next.j1 k y0 y1 y2 y3 y4 y5 y6 y7 y8 y9) (hurdleref05_Next.j1 (k + 1) y0 y1 y2 y3 y4 y5 y6 y7 y8 y9))
  | 0 => ⟨fun _ _ _ _ _ _ _ _ r h => by simp [hurdleref05_Next.l0] at h, fun _ _ _ _ _ _ _ _ _ _ r h => by simp [hurdleref05_Next.j1] at h⟩
  | k + 1 => by
    obtain ⟨ih0, ih1⟩ := hurdleref05_Next.mono_l k
    refine ⟨?_, ?_⟩
    · intro y0 y1 y2 y3 y4 y5 y6 y7
      unfold hurdleref05_Next.l0
      repeat' first
      | (with_reducible exact ih0 _ _ _ _ _ _ _ _)
      | (with_reducible exact ih1 _ _ _ _ _ _ _ _ _ _)
      | (with_reducible exact hurdleref02_Branch.mono _ _ _ _ _)
      | (with_reducible exact LeO.refl _)
      | (with_reducible exact LeO.none _)
      | (with_reducible refine LeO.ite ?_ ?_)
      | (with_reducible refine LeO.bind ?_ (fun _ => ?_))
      | exact ih0 _ _ _ _ _ _ _ _
      | exact ih1 _ _ _ _ _ _ _ _ _ _
      | exact hurdleref02_Branch.mono _ _ _ _ _
      | exact LeO.none _
      | refine LeO.ite ?_ ?_
      | refine LeO.bind ?_ (fun _ => ?_)
    · intro y0 y1 y2 y3 y4 y5 y6 y7 y8 y9
      unfold hurdleref05_Next.j1
      repeat' first
      | (with_reducible exact ih0 _ _ _ _ _ _ _ _)
      | (with_reducible exact ih1 _ _ _ _ _ _ _ _ _ _)
      | (with_reducible exact hurdleref02_Branch.mono _ _ _ _ _)
      | (with_reducible exact LeO.refl _)
      | (with_reducible exact LeO.none _)
      | (with_reducible refine LeO.ite ?_ ?_)
      | (with_reducible refine LeO.bind ?_ (fun _ => ?_))
      | exact ih0 _ _ _ _ _ _ _ _
      | exact ih1 _ _ _ _ _ _ _ _ _ _
      | exact hurdleref02_Branch.mono _ _ _ _ _
      | exact LeO.none _
      | refine LeO.ite ?_ ?_
      | refine LeO.bind ?_ (fun _ => ?_)
theorem hurdleref05_Next.mono : ∀ a0 a1 k, LeO (hurdleref05_Next.f k a0 a1) (hurdleref05_Next.f (k + 1) a0 a1) := by
  intro a0 a1 k
  obtain ⟨ih0, ih1⟩ := hurdleref05_Next.mono_l k
  unfold hurdleref05_Next.f
  repeat' first
      | (with_reducible exact ih0 _ _ _ _ _ _ _ _)
      | (with_reducible exact ih1 _ _ _ _ _ _ _ _ _ _)
      | (with_reducible exact hurdleref02_Branch.mono _ _ _ _ _)
      | (with_reducible exact LeO.refl _)
      | (with_reducible exact LeO.none _)
      | (with_reducible refine LeO.ite ?_ ?_)
      | (with_reducible refine LeO.bind ?_ (fun _ => ?_))
      | exact ih0 _ _ _ _ _ _ _ _
      | exact ih1 _ _ _ _ _ _ _ _ _ _
      | exact hurdleref02_Branch.mono _ _ _ _ _
      | exact LeO.none _
      | refine LeO.ite ?_ ?_
      | refine LeO.bind ?_ (fun _ => ?_)
set_option maxHeartbeats 8000000 in
set_option maxRecDepth 100000 in
theorem hurdleref05_Next.calls (k : Nat) (A0 : Option Addr) (c0 : Nat) (l0 : List (S36)) (a1 : Int) (r : List Int) (w : World) (hr0 : Kd.C k36 w A0 l0.length l0) (hc0 : l0.length ≤ c0) (h : hurdleref05_Next.f k l0 a1 = some r) :
    Calls Tryd.prog 16 #[.slice A0 l0.length c0, .int .i64 a1] w fun e w' => ∃ v0_ : Value, e = .returned (v0_) ∧ Kd.R (Kd.int .i64) 3 w' w.heap.size (fun _ => True) v0_ r ∧ Below w.heap.size w w' := by
  have hu36 := Tryd.underlying36
  have HR0 := Aside0.mk hr0
  have HC0 := Aside0.mk hc0
  clear hr0 hc0
  have HB := Aside0.mk (Below.refl w.heap.size w)
  have H : (if 0 ≤ a1 then (if a1 < (l0.length : Int) then (hurdleref05_Next.l0 k l0 a1 ([] : List Int) (wrap64 (a1 + 1)) ((rd_T36 l0 a1).f0) ((rd_T36 l0 a1).f1) ((rd_T36 l0 a1).f2) ((rd_T36 l0 a1).f3)) else (none)) else (none)) = some r := h
  clear h
  by_cases c3 : 0 ≤ a1
  · rw [if_pos c3] at H
    have c3b0 : decide (0 ≤ a1) = true := decide_eq_true c3
    clear c3
    by_cases c4 : a1 < (l0.length : Int)
    · rw [if_pos c4] at H
      have c4b0 : decide (a1 < (l0.length : Int)) = true := decide_eq_true c4
      clear c4
      have H' := Aside0.mk H
      clear H
      have p211 : 0 ≤ (a1 : Int) := of_decide_eq_true (by first | (with_reducible assumption) | assumption)
      have q211 : a1 < (l0.length : Int) := of_decide_eq_true (by first | (with_reducible assumption) | assumption)
      obtain ⟨ad211, e211, hx211_0, hx211_1, hx211_2, hx211_3⟩ := at_T36 HR0.out a1 p211 q211
      cases e211
      replace p211 := eq_true p211
      replace q211 := eq_true q211
      go_enter Tryd.func16, Tryd.ntmps16
      go_wp2_with (first | ((with_reducible refine gate_dst (N := 5) rfl ?_); refine box_event ?hg (N := 5) ?hd (cs := #[.int .i64 0, .int .i64 0, .int .i64 0, .int .u32 0]) (t := 36) ?hr ?_; (case hd => rfl); (case hg => rfl); (case hr => first | (go_simp; done) | (go_simp; rfl)); intro gb212 hg w5 hbox hb; have n0_ := Aside0.mk (below_step (by repeat (first | (with_reducible first | exact HB.out | apply below_alloc | apply pw_below_drewN | apply below_drew1) | exact HB.out)) hb); have n1_ := Aside0.mk (hbox); have n2_ := Aside0.mk ((by rw [hg]; exact (below_size (by repeat (first | (with_reducible first | exact HB.out | apply below_alloc | apply pw_below_drewN | apply below_drew1) | exact HB.out))) : w.heap.size ≤ gb212)); have n3_ := Aside0.mk ((by rw [hg]; exact (below_size (by repeat (first | (with_reducible first | exact HB.out | apply below_alloc | apply pw_below_drewN | apply below_drew1) | exact HB.out))) : w.heap.size ≤ gb212)); clear HB; have HB := n0_; have BK212 := n1_; have GW212 := n2_; have GE212 := n3_; clear n0_ n1_ n2_ n3_; clear hb hbox hg; have hcz6_0 : w5.cell? ⟨gb212, 0, none⟩ = some (.int .i64 0) := (blk_cell BK212.out 0).trans rfl; have hcz6_1 : w5.cell? ⟨gb212, 1, none⟩ = some (.int .i64 0) := (blk_cell BK212.out 1).trans rfl; have hcz6_2 : w5.cell? ⟨gb212, 2, none⟩ = some (.int .i64 0) := (blk_cell BK212.out 2).trans rfl; have hcz6_3 : w5.cell? ⟨gb212, 3, none⟩ = some (.int .u32 0) := (blk_cell BK212.out 3).trans rfl; have hfz6_0 := blk_frozen BK212.out 0; have hfz6_1 := blk_frozen BK212.out 1; have hfz6_2 := blk_frozen BK212.out 2; have hfz6_3 := blk_frozen BK212.out 3))
      go_loopg [6, 7] k (fun kq v6 v7 w' => ∃ (x6_1 : List Int) (x7_1 : Int), v7 = .int .i64 x7_1 ∧ Aside0 (hurdleref05_Next.l0 kq l0 a1 x6_1 x7_1 ((rd_T36 l0 a1).f0) ((rd_T36 l0 a1).f1) ((rd_T36 l0 a1).f2) ((rd_T36 l0 a1).f3) = some r) ∧ Aside0 (kq ≤ k) ∧ Aside0 (Kd.R (Kd.int .i64) 3 w' w.heap.size (fun _ => True) v6 x6_1) ∧ Aside0 (w'.heap[gb212]? = some (.cells #[.int .i64 ((rd_T36 l0 a1).f0), .int .i64 ((rd_T36 l0 a1).f1), .int .i64 ((rd_T36 l0 a1).f2), .int .u32 ((rd_T36 l0 a1).f3)] 36 (0, 0))) ∧ Aside0 (Below w.heap.size w w'))
      case atStart => exact ⟨(([] : List Int)), (wrap64 (a1 + 1)), (by first | rfl | (simp; done) | (simp [*]; done)), H', ⟨Nat.le_refl _⟩, ⟨by first | exact Kd.R_nil _ _ _ _ _ | exact Kd.N_nil _ _ _ _ _ | exact Kd.V_nil _ _ _ _ _ | exact Kd.Q_nil _ _ _ _ _ | exact Kd.S_nil _ _ _ _ _⟩, ⟨by (with_reducible repeat (first | refine blk_drewN ?_ _ | refine blk_drew ?_ | refine blk_alloc ?_ _)); refine blk_put (cs := #[.int .i64 ((rd_T36 l0 a1).f0), .int .i64 ((rd_T36 l0 a1).f1), .int .i64 ((rd_T36 l0 a1).f2), .int .u32 0]) ?_ 3 _ rfl; (with_reducible repeat (first | refine blk_drewN ?_ _ | refine blk_drew ?_ | refine blk_alloc ?_ _)); refine blk_put (cs := #[.int .i64 ((rd_T36 l0 a1).f0), .int .i64 ((rd_T36 l0 a1).f1), .int .i64 0, .int .u32 0]) ?_ 2 _ rfl; (with_reducible repeat (first | refine blk_drewN ?_ _ | refine blk_drew ?_ | refine blk_alloc ?_ _)); refine blk_put (cs := #[.int .i64 ((rd_T36 l0 a1).f0), .int .i64 0, .int .i64 0, .int .u32 0]) ?_ 1 _ rfl; (with_reducible repeat (first | refine blk_drewN ?_ _ | refine blk_drew ?_ | refine blk_alloc ?_ _)); refine blk_put (cs := #[.int .i64 0, .int .i64 0, .int .i64 0, .int .u32 0]) ?_ 0 _ rfl; (with_reducible repeat (first | refine blk_drewN ?_ _ | refine blk_drew ?_ | refine blk_alloc ?_ _)); exact BK212.out⟩, ⟨by repeat (first | (with_reducible first | exact HB.out | apply below_alloc | apply pw_below_drewN | apply below_drew1 | refine below_set ?_ GE212.out) | exact HB.out)⟩⟩
      case round =>
        clear H'
        try clear c1
        try clear p2
        try clear q2
        try clear hx2
        try clear c3
        try clear c3b0
        try clear c4
        try clear c4b0
        try clear p6
        try clear hcz6_0
        try clear hcz6_1
        try clear hcz6_2
        try clear hcz6_3
        try clear hfz6_0
        try clear hfz6_1
        try clear hfz6_2
        try clear hfz6_3
        try clear hx211_0
        try clear hx211_1
        try clear hx211_2
        try clear hx211_3
        try clear p211
        try clear q211
        obtain ⟨x6_1, x7_1, rfl, HA, HK1, HO_6, BK212, HB⟩ := hrel
        cases gk with
        | zero => exact absurd HA.out (by simp [hurdleref05_Next.l0])
        | succ k1 =>
          have H := HA.out
          clear HA
          simp only [hurdleref05_Next.l0] at H
          by_cases c7 : x7_1 < (l0.length : Int)
          · rw [if_pos c7] at H
            have c7b0 : decide (x7_1 < (l0.length : Int)) = true := decide_eq_true c7
            clear c7
            have HC8 := Aside0.mk H
            clear H
            have hcz9_0 : wr.cell? ⟨gb212, 0, none⟩ = some (.int .i64 ((rd_T36 l0 a1).f0)) := (blk_cell BK212.out 0).trans rfl
            have hcz9_1 : wr.cell? ⟨gb212, 1, none⟩ = some (.int .i64 ((rd_T36 l0 a1).f1)) := (blk_cell BK212.out 1).trans rfl
            have hcz9_2 : wr.cell? ⟨gb212, 2, none⟩ = some (.int .i64 ((rd_T36 l0 a1).f2)) := (blk_cell BK212.out 2).trans rfl
            have hcz9_3 : wr.cell? ⟨gb212, 3, none⟩ = some (.int .u32 ((rd_T36 l0 a1).f3)) := (blk_cell BK212.out 3).trans rfl
            have hfz9_0 := blk_frozen BK212.out 0
            have hfz9_1 := blk_frozen BK212.out 1
            have hfz9_2 := blk_frozen BK212.out 2
            have hfz9_3 := blk_frozen BK212.out 3
            go_upto_if 30 with (fail)
            go_cut [9] (fun v9 wc => ∃ (kq : Nat) (x9_7 : Bool), v9 = .bool x9_7 ∧ Aside0 (hurdleref05_Next.j1 kq l0 a1 x6_1 x7_1 (wrap64 ((wrap64 (x7_1 - a1)) - 1)) x9_7 ((rd_T36 l0 a1).f0) ((rd_T36 l0 a1).f1) ((rd_T36 l0 a1).f2) ((rd_T36 l0 a1).f3) = some r) ∧ Aside0 (kq ≤ k1) ∧ Aside0 (Kd.R (Kd.int .i64) 3 wc w.heap.size (fun _ => True) u6 x6_1) ∧ Aside0 (wc.heap[gb212]? = some (.cells #[.int .i64 ((rd_T36 l0 a1).f0), .int .i64 ((rd_T36 l0 a1).f1), .int .i64 ((rd_T36 l0 a1).f2), .int .u32 ((rd_T36 l0 a1).f3)] 36 (0, 0))) ∧ Aside0 (Below w.heap.size w wc))
            case first =>
              have H := HC8.out
              clear HC8
              by_cases c10 : ((rd_T36 l0 a1).f0) = 5
              · rw [if_pos c10] at H
                have c10b0 : (((rd_T36 l0 a1).f0) == 5) = true := beq_iff_eq.mpr c10
                have c10b1 : (((rd_T36 l0 a1).f0) != 5) = false := bne_eq_false_iff_eq.mpr c10
                clear c10
                (first | rw [c10b0] | (simp only [i64_w, i32_w]; rw [c10b0]) | skip)
                have H' := Aside0.mk H
                clear H
                have hcz11_0 : wr.cell? ⟨gb212, 0, none⟩ = some (.int .i64 ((rd_T36 l0 a1).f0)) := (blk_cell BK212.out 0).trans rfl
                have hcz11_1 : wr.cell? ⟨gb212, 1, none⟩ = some (.int .i64 ((rd_T36 l0 a1).f1)) := (blk_cell BK212.out 1).trans rfl
                have hcz11_2 : wr.cell? ⟨gb212, 2, none⟩ = some (.int .i64 ((rd_T36 l0 a1).f2)) := (blk_cell BK212.out 2).trans rfl
                have hcz11_3 : wr.cell? ⟨gb212, 3, none⟩ = some (.int .u32 ((rd_T36 l0 a1).f3)) := (blk_cell BK212.out 3).trans rfl
                have hfz11_0 := blk_frozen BK212.out 0
                have hfz11_1 := blk_frozen BK212.out 1
                have hfz11_2 := blk_frozen BK212.out 2
                have hfz11_3 := blk_frozen BK212.out 3
                go_wp2
                go_meet
                case rel => exact ⟨_, (((IntKind.u64.wrap (wrap64 ((wrap64 (x7_1 - a1)) - 1))) == (IntKind.u64.wrap (((rd_T36 l0 a1).f3))))), (by first | rfl | (simp; done) | (simp [*]; done)), H', ⟨by have := HK1.out; first | omega | exact Nat.le_refl _⟩, ⟨by (with_reducible repeat (first | apply Kd.R_alloc | apply Kd.R_drewN | apply Kd.R_drew)); exact HO_6.out⟩, ⟨by (with_reducible repeat (first | refine blk_drewN ?_ _ | refine blk_drew ?_ | refine blk_alloc ?_ _)); exact BK212.out⟩, ⟨by repeat (first | (with_reducible first | exact HB.out | apply below_alloc | apply pw_below_drewN | apply below_drew1 | refine below_set ?_ GE212.out) | exact HB.out)⟩⟩
              · rw [if_neg c10] at H
                have c10b0 : (((rd_T36 l0 a1).f0) == 5) = false := beq_eq_false_iff_ne.mpr c10
                have c10b1 : (((rd_T36 l0 a1).f0) != 5) = true := bne_iff_ne.mpr c10
                (first | rw [c10b0] | (simp only [i64_w, i32_w]; rw [c10b0]) | skip)
                have H' := Aside0.mk H
                clear H
                go_wp2
                go_meet
                case rel => exact ⟨_, (((wrap64 ((wrap64 (x7_1 - a1)) - 1)) == 0)), (by first | rfl | (simp; done) | (simp [*]; done)), H', ⟨by have := HK1.out; first | omega | exact Nat.le_refl _⟩, ⟨by (with_reducible repeat (first | apply Kd.R_alloc | apply Kd.R_drewN | apply Kd.R_drew)); exact HO_6.out⟩, ⟨by (with_reducible repeat (first | refine blk_drewN ?_ _ | refine blk_drew ?_ | refine blk_alloc ?_ _)); exact BK212.out⟩, ⟨by repeat (first | (with_reducible first | exact HB.out | apply below_alloc | apply pw_below_drewN | apply below_drew1 | refine below_set ?_ GE212.out) | exact HB.out)⟩⟩
            case rest =>
              clear HC8
              try clear c1
              try clear p2
              try clear q2
              try clear hx2
              try clear c3
              try clear c3b0
              try clear c4
              try clear c4b0
              try clear p6
              try clear c7
              try clear c7b0
              try clear c10
              try clear c10b0
              try clear c10b1
              try clear hcz11_0
              try clear hcz11_1
              try clear hcz11_2
              try clear hcz11_3
              try clear hcz6_0
              try clear hcz6_1
              try clear hcz6_2
              try clear hcz6_3
              try clear hcz9_0
              try clear hcz9_1
              try clear hcz9_2
              try clear hcz9_3
              try clear hfz11_0
              try clear hfz11_1
              try clear hfz11_2
              try clear hfz11_3
              try clear hfz6_0
              try clear hfz6_1
              try clear hfz6_2
              try clear hfz6_3
              try clear hfz9_0
              try clear hfz9_1
              try clear hfz9_2
              try clear hfz9_3
              try clear hx211_0
              try clear hx211_1
              try clear hx211_2
              try clear hx211_3
              try clear p2
              try clear p211
              try clear p6
              try clear q2
              try clear q211
              obtain ⟨kq, x9_7, rfl, HA, HJ7, HO_6, BK212, HB⟩ := hcut
              cases kq with
              | zero => exact absurd HA.out (by simp [hurdleref05_Next.j1])
              | succ kj7 =>
                have H := HA.out
                clear HA
                simp only [hurdleref05_Next.j1] at H
                replace H := Option.bind_eq_some_iff.mp H
                obtain ⟨t213, A120, H⟩ := H
                replace H : (if t213 = true then (if (wrap64 ((wrap64 (x7_1 - a1)) - 1)) = ((rd_T36 l0 a1).f1) then ((hurdleref02_Ends.f ((rd_T36 l0 a1).f0) ((rd_T36 l0 a1).f1) ((rd_T36 l0 a1).f2) ((rd_T36 l0 a1).f3)).bind fun t214 => (if t214 = true then (hurdleref05_Next.l0 kj7 l0 a1 x6_1 (wrap64 (x7_1 + 1)) ((rd_T36 l0 a1).f0) ((rd_T36 l0 a1).f1) ((rd_T36 l0 a1).f2) ((rd_T36 l0 a1).f3)) else (if x6_1.length < 17592186044416 then (hurdleref05_Next.l0 kj7 l0 a1 (x6_1 ++ [x7_1]) (wrap64 (x7_1 + 1)) ((rd_T36 l0 a1).f0) ((rd_T36 l0 a1).f1) ((rd_T36 l0 a1).f2) ((rd_T36 l0 a1).f3)) else (none)))) else (if (wrap64 ((wrap64 (x7_1 - a1)) - 1)) = ((rd_T36 l0 a1).f2) then ((hurdleref02_Ends.f ((rd_T36 l0 a1).f0) ((rd_T36 l0 a1).f1) ((rd_T36 l0 a1).f2) ((rd_T36 l0 a1).f3)).bind fun t218 => (if t218 = true then (hurdleref05_Next.l0 kj7 l0 a1 x6_1 (wrap64 (x7_1 + 1)) ((rd_T36 l0 a1).f0) ((rd_T36 l0 a1).f1) ((rd_T36 l0 a1).f2) ((rd_T36 l0 a1).f3)) else (if x6_1.length < 17592186044416 then (hurdleref05_Next.l0 kj7 l0 a1 (x6_1 ++ [x7_1]) (wrap64 (x7_1 + 1)) ((rd_T36 l0 a1).f0) ((rd_T36 l0 a1).f1) ((rd_T36 l0 a1).f2) ((rd_T36 l0 a1).f3)) else (none)))) else (hurdleref05_Next.l0 kj7 l0 a1 x6_1 (wrap64 (x7_1 + 1)) ((rd_T36 l0 a1).f0) ((rd_T36 l0 a1).f1) ((rd_T36 l0 a1).f2) ((rd_T36 l0 a1).f3)))) else (if x9_7 = true then ((hurdleref02_Ends.f ((rd_T36 l0 a1).f0) ((rd_T36 l0 a1).f1) ((rd_T36 l0 a1).f2) ((rd_T36 l0 a1).f3)).bind fun t222 => (if t222 = true then (hurdleref05_Next.l0 kj7 l0 a1 x6_1 (wrap64 (x7_1 + 1)) ((rd_T36 l0 a1).f0) ((rd_T36 l0 a1).f1) ((rd_T36 l0 a1).f2) ((rd_T36 l0 a1).f3)) else (if x6_1.length < 17592186044416 then (hurdleref05_Next.l0 kj7 l0 a1 (x6_1 ++ [x7_1]) (wrap64 (x7_1 + 1)) ((rd_T36 l0 a1).f0) ((rd_T36 l0 a1).f1) ((rd_T36 l0 a1).f2) ((rd_T36 l0 a1).f3)) else (none)))) else (hurdleref05_Next.l0 kj7 l0 a1 x6_1 (wrap64 (x7_1 + 1)) ((rd_T36 l0 a1).f0) ((rd_T36 l0 a1).f1) ((rd_T36 l0 a1).f2) ((rd_T36 l0 a1).f3)))) = some r := H
                have A12 := Aside0.mk A120
                clear A120
                by_cases c13 : t213 = true
                · subst c13
                  have H1 : (if (wrap64 ((wrap64 (x7_1 - a1)) - 1)) = ((rd_T36 l0 a1).f1) then ((hurdleref02_Ends.f ((rd_T36 l0 a1).f0) ((rd_T36 l0 a1).f1) ((rd_T36 l0 a1).f2) ((rd_T36 l0 a1).f3)).bind fun t214 => (if t214 = true then (hurdleref05_Next.l0 kj7 l0 a1 x6_1 (wrap64 (x7_1 + 1)) ((rd_T36 l0 a1).f0) ((rd_T36 l0 a1).f1) ((rd_T36 l0 a1).f2) ((rd_T36 l0 a1).f3)) else (if x6_1.length < 17592186044416 then (hurdleref05_Next.l0 kj7 l0 a1 (x6_1 ++ [x7_1]) (wrap64 (x7_1 + 1)) ((rd_T36 l0 a1).f0) ((rd_T36 l0 a1).f1) ((rd_T36 l0 a1).f2) ((rd_T36 l0 a1).f3)) else (none)))) else (if (wrap64 ((wrap64 (x7_1 - a1)) - 1)) = ((rd_T36 l0 a1).f2) then ((hurdleref02_Ends.f ((rd_T36 l0 a1).f0) ((rd_T36 l0 a1).f1) ((rd_T36 l0 a1).f2) ((rd_T36 l0 a1).f3)).bind fun t218 => (if t218 = true then (hurdleref05_Next.l0 kj7 l0 a1 x6_1 (wrap64 (x7_1 + 1)) ((rd_T36 l0 a1).f0) ((rd_T36 l0 a1).f1) ((rd_T36 l0 a1).f2) ((rd_T36 l0 a1).f3)) else (if x6_1.length < 17592186044416 then (hurdleref05_Next.l0 kj7 l0 a1 (x6_1 ++ [x7_1]) (wrap64 (x7_1 + 1)) ((rd_T36 l0 a1).f0) ((rd_T36 l0 a1).f1) ((rd_T36 l0 a1).f2) ((rd_T36 l0 a1).f3)) else (none)))) else (hurdleref05_Next.l0 kj7 l0 a1 x6_1 (wrap64 (x7_1 + 1)) ((rd_T36 l0 a1).f0) ((rd_T36 l0 a1).f1) ((rd_T36 l0 a1).f2) ((rd_T36 l0 a1).f3)))) = some r := by rw [if_pos rfl] at H; exact H
                  clear H
                  have H := H1
                  clear H1
                  by_cases c14 : (wrap64 ((wrap64 (x7_1 - a1)) - 1)) = ((rd_T36 l0 a1).f1)
                  · rw [if_pos c14] at H
                    have c14b0 : ((wrap64 ((wrap64 (x7_1 - a1)) - 1)) == ((rd_T36 l0 a1).f1)) = true := beq_iff_eq.mpr c14
                    have c14b1 : ((wrap64 ((wrap64 (x7_1 - a1)) - 1)) != ((rd_T36 l0 a1).f1)) = false := bne_eq_false_iff_eq.mpr c14
                    clear c14
                    replace H := Option.bind_eq_some_iff.mp H
                    obtain ⟨t214, A150, H⟩ := H
                    replace H : (if t214 = true then (hurdleref05_Next.l0 kj7 l0 a1 x6_1 (wrap64 (x7_1 + 1)) ((rd_T36 l0 a1).f0) ((rd_T36 l0 a1).f1) ((rd_T36 l0 a1).f2) ((rd_T36 l0 a1).f3)) else (if x6_1.length < 17592186044416 then (hurdleref05_Next.l0 kj7 l0 a1 (x6_1 ++ [x7_1]) (wrap64 (x7_1 + 1)) ((rd_T36 l0 a1).f0) ((rd_T36 l0 a1).f1) ((rd_T36 l0 a1).f2) ((rd_T36 l0 a1).f3)) else (none))) = some r := H
                    have A15 := Aside0.mk A150
                    clear A150
                    by_cases c16 : t214 = true
                    · subst c16
                      have H1 : (hurdleref05_Next.l0 kj7 l0 a1 x6_1 (wrap64 (x7_1 + 1)) ((rd_T36 l0 a1).f0) ((rd_T36 l0 a1).f1) ((rd_T36 l0 a1).f2) ((rd_T36 l0 a1).f3)) = some r := by rw [if_pos rfl] at H; exact H
                      clear H
                      have H := H1
                      clear H1
                      have H' := Aside0.mk H
                      clear H
                      have hcz17_0 : wc.cell? ⟨gb212, 0, none⟩ = some (.int .i64 ((rd_T36 l0 a1).f0)) := (blk_cell BK212.out 0).trans rfl
                      have hcz17_1 : wc.cell? ⟨gb212, 1, none⟩ = some (.int .i64 ((rd_T36 l0 a1).f1)) := (blk_cell BK212.out 1).trans rfl
                      have hcz17_2 : wc.cell? ⟨gb212, 2, none⟩ = some (.int .i64 ((rd_T36 l0 a1).f2)) := (blk_cell BK212.out 2).trans rfl
                      have hcz17_3 : wc.cell? ⟨gb212, 3, none⟩ = some (.int .u32 ((rd_T36 l0 a1).f3)) := (blk_cell BK212.out 3).trans rfl
                      have hfz17_0 := blk_frozen BK212.out 0
                      have hfz17_1 := blk_frozen BK212.out 1
                      have hfz17_2 := blk_frozen BK212.out 2
                      have hfz17_3 := blk_frozen BK212.out 3
                      go_wp2_with (first | ((with_reducible refine gate_callee (f := 28) rfl ?_); refine goesL_ (some 38) rfl rfl Tryd.func28 (by kernel_rfl) rfl #[.agg #[.int .i64 ((rd_T36 l0 a1).f0), .int .i64 ((rd_T36 l0 a1).f1), .int .i64 ((rd_T36 l0 a1).f2), .int .u32 ((rd_T36 l0 a1).f3)]] rfl (by (try simp only [List.map_toArray, List.map_cons, List.map_nil]); first | done | rfl | (simp only [List.length_drop, List.length_take]; rfl)) ?_; (with_reducible refine (hurdleref02_Branch.calls kj7 ((rd_T36 l0 a1).f0) ((rd_T36 l0 a1).f1) ((rd_T36 l0 a1).f2) ((rd_T36 l0 a1).f3) true _ A12.out).mono ?_); rintro e w18 ⟨rfl, hb⟩; refine ⟨_, rfl, ?_⟩; have n0_ := Aside0.mk (Kd.R_below (by (with_reducible repeat (first | apply Kd.R_alloc | apply Kd.R_drewN | apply Kd.R_drew)); exact HO_6.out) hb); have n1_ := Aside0.mk (blk_below (g := gb212) (o := .cells #[.int .i64 ((rd_T36 l0 a1).f0), .int .i64 ((rd_T36 l0 a1).f1), .int .i64 ((rd_T36 l0 a1).f2), .int .u32 ((rd_T36 l0 a1).f3)] 36 (0, 0)) (by (with_reducible repeat (first | refine blk_drewN ?_ _ | refine blk_drew ?_ | refine blk_alloc ?_ _)); exact BK212.out) hb); have n2_ := Aside0.mk (below_step (by repeat (first | (with_reducible first | exact HB.out | apply below_alloc | apply pw_below_drewN | apply below_drew1 | refine below_set ?_ GE212.out) | exact HB.out)) hb); clear HO_6; clear BK212; clear HB; have HO_6 := n0_; have BK212 := n1_; have HB := n2_; clear n0_ n1_ n2_; (try clear hb); (try clear hb2); (try clear hk); (try clear hi); have hcz19_0 : w18.cell? ⟨gb212, 0, none⟩ = some (.int .i64 ((rd_T36 l0 a1).f0)) := (blk_cell BK212.out 0).trans rfl; have hcz19_1 : w18.cell? ⟨gb212, 1, none⟩ = some (.int .i64 ((rd_T36 l0 a1).f1)) := (blk_cell BK212.out 1).trans rfl; have hcz19_2 : w18.cell? ⟨gb212, 2, none⟩ = some (.int .i64 ((rd_T36 l0 a1).f2)) := (blk_cell BK212.out 2).trans rfl; have hcz19_3 : w18.cell? ⟨gb212, 3, none⟩ = some (.int .u32 ((rd_T36 l0 a1).f3)) := (blk_cell BK212.out 3).trans rfl; have hfz19_0 := blk_frozen BK212.out 0; have hfz19_1 := blk_frozen BK212.out 1; have hfz19_2 := blk_frozen BK212.out 2; have hfz19_3 := blk_frozen BK212.out 3) | (go_at_call 17; (with_reducible refine (hurdleref02_Ends.calls ((rd_T36 l0 a1).f0) ((rd_T36 l0 a1).f1) ((rd_T36 l0 a1).f2) ((rd_T36 l0 a1).f3) true _ A15.out).mono ?_); rintro e w20 ⟨rfl, hb⟩; have n0_ := Aside0.mk (Kd.R_below (by (with_reducible repeat (first | apply Kd.R_alloc | apply Kd.R_drewN | apply Kd.R_drew)); exact HO_6.out) hb); have n1_ := Aside0.mk (blk_below (g := gb212) (o := .cells #[.int .i64 ((rd_T36 l0 a1).f0), .int .i64 ((rd_T36 l0 a1).f1), .int .i64 ((rd_T36 l0 a1).f2), .int .u32 ((rd_T36 l0 a1).f3)] 36 (0, 0)) (by (with_reducible repeat (first | refine blk_drewN ?_ _ | refine blk_drew ?_ | refine blk_alloc ?_ _)); exact BK212.out) hb); have n2_ := Aside0.mk (below_step (by repeat (first | (with_reducible first | exact HB.out | apply below_alloc | apply pw_below_drewN | apply below_drew1 | refine below_set ?_ GE212.out) | exact HB.out)) hb); clear HO_6; clear BK212; clear HB; have HO_6 := n0_; have BK212 := n1_; have HB := n2_; clear n0_ n1_ n2_; (try clear hb); (try clear hb2); (try clear hk); (try clear hi)))
                      go_roundg kj7
                      case measure => have := HK1.out; have := HJ7.out; omega
                      case rel => exact ⟨(x6_1), (wrap64 (x7_1 + 1)), (by first | rfl | (simp; done) | (simp [*]; done)), H', ⟨by have := HK1.out; have := HJ7.out; omega⟩, ⟨by (with_reducible repeat (first | apply Kd.R_alloc | apply Kd.R_drewN | apply Kd.R_drew)); exact HO_6.out⟩, ⟨by (with_reducible repeat (first | refine blk_drewN ?_ _ | refine blk_drew ?_ | refine blk_alloc ?_ _)); exact BK212.out⟩, ⟨by repeat (first | (with_reducible first | exact HB.out | apply below_alloc | apply pw_below_drewN | apply below_drew1 | refine below_set ?_ GE212.out) | exact HB.out)⟩⟩
                    · replace c16 := Bool.eq_false_iff.mpr c16
                      subst c16
                      have H1 : (if x6_1.length < 17592186044416 then (hurdleref05_Next.l0 kj7 l0 a1 (x6_1 ++ [x7_1]) (wrap64 (x7_1 + 1)) ((rd_T36 l0 a1).f0) ((rd_T36 l0 a1).f1) ((rd_T36 l0 a1).f2) ((rd_T36 l0 a1).f3)) else (none)) = some r := by rw [if_neg (show ¬ (false = true) by decide)] at H; exact H
                      clear H
                      have H := H1
                      clear H1
                      by_cases c21 : x6_1.length < 17592186044416
                      · rw [if_pos c21] at H
                        have LMc21 := Aside0.mk c21
                        clear c21
                        obtain ⟨y215, hy215⟩ : ∃ y_ : List Int, y_ = (x6_1 ++ [x7_1]) := ⟨_, rfl⟩
                        replace H : (hurdleref05_Next.l0 kj7 l0 a1 y215 (wrap64 (x7_1 + 1)) ((rd_T36 l0 a1).f0) ((rd_T36 l0 a1).f1) ((rd_T36 l0 a1).f2) ((rd_T36 l0 a1).f3)) = some r := by first | (rw [hy215]; with_reducible exact H) | (have H2_ := (Option.bind_some _ _).symm.trans H; rw [hy215]; with_reducible exact H2_) | (have H2_ := (Option.bind_some _ _).symm.trans H; with_reducible exact H2_) | with_reducible exact H | (rw [hy215]; exact H) | exact H
                        have Ny215 := Aside0.mk hy215
                        clear hy215
                        have H' := Aside0.mk H
                        clear H
                        have hcz22_0 : wc.cell? ⟨gb212, 0, none⟩ = some (.int .i64 ((rd_T36 l0 a1).f0)) := (blk_cell BK212.out 0).trans rfl
                        have hcz22_1 : wc.cell? ⟨gb212, 1, none⟩ = some (.int .i64 ((rd_T36 l0 a1).f1)) := (blk_cell BK212.out 1).trans rfl
                        have hcz22_2 : wc.cell? ⟨gb212, 2, none⟩ = some (.int .i64 ((rd_T36 l0 a1).f2)) := (blk_cell BK212.out 2).trans rfl
                        have hcz22_3 : wc.cell? ⟨gb212, 3, none⟩ = some (.int .u32 ((rd_T36 l0 a1).f3)) := (blk_cell BK212.out 3).trans rfl
                        have hfz22_0 := blk_frozen BK212.out 0
                        have hfz22_1 := blk_frozen BK212.out 1
                        have hfz22_2 := blk_frozen BK212.out 2
                        have hfz22_3 := blk_frozen BK212.out 3
                        go_wp2_with (first | ((with_reducible refine gate_callee (f := 28) rfl ?_); refine goesL_ (some 38) rfl rfl Tryd.func28 (by kernel_rfl) rfl #[.agg #[.int .i64 ((rd_T36 l0 a1).f0), .int .i64 ((rd_T36 l0 a1).f1), .int .i64 ((rd_T36 l0 a1).f2), .int .u32 ((rd_T36 l0 a1).f3)]] rfl (by (try simp only [List.map_toArray, List.map_cons, List.map_nil]); first | done | rfl | (simp only [List.length_drop, List.length_take]; rfl)) ?_; (with_reducible refine (hurdleref02_Branch.calls kj7 ((rd_T36 l0 a1).f0) ((rd_T36 l0 a1).f1) ((rd_T36 l0 a1).f2) ((rd_T36 l0 a1).f3) true _ A12.out).mono ?_); rintro e w23 ⟨rfl, hb⟩; refine ⟨_, rfl, ?_⟩; have n0_ := Aside0.mk (Kd.R_below (by (with_reducible repeat (first | apply Kd.R_alloc | apply Kd.R_drewN | apply Kd.R_drew)); exact HO_6.out) hb); have n1_ := Aside0.mk (blk_below (g := gb212) (o := .cells #[.int .i64 ((rd_T36 l0 a1).f0), .int .i64 ((rd_T36 l0 a1).f1), .int .i64 ((rd_T36 l0 a1).f2), .int .u32 ((rd_T36 l0 a1).f3)] 36 (0, 0)) (by (with_reducible repeat (first | refine blk_drewN ?_ _ | refine blk_drew ?_ | refine blk_alloc ?_ _)); exact BK212.out) hb); have n2_ := Aside0.mk (below_step (by repeat (first | (with_reducible first | exact HB.out | apply below_alloc | apply pw_below_drewN | apply below_drew1 | refine below_set ?_ GE212.out) | exact HB.out)) hb); clear HO_6; clear BK212; clear HB; have HO_6 := n0_; have BK212 := n1_; have HB := n2_; clear n0_ n1_ n2_; (try clear hb); (try clear hb2); (try clear hk); (try clear hi); have hcz24_0 : w23.cell? ⟨gb212, 0, none⟩ = some (.int .i64 ((rd_T36 l0 a1).f0)) := (blk_cell BK212.out 0).trans rfl; have hcz24_1 : w23.cell? ⟨gb212, 1, none⟩ = some (.int .i64 ((rd_T36 l0 a1).f1)) := (blk_cell BK212.out 1).trans rfl; have hcz24_2 : w23.cell? ⟨gb212, 2, none⟩ = some (.int .i64 ((rd_T36 l0 a1).f2)) := (blk_cell BK212.out 2).trans rfl; have hcz24_3 : w23.cell? ⟨gb212, 3, none⟩ = some (.int .u32 ((rd_T36 l0 a1).f3)) := (blk_cell BK212.out 3).trans rfl; have hfz24_0 := blk_frozen BK212.out 0; have hfz24_1 := blk_frozen BK212.out 1; have hfz24_2 := blk_frozen BK212.out 2; have hfz24_3 := blk_frozen BK212.out 3) | (go_at_call 17; (with_reducible refine (hurdleref02_Ends.calls ((rd_T36 l0 a1).f0) ((rd_T36 l0 a1).f1) ((rd_T36 l0 a1).f2) ((rd_T36 l0 a1).f3) false _ A15.out).mono ?_); rintro e w25 ⟨rfl, hb⟩; have n0_ := Aside0.mk (Kd.R_below (by (with_reducible repeat (first | apply Kd.R_alloc | apply Kd.R_drewN | apply Kd.R_drew)); exact HO_6.out) hb); have n1_ := Aside0.mk (blk_below (g := gb212) (o := .cells #[.int .i64 ((rd_T36 l0 a1).f0), .int .i64 ((rd_T36 l0 a1).f1), .int .i64 ((rd_T36 l0 a1).f2), .int .u32 ((rd_T36 l0 a1).f3)] 36 (0, 0)) (by (with_reducible repeat (first | refine blk_drewN ?_ _ | refine blk_drew ?_ | refine blk_alloc ?_ _)); exact BK212.out) hb); have n2_ := Aside0.mk (below_step (by repeat (first | (with_reducible first | exact HB.out | apply below_alloc | apply pw_below_drewN | apply below_drew1 | refine below_set ?_ GE212.out) | exact HB.out)) hb); clear HO_6; clear BK212; clear HB; have HO_6 := n0_; have BK212 := n1_; have HB := n2_; clear n0_ n1_ n2_; (try clear hb); (try clear hb2); (try clear hk); (try clear hi)) | ((with_reducible refine gate_builtin (b := .append) (xs := #[.tmp 55, .tmp 57]) rfl ?_); at_builtin; refine Kd.R_append (Kd.int .i64) (w0 := w) w.heap.size rfl (.tmp 55) (.tmp 57) 30 3 (.int .i64 0) 8 rfl Tryd.underlying30 info3 rfl (by decide) (by omega) u6 x6_1 x7_1 [.int .i64 x7_1] (fun _ => True) (fun _ => False) rfl rfl ?aP (fun _ hk => hk.elim) ?aF ?aO ?aB ?aS ?aL ?_; (case aP => exact rfl); (case aB => exact (by repeat (first | (with_reducible first | exact HB.out | apply below_alloc | apply pw_below_drewN | apply below_drew1 | refine below_set ?_ GE212.out) | exact HB.out))); (case aF => exact (fun _ _ => trivial)); (case aO => exact (by (with_reducible repeat (first | apply Kd.R_alloc | apply Kd.R_drewN | apply Kd.R_drew)); exact HO_6.out)); (case aS => exact (below_size (by repeat (first | (with_reducible first | exact HB.out | apply below_alloc | apply pw_below_drewN | apply below_drew1 | refine below_set ?_ GE212.out) | exact HB.out)))); (case aL => have := LMc21.out; omega); intro v216 w26 ho hb hg hat; rw [← Ny215.out] at ho; have n0_ := Aside0.mk (blk_grown (g := gb212) (o := .cells #[.int .i64 ((rd_T36 l0 a1).f0), .int .i64 ((rd_T36 l0 a1).f1), .int .i64 ((rd_T36 l0 a1).f2), .int .u32 ((rd_T36 l0 a1).f3)] 36 (0, 0)) (by (with_reducible repeat (first | refine blk_drewN ?_ _ | refine blk_drew ?_ | refine blk_alloc ?_ _)); exact BK212.out) hg (Kd.R_ne HO_6.out BK212.out (by decide))); have n1_ := Aside0.mk (hb); have n2_ := Aside0.mk (ho); clear BK212; clear HB; clear HO_6; have BK212 := n0_; have HB := n1_; have HO217 := n2_; clear n0_ n1_ n2_; clear ho hb hg hat))
                        go_roundg kj7
                        case measure => have := HK1.out; have := HJ7.out; omega
                        case rel => exact ⟨(y215), (wrap64 (x7_1 + 1)), (by first | rfl | (simp; done) | (simp [*]; done)), H', ⟨by have := HK1.out; have := HJ7.out; omega⟩, ⟨by (with_reducible repeat (first | apply Kd.R_alloc | apply Kd.R_drewN | apply Kd.R_drew)); exact HO217.out⟩, ⟨by (with_reducible repeat (first | refine blk_drewN ?_ _ | refine blk_drew ?_ | refine blk_alloc ?_ _)); exact BK212.out⟩, ⟨by repeat (first | (with_reducible first | exact HB.out | apply below_alloc | apply pw_below_drewN | apply below_drew1 | refine below_set ?_ GE212.out) | exact HB.out)⟩⟩
                      · rw [if_neg c21] at H
                        exact absurd H (by simp)
                  · rw [if_neg c14] at H
                    have c14b0 : ((wrap64 ((wrap64 (x7_1 - a1)) - 1)) == ((rd_T36 l0 a1).f1)) = false := beq_eq_false_iff_ne.mpr c14
                    have c14b1 : ((wrap64 ((wrap64 (x7_1 - a1)) - 1)) != ((rd_T36 l0 a1).f1)) = true := bne_iff_ne.mpr c14
                    by_cases c27 : (wrap64 ((wrap64 (x7_1 - a1)) - 1)) = ((rd_T36 l0 a1).f2)
                    · rw [if_pos c27] at H
                      have c27b0 : ((wrap64 ((wrap64 (x7_1 - a1)) - 1)) == ((rd_T36 l0 a1).f2)) = true := beq_iff_eq.mpr c27
                      have c27b1 : ((wrap64 ((wrap64 (x7_1 - a1)) - 1)) != ((rd_T36 l0 a1).f2)) = false := bne_eq_false_iff_eq.mpr c27
                      clear c27
                      replace H := Option.bind_eq_some_iff.mp H
                      obtain ⟨t218, A280, H⟩ := H
                      replace H : (if t218 = true then (hurdleref05_Next.l0 kj7 l0 a1 x6_1 (wrap64 (x7_1 + 1)) ((rd_T36 l0 a1).f0) ((rd_T36 l0 a1).f1) ((rd_T36 l0 a1).f2) ((rd_T36 l0 a1).f3)) else (if x6_1.length < 17592186044416 then (hurdleref05_Next.l0 kj7 l0 a1 (x6_1 ++ [x7_1]) (wrap64 (x7_1 + 1)) ((rd_T36 l0 a1).f0) ((rd_T36 l0 a1).f1) ((rd_T36 l0 a1).f2) ((rd_T36 l0 a1).f3)) else (none))) = some r := H
                      have A28 := Aside0.mk A280
                      clear A280
                      by_cases c29 : t218 = true
                      · subst c29
                        have H1 : (hurdleref05_Next.l0 kj7 l0 a1 x6_1 (wrap64 (x7_1 + 1)) ((rd_T36 l0 a1).f0) ((rd_T36 l0 a1).f1) ((rd_T36 l0 a1).f2) ((rd_T36 l0 a1).f3)) = some r := by rw [if_pos rfl] at H; exact H
                        clear H
                        have H := H1
                        clear H1
                        have H' := Aside0.mk H
                        clear H
                        have hcz30_0 : wc.cell? ⟨gb212, 0, none⟩ = some (.int .i64 ((rd_T36 l0 a1).f0)) := (blk_cell BK212.out 0).trans rfl
                        have hcz30_1 : wc.cell? ⟨gb212, 1, none⟩ = some (.int .i64 ((rd_T36 l0 a1).f1)) := (blk_cell BK212.out 1).trans rfl
                        have hcz30_2 : wc.cell? ⟨gb212, 2, none⟩ = some (.int .i64 ((rd_T36 l0 a1).f2)) := (blk_cell BK212.out 2).trans rfl
                        have hcz30_3 : wc.cell? ⟨gb212, 3, none⟩ = some (.int .u32 ((rd_T36 l0 a1).f3)) := (blk_cell BK212.out 3).trans rfl
                        have hfz30_0 := blk_frozen BK212.out 0
                        have hfz30_1 := blk_frozen BK212.out 1
                        have hfz30_2 := blk_frozen BK212.out 2
                        have hfz30_3 := blk_frozen BK212.out 3
                        go_wp2_with (first | ((with_reducible refine gate_callee (f := 28) rfl ?_); refine goesL_ (some 38) rfl rfl Tryd.func28 (by kernel_rfl) rfl #[.agg #[.int .i64 ((rd_T36 l0 a1).f0), .int .i64 ((rd_T36 l0 a1).f1), .int .i64 ((rd_T36 l0 a1).f2), .int .u32 ((rd_T36 l0 a1).f3)]] rfl (by (try simp only [List.map_toArray, List.map_cons, List.map_nil]); first | done | rfl | (simp only [List.length_drop, List.length_take]; rfl)) ?_; (with_reducible refine (hurdleref02_Branch.calls kj7 ((rd_T36 l0 a1).f0) ((rd_T36 l0 a1).f1) ((rd_T36 l0 a1).f2) ((rd_T36 l0 a1).f3) true _ A12.out).mono ?_); rintro e w31 ⟨rfl, hb⟩; refine ⟨_, rfl, ?_⟩; have n0_ := Aside0.mk (Kd.R_below (by (with_reducible repeat (first | apply Kd.R_alloc | apply Kd.R_drewN | apply Kd.R_drew)); exact HO_6.out) hb); have n1_ := Aside0.mk (blk_below (g := gb212) (o := .cells #[.int .i64 ((rd_T36 l0 a1).f0), .int .i64 ((rd_T36 l0 a1).f1), .int .i64 ((rd_T36 l0 a1).f2), .int .u32 ((rd_T36 l0 a1).f3)] 36 (0, 0)) (by (with_reducible repeat (first | refine blk_drewN ?_ _ | refine blk_drew ?_ | refine blk_alloc ?_ _)); exact BK212.out) hb); have n2_ := Aside0.mk (below_step (by repeat (first | (with_reducible first | exact HB.out | apply below_alloc | apply pw_below_drewN | apply below_drew1 | refine below_set ?_ GE212.out) | exact HB.out)) hb); clear HO_6; clear BK212; clear HB; have HO_6 := n0_; have BK212 := n1_; have HB := n2_; clear n0_ n1_ n2_; (try clear hb); (try clear hb2); (try clear hk); (try clear hi); have hcz32_0 : w31.cell? ⟨gb212, 0, none⟩ = some (.int .i64 ((rd_T36 l0 a1).f0)) := (blk_cell BK212.out 0).trans rfl; have hcz32_1 : w31.cell? ⟨gb212, 1, none⟩ = some (.int .i64 ((rd_T36 l0 a1).f1)) := (blk_cell BK212.out 1).trans rfl; have hcz32_2 : w31.cell? ⟨gb212, 2, none⟩ = some (.int .i64 ((rd_T36 l0 a1).f2)) := (blk_cell BK212.out 2).trans rfl; have hcz32_3 : w31.cell? ⟨gb212, 3, none⟩ = some (.int .u32 ((rd_T36 l0 a1).f3)) := (blk_cell BK212.out 3).trans rfl; have hfz32_0 := blk_frozen BK212.out 0; have hfz32_1 := blk_frozen BK212.out 1; have hfz32_2 := blk_frozen BK212.out 2; have hfz32_3 := blk_frozen BK212.out 3) | (go_at_call 17; (with_reducible refine (hurdleref02_Ends.calls ((rd_T36 l0 a1).f0) ((rd_T36 l0 a1).f1) ((rd_T36 l0 a1).f2) ((rd_T36 l0 a1).f3) true _ A28.out).mono ?_); rintro e w33 ⟨rfl, hb⟩; have n0_ := Aside0.mk (Kd.R_below (by (with_reducible repeat (first | apply Kd.R_alloc | apply Kd.R_drewN | apply Kd.R_drew)); exact HO_6.out) hb); have n1_ := Aside0.mk (blk_below (g := gb212) (o := .cells #[.int .i64 ((rd_T36 l0 a1).f0), .int .i64 ((rd_T36 l0 a1).f1), .int .i64 ((rd_T36 l0 a1).f2), .int .u32 ((rd_T36 l0 a1).f3)] 36 (0, 0)) (by (with_reducible repeat (first | refine blk_drewN ?_ _ | refine blk_drew ?_ | refine blk_alloc ?_ _)); exact BK212.out) hb); have n2_ := Aside0.mk (below_step (by repeat (first | (with_reducible first | exact HB.out | apply below_alloc | apply pw_below_drewN | apply below_drew1 | refine below_set ?_ GE212.out) | exact HB.out)) hb); clear HO_6; clear BK212; clear HB; have HO_6 := n0_; have BK212 := n1_; have HB := n2_; clear n0_ n1_ n2_; (try clear hb); (try clear hb2); (try clear hk); (try clear hi)))
                        go_roundg kj7
                        case measure => have := HK1.out; have := HJ7.out; omega
                        case rel => exact ⟨(x6_1), (wrap64 (x7_1 + 1)), (by first | rfl | (simp; done) | (simp [*]; done)), H', ⟨by have := HK1.out; have := HJ7.out; omega⟩, ⟨by (with_reducible repeat (first | apply Kd.R_alloc | apply Kd.R_drewN | apply Kd.R_drew)); exact HO_6.out⟩, ⟨by (with_reducible repeat (first | refine blk_drewN ?_ _ | refine blk_drew ?_ | refine blk_alloc ?_ _)); exact BK212.out⟩, ⟨by repeat (first | (with_reducible first | exact HB.out | apply below_alloc | apply pw_below_drewN | apply below_drew1 | refine below_set ?_ GE212.out) | exact HB.out)⟩⟩
                      · replace c29 := Bool.eq_false_iff.mpr c29
                        subst c29
                        have H1 : (if x6_1.length < 17592186044416 then (hurdleref05_Next.l0 kj7 l0 a1 (x6_1 ++ [x7_1]) (wrap64 (x7_1 + 1)) ((rd_T36 l0 a1).f0) ((rd_T36 l0 a1).f1) ((rd_T36 l0 a1).f2) ((rd_T36 l0 a1).f3)) else (none)) = some r := by rw [if_neg (show ¬ (false = true) by decide)] at H; exact H
                        clear H
                        have H := H1
                        clear H1
                        by_cases c34 : x6_1.length < 17592186044416
                        · rw [if_pos c34] at H
                          have LMc34 := Aside0.mk c34
                          clear c34
                          obtain ⟨y219, hy219⟩ : ∃ y_ : List Int, y_ = (x6_1 ++ [x7_1]) := ⟨_, rfl⟩
                          replace H : (hurdleref05_Next.l0 kj7 l0 a1 y219 (wrap64 (x7_1 + 1)) ((rd_T36 l0 a1).f0) ((rd_T36 l0 a1).f1) ((rd_T36 l0 a1).f2) ((rd_T36 l0 a1).f3)) = some r := by first | (rw [hy219]; with_reducible exact H) | (have H2_ := (Option.bind_some _ _).symm.trans H; rw [hy219]; with_reducible exact H2_) | (have H2_ := (Option.bind_some _ _).symm.trans H; with_reducible exact H2_) | with_reducible exact H | (rw [hy219]; exact H) | exact H
                          have Ny219 := Aside0.mk hy219
                          clear hy219
                          have H' := Aside0.mk H
                          clear H
                          have hcz35_0 : wc.cell? ⟨gb212, 0, none⟩ = some (.int .i64 ((rd_T36 l0 a1).f0)) := (blk_cell BK212.out 0).trans rfl
                          have hcz35_1 : wc.cell? ⟨gb212, 1, none⟩ = some (.int .i64 ((rd_T36 l0 a1).f1)) := (blk_cell BK212.out 1).trans rfl
                          have hcz35_2 : wc.cell? ⟨gb212, 2, none⟩ = some (.int .i64 ((rd_T36 l0 a1).f2)) := (blk_cell BK212.out 2).trans rfl
                          have hcz35_3 : wc.cell? ⟨gb212, 3, none⟩ = some (.int .u32 ((rd_T36 l0 a1).f3)) := (blk_cell BK212.out 3).trans rfl
                          have hfz35_0 := blk_frozen BK212.out 0
                          have hfz35_1 := blk_frozen BK212.out 1
                          have hfz35_2 := blk_frozen BK212.out 2
                          have hfz35_3 := blk_frozen BK212.out 3
                          go_wp2_with (first | ((with_reducible refine gate_callee (f := 28) rfl ?_); refine goesL_ (some 38) rfl rfl Tryd.func28 (by kernel_rfl) rfl #[.agg #[.int .i64 ((rd_T36 l0 a1).f0), .int .i64 ((rd_T36 l0 a1).f1), .int .i64 ((rd_T36 l0 a1).f2), .int .u32 ((rd_T36 l0 a1).f3)]] rfl (by (try simp only [List.map_toArray, List.map_cons, List.map_nil]); first | done | rfl | (simp only [List.length_drop, List.length_take]; rfl)) ?_; (with_reducible refine (hurdleref02_Branch.calls kj7 ((rd_T36 l0 a1).f0) ((rd_T36 l0 a1).f1) ((rd_T36 l0 a1).f2) ((rd_T36 l0 a1).f3) true _ A12.out).mono ?_); rintro e w36 ⟨rfl, hb⟩; refine ⟨_, rfl, ?_⟩; have n0_ := Aside0.mk (Kd.R_below (by (with_reducible repeat (first | apply Kd.R_alloc | apply Kd.R_drewN | apply Kd.R_drew)); exact HO_6.out) hb); have n1_ := Aside0.mk (blk_below (g := gb212) (o := .cells #[.int .i64 ((rd_T36 l0 a1).f0), .int .i64 ((rd_T36 l0 a1).f1), .int .i64 ((rd_T36 l0 a1).f2), .int .u32 ((rd_T36 l0 a1).f3)] 36 (0, 0)) (by (with_reducible repeat (first | refine blk_drewN ?_ _ | refine blk_drew ?_ | refine blk_alloc ?_ _)); exact BK212.out) hb); have n2_ := Aside0.mk (below_step (by repeat (first | (with_reducible first | exact HB.out | apply below_alloc | apply pw_below_drewN | apply below_drew1 | refine below_set ?_ GE212.out) | exact HB.out)) hb); clear HO_6; clear BK212; clear HB; have HO_6 := n0_; have BK212 := n1_; have HB := n2_; clear n0_ n1_ n2_; (try clear hb); (try clear hb2); (try clear hk); (try clear hi); have hcz37_0 : w36.cell? ⟨gb212, 0, none⟩ = some (.int .i64 ((rd_T36 l0 a1).f0)) := (blk_cell BK212.out 0).trans rfl; have hcz37_1 : w36.cell? ⟨gb212, 1, none⟩ = some (.int .i64 ((rd_T36 l0 a1).f1)) := (blk_cell BK212.out 1).trans rfl; have hcz37_2 : w36.cell? ⟨gb212, 2, none⟩ = some (.int .i64 ((rd_T36 l0 a1).f2)) := (blk_cell BK212.out 2).trans rfl; have hcz37_3 : w36.cell? ⟨gb212, 3, none⟩ = some (.int .u32 ((rd_T36 l0 a1).f3)) := (blk_cell BK212.out 3).trans rfl; have hfz37_0 := blk_frozen BK212.out 0; have hfz37_1 := blk_frozen BK212.out 1; have hfz37_2 := blk_frozen BK212.out 2; have hfz37_3 := blk_frozen BK212.out 3) | (go_at_call 17; (with_reducible refine (hurdleref02_Ends.calls ((rd_T36 l0 a1).f0) ((rd_T36 l0 a1).f1) ((rd_T36 l0 a1).f2) ((rd_T36 l0 a1).f3) false _ A28.out).mono ?_); rintro e w38 ⟨rfl, hb⟩; have n0_ := Aside0.mk (Kd.R_below (by (with_reducible repeat (first | apply Kd.R_alloc | apply Kd.R_drewN | apply Kd.R_drew)); exact HO_6.out) hb); have n1_ := Aside0.mk (blk_below (g := gb212) (o := .cells #[.int .i64 ((rd_T36 l0 a1).f0), .int .i64 ((rd_T36 l0 a1).f1), .int .i64 ((rd_T36 l0 a1).f2), .int .u32 ((rd_T36 l0 a1).f3)] 36 (0, 0)) (by (with_reducible repeat (first | refine blk_drewN ?_ _ | refine blk_drew ?_ | refine blk_alloc ?_ _)); exact BK212.out) hb); have n2_ := Aside0.mk (below_step (by repeat (first | (with_reducible first | exact HB.out | apply below_alloc | apply pw_below_drewN | apply below_drew1 | refine below_set ?_ GE212.out) | exact HB.out)) hb); clear HO_6; clear BK212; clear HB; have HO_6 := n0_; have BK212 := n1_; have HB := n2_; clear n0_ n1_ n2_; (try clear hb); (try clear hb2); (try clear hk); (try clear hi)) | ((with_reducible refine gate_builtin (b := .append) (xs := #[.tmp 55, .tmp 57]) rfl ?_); at_builtin; refine Kd.R_append (Kd.int .i64) (w0 := w) w.heap.size rfl (.tmp 55) (.tmp 57) 30 3 (.int .i64 0) 8 rfl Tryd.underlying30 info3 rfl (by decide) (by omega) u6 x6_1 x7_1 [.int .i64 x7_1] (fun _ => True) (fun _ => False) rfl rfl ?aP (fun _ hk => hk.elim) ?aF ?aO ?aB ?aS ?aL ?_; (case aP => exact rfl); (case aB => exact (by repeat (first | (with_reducible first | exact HB.out | apply below_alloc | apply pw_below_drewN | apply below_drew1 | refine below_set ?_ GE212.out) | exact HB.out))); (case aF => exact (fun _ _ => trivial)); (case aO => exact (by (with_reducible repeat (first | apply Kd.R_alloc | apply Kd.R_drewN | apply Kd.R_drew)); exact HO_6.out)); (case aS => exact (below_size (by repeat (first | (with_reducible first | exact HB.out | apply below_alloc | apply pw_below_drewN | apply below_drew1 | refine below_set ?_ GE212.out) | exact HB.out)))); (case aL => have := LMc34.out; omega); intro v220 w39 ho hb hg hat; rw [← Ny219.out] at ho; have n0_ := Aside0.mk (blk_grown (g := gb212) (o := .cells #[.int .i64 ((rd_T36 l0 a1).f0), .int .i64 ((rd_T36 l0 a1).f1), .int .i64 ((rd_T36 l0 a1).f2), .int .u32 ((rd_T36 l0 a1).f3)] 36 (0, 0)) (by (with_reducible repeat (first | refine blk_drewN ?_ _ | refine blk_drew ?_ | refine blk_alloc ?_ _)); exact BK212.out) hg (Kd.R_ne HO_6.out BK212.out (by decide))); have n1_ := Aside0.mk (hb); have n2_ := Aside0.mk (ho); clear BK212; clear HB; clear HO_6; have BK212 := n0_; have HB := n1_; have HO221 := n2_; clear n0_ n1_ n2_; clear ho hb hg hat))
                          go_roundg kj7
                          case measure => have := HK1.out; have := HJ7.out; omega
                          case rel => exact ⟨(y219), (wrap64 (x7_1 + 1)), (by first | rfl | (simp; done) | (simp [*]; done)), H', ⟨by have := HK1.out; have := HJ7.out; omega⟩, ⟨by (with_reducible repeat (first | apply Kd.R_alloc | apply Kd.R_drewN | apply Kd.R_drew)); exact HO221.out⟩, ⟨by (with_reducible repeat (first | refine blk_drewN ?_ _ | refine blk_drew ?_ | refine blk_alloc ?_ _)); exact BK212.out⟩, ⟨by repeat (first | (with_reducible first | exact HB.out | apply below_alloc | apply pw_below_drewN | apply below_drew1 | refine below_set ?_ GE212.out) | exact HB.out)⟩⟩
                        · rw [if_neg c34] at H
                          exact absurd H (by simp)
                    · rw [if_neg c27] at H
                      have c27b0 : ((wrap64 ((wrap64 (x7_1 - a1)) - 1)) == ((rd_T36 l0 a1).f2)) = false := beq_eq_false_iff_ne.mpr c27
                      have c27b1 : ((wrap64 ((wrap64 (x7_1 - a1)) - 1)) != ((rd_T36 l0 a1).f2)) = true := bne_iff_ne.mpr c27
                      have H' := Aside0.mk H
                      clear H
                      have hcz40_0 : wc.cell? ⟨gb212, 0, none⟩ = some (.int .i64 ((rd_T36 l0 a1).f0)) := (blk_cell BK212.out 0).trans rfl
                      have hcz40_1 : wc.cell? ⟨gb212, 1, none⟩ = some (.int .i64 ((rd_T36 l0 a1).f1)) := (blk_cell BK212.out 1).trans rfl
                      have hcz40_2 : wc.cell? ⟨gb212, 2, none⟩ = some (.int .i64 ((rd_T36 l0 a1).f2)) := (blk_cell BK212.out 2).trans rfl
                      have hcz40_3 : wc.cell? ⟨gb212, 3, none⟩ = some (.int .u32 ((rd_T36 l0 a1).f3)) := (blk_cell BK212.out 3).trans rfl
                      have hfz40_0 := blk_frozen BK212.out 0
                      have hfz40_1 := blk_frozen BK212.out 1
                      have hfz40_2 := blk_frozen BK212.out 2
                      have hfz40_3 := blk_frozen BK212.out 3
                      go_wp2_with (first | ((with_reducible refine gate_callee (f := 28) rfl ?_); refine goesL_ (some 38) rfl rfl Tryd.func28 (by kernel_rfl) rfl #[.agg #[.int .i64 ((rd_T36 l0 a1).f0), .int .i64 ((rd_T36 l0 a1).f1), .int .i64 ((rd_T36 l0 a1).f2), .int .u32 ((rd_T36 l0 a1).f3)]] rfl (by (try simp only [List.map_toArray, List.map_cons, List.map_nil]); first | done | rfl | (simp only [List.length_drop, List.length_take]; rfl)) ?_; (with_reducible refine (hurdleref02_Branch.calls kj7 ((rd_T36 l0 a1).f0) ((rd_T36 l0 a1).f1) ((rd_T36 l0 a1).f2) ((rd_T36 l0 a1).f3) true _ A12.out).mono ?_); rintro e w41 ⟨rfl, hb⟩; refine ⟨_, rfl, ?_⟩; have n0_ := Aside0.mk (Kd.R_below (by (with_reducible repeat (first | apply Kd.R_alloc | apply Kd.R_drewN | apply Kd.R_drew)); exact HO_6.out) hb); have n1_ := Aside0.mk (blk_below (g := gb212) (o := .cells #[.int .i64 ((rd_T36 l0 a1).f0), .int .i64 ((rd_T36 l0 a1).f1), .int .i64 ((rd_T36 l0 a1).f2), .int .u32 ((rd_T36 l0 a1).f3)] 36 (0, 0)) (by (with_reducible repeat (first | refine blk_drewN ?_ _ | refine blk_drew ?_ | refine blk_alloc ?_ _)); exact BK212.out) hb); have n2_ := Aside0.mk (below_step (by repeat (first | (with_reducible first | exact HB.out | apply below_alloc | apply pw_below_drewN | apply below_drew1 | refine below_set ?_ GE212.out) | exact HB.out)) hb); clear HO_6; clear BK212; clear HB; have HO_6 := n0_; have BK212 := n1_; have HB := n2_; clear n0_ n1_ n2_; (try clear hb); (try clear hb2); (try clear hk); (try clear hi); have hcz42_0 : w41.cell? ⟨gb212, 0, none⟩ = some (.int .i64 ((rd_T36 l0 a1).f0)) := (blk_cell BK212.out 0).trans rfl; have hcz42_1 : w41.cell? ⟨gb212, 1, none⟩ = some (.int .i64 ((rd_T36 l0 a1).f1)) := (blk_cell BK212.out 1).trans rfl; have hcz42_2 : w41.cell? ⟨gb212, 2, none⟩ = some (.int .i64 ((rd_T36 l0 a1).f2)) := (blk_cell BK212.out 2).trans rfl; have hcz42_3 : w41.cell? ⟨gb212, 3, none⟩ = some (.int .u32 ((rd_T36 l0 a1).f3)) := (blk_cell BK212.out 3).trans rfl; have hfz42_0 := blk_frozen BK212.out 0; have hfz42_1 := blk_frozen BK212.out 1; have hfz42_2 := blk_frozen BK212.out 2; have hfz42_3 := blk_frozen BK212.out 3))
                      go_roundg kj7
                      case measure => have := HK1.out; have := HJ7.out; omega
                      case rel => exact ⟨(x6_1), (wrap64 (x7_1 + 1)), (by first | rfl | (simp; done) | (simp [*]; done)), H', ⟨by have := HK1.out; have := HJ7.out; omega⟩, ⟨by (with_reducible repeat (first | apply Kd.R_alloc | apply Kd.R_drewN | apply Kd.R_drew)); exact HO_6.out⟩, ⟨by (with_reducible repeat (first | refine blk_drewN ?_ _ | refine blk_drew ?_ | refine blk_alloc ?_ _)); exact BK212.out⟩, ⟨by repeat (first | (with_reducible first | exact HB.out | apply below_alloc | apply pw_below_drewN | apply below_drew1 | refine below_set ?_ GE212.out) | exact HB.out)⟩⟩
                · replace c13 := Bool.eq_false_iff.mpr c13
                  subst c13
                  have H1 : (if x9_7 = true then ((hurdleref02_Ends.f ((rd_T36 l0 a1).f0) ((rd_T36 l0 a1).f1) ((rd_T36 l0 a1).f2) ((rd_T36 l0 a1).f3)).bind fun t222 => (if t222 = true then (hurdleref05_Next.l0 kj7 l0 a1 x6_1 (wrap64 (x7_1 + 1)) ((rd_T36 l0 a1).f0) ((rd_T36 l0 a1).f1) ((rd_T36 l0 a1).f2) ((rd_T36 l0 a1).f3)) else (if x6_1.length < 17592186044416 then (hurdleref05_Next.l0 kj7 l0 a1 (x6_1 ++ [x7_1]) (wrap64 (x7_1 + 1)) ((rd_T36 l0 a1).f0) ((rd_T36 l0 a1).f1) ((rd_T36 l0 a1).f2) ((rd_T36 l0 a1).f3)) else (none)))) else (hurdleref05_Next.l0 kj7 l0 a1 x6_1 (wrap64 (x7_1 + 1)) ((rd_T36 l0 a1).f0) ((rd_T36 l0 a1).f1) ((rd_T36 l0 a1).f2) ((rd_T36 l0 a1).f3))) = some r := by rw [if_neg (show ¬ (false = true) by decide)] at H; exact H
                  clear H
                  have H := H1
                  clear H1
                  by_cases c43 : x9_7 = true
                  · subst c43
                    have H1 : ((hurdleref02_Ends.f ((rd_T36 l0 a1).f0) ((rd_T36 l0 a1).f1) ((rd_T36 l0 a1).f2) ((rd_T36 l0 a1).f3)).bind fun t222 => (if t222 = true then (hurdleref05_Next.l0 kj7 l0 a1 x6_1 (wrap64 (x7_1 + 1)) ((rd_T36 l0 a1).f0) ((rd_T36 l0 a1).f1) ((rd_T36 l0 a1).f2) ((rd_T36 l0 a1).f3)) else (if x6_1.length < 17592186044416 then (hurdleref05_Next.l0 kj7 l0 a1 (x6_1 ++ [x7_1]) (wrap64 (x7_1 + 1)) ((rd_T36 l0 a1).f0) ((rd_T36 l0 a1).f1) ((rd_T36 l0 a1).f2) ((rd_T36 l0 a1).f3)) else (none)))) = some r := by rw [if_pos rfl] at H; exact H
                    clear H
                    have H := H1
                    clear H1
                    replace H := Option.bind_eq_some_iff.mp H
                    obtain ⟨t222, A440, H⟩ := H
                    replace H : (if t222 = true then (hurdleref05_Next.l0 kj7 l0 a1 x6_1 (wrap64 (x7_1 + 1)) ((rd_T36 l0 a1).f0) ((rd_T36 l0 a1).f1) ((rd_T36 l0 a1).f2) ((rd_T36 l0 a1).f3)) else (if x6_1.length < 17592186044416 then (hurdleref05_Next.l0 kj7 l0 a1 (x6_1 ++ [x7_1]) (wrap64 (x7_1 + 1)) ((rd_T36 l0 a1).f0) ((rd_T36 l0 a1).f1) ((rd_T36 l0 a1).f2) ((rd_T36 l0 a1).f3)) else (none))) = some r := H
                    have A44 := Aside0.mk A440
                    clear A440
                    by_cases c45 : t222 = true
                    · subst c45
                      have H1 : (hurdleref05_Next.l0 kj7 l0 a1 x6_1 (wrap64 (x7_1 + 1)) ((rd_T36 l0 a1).f0) ((rd_T36 l0 a1).f1) ((rd_T36 l0 a1).f2) ((rd_T36 l0 a1).f3)) = some r := by rw [if_pos rfl] at H; exact H
                      clear H
                      have H := H1
                      clear H1
                      have H' := Aside0.mk H
                      clear H
                      have hcz46_0 : wc.cell? ⟨gb212, 0, none⟩ = some (.int .i64 ((rd_T36 l0 a1).f0)) := (blk_cell BK212.out 0).trans rfl
                      have hcz46_1 : wc.cell? ⟨gb212, 1, none⟩ = some (.int .i64 ((rd_T36 l0 a1).f1)) := (blk_cell BK212.out 1).trans rfl
                      have hcz46_2 : wc.cell? ⟨gb212, 2, none⟩ = some (.int .i64 ((rd_T36 l0 a1).f2)) := (blk_cell BK212.out 2).trans rfl
                      have hcz46_3 : wc.cell? ⟨gb212, 3, none⟩ = some (.int .u32 ((rd_T36 l0 a1).f3)) := (blk_cell BK212.out 3).trans rfl
                      have hfz46_0 := blk_frozen BK212.out 0
                      have hfz46_1 := blk_frozen BK212.out 1
                      have hfz46_2 := blk_frozen BK212.out 2
                      have hfz46_3 := blk_frozen BK212.out 3
                      go_wp2_with (first | ((with_reducible refine gate_callee (f := 28) rfl ?_); refine goesL_ (some 38) rfl rfl Tryd.func28 (by kernel_rfl) rfl #[.agg #[.int .i64 ((rd_T36 l0 a1).f0), .int .i64 ((rd_T36 l0 a1).f1), .int .i64 ((rd_T36 l0 a1).f2), .int .u32 ((rd_T36 l0 a1).f3)]] rfl (by (try simp only [List.map_toArray, List.map_cons, List.map_nil]); first | done | rfl | (simp only [List.length_drop, List.length_take]; rfl)) ?_; (with_reducible refine (hurdleref02_Branch.calls kj7 ((rd_T36 l0 a1).f0) ((rd_T36 l0 a1).f1) ((rd_T36 l0 a1).f2) ((rd_T36 l0 a1).f3) false _ A12.out).mono ?_); rintro e w47 ⟨rfl, hb⟩; refine ⟨_, rfl, ?_⟩; have n0_ := Aside0.mk (Kd.R_below (by (with_reducible repeat (first | apply Kd.R_alloc | apply Kd.R_drewN | apply Kd.R_drew)); exact HO_6.out) hb); have n1_ := Aside0.mk (blk_below (g := gb212) (o := .cells #[.int .i64 ((rd_T36 l0 a1).f0), .int .i64 ((rd_T36 l0 a1).f1), .int .i64 ((rd_T36 l0 a1).f2), .int .u32 ((rd_T36 l0 a1).f3)] 36 (0, 0)) (by (with_reducible repeat (first | refine blk_drewN ?_ _ | refine blk_drew ?_ | refine blk_alloc ?_ _)); exact BK212.out) hb); have n2_ := Aside0.mk (below_step (by repeat (first | (with_reducible first | exact HB.out | apply below_alloc | apply pw_below_drewN | apply below_drew1 | refine below_set ?_ GE212.out) | exact HB.out)) hb); clear HO_6; clear BK212; clear HB; have HO_6 := n0_; have BK212 := n1_; have HB := n2_; clear n0_ n1_ n2_; (try clear hb); (try clear hb2); (try clear hk); (try clear hi); have hcz48_0 : w47.cell? ⟨gb212, 0, none⟩ = some (.int .i64 ((rd_T36 l0 a1).f0)) := (blk_cell BK212.out 0).trans rfl; have hcz48_1 : w47.cell? ⟨gb212, 1, none⟩ = some (.int .i64 ((rd_T36 l0 a1).f1)) := (blk_cell BK212.out 1).trans rfl; have hcz48_2 : w47.cell? ⟨gb212, 2, none⟩ = some (.int .i64 ((rd_T36 l0 a1).f2)) := (blk_cell BK212.out 2).trans rfl; have hcz48_3 : w47.cell? ⟨gb212, 3, none⟩ = some (.int .u32 ((rd_T36 l0 a1).f3)) := (blk_cell BK212.out 3).trans rfl; have hfz48_0 := blk_frozen BK212.out 0; have hfz48_1 := blk_frozen BK212.out 1; have hfz48_2 := blk_frozen BK212.out 2; have hfz48_3 := blk_frozen BK212.out 3) | (go_at_call 17; (with_reducible refine (hurdleref02_Ends.calls ((rd_T36 l0 a1).f0) ((rd_T36 l0 a1).f1) ((rd_T36 l0 a1).f2) ((rd_T36 l0 a1).f3) true _ A44.out).mono ?_); rintro e w49 ⟨rfl, hb⟩; have n0_ := Aside0.mk (Kd.R_below (by (with_reducible repeat (first | apply Kd.R_alloc | apply Kd.R_drewN | apply Kd.R_drew)); exact HO_6.out) hb); have n1_ := Aside0.mk (blk_below (g := gb212) (o := .cells #[.int .i64 ((rd_T36 l0 a1).f0), .int .i64 ((rd_T36 l0 a1).f1), .int .i64 ((rd_T36 l0 a1).f2), .int .u32 ((rd_T36 l0 a1).f3)] 36 (0, 0)) (by (with_reducible repeat (first | refine blk_drewN ?_ _ | refine blk_drew ?_ | refine blk_alloc ?_ _)); exact BK212.out) hb); have n2_ := Aside0.mk (below_step (by repeat (first | (with_reducible first | exact HB.out | apply below_alloc | apply pw_below_drewN | apply below_drew1 | refine below_set ?_ GE212.out) | exact HB.out)) hb); clear HO_6; clear BK212; clear HB; have HO_6 := n0_; have BK212 := n1_; have HB := n2_; clear n0_ n1_ n2_; (try clear hb); (try clear hb2); (try clear hk); (try clear hi)))
                      go_roundg kj7
                      case measure => have := HK1.out; have := HJ7.out; omega
                      case rel => exact ⟨(x6_1), (wrap64 (x7_1 + 1)), (by first | rfl | (simp; done) | (simp [*]; done)), H', ⟨by have := HK1.out; have := HJ7.out; omega⟩, ⟨by (with_reducible repeat (first | apply Kd.R_alloc | apply Kd.R_drewN | apply Kd.R_drew)); exact HO_6.out⟩, ⟨by (with_reducible repeat (first | refine blk_drewN ?_ _ | refine blk_drew ?_ | refine blk_alloc ?_ _)); exact BK212.out⟩, ⟨by repeat (first | (with_reducible first | exact HB.out | apply below_alloc | apply pw_below_drewN | apply below_drew1 | refine below_set ?_ GE212.out) | exact HB.out)⟩⟩
                    · replace c45 := Bool.eq_false_iff.mpr c45
                      subst c45
                      have H1 : (if x6_1.length < 17592186044416 then (hurdleref05_Next.l0 kj7 l0 a1 (x6_1 ++ [x7_1]) (wrap64 (x7_1 + 1)) ((rd_T36 l0 a1).f0) ((rd_T36 l0 a1).f1) ((rd_T36 l0 a1).f2) ((rd_T36 l0 a1).f3)) else (none)) = some r := by rw [if_neg (show ¬ (false = true) by decide)] at H; exact H
                      clear H
                      have H := H1
                      clear H1
                      by_cases c50 : x6_1.length < 17592186044416
                      · rw [if_pos c50] at H
                        have LMc50 := Aside0.mk c50
                        clear c50
                        obtain ⟨y223, hy223⟩ : ∃ y_ : List Int, y_ = (x6_1 ++ [x7_1]) := ⟨_, rfl⟩
                        replace H : (hurdleref05_Next.l0 kj7 l0 a1 y223 (wrap64 (x7_1 + 1)) ((rd_T36 l0 a1).f0) ((rd_T36 l0 a1).f1) ((rd_T36 l0 a1).f2) ((rd_T36 l0 a1).f3)) = some r := by first | (rw [hy223]; with_reducible exact H) | (have H2_ := (Option.bind_some _ _).symm.trans H; rw [hy223]; with_reducible exact H2_) | (have H2_ := (Option.bind_some _ _).symm.trans H; with_reducible exact H2_) | with_reducible exact H | (rw [hy223]; exact H) | exact H
                        have Ny223 := Aside0.mk hy223
                        clear hy223
                        have H' := Aside0.mk H
                        clear H
                        have hcz51_0 : wc.cell? ⟨gb212, 0, none⟩ = some (.int .i64 ((rd_T36 l0 a1).f0)) := (blk_cell BK212.out 0).trans rfl
                        have hcz51_1 : wc.cell? ⟨gb212, 1, none⟩ = some (.int .i64 ((rd_T36 l0 a1).f1)) := (blk_cell BK212.out 1).trans rfl
                        have hcz51_2 : wc.cell? ⟨gb212, 2, none⟩ = some (.int .i64 ((rd_T36 l0 a1).f2)) := (blk_cell BK212.out 2).trans rfl
                        have hcz51_3 : wc.cell? ⟨gb212, 3, none⟩ = some (.int .u32 ((rd_T36 l0 a1).f3)) := (blk_cell BK212.out 3).trans rfl
                        have hfz51_0 := blk_frozen BK212.out 0
                        have hfz51_1 := blk_frozen BK212.out 1
                        have hfz51_2 := blk_frozen BK212.out 2
                        have hfz51_3 := blk_frozen BK212.out 3
                        go_wp2_with (first | ((with_reducible refine gate_callee (f := 28) rfl ?_); refine goesL_ (some 38) rfl rfl Tryd.func28 (by kernel_rfl) rfl #[.agg #[.int .i64 ((rd_T36 l0 a1).f0), .int .i64 ((rd_T36 l0 a1).f1), .int .i64 ((rd_T36 l0 a1).f2), .int .u32 ((rd_T36 l0 a1).f3)]] rfl (by (try simp only [List.map_toArray, List.map_cons, List.map_nil]); first | done | rfl | (simp only [List.length_drop, List.length_take]; rfl)) ?_; (with_reducible refine (hurdleref02_Branch.calls kj7 ((rd_T36 l0 a1).f0) ((rd_T36 l0 a1).f1) ((rd_T36 l0 a1).f2) ((rd_T36 l0 a1).f3) false _ A12.out).mono ?_); rintro e w52 ⟨rfl, hb⟩; refine ⟨_, rfl, ?_⟩; have n0_ := Aside0.mk (Kd.R_below (by (with_reducible repeat (first | apply Kd.R_alloc | apply Kd.R_drewN | apply Kd.R_drew)); exact HO_6.out) hb); have n1_ := Aside0.mk (blk_below (g := gb212) (o := .cells #[.int .i64 ((rd_T36 l0 a1).f0), .int .i64 ((rd_T36 l0 a1).f1), .int .i64 ((rd_T36 l0 a1).f2), .int .u32 ((rd_T36 l0 a1).f3)] 36 (0, 0)) (by (with_reducible repeat (first | refine blk_drewN ?_ _ | refine blk_drew ?_ | refine blk_alloc ?_ _)); exact BK212.out) hb); have n2_ := Aside0.mk (below_step (by repeat (first | (with_reducible first | exact HB.out | apply below_alloc | apply pw_below_drewN | apply below_drew1 | refine below_set ?_ GE212.out) | exact HB.out)) hb); clear HO_6; clear BK212; clear HB; have HO_6 := n0_; have BK212 := n1_; have HB := n2_; clear n0_ n1_ n2_; (try clear hb); (try clear hb2); (try clear hk); (try clear hi); have hcz53_0 : w52.cell? ⟨gb212, 0, none⟩ = some (.int .i64 ((rd_T36 l0 a1).f0)) := (blk_cell BK212.out 0).trans rfl; have hcz53_1 : w52.cell? ⟨gb212, 1, none⟩ = some (.int .i64 ((rd_T36 l0 a1).f1)) := (blk_cell BK212.out 1).trans rfl; have hcz53_2 : w52.cell? ⟨gb212, 2, none⟩ = some (.int .i64 ((rd_T36 l0 a1).f2)) := (blk_cell BK212.out 2).trans rfl; have hcz53_3 : w52.cell? ⟨gb212, 3, none⟩ = some (.int .u32 ((rd_T36 l0 a1).f3)) := (blk_cell BK212.out 3).trans rfl; have hfz53_0 := blk_frozen BK212.out 0; have hfz53_1 := blk_frozen BK212.out 1; have hfz53_2 := blk_frozen BK212.out 2; have hfz53_3 := blk_frozen BK212.out 3) | (go_at_call 17; (with_reducible refine (hurdleref02_Ends.calls ((rd_T36 l0 a1).f0) ((rd_T36 l0 a1).f1) ((rd_T36 l0 a1).f2) ((rd_T36 l0 a1).f3) false _ A44.out).mono ?_); rintro e w54 ⟨rfl, hb⟩; have n0_ := Aside0.mk (Kd.R_below (by (with_reducible repeat (first | apply Kd.R_alloc | apply Kd.R_drewN | apply Kd.R_drew)); exact HO_6.out) hb); have n1_ := Aside0.mk (blk_below (g := gb212) (o := .cells #[.int .i64 ((rd_T36 l0 a1).f0), .int .i64 ((rd_T36 l0 a1).f1), .int .i64 ((rd_T36 l0 a1).f2), .int .u32 ((rd_T36 l0 a1).f3)] 36 (0, 0)) (by (with_reducible repeat (first | refine blk_drewN ?_ _ | refine blk_drew ?_ | refine blk_alloc ?_ _)); exact BK212.out) hb); have n2_ := Aside0.mk (below_step (by repeat (first | (with_reducible first | exact HB.out | apply below_alloc | apply pw_below_drewN | apply below_drew1 | refine below_set ?_ GE212.out) | exact HB.out)) hb); clear HO_6; clear BK212; clear HB; have HO_6 := n0_; have BK212 := n1_; have HB := n2_; clear n0_ n1_ n2_; (try clear hb); (try clear hb2); (try clear hk); (try clear hi)) | ((with_reducible refine gate_builtin (b := .append) (xs := #[.tmp 55, .tmp 57]) rfl ?_); at_builtin; refine Kd.R_append (Kd.int .i64) (w0 := w) w.heap.size rfl (.tmp 55) (.tmp 57) 30 3 (.int .i64 0) 8 rfl Tryd.underlying30 info3 rfl (by decide) (by omega) u6 x6_1 x7_1 [.int .i64 x7_1] (fun _ => True) (fun _ => False) rfl rfl ?aP (fun _ hk => hk.elim) ?aF ?aO ?aB ?aS ?aL ?_; (case aP => exact rfl); (case aB => exact (by repeat (first | (with_reducible first | exact HB.out | apply below_alloc | apply pw_below_drewN | apply below_drew1 | refine below_set ?_ GE212.out) | exact HB.out))); (case aF => exact (fun _ _ => trivial)); (case aO => exact (by (with_reducible repeat (first | apply Kd.R_alloc | apply Kd.R_drewN | apply Kd.R_drew)); exact HO_6.out)); (case aS => exact (below_size (by repeat (first | (with_reducible first | exact HB.out | apply below_alloc | apply pw_below_drewN | apply below_drew1 | refine below_set ?_ GE212.out) | exact HB.out)))); (case aL => have := LMc50.out; omega); intro v224 w55 ho hb hg hat; rw [← Ny223.out] at ho; have n0_ := Aside0.mk (blk_grown (g := gb212) (o := .cells #[.int .i64 ((rd_T36 l0 a1).f0), .int .i64 ((rd_T36 l0 a1).f1), .int .i64 ((rd_T36 l0 a1).f2), .int .u32 ((rd_T36 l0 a1).f3)] 36 (0, 0)) (by (with_reducible repeat (first | refine blk_drewN ?_ _ | refine blk_drew ?_ | refine blk_alloc ?_ _)); exact BK212.out) hg (Kd.R_ne HO_6.out BK212.out (by decide))); have n1_ := Aside0.mk (hb); have n2_ := Aside0.mk (ho); clear BK212; clear HB; clear HO_6; have BK212 := n0_; have HB := n1_; have HO225 := n2_; clear n0_ n1_ n2_; clear ho hb hg hat))
                        go_roundg kj7
                        case measure => have := HK1.out; have := HJ7.out; omega
                        case rel => exact ⟨(y223), (wrap64 (x7_1 + 1)), (by first | rfl | (simp; done) | (simp [*]; done)), H', ⟨by have := HK1.out; have := HJ7.out; omega⟩, ⟨by (with_reducible repeat (first | apply Kd.R_alloc | apply Kd.R_drewN | apply Kd.R_drew)); exact HO225.out⟩, ⟨by (with_reducible repeat (first | refine blk_drewN ?_ _ | refine blk_drew ?_ | refine blk_alloc ?_ _)); exact BK212.out⟩, ⟨by repeat (first | (with_reducible first | exact HB.out | apply below_alloc | apply pw_below_drewN | apply below_drew1 | refine below_set ?_ GE212.out) | exact HB.out)⟩⟩
                      · rw [if_neg c50] at H
                        exact absurd H (by simp)
                  · replace c43 := Bool.eq_false_iff.mpr c43
                    subst c43
                    have H1 : (hurdleref05_Next.l0 kj7 l0 a1 x6_1 (wrap64 (x7_1 + 1)) ((rd_T36 l0 a1).f0) ((rd_T36 l0 a1).f1) ((rd_T36 l0 a1).f2) ((rd_T36 l0 a1).f3)) = some r := by rw [if_neg (show ¬ (false = true) by decide)] at H; exact H
                    clear H
                    have H := H1
                    clear H1
                    have H' := Aside0.mk H
                    clear H
                    have hcz56_0 : wc.cell? ⟨gb212, 0, none⟩ = some (.int .i64 ((rd_T36 l0 a1).f0)) := (blk_cell BK212.out 0).trans rfl
                    have hcz56_1 : wc.cell? ⟨gb212, 1, none⟩ = some (.int .i64 ((rd_T36 l0 a1).f1)) := (blk_cell BK212.out 1).trans rfl
                    have hcz56_2 : wc.cell? ⟨gb212, 2, none⟩ = some (.int .i64 ((rd_T36 l0 a1).f2)) := (blk_cell BK212.out 2).trans rfl
                    have hcz56_3 : wc.cell? ⟨gb212, 3, none⟩ = some (.int .u32 ((rd_T36 l0 a1).f3)) := (blk_cell BK212.out 3).trans rfl
                    have hfz56_0 := blk_frozen BK212.out 0
                    have hfz56_1 := blk_frozen BK212.out 1
                    have hfz56_2 := blk_frozen BK212.out 2
                    have hfz56_3 := blk_frozen BK212.out 3
                    go_wp2_with (first | ((with_reducible refine gate_callee (f := 28) rfl ?_); refine goesL_ (some 38) rfl rfl Tryd.func28 (by kernel_rfl) rfl #[.agg #[.int .i64 ((rd_T36 l0 a1).f0), .int .i64 ((rd_T36 l0 a1).f1), .int .i64 ((rd_T36 l0 a1).f2), .int .u32 ((rd_T36 l0 a1).f3)]] rfl (by (try simp only [List.map_toArray, List.map_cons, List.map_nil]); first | done | rfl | (simp only [List.length_drop, List.length_take]; rfl)) ?_; (with_reducible refine (hurdleref02_Branch.calls kj7 ((rd_T36 l0 a1).f0) ((rd_T36 l0 a1).f1) ((rd_T36 l0 a1).f2) ((rd_T36 l0 a1).f3) false _ A12.out).mono ?_); rintro e w57 ⟨rfl, hb⟩; refine ⟨_, rfl, ?_⟩; have n0_ := Aside0.mk (Kd.R_below (by (with_reducible repeat (first | apply Kd.R_alloc | apply Kd.R_drewN | apply Kd.R_drew)); exact HO_6.out) hb); have n1_ := Aside0.mk (blk_below (g := gb212) (o := .cells #[.int .i64 ((rd_T36 l0 a1).f0), .int .i64 ((rd_T36 l0 a1).f1), .int .i64 ((rd_T36 l0 a1).f2), .int .u32 ((rd_T36 l0 a1).f3)] 36 (0, 0)) (by (with_reducible repeat (first | refine blk_drewN ?_ _ | refine blk_drew ?_ | refine blk_alloc ?_ _)); exact BK212.out) hb); have n2_ := Aside0.mk (below_step (by repeat (first | (with_reducible first | exact HB.out | apply below_alloc | apply pw_below_drewN | apply below_drew1 | refine below_set ?_ GE212.out) | exact HB.out)) hb); clear HO_6; clear BK212; clear HB; have HO_6 := n0_; have BK212 := n1_; have HB := n2_; clear n0_ n1_ n2_; (try clear hb); (try clear hb2); (try clear hk); (try clear hi)))
                    go_roundg kj7
                    case measure => have := HK1.out; have := HJ7.out; omega
                    case rel => exact ⟨(x6_1), (wrap64 (x7_1 + 1)), (by first | rfl | (simp; done) | (simp [*]; done)), H', ⟨by have := HK1.out; have := HJ7.out; omega⟩, ⟨by (with_reducible repeat (first | apply Kd.R_alloc | apply Kd.R_drewN | apply Kd.R_drew)); exact HO_6.out⟩, ⟨by (with_reducible repeat (first | refine blk_drewN ?_ _ | refine blk_drew ?_ | refine blk_alloc ?_ _)); exact BK212.out⟩, ⟨by repeat (first | (with_reducible first | exact HB.out | apply below_alloc | apply pw_below_drewN | apply below_drew1 | refine below_set ?_ GE212.out) | exact HB.out)⟩⟩
          · rw [if_neg c7] at H
            have c7b0 : decide (x7_1 < (l0.length : Int)) = false := decide_eq_false c7
            clear c7
            obtain rfl := Option.some.inj H
            go_wp2
            go_ret
            exact ⟨_, by first | rfl | (simp [errW_none, errW_some] <;> rfl) | (simp [*, errW_none, errW_some] <;> rfl), by (with_reducible repeat (first | apply Kd.R_alloc | apply Kd.R_drewN | apply Kd.R_drew)); exact HO_6.out, by repeat (first | (with_reducible first | exact HB.out | apply below_alloc | apply pw_below_drewN | apply below_drew1 | refine below_set ?_ GE212.out) | exact HB.out)⟩
    · rw [if_neg c4] at H
      exact absurd H (by simp)
  · rw [if_neg c3] at H
    exact absurd H (by simp)

end Go.Proofs.YtacfdcgogadamaaDoor.M
