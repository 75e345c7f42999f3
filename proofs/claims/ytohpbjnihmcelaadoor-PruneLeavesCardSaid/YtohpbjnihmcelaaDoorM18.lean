/- By a program of this session: what Go functions of the seat compute, as Lean functions, each with a proof that the call of the Go function comes to that. -/
import Derived.Test.YtohpbjnihmcelaaDoorM0
import Derived.Test.YtohpbjnihmcelaaDoorM13
import Derived.Test.YtohpbjnihmcelaaDoorM16
namespace Go.Proofs.YtohpbjnihmcelaaDoor.M
open Go.RowKit Go.Proofs.YtohpbjnihmcelaaDoorW.PrintWords Go.Proofs.YtohpbjnihmcelaaDoorW.PrintLast Go.Proofs.YtohpbjnihmcelaaDoorW.PrintMore
attribute [local go_sem] max2_int min2_int max_two min_two max_three min_three max_four min_four   -- for this text's walks alone
set_option linter.unusedVariables false
set_option linter.unusedSimpArgs false
mutual
def hurdleref05_Next.l0 : Nat → List (S45) → Int → List Int → Int → Int → Int → Int → Int → Option (List Int)
 | 0, _, _, _, _, _, _, _, _ => none
 | k + 1, x0, x1, x6, x7, x182000, x182001, x182002, x182003 => if x7 < (x0.length : Int) then (if x182000 = 5 then (hurdleref05_Next.j1 k x0 x1 x6 x7 (wrap64 ((wrap64 (x7 - x1)) - 1)) ((IntKind.u64.wrap (wrap64 ((wrap64 (x7 - x1)) - 1))) == (IntKind.u64.wrap (x182003))) x182000 x182001 x182002 x182003) else (hurdleref05_Next.j1 k x0 x1 x6 x7 (wrap64 ((wrap64 (x7 - x1)) - 1)) ((wrap64 ((wrap64 (x7 - x1)) - 1)) == 0) x182000 x182001 x182002 x182003)) else (some x6)
def hurdleref05_Next.j1 : Nat → List (S45) → Int → List Int → Int → Int → Bool → Int → Int → Int → Int → Option (List Int)
 | 0, _, _, _, _, _, _, _, _, _, _ => none
 | k + 1, x0, x1, x6, x7, x8, x9, x182000, x182001, x182002, x182003 => (hurdleref02_Branch.f k x182000 x182001 x182002 x182003).bind fun t182 => (if t182 = true then (if x8 = x182001 then ((hurdleref02_Ends.f x182000 x182001 x182002 x182003).bind fun t183 => (if t183 = true then (hurdleref05_Next.l0 k x0 x1 x6 (wrap64 (x7 + 1)) x182000 x182001 x182002 x182003) else (if x6.length < 17592186044416 then (hurdleref05_Next.l0 k x0 x1 (x6 ++ [x7]) (wrap64 (x7 + 1)) x182000 x182001 x182002 x182003) else (none)))) else (if x8 = x182002 then ((hurdleref02_Ends.f x182000 x182001 x182002 x182003).bind fun t187 => (if t187 = true then (hurdleref05_Next.l0 k x0 x1 x6 (wrap64 (x7 + 1)) x182000 x182001 x182002 x182003) else (if x6.length < 17592186044416 then (hurdleref05_Next.l0 k x0 x1 (x6 ++ [x7]) (wrap64 (x7 + 1)) x182000 x182001 x182002 x182003) else (none)))) else (hurdleref05_Next.l0 k x0 x1 x6 (wrap64 (x7 + 1)) x182000 x182001 x182002 x182003))) else (if x9 = true then ((hurdleref02_Ends.f x182000 x182001 x182002 x182003).bind fun t191 => (if t191 = true then (hurdleref05_Next.l0 k x0 x1 x6 (wrap64 (x7 + 1)) x182000 x182001 x182002 x182003) else (if x6.length < 17592186044416 then (hurdleref05_Next.l0 k x0 x1 (x6 ++ [x7]) (wrap64 (x7 + 1)) x182000 x182001 x182002 x182003) else (none)))) else (hurdleref05_Next.l0 k x0 x1 x6 (wrap64 (x7 + 1)) x182000 x182001 x182002 x182003)))
end
def hurdleref05_Next.f (k : Nat) (l0 : List (S45)) (a1 : Int) : Option (List Int) := if 0 ≤ a1 then (if a1 < (l0.length : Int) then (hurdleref05_Next.l0 k l0 a1 ([] : List Int) (wrap64 (a1 + 1)) ((rd_T45 l0 a1).f0) ((rd_T45 l0 a1).f1) ((rd_T45 l0 a1).f2) ((rd_T45 l0 a1).f3)) else (none)) else (none)
theorem hurdleref05_Next.mono_l : ∀ k, (∀ y0 y1 y2 y3 y4 y5 y6 y7, LeO (hurdleref05_Next.l0 k y0 y1 y2 y3 y4 y5 y6 y7) (hurdleref05_Next.l0 (k + 1) y0 y1 y2 y3 y4 y5 y6 y7)) ∧ (∀ y0 y1 y2 y3 y4 y5 y6 y7 y8 y9, LeO (hurdleref05_Next.j1 k y0 y1 y2 y3 y4 y5 y6 y7 y8 y9) (hurdleref05_Next.j1 (k + 1) y0 y1 y2 y3 y4 y5 y6 y7 y8 y9))
 | 0 => ⟨fun _ _ _ _ _ _ _ _ r h => by simp [hurdleref05_Next.l0] at h, fun _ _ _ _ _ _ _ _ _ _ r h => by simp [hurdleref05_Next.j1] at h⟩
 | k + 1 => by
  obtain ⟨ih0, ih1⟩ := hurdleref05_Next.mono_l k
  refine ⟨?_, ?_⟩
  ·intro y0 y1 y2 y3 y4 y5 y6 y7
   unfold hurdleref05_Next.l0
   repeat' first
   | (with_reducible exact ih0 _ _ _ _ _ _ _ _)
   | (with_reducible exact ih1 _ _ _ _ _ _ _ _ _ _)
   | (with_reducible exact hurdleref02_Branch.mono _ _ _ _ _)
   | (with_reducible exact LeO.refl _)
   | (with_reducible exact LeO.none _)
   | (with_reducible refine LeO.ite ?_ ?_)
   | (with_reducible refine LeO.bind ?_ (fun _ => ?_))
   | exact ih0 _ _ _ _ _ _ _ _
   | exact ih1 _ _ _ _ _ _ _ _ _ _
   | exact hurdleref02_Branch.mono _ _ _ _ _
   | exact LeO.none _
   | refine LeO.ite ?_ ?_
   | refine LeO.bind ?_ (fun _ => ?_)
  ·intro y0 y1 y2 y3 y4 y5 y6 y7 y8 y9
   unfold hurdleref05_Next.j1
   repeat' first
   | (with_reducible exact ih0 _ _ _ _ _ _ _ _)
   | (with_reducible exact ih1 _ _ _ _ _ _ _ _ _ _)
   | (with_reducible exact hurdleref02_Branch.mono _ _ _ _ _)
   | (with_reducible exact LeO.refl _)
   | (with_reducible exact LeO.none _)
   | (with_reducible refine LeO.ite ?_ ?_)
   | (with_reducible refine LeO.bind ?_ (fun _ => ?_))
   | exact ih0 _ _ _ _ _ _ _ _
   | exact ih1 _ _ _ _ _ _ _ _ _ _
   | exact hurdleref02_Branch.mono _ _ _ _ _
   | exact LeO.none _
   | refine LeO.ite ?_ ?_
   | refine LeO.bind ?_ (fun _ => ?_)
theorem hurdleref05_Next.mono : ∀ a0 a1 k, LeO (hurdleref05_Next.f k a0 a1) (hurdleref05_Next.f (k + 1) a0 a1) := by
 intro a0 a1 k
 obtain ⟨ih0, ih1⟩ := hurdleref05_Next.mono_l k
 unfold hurdleref05_Next.f
 repeat' first
   | (with_reducible exact ih0 _ _ _ _ _ _ _ _)
   | (with_reducible exact ih1 _ _ _ _ _ _ _ _ _ _)
   | (with_reducible exact hurdleref02_Branch.mono _ _ _ _ _)
   | (with_reducible exact LeO.refl _)
   | (with_reducible exact LeO.none _)
   | (with_reducible refine LeO.ite ?_ ?_)
   | (with_reducible refine LeO.bind ?_ (fun _ => ?_))
   | exact ih0 _ _ _ _ _ _ _ _
   | exact ih1 _ _ _ _ _ _ _ _ _ _
   | exact hurdleref02_Branch.mono _ _ _ _ _
   | exact LeO.none _
   | refine LeO.ite ?_ ?_
   | refine LeO.bind ?_ (fun _ => ?_)
set_option maxHeartbeats 8000000 in
set_option maxRecDepth 100000 in
theorem hurdleref05_Next.calls (k : Nat) (A0 : Option Addr) (c0 : Nat) (l0 : List (S45)) (a1 : Int) (r : List Int) (w : World) (hr0 : Kd.C k45 w A0 l0.length l0) (hc0 : l0.length ≤ c0) (h : hurdleref05_Next.f k l0 a1 = some r) :
  Calls Tryd.prog 23 #[.slice A0 l0.length c0, .int .i64 a1] w fun e w' => ∃ v0_ : Value, e = .returned (v0_) ∧ Kd.R (Kd.int .i64) 3 w' w.heap.size (fun _ => True) v0_ r ∧ Below w.heap.size w w' := by
 have hu45 := Tryd.underlying45
 have HR0 := Aside0.mk hr0
 have HC0 := Aside0.mk hc0
 clear hr0 hc0
 have HB := Aside0.mk (Below.refl w.heap.size w)
 have H : (if 0 ≤ a1 then (if a1 < (l0.length : Int) then (hurdleref05_Next.l0 k l0 a1 ([] : List Int) (wrap64 (a1 + 1)) ((rd_T45 l0 a1).f0) ((rd_T45 l0 a1).f1) ((rd_T45 l0 a1).f2) ((rd_T45 l0 a1).f3)) else (none)) else (none)) = some r := h
 clear h
 by_cases c3 : 0 ≤ a1
 ·rw [if_pos c3] at H
  have c3b0 : decide (0 ≤ a1) = true := dT c3
  clear c3
  by_cases c4 : a1 < (l0.length : Int)
  ·rw [if_pos c4] at H
   have c4b0 : decide (a1 < (l0.length : Int)) = true := dT c4
   clear c4
   have H' := Aside0.mk H
   clear H
   have p180 : 0 ≤ (a1 : Int) := oD (by assumption)
   have q180 : a1 < (l0.length : Int) := oD (by assumption)
   obtain ⟨ad180, e180, hx180_0, hx180_1, hx180_2, hx180_3⟩ := at_T45 HR0.out a1 p180 q180
   cases e180
   replace p180 := eq_true p180
   replace q180 := eq_true q180
   go_enter Tryd.func23, Tryd.ntmps23
   go_wp2_with (first | ((with_reducible refine gate_dst (N := 5) rfl ?_); refine box_event ?hg (N := 5) ?hd (cs := #[.int .i64 0, .int .i64 0, .int .i64 0, .int .u32 0]) (t := 45) ?hr ?_; (case hd => rfl); (case hg => rfl); (case hr => first | (go_simp; done) | (go_simp; rfl)); intro gb181 hg w5 hbox hb; have n0_ := Aside0.mk (zT HB.out hb); have n1_ := Aside0.mk (hbox); have n2_ := Aside0.mk ((by rw [hg]; exact (zZ HB.out) : w.heap.size ≤ gb181)); have n3_ := Aside0.mk ((by rw [hg]; exact (zZ HB.out) : w.heap.size ≤ gb181)); clear HB; have HB := n0_; have BK181 := n1_; have GW181 := n2_; have GE181 := n3_; clear n0_ n1_ n2_ n3_; clear hb hbox hg; have hcz6_0 : w5.cell? ⟨gb181, 0, none⟩ = some (.int .i64 0) := (kC BK181.out 0).trans rfl; have hcz6_1 : w5.cell? ⟨gb181, 1, none⟩ = some (.int .i64 0) := (kC BK181.out 1).trans rfl; have hcz6_2 : w5.cell? ⟨gb181, 2, none⟩ = some (.int .i64 0) := (kC BK181.out 2).trans rfl; have hcz6_3 : w5.cell? ⟨gb181, 3, none⟩ = some (.int .u32 0) := (kC BK181.out 3).trans rfl; have hfz6_0 := kF BK181.out 0; have hfz6_1 := kF BK181.out 1; have hfz6_2 := kF BK181.out 2; have hfz6_3 := kF BK181.out 3))
   go_loopg [6, 7] k (fun kq v6 v7 w' => ∃ (x6_1 : List Int) (x7_1 : Int), v7 = .int .i64 x7_1 ∧ Aside0 (hurdleref05_Next.l0 kq l0 a1 x6_1 x7_1 ((rd_T45 l0 a1).f0) ((rd_T45 l0 a1).f1) ((rd_T45 l0 a1).f2) ((rd_T45 l0 a1).f3) = some r) ∧ Aside0 (kq ≤ k) ∧ Aside0 (Kd.R (Kd.int .i64) 3 w' w.heap.size (fun _ => True) v6 x6_1) ∧ Aside0 (w'.heap[gb181]? = some (.cells #[.int .i64 ((rd_T45 l0 a1).f0), .int .i64 ((rd_T45 l0 a1).f1), .int .i64 ((rd_T45 l0 a1).f2), .int .u32 ((rd_T45 l0 a1).f3)] 45 (0, 0))) ∧ Aside0 (Below w.heap.size w w'))
   case atStart => exact ⟨(([] : List Int)), (wrap64 (a1 + 1)), rfl, H', ⟨Nat.le_refl _⟩, ⟨by first | exact Kd.R_nil _ _ _ _ _ | exact Kd.N_nil _ _ _ _ _ | exact Kd.V_nil _ _ _ _ _ | exact Kd.Q_nil _ _ _ _ _ | exact Kd.S_nil _ _ _ _ _⟩, ⟨by (with_reducible repeat (first | refine kN ?_ _ | refine kD ?_ | refine kA ?_ _)); refine kP (cs := #[.int .i64 ((rd_T45 l0 a1).f0), .int .i64 ((rd_T45 l0 a1).f1), .int .i64 ((rd_T45 l0 a1).f2), .int .u32 0]) ?_ 3 _ rfl; (with_reducible repeat (first | refine kN ?_ _ | refine kD ?_ | refine kA ?_ _)); refine kP (cs := #[.int .i64 ((rd_T45 l0 a1).f0), .int .i64 ((rd_T45 l0 a1).f1), .int .i64 0, .int .u32 0]) ?_ 2 _ rfl; (with_reducible repeat (first | refine kN ?_ _ | refine kD ?_ | refine kA ?_ _)); refine kP (cs := #[.int .i64 ((rd_T45 l0 a1).f0), .int .i64 0, .int .i64 0, .int .u32 0]) ?_ 1 _ rfl; (with_reducible repeat (first | refine kN ?_ _ | refine kD ?_ | refine kA ?_ _)); refine kP (cs := #[.int .i64 0, .int .i64 0, .int .i64 0, .int .u32 0]) ?_ 0 _ rfl; (with_reducible repeat (first | refine kN ?_ _ | refine kD ?_ | refine kA ?_ _)); exact BK181.out⟩, ⟨by repeat (first | (with_reducible first | exact HB.out | apply zA | apply zN | apply zD | refine zS ?_ GE181.out) | exact HB.out)⟩⟩
   case round =>
    clear H'
    obtain ⟨x6_1, x7_1, rfl, HA, HK1, HO_6, BK181, HB⟩ := hrel
    cases gk with
    | zero => exact absurd HA.out (by simp [hurdleref05_Next.l0])
    | succ k1 =>
     have H := HA.out
     clear HA
     simp only [hurdleref05_Next.l0] at H
     by_cases c7 : x7_1 < (l0.length : Int)
     ·rw [if_pos c7] at H
      have c7b0 : decide (x7_1 < (l0.length : Int)) = true := dT c7
      clear c7
      have HC8 := Aside0.mk H
      clear H
      have hcz9_0 : wr.cell? ⟨gb181, 0, none⟩ = some (.int .i64 ((rd_T45 l0 a1).f0)) := (kC BK181.out 0).trans rfl
      have hcz9_1 : wr.cell? ⟨gb181, 1, none⟩ = some (.int .i64 ((rd_T45 l0 a1).f1)) := (kC BK181.out 1).trans rfl
      have hcz9_2 : wr.cell? ⟨gb181, 2, none⟩ = some (.int .i64 ((rd_T45 l0 a1).f2)) := (kC BK181.out 2).trans rfl
      have hcz9_3 : wr.cell? ⟨gb181, 3, none⟩ = some (.int .u32 ((rd_T45 l0 a1).f3)) := (kC BK181.out 3).trans rfl
      have hfz9_0 := kF BK181.out 0
      have hfz9_1 := kF BK181.out 1
      have hfz9_2 := kF BK181.out 2
      have hfz9_3 := kF BK181.out 3
      go_upto_if 30 with (fail)
      go_cut [9] (fun v9 wc => ∃ (kq : Nat) (x9_7 : Bool), v9 = .bool x9_7 ∧ Aside0 (hurdleref05_Next.j1 kq l0 a1 x6_1 x7_1 (wrap64 ((wrap64 (x7_1 - a1)) - 1)) x9_7 ((rd_T45 l0 a1).f0) ((rd_T45 l0 a1).f1) ((rd_T45 l0 a1).f2) ((rd_T45 l0 a1).f3) = some r) ∧ Aside0 (kq ≤ k1) ∧ Aside0 (Kd.R (Kd.int .i64) 3 wc w.heap.size (fun _ => True) u6 x6_1) ∧ Aside0 (wc.heap[gb181]? = some (.cells #[.int .i64 ((rd_T45 l0 a1).f0), .int .i64 ((rd_T45 l0 a1).f1), .int .i64 ((rd_T45 l0 a1).f2), .int .u32 ((rd_T45 l0 a1).f3)] 45 (0, 0))) ∧ Aside0 (Below w.heap.size w wc))
      case first =>
       have H := HC8.out
       clear HC8
       by_cases c10 : ((rd_T45 l0 a1).f0) = 5
       ·rw [if_pos c10] at H
        have c10b0 : (((rd_T45 l0 a1).f0) == 5) = true := bI.mpr c10
        have c10b1 : (((rd_T45 l0 a1).f0) != 5) = false := nF.mpr c10
        clear c10
        (first | rw [c10b0] | (simp only [i64_w, i32_w]; rw [c10b0]) | skip)
        have H' := Aside0.mk H
        clear H
        have hcz11_0 : wr.cell? ⟨gb181, 0, none⟩ = some (.int .i64 ((rd_T45 l0 a1).f0)) := (kC BK181.out 0).trans rfl
        have hcz11_1 : wr.cell? ⟨gb181, 1, none⟩ = some (.int .i64 ((rd_T45 l0 a1).f1)) := (kC BK181.out 1).trans rfl
        have hcz11_2 : wr.cell? ⟨gb181, 2, none⟩ = some (.int .i64 ((rd_T45 l0 a1).f2)) := (kC BK181.out 2).trans rfl
        have hcz11_3 : wr.cell? ⟨gb181, 3, none⟩ = some (.int .u32 ((rd_T45 l0 a1).f3)) := (kC BK181.out 3).trans rfl
        have hfz11_0 := kF BK181.out 0
        have hfz11_1 := kF BK181.out 1
        have hfz11_2 := kF BK181.out 2
        have hfz11_3 := kF BK181.out 3
        go_wp2
        go_meet
        case rel => exact ⟨_, (((IntKind.u64.wrap (wrap64 ((wrap64 (x7_1 - a1)) - 1))) == (IntKind.u64.wrap (((rd_T45 l0 a1).f3))))), rfl, H', ⟨by have := HK1.out; first | omega | exact Nat.le_refl _⟩, ⟨by (with_reducible repeat (first | apply Kd.R_alloc | apply Kd.R_drewN | apply Kd.R_drew)); exact HO_6.out⟩, ⟨by (with_reducible repeat (first | refine kN ?_ _ | refine kD ?_ | refine kA ?_ _)); exact BK181.out⟩, ⟨by repeat (first | (with_reducible first | exact HB.out | apply zA | apply zN | apply zD | refine zS ?_ GE181.out) | exact HB.out)⟩⟩
       ·rw [if_neg c10] at H
        have c10b0 : (((rd_T45 l0 a1).f0) == 5) = false := bF.mpr c10
        have c10b1 : (((rd_T45 l0 a1).f0) != 5) = true := nI.mpr c10
        (first | rw [c10b0] | (simp only [i64_w, i32_w]; rw [c10b0]) | skip)
        have H' := Aside0.mk H
        clear H
        go_wp2
        go_meet
        case rel => exact ⟨_, (((wrap64 ((wrap64 (x7_1 - a1)) - 1)) == 0)), rfl, H', ⟨by have := HK1.out; first | omega | exact Nat.le_refl _⟩, ⟨by (with_reducible repeat (first | apply Kd.R_alloc | apply Kd.R_drewN | apply Kd.R_drew)); exact HO_6.out⟩, ⟨by (with_reducible repeat (first | refine kN ?_ _ | refine kD ?_ | refine kA ?_ _)); exact BK181.out⟩, ⟨by repeat (first | (with_reducible first | exact HB.out | apply zA | apply zN | apply zD | refine zS ?_ GE181.out) | exact HB.out)⟩⟩
      case rest =>
       clear HC8
       obtain ⟨kq, x9_7, rfl, HA, HJ7, HO_6, BK181, HB⟩ := hcut
       cases kq with
       | zero => exact absurd HA.out (by simp [hurdleref05_Next.j1])
       | succ kj7 =>
        have H := HA.out
        clear HA
        simp only [hurdleref05_Next.j1] at H
        replace H := Option.bind_eq_some_iff.mp H
        obtain ⟨t182, A120, H⟩ := H
        try dsimp only at H
        have A12 := Aside0.mk A120
        clear A120
        by_cases c13 : t182 = true
        ·subst c13
         rw [if_pos rfl] at H
         by_cases c14 : (wrap64 ((wrap64 (x7_1 - a1)) - 1)) = ((rd_T45 l0 a1).f1)
         ·rw [if_pos c14] at H
          have c14b0 : ((wrap64 ((wrap64 (x7_1 - a1)) - 1)) == ((rd_T45 l0 a1).f1)) = true := bI.mpr c14
          have c14b1 : ((wrap64 ((wrap64 (x7_1 - a1)) - 1)) != ((rd_T45 l0 a1).f1)) = false := nF.mpr c14
          clear c14
          replace H := Option.bind_eq_some_iff.mp H
          obtain ⟨t183, A150, H⟩ := H
          try dsimp only at H
          have A15 := Aside0.mk A150
          clear A150
          by_cases c16 : t183 = true
          ·subst c16
           rw [if_pos rfl] at H
           have H' := Aside0.mk H
           clear H
           have hcz17_0 : wc.cell? ⟨gb181, 0, none⟩ = some (.int .i64 ((rd_T45 l0 a1).f0)) := (kC BK181.out 0).trans rfl
           have hcz17_1 : wc.cell? ⟨gb181, 1, none⟩ = some (.int .i64 ((rd_T45 l0 a1).f1)) := (kC BK181.out 1).trans rfl
           have hcz17_2 : wc.cell? ⟨gb181, 2, none⟩ = some (.int .i64 ((rd_T45 l0 a1).f2)) := (kC BK181.out 2).trans rfl
           have hcz17_3 : wc.cell? ⟨gb181, 3, none⟩ = some (.int .u32 ((rd_T45 l0 a1).f3)) := (kC BK181.out 3).trans rfl
           have hfz17_0 := kF BK181.out 0
           have hfz17_1 := kF BK181.out 1
           have hfz17_2 := kF BK181.out 2
           have hfz17_3 := kF BK181.out 3
           go_wp2_with (first | ((with_reducible refine gate_callee (f := 25) rfl ?_); refine goesL_ (some 38) rfl rfl Tryd.func25 (by kernel_rfl) rfl #[.agg #[.int .i64 ((rd_T45 l0 a1).f0), .int .i64 ((rd_T45 l0 a1).f1), .int .i64 ((rd_T45 l0 a1).f2), .int .u32 ((rd_T45 l0 a1).f3)]] rfl (by (try simp only [List.map_toArray, List.map_cons, List.map_nil]); first | done | rfl | (simp only [List.length_drop, List.length_take]; rfl)) ?_; (with_reducible refine (hurdleref02_Branch.calls kj7 ((rd_T45 l0 a1).f0) ((rd_T45 l0 a1).f1) ((rd_T45 l0 a1).f2) ((rd_T45 l0 a1).f3) true _ A12.out).mono ?_); rintro e w18 ⟨rfl, hb⟩; refine ⟨_, rfl, ?_⟩; have n0_ := Aside0.mk (Kd.R_below HO_6.out hb); have n1_ := Aside0.mk (kB BK181.out hb); have n2_ := Aside0.mk (zT HB.out hb); clear HO_6; clear BK181; clear HB; have HO_6 := n0_; have BK181 := n1_; have HB := n2_; clear n0_ n1_ n2_; have hcz19_0 : w18.cell? ⟨gb181, 0, none⟩ = some (.int .i64 ((rd_T45 l0 a1).f0)) := (kC BK181.out 0).trans rfl; have hcz19_1 : w18.cell? ⟨gb181, 1, none⟩ = some (.int .i64 ((rd_T45 l0 a1).f1)) := (kC BK181.out 1).trans rfl; have hcz19_2 : w18.cell? ⟨gb181, 2, none⟩ = some (.int .i64 ((rd_T45 l0 a1).f2)) := (kC BK181.out 2).trans rfl; have hcz19_3 : w18.cell? ⟨gb181, 3, none⟩ = some (.int .u32 ((rd_T45 l0 a1).f3)) := (kC BK181.out 3).trans rfl; have hfz19_0 := kF BK181.out 0; have hfz19_1 := kF BK181.out 1; have hfz19_2 := kF BK181.out 2; have hfz19_3 := kF BK181.out 3) | (go_at_call 31; (with_reducible refine (hurdleref02_Ends.calls ((rd_T45 l0 a1).f0) ((rd_T45 l0 a1).f1) ((rd_T45 l0 a1).f2) ((rd_T45 l0 a1).f3) true _ A15.out).mono ?_); rintro e w20 ⟨rfl, hb⟩; have n0_ := Aside0.mk (Kd.R_below HO_6.out hb); have n1_ := Aside0.mk (kB BK181.out hb); have n2_ := Aside0.mk (zT HB.out hb); clear HO_6; clear BK181; clear HB; have HO_6 := n0_; have BK181 := n1_; have HB := n2_; clear n0_ n1_ n2_))
           go_roundg kj7
           case measure => have := HK1.out; have := HJ7.out; omega
           case rel => exact ⟨(x6_1), (wrap64 (x7_1 + 1)), rfl, H', ⟨by have := HK1.out; have := HJ7.out; omega⟩, ⟨by (with_reducible repeat (first | apply Kd.R_alloc | apply Kd.R_drewN | apply Kd.R_drew)); exact HO_6.out⟩, ⟨by (with_reducible repeat (first | refine kN ?_ _ | refine kD ?_ | refine kA ?_ _)); exact BK181.out⟩, ⟨by repeat (first | (with_reducible first | exact HB.out | apply zA | apply zN | apply zD | refine zS ?_ GE181.out) | exact HB.out)⟩⟩
          ·replace c16 := Bool.eq_false_iff.mpr c16
           subst c16
           rw [if_neg (show ¬ (false = true) by decide)] at H
           by_cases c21 : x6_1.length < 17592186044416
           ·rw [if_pos c21] at H
            have LMc21 := Aside0.mk c21
            clear c21
            obtain ⟨y184, hy184⟩ : ∃ y_ : List Int, y_ = (x6_1 ++ [x7_1]) := ⟨_, rfl⟩
            simp only [Option.bind_some, ← hy184] at H
            have Ny184 := Aside0.mk hy184
            clear hy184
            have H' := Aside0.mk H
            clear H
            have hcz22_0 : wc.cell? ⟨gb181, 0, none⟩ = some (.int .i64 ((rd_T45 l0 a1).f0)) := (kC BK181.out 0).trans rfl
            have hcz22_1 : wc.cell? ⟨gb181, 1, none⟩ = some (.int .i64 ((rd_T45 l0 a1).f1)) := (kC BK181.out 1).trans rfl
            have hcz22_2 : wc.cell? ⟨gb181, 2, none⟩ = some (.int .i64 ((rd_T45 l0 a1).f2)) := (kC BK181.out 2).trans rfl
            have hcz22_3 : wc.cell? ⟨gb181, 3, none⟩ = some (.int .u32 ((rd_T45 l0 a1).f3)) := (kC BK181.out 3).trans rfl
            have hfz22_0 := kF BK181.out 0
            have hfz22_1 := kF BK181.out 1
            have hfz22_2 := kF BK181.out 2
            have hfz22_3 := kF BK181.out 3
            go_wp2_with (first | ((with_reducible refine gate_callee (f := 25) rfl ?_); refine goesL_ (some 38) rfl rfl Tryd.func25 (by kernel_rfl) rfl #[.agg #[.int .i64 ((rd_T45 l0 a1).f0), .int .i64 ((rd_T45 l0 a1).f1), .int .i64 ((rd_T45 l0 a1).f2), .int .u32 ((rd_T45 l0 a1).f3)]] rfl (by (try simp only [List.map_toArray, List.map_cons, List.map_nil]); first | done | rfl | (simp only [List.length_drop, List.length_take]; rfl)) ?_; (with_reducible refine (hurdleref02_Branch.calls kj7 ((rd_T45 l0 a1).f0) ((rd_T45 l0 a1).f1) ((rd_T45 l0 a1).f2) ((rd_T45 l0 a1).f3) true _ A12.out).mono ?_); rintro e w23 ⟨rfl, hb⟩; refine ⟨_, rfl, ?_⟩; have n0_ := Aside0.mk (Kd.R_below HO_6.out hb); have n1_ := Aside0.mk (kB BK181.out hb); have n2_ := Aside0.mk (zT HB.out hb); clear HO_6; clear BK181; clear HB; have HO_6 := n0_; have BK181 := n1_; have HB := n2_; clear n0_ n1_ n2_; have hcz24_0 : w23.cell? ⟨gb181, 0, none⟩ = some (.int .i64 ((rd_T45 l0 a1).f0)) := (kC BK181.out 0).trans rfl; have hcz24_1 : w23.cell? ⟨gb181, 1, none⟩ = some (.int .i64 ((rd_T45 l0 a1).f1)) := (kC BK181.out 1).trans rfl; have hcz24_2 : w23.cell? ⟨gb181, 2, none⟩ = some (.int .i64 ((rd_T45 l0 a1).f2)) := (kC BK181.out 2).trans rfl; have hcz24_3 : w23.cell? ⟨gb181, 3, none⟩ = some (.int .u32 ((rd_T45 l0 a1).f3)) := (kC BK181.out 3).trans rfl; have hfz24_0 := kF BK181.out 0; have hfz24_1 := kF BK181.out 1; have hfz24_2 := kF BK181.out 2; have hfz24_3 := kF BK181.out 3) | (go_at_call 31; (with_reducible refine (hurdleref02_Ends.calls ((rd_T45 l0 a1).f0) ((rd_T45 l0 a1).f1) ((rd_T45 l0 a1).f2) ((rd_T45 l0 a1).f3) false _ A15.out).mono ?_); rintro e w25 ⟨rfl, hb⟩; have n0_ := Aside0.mk (Kd.R_below HO_6.out hb); have n1_ := Aside0.mk (kB BK181.out hb); have n2_ := Aside0.mk (zT HB.out hb); clear HO_6; clear BK181; clear HB; have HO_6 := n0_; have BK181 := n1_; have HB := n2_; clear n0_ n1_ n2_) | ((with_reducible refine gate_builtin (b := .append) (xs := #[.tmp 55, .tmp 57]) rfl ?_); at_builtin; refine Kd.R_append (Kd.int .i64) (w0 := w) w.heap.size rfl (.tmp 55) (.tmp 57) 48 3 (.int .i64 0) 8 rfl Tryd.underlying48 info3 rfl (by decide) (by omega) u6 x6_1 x7_1 [.int .i64 x7_1] (fun _ => True) (fun _ => False) rfl rfl ?aP (fun _ hk => hk.elim) ?aF ?aO ?aB ?aS ?aL ?_; (case aP => exact rfl); (case aB => exact HB.out); (case aF => exact (fun _ _ => trivial)); (case aO => exact HO_6.out); (case aS => exact (zZ HB.out)); (case aL => have := LMc21.out; omega); intro v185 w26 ho hb hg hat; rw [← Ny184.out] at ho; have n0_ := Aside0.mk (kG BK181.out hg (Kd.R_ne HO_6.out BK181.out (by decide))); have n1_ := Aside0.mk (hb); have n2_ := Aside0.mk (ho); clear BK181; clear HB; clear HO_6; have BK181 := n0_; have HB := n1_; have HO186 := n2_; clear n0_ n1_ n2_; clear ho hb hg hat))
            go_roundg kj7
            case measure => have := HK1.out; have := HJ7.out; omega
            case rel => exact ⟨(y184), (wrap64 (x7_1 + 1)), rfl, H', ⟨by have := HK1.out; have := HJ7.out; omega⟩, ⟨by (with_reducible repeat (first | apply Kd.R_alloc | apply Kd.R_drewN | apply Kd.R_drew)); exact HO186.out⟩, ⟨by (with_reducible repeat (first | refine kN ?_ _ | refine kD ?_ | refine kA ?_ _)); exact BK181.out⟩, ⟨by repeat (first | (with_reducible first | exact HB.out | apply zA | apply zN | apply zD | refine zS ?_ GE181.out) | exact HB.out)⟩⟩
           ·rw [if_neg c21] at H
            exact absurd H (by simp)
         ·rw [if_neg c14] at H
          have c14b0 : ((wrap64 ((wrap64 (x7_1 - a1)) - 1)) == ((rd_T45 l0 a1).f1)) = false := bF.mpr c14
          have c14b1 : ((wrap64 ((wrap64 (x7_1 - a1)) - 1)) != ((rd_T45 l0 a1).f1)) = true := nI.mpr c14
          by_cases c27 : (wrap64 ((wrap64 (x7_1 - a1)) - 1)) = ((rd_T45 l0 a1).f2)
          ·rw [if_pos c27] at H
           have c27b0 : ((wrap64 ((wrap64 (x7_1 - a1)) - 1)) == ((rd_T45 l0 a1).f2)) = true := bI.mpr c27
           have c27b1 : ((wrap64 ((wrap64 (x7_1 - a1)) - 1)) != ((rd_T45 l0 a1).f2)) = false := nF.mpr c27
           clear c27
           replace H := Option.bind_eq_some_iff.mp H
           obtain ⟨t187, A280, H⟩ := H
           try dsimp only at H
           have A28 := Aside0.mk A280
           clear A280
           by_cases c29 : t187 = true
           ·subst c29
            rw [if_pos rfl] at H
            have H' := Aside0.mk H
            clear H
            have hcz30_0 : wc.cell? ⟨gb181, 0, none⟩ = some (.int .i64 ((rd_T45 l0 a1).f0)) := (kC BK181.out 0).trans rfl
            have hcz30_1 : wc.cell? ⟨gb181, 1, none⟩ = some (.int .i64 ((rd_T45 l0 a1).f1)) := (kC BK181.out 1).trans rfl
            have hcz30_2 : wc.cell? ⟨gb181, 2, none⟩ = some (.int .i64 ((rd_T45 l0 a1).f2)) := (kC BK181.out 2).trans rfl
            have hcz30_3 : wc.cell? ⟨gb181, 3, none⟩ = some (.int .u32 ((rd_T45 l0 a1).f3)) := (kC BK181.out 3).trans rfl
            have hfz30_0 := kF BK181.out 0
            have hfz30_1 := kF BK181.out 1
            have hfz30_2 := kF BK181.out 2
            have hfz30_3 := kF BK181.out 3
            go_wp2_with (first | ((with_reducible refine gate_callee (f := 25) rfl ?_); refine goesL_ (some 38) rfl rfl Tryd.func25 (by kernel_rfl) rfl #[.agg #[.int .i64 ((rd_T45 l0 a1).f0), .int .i64 ((rd_T45 l0 a1).f1), .int .i64 ((rd_T45 l0 a1).f2), .int .u32 ((rd_T45 l0 a1).f3)]] rfl (by (try simp only [List.map_toArray, List.map_cons, List.map_nil]); first | done | rfl | (simp only [List.length_drop, List.length_take]; rfl)) ?_; (with_reducible refine (hurdleref02_Branch.calls kj7 ((rd_T45 l0 a1).f0) ((rd_T45 l0 a1).f1) ((rd_T45 l0 a1).f2) ((rd_T45 l0 a1).f3) true _ A12.out).mono ?_); rintro e w31 ⟨rfl, hb⟩; refine ⟨_, rfl, ?_⟩; have n0_ := Aside0.mk (Kd.R_below HO_6.out hb); have n1_ := Aside0.mk (kB BK181.out hb); have n2_ := Aside0.mk (zT HB.out hb); clear HO_6; clear BK181; clear HB; have HO_6 := n0_; have BK181 := n1_; have HB := n2_; clear n0_ n1_ n2_; have hcz32_0 : w31.cell? ⟨gb181, 0, none⟩ = some (.int .i64 ((rd_T45 l0 a1).f0)) := (kC BK181.out 0).trans rfl; have hcz32_1 : w31.cell? ⟨gb181, 1, none⟩ = some (.int .i64 ((rd_T45 l0 a1).f1)) := (kC BK181.out 1).trans rfl; have hcz32_2 : w31.cell? ⟨gb181, 2, none⟩ = some (.int .i64 ((rd_T45 l0 a1).f2)) := (kC BK181.out 2).trans rfl; have hcz32_3 : w31.cell? ⟨gb181, 3, none⟩ = some (.int .u32 ((rd_T45 l0 a1).f3)) := (kC BK181.out 3).trans rfl; have hfz32_0 := kF BK181.out 0; have hfz32_1 := kF BK181.out 1; have hfz32_2 := kF BK181.out 2; have hfz32_3 := kF BK181.out 3) | (go_at_call 31; (with_reducible refine (hurdleref02_Ends.calls ((rd_T45 l0 a1).f0) ((rd_T45 l0 a1).f1) ((rd_T45 l0 a1).f2) ((rd_T45 l0 a1).f3) true _ A28.out).mono ?_); rintro e w33 ⟨rfl, hb⟩; have n0_ := Aside0.mk (Kd.R_below HO_6.out hb); have n1_ := Aside0.mk (kB BK181.out hb); have n2_ := Aside0.mk (zT HB.out hb); clear HO_6; clear BK181; clear HB; have HO_6 := n0_; have BK181 := n1_; have HB := n2_; clear n0_ n1_ n2_))
            go_roundg kj7
            case measure => have := HK1.out; have := HJ7.out; omega
            case rel => exact ⟨(x6_1), (wrap64 (x7_1 + 1)), rfl, H', ⟨by have := HK1.out; have := HJ7.out; omega⟩, ⟨by (with_reducible repeat (first | apply Kd.R_alloc | apply Kd.R_drewN | apply Kd.R_drew)); exact HO_6.out⟩, ⟨by (with_reducible repeat (first | refine kN ?_ _ | refine kD ?_ | refine kA ?_ _)); exact BK181.out⟩, ⟨by repeat (first | (with_reducible first | exact HB.out | apply zA | apply zN | apply zD | refine zS ?_ GE181.out) | exact HB.out)⟩⟩
           ·replace c29 := Bool.eq_false_iff.mpr c29
            subst c29
            rw [if_neg (show ¬ (false = true) by decide)] at H
            by_cases c34 : x6_1.length < 17592186044416
            ·rw [if_pos c34] at H
             have LMc34 := Aside0.mk c34
             clear c34
             obtain ⟨y188, hy188⟩ : ∃ y_ : List Int, y_ = (x6_1 ++ [x7_1]) := ⟨_, rfl⟩
             simp only [Option.bind_some, ← hy188] at H
             have Ny188 := Aside0.mk hy188
             clear hy188
             have H' := Aside0.mk H
             clear H
             have hcz35_0 : wc.cell? ⟨gb181, 0, none⟩ = some (.int .i64 ((rd_T45 l0 a1).f0)) := (kC BK181.out 0).trans rfl
             have hcz35_1 : wc.cell? ⟨gb181, 1, none⟩ = some (.int .i64 ((rd_T45 l0 a1).f1)) := (kC BK181.out 1).trans rfl
             have hcz35_2 : wc.cell? ⟨gb181, 2, none⟩ = some (.int .i64 ((rd_T45 l0 a1).f2)) := (kC BK181.out 2).trans rfl
             have hcz35_3 : wc.cell? ⟨gb181, 3, none⟩ = some (.int .u32 ((rd_T45 l0 a1).f3)) := (kC BK181.out 3).trans rfl
             have hfz35_0 := kF BK181.out 0
             have hfz35_1 := kF BK181.out 1
             have hfz35_2 := kF BK181.out 2
             have hfz35_3 := kF BK181.out 3
             go_wp2_with (first | ((with_reducible refine gate_callee (f := 25) rfl ?_); refine goesL_ (some 38) rfl rfl Tryd.func25 (by kernel_rfl) rfl #[.agg #[.int .i64 ((rd_T45 l0 a1).f0), .int .i64 ((rd_T45 l0 a1).f1), .int .i64 ((rd_T45 l0 a1).f2), .int .u32 ((rd_T45 l0 a1).f3)]] rfl (by (try simp only [List.map_toArray, List.map_cons, List.map_nil]); first | done | rfl | (simp only [List.length_drop, List.length_take]; rfl)) ?_; (with_reducible refine (hurdleref02_Branch.calls kj7 ((rd_T45 l0 a1).f0) ((rd_T45 l0 a1).f1) ((rd_T45 l0 a1).f2) ((rd_T45 l0 a1).f3) true _ A12.out).mono ?_); rintro e w36 ⟨rfl, hb⟩; refine ⟨_, rfl, ?_⟩; have n0_ := Aside0.mk (Kd.R_below HO_6.out hb); have n1_ := Aside0.mk (kB BK181.out hb); have n2_ := Aside0.mk (zT HB.out hb); clear HO_6; clear BK181; clear HB; have HO_6 := n0_; have BK181 := n1_; have HB := n2_; clear n0_ n1_ n2_; have hcz37_0 : w36.cell? ⟨gb181, 0, none⟩ = some (.int .i64 ((rd_T45 l0 a1).f0)) := (kC BK181.out 0).trans rfl; have hcz37_1 : w36.cell? ⟨gb181, 1, none⟩ = some (.int .i64 ((rd_T45 l0 a1).f1)) := (kC BK181.out 1).trans rfl; have hcz37_2 : w36.cell? ⟨gb181, 2, none⟩ = some (.int .i64 ((rd_T45 l0 a1).f2)) := (kC BK181.out 2).trans rfl; have hcz37_3 : w36.cell? ⟨gb181, 3, none⟩ = some (.int .u32 ((rd_T45 l0 a1).f3)) := (kC BK181.out 3).trans rfl; have hfz37_0 := kF BK181.out 0; have hfz37_1 := kF BK181.out 1; have hfz37_2 := kF BK181.out 2; have hfz37_3 := kF BK181.out 3) | (go_at_call 31; (with_reducible refine (hurdleref02_Ends.calls ((rd_T45 l0 a1).f0) ((rd_T45 l0 a1).f1) ((rd_T45 l0 a1).f2) ((rd_T45 l0 a1).f3) false _ A28.out).mono ?_); rintro e w38 ⟨rfl, hb⟩; have n0_ := Aside0.mk (Kd.R_below HO_6.out hb); have n1_ := Aside0.mk (kB BK181.out hb); have n2_ := Aside0.mk (zT HB.out hb); clear HO_6; clear BK181; clear HB; have HO_6 := n0_; have BK181 := n1_; have HB := n2_; clear n0_ n1_ n2_) | ((with_reducible refine gate_builtin (b := .append) (xs := #[.tmp 55, .tmp 57]) rfl ?_); at_builtin; refine Kd.R_append (Kd.int .i64) (w0 := w) w.heap.size rfl (.tmp 55) (.tmp 57) 48 3 (.int .i64 0) 8 rfl Tryd.underlying48 info3 rfl (by decide) (by omega) u6 x6_1 x7_1 [.int .i64 x7_1] (fun _ => True) (fun _ => False) rfl rfl ?aP (fun _ hk => hk.elim) ?aF ?aO ?aB ?aS ?aL ?_; (case aP => exact rfl); (case aB => exact HB.out); (case aF => exact (fun _ _ => trivial)); (case aO => exact HO_6.out); (case aS => exact (zZ HB.out)); (case aL => have := LMc34.out; omega); intro v189 w39 ho hb hg hat; rw [← Ny188.out] at ho; have n0_ := Aside0.mk (kG BK181.out hg (Kd.R_ne HO_6.out BK181.out (by decide))); have n1_ := Aside0.mk (hb); have n2_ := Aside0.mk (ho); clear BK181; clear HB; clear HO_6; have BK181 := n0_; have HB := n1_; have HO190 := n2_; clear n0_ n1_ n2_; clear ho hb hg hat))
             go_roundg kj7
             case measure => have := HK1.out; have := HJ7.out; omega
             case rel => exact ⟨(y188), (wrap64 (x7_1 + 1)), rfl, H', ⟨by have := HK1.out; have := HJ7.out; omega⟩, ⟨by (with_reducible repeat (first | apply Kd.R_alloc | apply Kd.R_drewN | apply Kd.R_drew)); exact HO190.out⟩, ⟨by (with_reducible repeat (first | refine kN ?_ _ | refine kD ?_ | refine kA ?_ _)); exact BK181.out⟩, ⟨by repeat (first | (with_reducible first | exact HB.out | apply zA | apply zN | apply zD | refine zS ?_ GE181.out) | exact HB.out)⟩⟩
            ·rw [if_neg c34] at H
             exact absurd H (by simp)
          ·rw [if_neg c27] at H
           have c27b0 : ((wrap64 ((wrap64 (x7_1 - a1)) - 1)) == ((rd_T45 l0 a1).f2)) = false := bF.mpr c27
           have c27b1 : ((wrap64 ((wrap64 (x7_1 - a1)) - 1)) != ((rd_T45 l0 a1).f2)) = true := nI.mpr c27
           have H' := Aside0.mk H
           clear H
           have hcz40_0 : wc.cell? ⟨gb181, 0, none⟩ = some (.int .i64 ((rd_T45 l0 a1).f0)) := (kC BK181.out 0).trans rfl
           have hcz40_1 : wc.cell? ⟨gb181, 1, none⟩ = some (.int .i64 ((rd_T45 l0 a1).f1)) := (kC BK181.out 1).trans rfl
           have hcz40_2 : wc.cell? ⟨gb181, 2, none⟩ = some (.int .i64 ((rd_T45 l0 a1).f2)) := (kC BK181.out 2).trans rfl
           have hcz40_3 : wc.cell? ⟨gb181, 3, none⟩ = some (.int .u32 ((rd_T45 l0 a1).f3)) := (kC BK181.out 3).trans rfl
           have hfz40_0 := kF BK181.out 0
           have hfz40_1 := kF BK181.out 1
           have hfz40_2 := kF BK181.out 2
           have hfz40_3 := kF BK181.out 3
           go_wp2_with (first | ((with_reducible refine gate_callee (f := 25) rfl ?_); refine goesL_ (some 38) rfl rfl Tryd.func25 (by kernel_rfl) rfl #[.agg #[.int .i64 ((rd_T45 l0 a1).f0), .int .i64 ((rd_T45 l0 a1).f1), .int .i64 ((rd_T45 l0 a1).f2), .int .u32 ((rd_T45 l0 a1).f3)]] rfl (by (try simp only [List.map_toArray, List.map_cons, List.map_nil]); first | done | rfl | (simp only [List.length_drop, List.length_take]; rfl)) ?_; (with_reducible refine (hurdleref02_Branch.calls kj7 ((rd_T45 l0 a1).f0) ((rd_T45 l0 a1).f1) ((rd_T45 l0 a1).f2) ((rd_T45 l0 a1).f3) true _ A12.out).mono ?_); rintro e w41 ⟨rfl, hb⟩; refine ⟨_, rfl, ?_⟩; have n0_ := Aside0.mk (Kd.R_below HO_6.out hb); have n1_ := Aside0.mk (kB BK181.out hb); have n2_ := Aside0.mk (zT HB.out hb); clear HO_6; clear BK181; clear HB; have HO_6 := n0_; have BK181 := n1_; have HB := n2_; clear n0_ n1_ n2_; have hcz42_0 : w41.cell? ⟨gb181, 0, none⟩ = some (.int .i64 ((rd_T45 l0 a1).f0)) := (kC BK181.out 0).trans rfl; have hcz42_1 : w41.cell? ⟨gb181, 1, none⟩ = some (.int .i64 ((rd_T45 l0 a1).f1)) := (kC BK181.out 1).trans rfl; have hcz42_2 : w41.cell? ⟨gb181, 2, none⟩ = some (.int .i64 ((rd_T45 l0 a1).f2)) := (kC BK181.out 2).trans rfl; have hcz42_3 : w41.cell? ⟨gb181, 3, none⟩ = some (.int .u32 ((rd_T45 l0 a1).f3)) := (kC BK181.out 3).trans rfl; have hfz42_0 := kF BK181.out 0; have hfz42_1 := kF BK181.out 1; have hfz42_2 := kF BK181.out 2; have hfz42_3 := kF BK181.out 3))
           go_roundg kj7
           case measure => have := HK1.out; have := HJ7.out; omega
           case rel => exact ⟨(x6_1), (wrap64 (x7_1 + 1)), rfl, H', ⟨by have := HK1.out; have := HJ7.out; omega⟩, ⟨by (with_reducible repeat (first | apply Kd.R_alloc | apply Kd.R_drewN | apply Kd.R_drew)); exact HO_6.out⟩, ⟨by (with_reducible repeat (first | refine kN ?_ _ | refine kD ?_ | refine kA ?_ _)); exact BK181.out⟩, ⟨by repeat (first | (with_reducible first | exact HB.out | apply zA | apply zN | apply zD | refine zS ?_ GE181.out) | exact HB.out)⟩⟩
        ·replace c13 := Bool.eq_false_iff.mpr c13
         subst c13
         rw [if_neg (show ¬ (false = true) by decide)] at H
         by_cases c43 : x9_7 = true
         ·subst c43
          rw [if_pos rfl] at H
          replace H := Option.bind_eq_some_iff.mp H
          obtain ⟨t191, A440, H⟩ := H
          try dsimp only at H
          have A44 := Aside0.mk A440
          clear A440
          by_cases c45 : t191 = true
          ·subst c45
           rw [if_pos rfl] at H
           have H' := Aside0.mk H
           clear H
           have hcz46_0 : wc.cell? ⟨gb181, 0, none⟩ = some (.int .i64 ((rd_T45 l0 a1).f0)) := (kC BK181.out 0).trans rfl
           have hcz46_1 : wc.cell? ⟨gb181, 1, none⟩ = some (.int .i64 ((rd_T45 l0 a1).f1)) := (kC BK181.out 1).trans rfl
           have hcz46_2 : wc.cell? ⟨gb181, 2, none⟩ = some (.int .i64 ((rd_T45 l0 a1).f2)) := (kC BK181.out 2).trans rfl
           have hcz46_3 : wc.cell? ⟨gb181, 3, none⟩ = some (.int .u32 ((rd_T45 l0 a1).f3)) := (kC BK181.out 3).trans rfl
           have hfz46_0 := kF BK181.out 0
           have hfz46_1 := kF BK181.out 1
           have hfz46_2 := kF BK181.out 2
           have hfz46_3 := kF BK181.out 3
           go_wp2_with (first | ((with_reducible refine gate_callee (f := 25) rfl ?_); refine goesL_ (some 38) rfl rfl Tryd.func25 (by kernel_rfl) rfl #[.agg #[.int .i64 ((rd_T45 l0 a1).f0), .int .i64 ((rd_T45 l0 a1).f1), .int .i64 ((rd_T45 l0 a1).f2), .int .u32 ((rd_T45 l0 a1).f3)]] rfl (by (try simp only [List.map_toArray, List.map_cons, List.map_nil]); first | done | rfl | (simp only [List.length_drop, List.length_take]; rfl)) ?_; (with_reducible refine (hurdleref02_Branch.calls kj7 ((rd_T45 l0 a1).f0) ((rd_T45 l0 a1).f1) ((rd_T45 l0 a1).f2) ((rd_T45 l0 a1).f3) false _ A12.out).mono ?_); rintro e w47 ⟨rfl, hb⟩; refine ⟨_, rfl, ?_⟩; have n0_ := Aside0.mk (Kd.R_below HO_6.out hb); have n1_ := Aside0.mk (kB BK181.out hb); have n2_ := Aside0.mk (zT HB.out hb); clear HO_6; clear BK181; clear HB; have HO_6 := n0_; have BK181 := n1_; have HB := n2_; clear n0_ n1_ n2_; have hcz48_0 : w47.cell? ⟨gb181, 0, none⟩ = some (.int .i64 ((rd_T45 l0 a1).f0)) := (kC BK181.out 0).trans rfl; have hcz48_1 : w47.cell? ⟨gb181, 1, none⟩ = some (.int .i64 ((rd_T45 l0 a1).f1)) := (kC BK181.out 1).trans rfl; have hcz48_2 : w47.cell? ⟨gb181, 2, none⟩ = some (.int .i64 ((rd_T45 l0 a1).f2)) := (kC BK181.out 2).trans rfl; have hcz48_3 : w47.cell? ⟨gb181, 3, none⟩ = some (.int .u32 ((rd_T45 l0 a1).f3)) := (kC BK181.out 3).trans rfl; have hfz48_0 := kF BK181.out 0; have hfz48_1 := kF BK181.out 1; have hfz48_2 := kF BK181.out 2; have hfz48_3 := kF BK181.out 3) | (go_at_call 31; (with_reducible refine (hurdleref02_Ends.calls ((rd_T45 l0 a1).f0) ((rd_T45 l0 a1).f1) ((rd_T45 l0 a1).f2) ((rd_T45 l0 a1).f3) true _ A44.out).mono ?_); rintro e w49 ⟨rfl, hb⟩; have n0_ := Aside0.mk (Kd.R_below HO_6.out hb); have n1_ := Aside0.mk (kB BK181.out hb); have n2_ := Aside0.mk (zT HB.out hb); clear HO_6; clear BK181; clear HB; have HO_6 := n0_; have BK181 := n1_; have HB := n2_; clear n0_ n1_ n2_))
           go_roundg kj7
           case measure => have := HK1.out; have := HJ7.out; omega
           case rel => exact ⟨(x6_1), (wrap64 (x7_1 + 1)), rfl, H', ⟨by have := HK1.out; have := HJ7.out; omega⟩, ⟨by (with_reducible repeat (first | apply Kd.R_alloc | apply Kd.R_drewN | apply Kd.R_drew)); exact HO_6.out⟩, ⟨by (with_reducible repeat (first | refine kN ?_ _ | refine kD ?_ | refine kA ?_ _)); exact BK181.out⟩, ⟨by repeat (first | (with_reducible first | exact HB.out | apply zA | apply zN | apply zD | refine zS ?_ GE181.out) | exact HB.out)⟩⟩
          ·replace c45 := Bool.eq_false_iff.mpr c45
           subst c45
           rw [if_neg (show ¬ (false = true) by decide)] at H
           by_cases c50 : x6_1.length < 17592186044416
           ·rw [if_pos c50] at H
            have LMc50 := Aside0.mk c50
            clear c50
            obtain ⟨y192, hy192⟩ : ∃ y_ : List Int, y_ = (x6_1 ++ [x7_1]) := ⟨_, rfl⟩
            simp only [Option.bind_some, ← hy192] at H
            have Ny192 := Aside0.mk hy192
            clear hy192
            have H' := Aside0.mk H
            clear H
            have hcz51_0 : wc.cell? ⟨gb181, 0, none⟩ = some (.int .i64 ((rd_T45 l0 a1).f0)) := (kC BK181.out 0).trans rfl
            have hcz51_1 : wc.cell? ⟨gb181, 1, none⟩ = some (.int .i64 ((rd_T45 l0 a1).f1)) := (kC BK181.out 1).trans rfl
            have hcz51_2 : wc.cell? ⟨gb181, 2, none⟩ = some (.int .i64 ((rd_T45 l0 a1).f2)) := (kC BK181.out 2).trans rfl
            have hcz51_3 : wc.cell? ⟨gb181, 3, none⟩ = some (.int .u32 ((rd_T45 l0 a1).f3)) := (kC BK181.out 3).trans rfl
            have hfz51_0 := kF BK181.out 0
            have hfz51_1 := kF BK181.out 1
            have hfz51_2 := kF BK181.out 2
            have hfz51_3 := kF BK181.out 3
            go_wp2_with (first | ((with_reducible refine gate_callee (f := 25) rfl ?_); refine goesL_ (some 38) rfl rfl Tryd.func25 (by kernel_rfl) rfl #[.agg #[.int .i64 ((rd_T45 l0 a1).f0), .int .i64 ((rd_T45 l0 a1).f1), .int .i64 ((rd_T45 l0 a1).f2), .int .u32 ((rd_T45 l0 a1).f3)]] rfl (by (try simp only [List.map_toArray, List.map_cons, List.map_nil]); first | done | rfl | (simp only [List.length_drop, List.length_take]; rfl)) ?_; (with_reducible refine (hurdleref02_Branch.calls kj7 ((rd_T45 l0 a1).f0) ((rd_T45 l0 a1).f1) ((rd_T45 l0 a1).f2) ((rd_T45 l0 a1).f3) false _ A12.out).mono ?_); rintro e w52 ⟨rfl, hb⟩; refine ⟨_, rfl, ?_⟩; have n0_ := Aside0.mk (Kd.R_below HO_6.out hb); have n1_ := Aside0.mk (kB BK181.out hb); have n2_ := Aside0.mk (zT HB.out hb); clear HO_6; clear BK181; clear HB; have HO_6 := n0_; have BK181 := n1_; have HB := n2_; clear n0_ n1_ n2_; have hcz53_0 : w52.cell? ⟨gb181, 0, none⟩ = some (.int .i64 ((rd_T45 l0 a1).f0)) := (kC BK181.out 0).trans rfl; have hcz53_1 : w52.cell? ⟨gb181, 1, none⟩ = some (.int .i64 ((rd_T45 l0 a1).f1)) := (kC BK181.out 1).trans rfl; have hcz53_2 : w52.cell? ⟨gb181, 2, none⟩ = some (.int .i64 ((rd_T45 l0 a1).f2)) := (kC BK181.out 2).trans rfl; have hcz53_3 : w52.cell? ⟨gb181, 3, none⟩ = some (.int .u32 ((rd_T45 l0 a1).f3)) := (kC BK181.out 3).trans rfl; have hfz53_0 := kF BK181.out 0; have hfz53_1 := kF BK181.out 1; have hfz53_2 := kF BK181.out 2; have hfz53_3 := kF BK181.out 3) | (go_at_call 31; (with_reducible refine (hurdleref02_Ends.calls ((rd_T45 l0 a1).f0) ((rd_T45 l0 a1).f1) ((rd_T45 l0 a1).f2) ((rd_T45 l0 a1).f3) false _ A44.out).mono ?_); rintro e w54 ⟨rfl, hb⟩; have n0_ := Aside0.mk (Kd.R_below HO_6.out hb); have n1_ := Aside0.mk (kB BK181.out hb); have n2_ := Aside0.mk (zT HB.out hb); clear HO_6; clear BK181; clear HB; have HO_6 := n0_; have BK181 := n1_; have HB := n2_; clear n0_ n1_ n2_) | ((with_reducible refine gate_builtin (b := .append) (xs := #[.tmp 55, .tmp 57]) rfl ?_); at_builtin; refine Kd.R_append (Kd.int .i64) (w0 := w) w.heap.size rfl (.tmp 55) (.tmp 57) 48 3 (.int .i64 0) 8 rfl Tryd.underlying48 info3 rfl (by decide) (by omega) u6 x6_1 x7_1 [.int .i64 x7_1] (fun _ => True) (fun _ => False) rfl rfl ?aP (fun _ hk => hk.elim) ?aF ?aO ?aB ?aS ?aL ?_; (case aP => exact rfl); (case aB => exact HB.out); (case aF => exact (fun _ _ => trivial)); (case aO => exact HO_6.out); (case aS => exact (zZ HB.out)); (case aL => have := LMc50.out; omega); intro v193 w55 ho hb hg hat; rw [← Ny192.out] at ho; have n0_ := Aside0.mk (kG BK181.out hg (Kd.R_ne HO_6.out BK181.out (by decide))); have n1_ := Aside0.mk (hb); have n2_ := Aside0.mk (ho); clear BK181; clear HB; clear HO_6; have BK181 := n0_; have HB := n1_; have HO194 := n2_; clear n0_ n1_ n2_; clear ho hb hg hat))
            go_roundg kj7
            case measure => have := HK1.out; have := HJ7.out; omega
            case rel => exact ⟨(y192), (wrap64 (x7_1 + 1)), rfl, H', ⟨by have := HK1.out; have := HJ7.out; omega⟩, ⟨by (with_reducible repeat (first | apply Kd.R_alloc | apply Kd.R_drewN | apply Kd.R_drew)); exact HO194.out⟩, ⟨by (with_reducible repeat (first | refine kN ?_ _ | refine kD ?_ | refine kA ?_ _)); exact BK181.out⟩, ⟨by repeat (first | (with_reducible first | exact HB.out | apply zA | apply zN | apply zD | refine zS ?_ GE181.out) | exact HB.out)⟩⟩
           ·rw [if_neg c50] at H
            exact absurd H (by simp)
         ·replace c43 := Bool.eq_false_iff.mpr c43
          subst c43
          rw [if_neg (show ¬ (false = true) by decide)] at H
          have H' := Aside0.mk H
          clear H
          have hcz56_0 : wc.cell? ⟨gb181, 0, none⟩ = some (.int .i64 ((rd_T45 l0 a1).f0)) := (kC BK181.out 0).trans rfl
          have hcz56_1 : wc.cell? ⟨gb181, 1, none⟩ = some (.int .i64 ((rd_T45 l0 a1).f1)) := (kC BK181.out 1).trans rfl
          have hcz56_2 : wc.cell? ⟨gb181, 2, none⟩ = some (.int .i64 ((rd_T45 l0 a1).f2)) := (kC BK181.out 2).trans rfl
          have hcz56_3 : wc.cell? ⟨gb181, 3, none⟩ = some (.int .u32 ((rd_T45 l0 a1).f3)) := (kC BK181.out 3).trans rfl
          have hfz56_0 := kF BK181.out 0
          have hfz56_1 := kF BK181.out 1
          have hfz56_2 := kF BK181.out 2
          have hfz56_3 := kF BK181.out 3
          go_wp2_with (first | ((with_reducible refine gate_callee (f := 25) rfl ?_); refine goesL_ (some 38) rfl rfl Tryd.func25 (by kernel_rfl) rfl #[.agg #[.int .i64 ((rd_T45 l0 a1).f0), .int .i64 ((rd_T45 l0 a1).f1), .int .i64 ((rd_T45 l0 a1).f2), .int .u32 ((rd_T45 l0 a1).f3)]] rfl (by (try simp only [List.map_toArray, List.map_cons, List.map_nil]); first | done | rfl | (simp only [List.length_drop, List.length_take]; rfl)) ?_; (with_reducible refine (hurdleref02_Branch.calls kj7 ((rd_T45 l0 a1).f0) ((rd_T45 l0 a1).f1) ((rd_T45 l0 a1).f2) ((rd_T45 l0 a1).f3) false _ A12.out).mono ?_); rintro e w57 ⟨rfl, hb⟩; refine ⟨_, rfl, ?_⟩; have n0_ := Aside0.mk (Kd.R_below HO_6.out hb); have n1_ := Aside0.mk (kB BK181.out hb); have n2_ := Aside0.mk (zT HB.out hb); clear HO_6; clear BK181; clear HB; have HO_6 := n0_; have BK181 := n1_; have HB := n2_; clear n0_ n1_ n2_))
          go_roundg kj7
          case measure => have := HK1.out; have := HJ7.out; omega
          case rel => exact ⟨(x6_1), (wrap64 (x7_1 + 1)), rfl, H', ⟨by have := HK1.out; have := HJ7.out; omega⟩, ⟨by (with_reducible repeat (first | apply Kd.R_alloc | apply Kd.R_drewN | apply Kd.R_drew)); exact HO_6.out⟩, ⟨by (with_reducible repeat (first | refine kN ?_ _ | refine kD ?_ | refine kA ?_ _)); exact BK181.out⟩, ⟨by repeat (first | (with_reducible first | exact HB.out | apply zA | apply zN | apply zD | refine zS ?_ GE181.out) | exact HB.out)⟩⟩
     ·rw [if_neg c7] at H
      have c7b0 : decide (x7_1 < (l0.length : Int)) = false := dF c7
      clear c7
      obtain rfl := Option.some.inj H
      go_wp2
      go_ret
      exact ⟨_, by first | rfl | (simp [*] <;> rfl), by (with_reducible repeat (first | apply Kd.R_alloc | apply Kd.R_drewN | apply Kd.R_drew)); exact HO_6.out, by repeat (first | (with_reducible first | exact HB.out | apply zA | apply zN | apply zD | refine zS ?_ GE181.out) | exact HB.out)⟩
  ·rw [if_neg c4] at H
   exact absurd H (by simp)
 ·rw [if_neg c3] at H
  exact absurd H (by simp)
end Go.Proofs.YtohpbjnihmcelaaDoor.M
