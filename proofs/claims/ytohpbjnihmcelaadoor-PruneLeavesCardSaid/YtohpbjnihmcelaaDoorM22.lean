/- By a program of this session: what Go functions of the seat compute, as Lean functions, each with a proof that the call of the Go function comes to that. -/
import Derived.Test.YtohpbjnihmcelaaDoorM0
import Derived.Test.YtohpbjnihmcelaaDoorM13
import Derived.Test.YtohpbjnihmcelaaDoorM19
import Derived.Test.YtohpbjnihmcelaaDoorM21
namespace Go.Proofs.YtohpbjnihmcelaaDoor.M
open Go.RowKit Go.Proofs.YtohpbjnihmcelaaDoorW.PrintWords Go.Proofs.YtohpbjnihmcelaaDoorW.PrintLast Go.Proofs.YtohpbjnihmcelaaDoorW.PrintMore
attribute [local go_sem] max2_int min2_int max_two min_two max_three min_three max_four min_four   -- for this text's walks alone
set_option linter.unusedVariables false
set_option linter.unusedSimpArgs false
theorem drewC_ {w : World} {a : Addr} {v : Option Value} (n : Nat) (h : w.cell? a = v) : (w.drewN n).cell? a = v := h
mutual
def hurdleref23_Prune.l0 : Nat → List (S45) → List Bool → List (S45) → Int → Option ((List (S45)))
 | 0, _, _, _, _ => none
 | k + 1, x0, x3, x4, x5 => if x5 < (x0.length : Int) then (if 0 ≤ x5 then (if x5 < (x3.length : Int) then (if rdOf false x3 x5 = true then (hurdleref23_Prune.j1 k x0 x3 x4 x5 (((rd_T45 x0 x5).f0) == 5) ((rd_T45 x0 x5).f0) ((rd_T45 x0 x5).f1) ((rd_T45 x0 x5).f2) ((rd_T45 x0 x5).f3)) else (hurdleref23_Prune.j1 k x0 x3 x4 x5 false ((rd_T45 x0 x5).f0) ((rd_T45 x0 x5).f1) ((rd_T45 x0 x5).f2) ((rd_T45 x0 x5).f3))) else (none)) else (none)) else (some x4)
def hurdleref23_Prune.j1 : Nat → List (S45) → List Bool → List (S45) → Int → Bool → Int → Int → Int → Int → Option ((List (S45)))
 | 0, _, _, _, _, _, _, _, _, _ => none
 | k + 1, x0, x3, x4, x5, x27, x216000, x216001, x216002, x216003 => if x27 = true then ((hurdleref23_between.f k x3 x5 (wrap64 ((wrap64 (x5 + 1)) + (wrap64 (x216003))))).bind fun t217 => (hurdleref23_Prune.j2 k x0 x3 x4 x5 x216000 x216001 x216002 ((t217) % 4294967296))) else (hurdleref23_Prune.j2 k x0 x3 x4 x5 x216000 x216001 x216002 x216003)
def hurdleref23_Prune.j2 : Nat → List (S45) → List Bool → List (S45) → Int → Int → Int → Int → Int → Option ((List (S45)))
 | 0, _, _, _, _, _, _, _, _ => none
 | k + 1, x0, x3, x4, x5, x216000, x216001, x216002, x216003 => if 0 ≤ x5 then (if x5 < (x3.length : Int) then (if rdOf false x3 x5 = true then ((hurdleref02_Branch.f k x216000 x216001 x216002 x216003).bind fun t219 => (hurdleref23_Prune.j3 k x0 x3 x4 x5 t219 x216000 x216001 x216002 x216003)) else (hurdleref23_Prune.j3 k x0 x3 x4 x5 false x216000 x216001 x216002 x216003)) else (none)) else (none)
def hurdleref23_Prune.j3 : Nat → List (S45) → List Bool → List (S45) → Int → Bool → Int → Int → Int → Int → Option ((List (S45)))
 | 0, _, _, _, _, _, _, _, _, _ => none
 | k + 1, x0, x3, x4, x5, x46, x216000, x216001, x216002, x216003 => if x46 = true then ((hurdleref23_between.f k x3 x5 (wrap64 ((wrap64 (x5 + 1)) + x216001))).bind fun t220 => ((hurdleref23_between.f k x3 x5 (wrap64 ((wrap64 (x5 + 1)) + x216002))).bind fun t221 => (if 0 ≤ x5 then (if x5 < (x3.length : Int) then (if rdOf false x3 x5 = true then (if x4.length < 4398046511104 then (hurdleref23_Prune.l0 k x0 x3 (x4 ++ [(⟨x216000, t220, t221, x216003⟩ : S45)]) (wrap64 (x5 + 1))) else (none)) else (hurdleref23_Prune.l0 k x0 x3 x4 (wrap64 (x5 + 1)))) else (none)) else (none)))) else (if 0 ≤ x5 then (if x5 < (x3.length : Int) then (if rdOf false x3 x5 = true then (if x4.length < 4398046511104 then (hurdleref23_Prune.l0 k x0 x3 (x4 ++ [(⟨x216000, x216001, x216002, x216003⟩ : S45)]) (wrap64 (x5 + 1))) else (none)) else (hurdleref23_Prune.l0 k x0 x3 x4 (wrap64 (x5 + 1)))) else (none)) else (none))
end
def hurdleref23_Prune.f (k : Nat) (l0 : List (S45)) : Option ((List (S45))) := (hurdleref23_Met.f k l0).bind fun t211 => (hurdleref23_Prune.l0 k l0 t211 ([] : List (S45)) 0)
theorem hurdleref23_Prune.mono_l : ∀ k, (∀ y0 y1 y2 y3, LeO (hurdleref23_Prune.l0 k y0 y1 y2 y3) (hurdleref23_Prune.l0 (k + 1) y0 y1 y2 y3)) ∧ (∀ y0 y1 y2 y3 y4 y5 y6 y7 y8, LeO (hurdleref23_Prune.j1 k y0 y1 y2 y3 y4 y5 y6 y7 y8) (hurdleref23_Prune.j1 (k + 1) y0 y1 y2 y3 y4 y5 y6 y7 y8)) ∧ (∀ y0 y1 y2 y3 y4 y5 y6 y7, LeO (hurdleref23_Prune.j2 k y0 y1 y2 y3 y4 y5 y6 y7) (hurdleref23_Prune.j2 (k + 1) y0 y1 y2 y3 y4 y5 y6 y7)) ∧ (∀ y0 y1 y2 y3 y4 y5 y6 y7 y8, LeO (hurdleref23_Prune.j3 k y0 y1 y2 y3 y4 y5 y6 y7 y8) (hurdleref23_Prune.j3 (k + 1) y0 y1 y2 y3 y4 y5 y6 y7 y8))
 | 0 => ⟨fun _ _ _ _ r h => by simp [hurdleref23_Prune.l0] at h, fun _ _ _ _ _ _ _ _ _ r h => by simp [hurdleref23_Prune.j1] at h, fun _ _ _ _ _ _ _ _ r h => by simp [hurdleref23_Prune.j2] at h, fun _ _ _ _ _ _ _ _ _ r h => by simp [hurdleref23_Prune.j3] at h⟩
 | k + 1 => by
  obtain ⟨ih0, ih1, ih2, ih3⟩ := hurdleref23_Prune.mono_l k
  refine ⟨?_, ?_, ?_, ?_⟩
  ·intro y0 y1 y2 y3
   unfold hurdleref23_Prune.l0
   repeat' first
   | (with_reducible exact ih0 _ _ _ _)
   | (with_reducible exact ih1 _ _ _ _ _ _ _ _ _)
   | (with_reducible exact ih2 _ _ _ _ _ _ _ _)
   | (with_reducible exact ih3 _ _ _ _ _ _ _ _ _)
   | (with_reducible exact hurdleref02_Branch.mono _ _ _ _ _)
   | (with_reducible exact hurdleref23_Met.mono _ _)
   | (with_reducible exact hurdleref23_between.mono _ _ _ _)
   | (with_reducible exact LeO.refl _)
   | (with_reducible exact LeO.none _)
   | (with_reducible refine LeO.ite ?_ ?_)
   | (with_reducible refine LeO.bind ?_ (fun _ => ?_))
   | exact ih0 _ _ _ _
   | exact ih1 _ _ _ _ _ _ _ _ _
   | exact ih2 _ _ _ _ _ _ _ _
   | exact ih3 _ _ _ _ _ _ _ _ _
   | exact hurdleref02_Branch.mono _ _ _ _ _
   | exact hurdleref23_Met.mono _ _
   | exact hurdleref23_between.mono _ _ _ _
   | exact LeO.none _
   | refine LeO.ite ?_ ?_
   | refine LeO.bind ?_ (fun _ => ?_)
  ·intro y0 y1 y2 y3 y4 y5 y6 y7 y8
   unfold hurdleref23_Prune.j1
   repeat' first
   | (with_reducible exact ih0 _ _ _ _)
   | (with_reducible exact ih1 _ _ _ _ _ _ _ _ _)
   | (with_reducible exact ih2 _ _ _ _ _ _ _ _)
   | (with_reducible exact ih3 _ _ _ _ _ _ _ _ _)
   | (with_reducible exact hurdleref02_Branch.mono _ _ _ _ _)
   | (with_reducible exact hurdleref23_Met.mono _ _)
   | (with_reducible exact hurdleref23_between.mono _ _ _ _)
   | (with_reducible exact LeO.refl _)
   | (with_reducible exact LeO.none _)
   | (with_reducible refine LeO.ite ?_ ?_)
   | (with_reducible refine LeO.bind ?_ (fun _ => ?_))
   | exact ih0 _ _ _ _
   | exact ih1 _ _ _ _ _ _ _ _ _
   | exact ih2 _ _ _ _ _ _ _ _
   | exact ih3 _ _ _ _ _ _ _ _ _
   | exact hurdleref02_Branch.mono _ _ _ _ _
   | exact hurdleref23_Met.mono _ _
   | exact hurdleref23_between.mono _ _ _ _
   | exact LeO.none _
   | refine LeO.ite ?_ ?_
   | refine LeO.bind ?_ (fun _ => ?_)
  ·intro y0 y1 y2 y3 y4 y5 y6 y7
   unfold hurdleref23_Prune.j2
   repeat' first
   | (with_reducible exact ih0 _ _ _ _)
   | (with_reducible exact ih1 _ _ _ _ _ _ _ _ _)
   | (with_reducible exact ih2 _ _ _ _ _ _ _ _)
   | (with_reducible exact ih3 _ _ _ _ _ _ _ _ _)
   | (with_reducible exact hurdleref02_Branch.mono _ _ _ _ _)
   | (with_reducible exact hurdleref23_Met.mono _ _)
   | (with_reducible exact hurdleref23_between.mono _ _ _ _)
   | (with_reducible exact LeO.refl _)
   | (with_reducible exact LeO.none _)
   | (with_reducible refine LeO.ite ?_ ?_)
   | (with_reducible refine LeO.bind ?_ (fun _ => ?_))
   | exact ih0 _ _ _ _
   | exact ih1 _ _ _ _ _ _ _ _ _
   | exact ih2 _ _ _ _ _ _ _ _
   | exact ih3 _ _ _ _ _ _ _ _ _
   | exact hurdleref02_Branch.mono _ _ _ _ _
   | exact hurdleref23_Met.mono _ _
   | exact hurdleref23_between.mono _ _ _ _
   | exact LeO.none _
   | refine LeO.ite ?_ ?_
   | refine LeO.bind ?_ (fun _ => ?_)
  ·intro y0 y1 y2 y3 y4 y5 y6 y7 y8
   unfold hurdleref23_Prune.j3
   repeat' first
   | (with_reducible exact ih0 _ _ _ _)
   | (with_reducible exact ih1 _ _ _ _ _ _ _ _ _)
   | (with_reducible exact ih2 _ _ _ _ _ _ _ _)
   | (with_reducible exact ih3 _ _ _ _ _ _ _ _ _)
   | (with_reducible exact hurdleref02_Branch.mono _ _ _ _ _)
   | (with_reducible exact hurdleref23_Met.mono _ _)
   | (with_reducible exact hurdleref23_between.mono _ _ _ _)
   | (with_reducible exact LeO.refl _)
   | (with_reducible exact LeO.none _)
   | (with_reducible refine LeO.ite ?_ ?_)
   | (with_reducible refine LeO.bind ?_ (fun _ => ?_))
   | exact ih0 _ _ _ _
   | exact ih1 _ _ _ _ _ _ _ _ _
   | exact ih2 _ _ _ _ _ _ _ _
   | exact ih3 _ _ _ _ _ _ _ _ _
   | exact hurdleref02_Branch.mono _ _ _ _ _
   | exact hurdleref23_Met.mono _ _
   | exact hurdleref23_between.mono _ _ _ _
   | exact LeO.none _
   | refine LeO.ite ?_ ?_
   | refine LeO.bind ?_ (fun _ => ?_)
theorem hurdleref23_Prune.mono : ∀ a0 k, LeO (hurdleref23_Prune.f k a0) (hurdleref23_Prune.f (k + 1) a0) := by
 intro a0 k
 obtain ⟨ih0, ih1, ih2, ih3⟩ := hurdleref23_Prune.mono_l k
 unfold hurdleref23_Prune.f
 repeat' first
   | (with_reducible exact ih0 _ _ _ _)
   | (with_reducible exact ih1 _ _ _ _ _ _ _ _ _)
   | (with_reducible exact ih2 _ _ _ _ _ _ _ _)
   | (with_reducible exact ih3 _ _ _ _ _ _ _ _ _)
   | (with_reducible exact hurdleref02_Branch.mono _ _ _ _ _)
   | (with_reducible exact hurdleref23_Met.mono _ _)
   | (with_reducible exact hurdleref23_between.mono _ _ _ _)
   | (with_reducible exact LeO.refl _)
   | (with_reducible exact LeO.none _)
   | (with_reducible refine LeO.ite ?_ ?_)
   | (with_reducible refine LeO.bind ?_ (fun _ => ?_))
   | exact ih0 _ _ _ _
   | exact ih1 _ _ _ _ _ _ _ _ _
   | exact ih2 _ _ _ _ _ _ _ _
   | exact ih3 _ _ _ _ _ _ _ _ _
   | exact hurdleref02_Branch.mono _ _ _ _ _
   | exact hurdleref23_Met.mono _ _
   | exact hurdleref23_between.mono _ _ _ _
   | exact LeO.none _
   | refine LeO.ite ?_ ?_
   | refine LeO.bind ?_ (fun _ => ?_)
set_option maxHeartbeats 8000000 in
set_option maxRecDepth 100000 in
theorem hurdleref23_Prune.calls (k : Nat) (A0 : Option Addr) (c0 : Nat) (l0 : List (S45)) (r : List (S45)) (w : World) (hr0 : Kd.C k45 w A0 l0.length l0) (hc0 : l0.length ≤ c0) (h : hurdleref23_Prune.f k l0 = some r) :
  Calls Tryd.prog 14 #[.slice A0 l0.length c0] w fun e w' => ∃ v0_ : Value, e = .returned (v0_) ∧ Kd.R k45 45 w' w.heap.size (fun _ => True) v0_ r ∧ Below w.heap.size w w' := by
 have hu45 := Tryd.underlying45
 have HR0 := Aside0.mk hr0
 have HC0 := Aside0.mk hc0
 clear hr0 hc0
 have HB := Aside0.mk (Below.refl w.heap.size w)
 have H : ((hurdleref23_Met.f k l0).bind fun t211 => (hurdleref23_Prune.l0 k l0 t211 ([] : List (S45)) 0)) = some r := h
 clear h
 replace H := Option.bind_eq_some_iff.mp H
 obtain ⟨t211, A20, H⟩ := H
 try dsimp only at H
 have A2 := Aside0.mk A20
 clear A20
 have H' := Aside0.mk H
 clear H
 go_enter Tryd.func14, Tryd.ntmps14
 go_wp2_with (first | ((with_reducible refine gate_callee (f := 12) rfl ?_); refine goesL_ (some 8) rfl rfl Tryd.func12 (by kernel_rfl) rfl #[.slice A0 l0.length c0] rfl (by (try simp only [List.map_toArray, List.map_cons, List.map_nil]); first | done | rfl | (simp only [List.length_drop, List.length_take]; rfl)) ?_; (with_reducible refine (hurdleref23_Met.calls k _ _ l0 t211 _ ?side1 ?side2 A2.out).mono ?_); (case side1 => exact HR0.out); (case side2 => exact HC0.out); rintro e w3 ⟨v212, rfl, ho0, hb⟩; refine ⟨_, rfl, ?_⟩; have n0_ := Aside0.mk (Kd.R_lower ho0 (zZ HB.out)); have n1_ := Aside0.mk (zT HB.out hb); clear HB; have HO213 := n0_; have HB := n1_; clear n0_ n1_; (try clear ho0)))
 go_loopg [4, 5] k (fun kq v4 v5 w' => ∃ (x4_1 : List (S45)) (x5_1 : Int), v5 = .int .i64 x5_1 ∧ Aside0 (hurdleref23_Prune.l0 kq l0 t211 x4_1 x5_1 = some r) ∧ Aside0 (kq ≤ k) ∧ Aside0 (Kd.R Kd.bool 4 w' w.heap.size (fun _ => True) v212 t211) ∧ Aside0 (Kd.R k45 45 w' w.heap.size (fun _ => True) v4 x4_1) ∧ Aside0 (Below w.heap.size w w'))
 case atStart => exact ⟨(([] : List (S45))), (0), rfl, H', ⟨Nat.le_refl _⟩, ⟨by (with_reducible repeat (first | apply Kd.R_alloc | apply Kd.R_drewN | apply Kd.R_drew)); exact HO213.out⟩, ⟨by first | exact Kd.R_nil _ _ _ _ _ | exact Kd.N_nil _ _ _ _ _ | exact Kd.V_nil _ _ _ _ _ | exact Kd.Q_nil _ _ _ _ _ | exact Kd.S_nil _ _ _ _ _⟩, ⟨by repeat (first | (with_reducible first | exact HB.out | apply zA | apply zN | apply zD) | exact HB.out)⟩⟩
 case round =>
  clear H'
  obtain ⟨x4_1, x5_1, rfl, HA, HK1, HO_3, HO_4, HB⟩ := hrel
  cases gk with
  | zero => exact absurd HA.out (by simp [hurdleref23_Prune.l0])
  | succ k1 =>
   have H := HA.out
   clear HA
   simp only [hurdleref23_Prune.l0] at H
   by_cases c4 : x5_1 < (l0.length : Int)
   ·rw [if_pos c4] at H
    have c4b0 : decide (x5_1 < (l0.length : Int)) = true := dT c4
    clear c4
    by_cases c5 : 0 ≤ x5_1
    ·rw [if_pos c5] at H
     have c5b0 : decide (0 ≤ x5_1) = true := dT c5
     clear c5
     have HC6 := Aside0.mk H
     clear H
     have p214 : 0 ≤ (x5_1 : Int) := oD (by assumption)
     have q214 : x5_1 < (l0.length : Int) := oD (by assumption)
     obtain ⟨ad214, e214, hx214_0, hx214_1, hx214_2, hx214_3⟩ := at_T45 HR0.out x5_1 p214 q214
     cases e214
     replace hx214_0 := (HB.out.cell (bL w _ hx214_0)).trans hx214_0
     replace hx214_1 := (HB.out.cell (bL w _ hx214_1)).trans hx214_1
     replace hx214_2 := (HB.out.cell (bL w _ hx214_2)).trans hx214_2
     replace hx214_3 := (HB.out.cell (bL w _ hx214_3)).trans hx214_3
     replace p214 := eq_true p214
     replace q214 := eq_true q214
     go_upto_region 7 with (first | ((with_reducible refine gate_dst (N := 6) rfl ?_); refine box_event ?hg (N := 6) ?hd (cs := #[.int .i64 0, .int .i64 0, .int .i64 0, .int .u32 0]) (t := 45) ?hr ?_; (case hd => rfl); (case hg => rfl); (case hr => first | (go_simp; done) | (go_simp; rfl)); intro gb215 hg w7 hbox hb; have n0_ := Aside0.mk (Kd.R_below HO_3.out hb); have n1_ := Aside0.mk (Kd.R_below (Kd.R_elderB HO_4.out gb215 (Nat.le_of_eq hg.symm)) hb); have n2_ := Aside0.mk (zT HB.out hb); have n3_ := Aside0.mk (hbox); have n4_ := Aside0.mk ((by rw [hg]; exact (zZ HB.out) : w.heap.size ≤ gb215)); have n5_ := Aside0.mk ((by rw [hg]; exact (zZ HB.out) : w.heap.size ≤ gb215)); clear HO_3; clear HO_4; clear HB; have HO_3 := n0_; have HO_4 := n1_; have HB := n2_; have BK215 := n3_; have GW215 := n4_; have GE215 := n5_; clear n0_ n1_ n2_ n3_ n4_ n5_; clear hb hbox hg; have hcz8_0 : w7.cell? ⟨gb215, 0, none⟩ = some (.int .i64 0) := (kC BK215.out 0).trans rfl; have hcz8_1 : w7.cell? ⟨gb215, 1, none⟩ = some (.int .i64 0) := (kC BK215.out 1).trans rfl; have hcz8_2 : w7.cell? ⟨gb215, 2, none⟩ = some (.int .i64 0) := (kC BK215.out 2).trans rfl; have hcz8_3 : w7.cell? ⟨gb215, 3, none⟩ = some (.int .u32 0) := (kC BK215.out 3).trans rfl; have hfz8_0 := kF BK215.out 0; have hfz8_1 := kF BK215.out 1; have hfz8_2 := kF BK215.out 2; have hfz8_3 := kF BK215.out 3))
     (try simp only [Act.put, List.setIfInBounds_toArray, List.set_cons_zero, List.set_cons_succ])
     go_cut [27] (fun v27 wc => ∃ (kq : Nat) (x27_5 : Bool), v27 = .bool x27_5 ∧ Aside0 (hurdleref23_Prune.j1 kq l0 t211 x4_1 x5_1 x27_5 ((rd_T45 l0 x5_1).f0) ((rd_T45 l0 x5_1).f1) ((rd_T45 l0 x5_1).f2) ((rd_T45 l0 x5_1).f3) = some r) ∧ Aside0 (kq ≤ k1) ∧ Aside0 (Kd.R Kd.bool 4 wc w.heap.size (fun _ => True) v212 t211) ∧ Aside0 (Kd.R k45 45 wc w.heap.size (fun k_ => k_ ≠ gb215) u4 x4_1) ∧ Aside0 (wc.heap[gb215]? = some (.cells #[.int .i64 ((rd_T45 l0 x5_1).f0), .int .i64 ((rd_T45 l0 x5_1).f1), .int .i64 ((rd_T45 l0 x5_1).f2), .int .u32 ((rd_T45 l0 x5_1).f3)] 45 (0, 0))) ∧ Aside0 (Below w.heap.size w wc))
     case first =>
      have H := HC6.out
      clear HC6
      by_cases c9 : x5_1 < (t211.length : Int)
      ·rw [if_pos c9] at H
       have c9b0 : decide (x5_1 < (t211.length : Int)) = true := dT c9
       clear c9
       (first | rw [c9b0] | (simp only [i64_w, i32_w]; rw [c9b0]) | skip)
       obtain ⟨bq10, hbq10⟩ : ∃ b_ : Bool, b_ = (rdOf false t211 x5_1) := ⟨_, rfl⟩
       replace H : (if bq10 = true then (hurdleref23_Prune.j1 k1 l0 t211 x4_1 x5_1 (((rd_T45 l0 x5_1).f0) == 5) ((rd_T45 l0 x5_1).f0) ((rd_T45 l0 x5_1).f1) ((rd_T45 l0 x5_1).f2) ((rd_T45 l0 x5_1).f3)) else (hurdleref23_Prune.j1 k1 l0 t211 x4_1 x5_1 false ((rd_T45 l0 x5_1).f0) ((rd_T45 l0 x5_1).f1) ((rd_T45 l0 x5_1).f2) ((rd_T45 l0 x5_1).f3))) = some r := by rw [← hbq10] at H; exact H
       have Nbq10 := Aside0.mk hbq10
       clear hbq10
       by_cases c11 : bq10 = true
       ·subst c11
        rw [if_pos rfl] at H
        have H' := Aside0.mk H
        clear H
        obtain ⟨Ao12, co12, eo12⟩ := Kd.R_slice HO_3.out
        subst eo12
        have p216 : 0 ≤ (x5_1 : Int) := oD (by assumption)
        have q216 : x5_1 < (t211.length : Int) := oD (by assumption)
        obtain ⟨ad216, e216, hx216_0⟩ := Kd.at_bool (Kd.R_reads' HO_3.out).2.2 x5_1 p216 q216
        (try rw [← Nbq10.out] at hx216_0)
        cases e216
        have hn216_0 : ad216.block ≠ gb215 := Kd.own_blk (Kd.R_ne HO_3.out BK215.out (by decide))
        have hn216_1 : ad216.block ≠ gb215 := Kd.own_blk (Kd.R_ne HO_3.out BK215.out (by decide))
        have hn216_2 : ad216.block ≠ gb215 := Kd.own_blk (Kd.R_ne HO_3.out BK215.out (by decide))
        have hn216_3 : ad216.block ≠ gb215 := Kd.own_blk (Kd.R_ne HO_3.out BK215.out (by decide))
        replace hx216_0 := (cell_far (p := ⟨gb215, 0, none⟩) (by first | (rw [add_block]; exact hn216_0) | (show (Addr.add _ _).block ≠ _; rw [add_block]; exact hn216_0) | exact hn216_0) (.int .i64 ((rd_T45 l0 x5_1).f0))).trans hx216_0
        replace hx216_0 := (cell_far (p := ⟨gb215, 1, none⟩) (by first | (rw [add_block]; exact hn216_1) | (show (Addr.add _ _).block ≠ _; rw [add_block]; exact hn216_1) | exact hn216_1) (.int .i64 ((rd_T45 l0 x5_1).f1))).trans hx216_0
        replace hx216_0 := (cell_far (p := ⟨gb215, 2, none⟩) (by first | (rw [add_block]; exact hn216_2) | (show (Addr.add _ _).block ≠ _; rw [add_block]; exact hn216_2) | exact hn216_2) (.int .i64 ((rd_T45 l0 x5_1).f2))).trans hx216_0
        replace hx216_0 := (cell_far (p := ⟨gb215, 3, none⟩) (by first | (rw [add_block]; exact hn216_3) | (show (Addr.add _ _).block ≠ _; rw [add_block]; exact hn216_3) | exact hn216_3) (.int .u32 ((rd_T45 l0 x5_1).f3))).trans hx216_0
        clear hn216_0
        clear hn216_1
        clear hn216_2
        clear hn216_3
        replace p216 := eq_true p216
        replace q216 := eq_true q216
        have hcz13_0 : w7.cell? ⟨gb215, 0, none⟩ = some (.int .i64 0) := (kC BK215.out 0).trans rfl
        have hcz13_1 : w7.cell? ⟨gb215, 1, none⟩ = some (.int .i64 0) := (kC BK215.out 1).trans rfl
        have hcz13_2 : w7.cell? ⟨gb215, 2, none⟩ = some (.int .i64 0) := (kC BK215.out 2).trans rfl
        have hcz13_3 : w7.cell? ⟨gb215, 3, none⟩ = some (.int .u32 0) := (kC BK215.out 3).trans rfl
        have hfz13_0 := kF BK215.out 0
        have hfz13_1 := kF BK215.out 1
        have hfz13_2 := kF BK215.out 2
        have hfz13_3 := kF BK215.out 3
        go_wp2
        go_meet
        case rel => exact ⟨_, ((((rd_T45 l0 x5_1).f0) == 5)), rfl, H', ⟨by have := HK1.out; first | omega | exact Nat.le_refl _⟩, ⟨by (with_reducible repeat (first | apply Kd.R_alloc | apply Kd.R_drewN | apply Kd.R_drew)); exact Kd.R_mono (Kd.R_far (p := ⟨gb215, 3, none⟩) (Kd.R_far (p := ⟨gb215, 2, none⟩) (Kd.R_far (p := ⟨gb215, 1, none⟩) (Kd.R_far (p := ⟨gb215, 0, none⟩) (Kd.R_types HO_3.out BK215.out (by decide)) (fun _ hk => hk.2) (.int .i64 ((rd_T45 l0 x5_1).f0))) (fun _ hk => hk.2) (.int .i64 ((rd_T45 l0 x5_1).f1))) (fun _ hk => hk.2) (.int .i64 ((rd_T45 l0 x5_1).f2))) (fun _ hk => hk.2) (.int .u32 ((rd_T45 l0 x5_1).f3))) (fun _ hk => trivial)⟩, ⟨by (with_reducible repeat (first | apply Kd.R_alloc | apply Kd.R_drewN | apply Kd.R_drew)); exact Kd.R_mono (Kd.R_far (p := ⟨gb215, 3, none⟩) (Kd.R_far (p := ⟨gb215, 2, none⟩) (Kd.R_far (p := ⟨gb215, 1, none⟩) (Kd.R_far (p := ⟨gb215, 0, none⟩) (Kd.R_mono HO_4.out (fun k_ hk => (⟨hk, hk.2⟩ : _ ∧ k_ ≠ gb215))) (fun _ hk => hk.2) (.int .i64 ((rd_T45 l0 x5_1).f0))) (fun _ hk => hk.2) (.int .i64 ((rd_T45 l0 x5_1).f1))) (fun _ hk => hk.2) (.int .i64 ((rd_T45 l0 x5_1).f2))) (fun _ hk => hk.2) (.int .u32 ((rd_T45 l0 x5_1).f3))) (fun _ hk => hk.1.2)⟩, ⟨by (with_reducible repeat (first | refine kN ?_ _ | refine kD ?_ | refine kA ?_ _)); refine kP (cs := #[.int .i64 ((rd_T45 l0 x5_1).f0), .int .i64 ((rd_T45 l0 x5_1).f1), .int .i64 ((rd_T45 l0 x5_1).f2), .int .u32 0]) ?_ 3 _ rfl; (with_reducible repeat (first | refine kN ?_ _ | refine kD ?_ | refine kA ?_ _)); refine kP (cs := #[.int .i64 ((rd_T45 l0 x5_1).f0), .int .i64 ((rd_T45 l0 x5_1).f1), .int .i64 0, .int .u32 0]) ?_ 2 _ rfl; (with_reducible repeat (first | refine kN ?_ _ | refine kD ?_ | refine kA ?_ _)); refine kP (cs := #[.int .i64 ((rd_T45 l0 x5_1).f0), .int .i64 0, .int .i64 0, .int .u32 0]) ?_ 1 _ rfl; (with_reducible repeat (first | refine kN ?_ _ | refine kD ?_ | refine kA ?_ _)); refine kP (cs := #[.int .i64 0, .int .i64 0, .int .i64 0, .int .u32 0]) ?_ 0 _ rfl; (with_reducible repeat (first | refine kN ?_ _ | refine kD ?_ | refine kA ?_ _)); exact BK215.out⟩, ⟨by repeat (first | (with_reducible first | exact HB.out | apply zA | apply zN | apply zD | refine zS ?_ GE215.out) | exact HB.out)⟩⟩
       ·replace c11 := Bool.eq_false_iff.mpr c11
        subst c11
        rw [if_neg (show ¬ (false = true) by decide)] at H
        have H' := Aside0.mk H
        clear H
        obtain ⟨Ao14, co14, eo14⟩ := Kd.R_slice HO_3.out
        subst eo14
        have p216 : 0 ≤ (x5_1 : Int) := oD (by assumption)
        have q216 : x5_1 < (t211.length : Int) := oD (by assumption)
        obtain ⟨ad216, e216, hx216_0⟩ := Kd.at_bool (Kd.R_reads' HO_3.out).2.2 x5_1 p216 q216
        (try rw [← Nbq10.out] at hx216_0)
        cases e216
        have hn216_0 : ad216.block ≠ gb215 := Kd.own_blk (Kd.R_ne HO_3.out BK215.out (by decide))
        have hn216_1 : ad216.block ≠ gb215 := Kd.own_blk (Kd.R_ne HO_3.out BK215.out (by decide))
        have hn216_2 : ad216.block ≠ gb215 := Kd.own_blk (Kd.R_ne HO_3.out BK215.out (by decide))
        have hn216_3 : ad216.block ≠ gb215 := Kd.own_blk (Kd.R_ne HO_3.out BK215.out (by decide))
        replace hx216_0 := (cell_far (p := ⟨gb215, 0, none⟩) (by first | (rw [add_block]; exact hn216_0) | (show (Addr.add _ _).block ≠ _; rw [add_block]; exact hn216_0) | exact hn216_0) (.int .i64 ((rd_T45 l0 x5_1).f0))).trans hx216_0
        replace hx216_0 := (cell_far (p := ⟨gb215, 1, none⟩) (by first | (rw [add_block]; exact hn216_1) | (show (Addr.add _ _).block ≠ _; rw [add_block]; exact hn216_1) | exact hn216_1) (.int .i64 ((rd_T45 l0 x5_1).f1))).trans hx216_0
        replace hx216_0 := (cell_far (p := ⟨gb215, 2, none⟩) (by first | (rw [add_block]; exact hn216_2) | (show (Addr.add _ _).block ≠ _; rw [add_block]; exact hn216_2) | exact hn216_2) (.int .i64 ((rd_T45 l0 x5_1).f2))).trans hx216_0
        replace hx216_0 := (cell_far (p := ⟨gb215, 3, none⟩) (by first | (rw [add_block]; exact hn216_3) | (show (Addr.add _ _).block ≠ _; rw [add_block]; exact hn216_3) | exact hn216_3) (.int .u32 ((rd_T45 l0 x5_1).f3))).trans hx216_0
        clear hn216_0
        clear hn216_1
        clear hn216_2
        clear hn216_3
        replace p216 := eq_true p216
        replace q216 := eq_true q216
        go_wp2
        go_meet
        case rel => exact ⟨_, (false), rfl, H', ⟨by have := HK1.out; first | omega | exact Nat.le_refl _⟩, ⟨by (with_reducible repeat (first | apply Kd.R_alloc | apply Kd.R_drewN | apply Kd.R_drew)); exact Kd.R_mono (Kd.R_far (p := ⟨gb215, 3, none⟩) (Kd.R_far (p := ⟨gb215, 2, none⟩) (Kd.R_far (p := ⟨gb215, 1, none⟩) (Kd.R_far (p := ⟨gb215, 0, none⟩) (Kd.R_types HO_3.out BK215.out (by decide)) (fun _ hk => hk.2) (.int .i64 ((rd_T45 l0 x5_1).f0))) (fun _ hk => hk.2) (.int .i64 ((rd_T45 l0 x5_1).f1))) (fun _ hk => hk.2) (.int .i64 ((rd_T45 l0 x5_1).f2))) (fun _ hk => hk.2) (.int .u32 ((rd_T45 l0 x5_1).f3))) (fun _ hk => trivial)⟩, ⟨by (with_reducible repeat (first | apply Kd.R_alloc | apply Kd.R_drewN | apply Kd.R_drew)); exact Kd.R_mono (Kd.R_far (p := ⟨gb215, 3, none⟩) (Kd.R_far (p := ⟨gb215, 2, none⟩) (Kd.R_far (p := ⟨gb215, 1, none⟩) (Kd.R_far (p := ⟨gb215, 0, none⟩) (Kd.R_mono HO_4.out (fun k_ hk => (⟨hk, hk.2⟩ : _ ∧ k_ ≠ gb215))) (fun _ hk => hk.2) (.int .i64 ((rd_T45 l0 x5_1).f0))) (fun _ hk => hk.2) (.int .i64 ((rd_T45 l0 x5_1).f1))) (fun _ hk => hk.2) (.int .i64 ((rd_T45 l0 x5_1).f2))) (fun _ hk => hk.2) (.int .u32 ((rd_T45 l0 x5_1).f3))) (fun _ hk => hk.1.2)⟩, ⟨by (with_reducible repeat (first | refine kN ?_ _ | refine kD ?_ | refine kA ?_ _)); refine kP (cs := #[.int .i64 ((rd_T45 l0 x5_1).f0), .int .i64 ((rd_T45 l0 x5_1).f1), .int .i64 ((rd_T45 l0 x5_1).f2), .int .u32 0]) ?_ 3 _ rfl; (with_reducible repeat (first | refine kN ?_ _ | refine kD ?_ | refine kA ?_ _)); refine kP (cs := #[.int .i64 ((rd_T45 l0 x5_1).f0), .int .i64 ((rd_T45 l0 x5_1).f1), .int .i64 0, .int .u32 0]) ?_ 2 _ rfl; (with_reducible repeat (first | refine kN ?_ _ | refine kD ?_ | refine kA ?_ _)); refine kP (cs := #[.int .i64 ((rd_T45 l0 x5_1).f0), .int .i64 0, .int .i64 0, .int .u32 0]) ?_ 1 _ rfl; (with_reducible repeat (first | refine kN ?_ _ | refine kD ?_ | refine kA ?_ _)); refine kP (cs := #[.int .i64 0, .int .i64 0, .int .i64 0, .int .u32 0]) ?_ 0 _ rfl; (with_reducible repeat (first | refine kN ?_ _ | refine kD ?_ | refine kA ?_ _)); exact BK215.out⟩, ⟨by repeat (first | (with_reducible first | exact HB.out | apply zA | apply zN | apply zD | refine zS ?_ GE215.out) | exact HB.out)⟩⟩
      ·rw [if_neg c9] at H
       exact absurd H (by simp)
     case rest =>
      clear HC6
      obtain ⟨kq, x27_5, rfl, HA, HJ5, HO_3, HO_4, BK215, HB⟩ := hcut
      cases kq with
      | zero => exact absurd HA.out (by simp [hurdleref23_Prune.j1])
      | succ kj5 =>
       have H := HA.out
       clear HA
       simp only [hurdleref23_Prune.j1] at H
       have HC15 := Aside0.mk H
       clear H
       go_upto_if 27 with (fail)
       go_cut [] (fun wc => ∃ (kq : Nat) (x216003_14 : Int), Aside0 (hurdleref23_Prune.j2 kq l0 t211 x4_1 x5_1 ((rd_T45 l0 x5_1).f0) ((rd_T45 l0 x5_1).f1) ((rd_T45 l0 x5_1).f2) x216003_14 = some r) ∧ Aside0 (kq ≤ kj5) ∧ Aside0 (Kd.R Kd.bool 4 wc w.heap.size (fun _ => True) v212 t211) ∧ Aside0 (Kd.R k45 45 wc w.heap.size (fun k_ => k_ ≠ gb215) u4 x4_1) ∧ Aside0 (wc.heap[gb215]? = some (.cells #[.int .i64 ((rd_T45 l0 x5_1).f0), .int .i64 ((rd_T45 l0 x5_1).f1), .int .i64 ((rd_T45 l0 x5_1).f2), .int .u32 x216003_14] 45 (0, 0))) ∧ Aside0 (Below w.heap.size w wc))
       case first =>
        have H := HC15.out
        clear HC15
        by_cases c16 : x27_5 = true
        ·subst c16
         rw [if_pos rfl] at H
         replace H := Option.bind_eq_some_iff.mp H
         obtain ⟨t217, A170, H⟩ := H
         try dsimp only at H
         have A17 := Aside0.mk A170
         clear A170
         have H' := Aside0.mk H
         clear H
         have hcz18_0 : wc.cell? ⟨gb215, 0, none⟩ = some (.int .i64 ((rd_T45 l0 x5_1).f0)) := (kC BK215.out 0).trans rfl
         have hcz18_1 : wc.cell? ⟨gb215, 1, none⟩ = some (.int .i64 ((rd_T45 l0 x5_1).f1)) := (kC BK215.out 1).trans rfl
         have hcz18_2 : wc.cell? ⟨gb215, 2, none⟩ = some (.int .i64 ((rd_T45 l0 x5_1).f2)) := (kC BK215.out 2).trans rfl
         have hcz18_3 : wc.cell? ⟨gb215, 3, none⟩ = some (.int .u32 ((rd_T45 l0 x5_1).f3)) := (kC BK215.out 3).trans rfl
         have hfz18_0 := kF BK215.out 0
         have hfz18_1 := kF BK215.out 1
         have hfz18_2 := kF BK215.out 2
         have hfz18_3 := kF BK215.out 3
         obtain ⟨Ao19, co19, eo19⟩ := Kd.R_slice HO_3.out
         subst eo19
         go_wp2_with (first | ((with_reducible refine gate_callee (f := 24) rfl ?_); refine goesL_ (some 36) rfl rfl Tryd.func24 (by kernel_rfl) rfl #[.slice Ao19 t211.length co19, .int .i64 x5_1, .int .i64 (wrap64 ((wrap64 (x5_1 + 1)) + (wrap64 (((rd_T45 l0 x5_1).f3)))))] rfl (by (try simp only [List.map_toArray, List.map_cons, List.map_nil]); first | done | rfl | (simp only [List.length_drop, List.length_take]; rfl)) ?_; (with_reducible refine (hurdleref23_between.calls kj5 _ _ t211 x5_1 (wrap64 ((wrap64 (x5_1 + 1)) + (wrap64 (((rd_T45 l0 x5_1).f3))))) t217 _ ?side1 ?side2 A17.out).mono ?_); (case side1 => repeat (first | exact (Kd.R_reads' HO_3.out).2.2 | (with_reducible refine Kd.C_alloc ?_ _) | (with_reducible refine Kd.C_drewN ?_ _) | (with_reducible refine Kd.C_drew ?_))); (case side2 => exact (Kd.R_reads' HO_3.out).2.1); rintro e w' ⟨rfl, ⟨nd, rfl⟩⟩; refine ⟨_, rfl, ?_⟩; (try (rw [drewN_self wc]; generalize hq_ : World.drewN wc _ = wc; have n0_ : Aside0 (Kd.R Kd.bool 4 wc w.heap.size (fun _ => True) (.slice Ao19 t211.length co19) t211) := ⟨by rw [← hq_]; exact HO_3.out⟩; have n1_ : Aside0 (Kd.R k45 45 wc w.heap.size (fun k_ => k_ ≠ gb215) u4 x4_1) := ⟨by rw [← hq_]; exact HO_4.out⟩; have n2_ : Aside0 (wc.heap[gb215]? = some (.cells #[.int .i64 ((rd_T45 l0 x5_1).f0), .int .i64 ((rd_T45 l0 x5_1).f1), .int .i64 ((rd_T45 l0 x5_1).f2), .int .u32 ((rd_T45 l0 x5_1).f3)] 45 (0, 0))) := ⟨by rw [← hq_]; exact BK215.out⟩; have n3_ : Aside0 (Below w.heap.size w wc) := ⟨by rw [← hq_]; exact HB.out⟩; clear HO_3 HO_4 BK215 HB hq_; have HO_3 := n0_; have HO_4 := n1_; have BK215 := n2_; have HB := n3_; clear n0_ n1_ n2_ n3_; have hqf0_ := kF BK215.out 0; have hqc0_ : wc.cell? ⟨gb215, 0, none⟩ = some (.int .i64 ((rd_T45 l0 x5_1).f0)) := (kC BK215.out 0).trans rfl; have hqf1_ := kF BK215.out 1; have hqc1_ : wc.cell? ⟨gb215, 1, none⟩ = some (.int .i64 ((rd_T45 l0 x5_1).f1)) := (kC BK215.out 1).trans rfl; have hqf2_ := kF BK215.out 2; have hqc2_ : wc.cell? ⟨gb215, 2, none⟩ = some (.int .i64 ((rd_T45 l0 x5_1).f2)) := (kC BK215.out 2).trans rfl; have hqf3_ := kF BK215.out 3; have hqc3_ : wc.cell? ⟨gb215, 3, none⟩ = some (.int .u32 ((rd_T45 l0 x5_1).f3)) := (kC BK215.out 3).trans rfl))))
         go_meet
         case rel => exact ⟨_, ((t217) % 4294967296), H', ⟨by have := HK1.out; have := HJ5.out; first | omega | exact Nat.le_refl _⟩, ⟨by (with_reducible repeat (first | apply Kd.R_alloc | apply Kd.R_drewN | apply Kd.R_drew)); exact Kd.R_mono (Kd.R_far (p := ⟨gb215, 3, none⟩) (Kd.R_types HO_3.out BK215.out (by decide)) (fun _ hk => hk.2) (.int .u32 ((t217) % 4294967296))) (fun _ hk => trivial)⟩, ⟨by (with_reducible repeat (first | apply Kd.R_alloc | apply Kd.R_drewN | apply Kd.R_drew)); exact Kd.R_mono (Kd.R_far (p := ⟨gb215, 3, none⟩) (Kd.R_mono HO_4.out (fun k_ hk => (⟨hk, hk⟩ : _ ∧ k_ ≠ gb215))) (fun _ hk => hk.2) (.int .u32 ((t217) % 4294967296))) (fun _ hk => hk.1)⟩, ⟨by (with_reducible repeat (first | refine kN ?_ _ | refine kD ?_ | refine kA ?_ _)); refine kP (cs := #[.int .i64 ((rd_T45 l0 x5_1).f0), .int .i64 ((rd_T45 l0 x5_1).f1), .int .i64 ((rd_T45 l0 x5_1).f2), .int .u32 ((rd_T45 l0 x5_1).f3)]) ?_ 3 _ rfl; (with_reducible repeat (first | refine kN ?_ _ | refine kD ?_ | refine kA ?_ _)); exact BK215.out⟩, ⟨by repeat (first | (with_reducible first | exact HB.out | apply zA | apply zN | apply zD | refine zS ?_ GE215.out) | exact HB.out)⟩⟩
        ·replace c16 := Bool.eq_false_iff.mpr c16
         subst c16
         rw [if_neg (show ¬ (false = true) by decide)] at H
         have H' := Aside0.mk H
         clear H
         go_wp2
         go_meet
         case rel => exact ⟨_, (((rd_T45 l0 x5_1).f3)), H', ⟨by have := HK1.out; have := HJ5.out; first | omega | exact Nat.le_refl _⟩, ⟨by (with_reducible repeat (first | apply Kd.R_alloc | apply Kd.R_drewN | apply Kd.R_drew)); exact HO_3.out⟩, ⟨by (with_reducible repeat (first | apply Kd.R_alloc | apply Kd.R_drewN | apply Kd.R_drew)); exact HO_4.out⟩, ⟨by (with_reducible repeat (first | refine kN ?_ _ | refine kD ?_ | refine kA ?_ _)); exact BK215.out⟩, ⟨by repeat (first | (with_reducible first | exact HB.out | apply zA | apply zN | apply zD | refine zS ?_ GE215.out) | exact HB.out)⟩⟩
       case rest =>
        clear HC15
        obtain ⟨kq, x216003_14, HA, HJ14, HO_3, HO_4, BK215, HB⟩ := hcut
        cases kq with
        | zero => exact absurd HA.out (by simp [hurdleref23_Prune.j2])
        | succ kj14 =>
         have H := HA.out
         clear HA
         simp only [hurdleref23_Prune.j2] at H
         have HC20 := Aside0.mk H
         clear H
         go_upto_region 9 with (fail)
         go_cut [46] (fun v46 wc => ∃ (kq : Nat) (x46_19 : Bool), v46 = .bool x46_19 ∧ Aside0 (hurdleref23_Prune.j3 kq l0 t211 x4_1 x5_1 x46_19 ((rd_T45 l0 x5_1).f0) ((rd_T45 l0 x5_1).f1) ((rd_T45 l0 x5_1).f2) x216003_14 = some r) ∧ Aside0 (kq ≤ kj14) ∧ Aside0 (Kd.R Kd.bool 4 wc w.heap.size (fun _ => True) v212 t211) ∧ Aside0 (Kd.R k45 45 wc w.heap.size (fun k_ => k_ ≠ gb215) u4 x4_1) ∧ Aside0 (wc.heap[gb215]? = some (.cells #[.int .i64 ((rd_T45 l0 x5_1).f0), .int .i64 ((rd_T45 l0 x5_1).f1), .int .i64 ((rd_T45 l0 x5_1).f2), .int .u32 x216003_14] 45 (0, 0))) ∧ Aside0 (Below w.heap.size w wc))
         case first =>
          have H := HC20.out
          clear HC20
          by_cases c21 : 0 ≤ x5_1
          ·rw [if_pos c21] at H
           have c21b0 : decide (0 ≤ x5_1) = true := dT c21
           clear c21
           (first | rw [c21b0] | (simp only [i64_w, i32_w]; rw [c21b0]) | skip)
           by_cases c22 : x5_1 < (t211.length : Int)
           ·rw [if_pos c22] at H
            have c22b0 : decide (x5_1 < (t211.length : Int)) = true := dT c22
            clear c22
            obtain ⟨bq23, hbq23⟩ : ∃ b_ : Bool, b_ = (rdOf false t211 x5_1) := ⟨_, rfl⟩
            replace H : (if bq23 = true then ((hurdleref02_Branch.f kj14 ((rd_T45 l0 x5_1).f0) ((rd_T45 l0 x5_1).f1) ((rd_T45 l0 x5_1).f2) x216003_14).bind fun t219 => (hurdleref23_Prune.j3 kj14 l0 t211 x4_1 x5_1 t219 ((rd_T45 l0 x5_1).f0) ((rd_T45 l0 x5_1).f1) ((rd_T45 l0 x5_1).f2) x216003_14)) else (hurdleref23_Prune.j3 kj14 l0 t211 x4_1 x5_1 false ((rd_T45 l0 x5_1).f0) ((rd_T45 l0 x5_1).f1) ((rd_T45 l0 x5_1).f2) x216003_14)) = some r := by rw [← hbq23] at H; exact H
            have Nbq23 := Aside0.mk hbq23
            clear hbq23
            by_cases c24 : bq23 = true
            ·subst c24
             rw [if_pos rfl] at H
             replace H := Option.bind_eq_some_iff.mp H
             obtain ⟨t219, A250, H⟩ := H
             try dsimp only at H
             have A25 := Aside0.mk A250
             clear A250
             have H' := Aside0.mk H
             clear H
             obtain ⟨Ao26, co26, eo26⟩ := Kd.R_slice HO_3.out
             subst eo26
             have p218 : 0 ≤ (x5_1 : Int) := oD (by assumption)
             have q218 : x5_1 < (t211.length : Int) := oD (by assumption)
             obtain ⟨ad218, e218, hx218_0⟩ := Kd.at_bool (Kd.R_reads' HO_3.out).2.2 x5_1 p218 q218
             (try rw [← Nbq23.out] at hx218_0)
             cases e218
             replace p218 := eq_true p218
             replace q218 := eq_true q218
             have hcz27_0 : wc.cell? ⟨gb215, 0, none⟩ = some (.int .i64 ((rd_T45 l0 x5_1).f0)) := (kC BK215.out 0).trans rfl
             have hcz27_1 : wc.cell? ⟨gb215, 1, none⟩ = some (.int .i64 ((rd_T45 l0 x5_1).f1)) := (kC BK215.out 1).trans rfl
             have hcz27_2 : wc.cell? ⟨gb215, 2, none⟩ = some (.int .i64 ((rd_T45 l0 x5_1).f2)) := (kC BK215.out 2).trans rfl
             have hcz27_3 : wc.cell? ⟨gb215, 3, none⟩ = some (.int .u32 x216003_14) := (kC BK215.out 3).trans rfl
             have hfz27_0 := kF BK215.out 0
             have hfz27_1 := kF BK215.out 1
             have hfz27_2 := kF BK215.out 2
             have hfz27_3 := kF BK215.out 3
             go_wp2_with (first | (go_at_call 25; (with_reducible refine (hurdleref02_Branch.calls kj14 ((rd_T45 l0 x5_1).f0) ((rd_T45 l0 x5_1).f1) ((rd_T45 l0 x5_1).f2) x216003_14 t219 _ A25.out).mono ?_); rintro e w28 ⟨rfl, hb⟩; have n0_ := Aside0.mk (Kd.R_below HO_3.out hb); have n1_ := Aside0.mk (Kd.R_below HO_4.out hb); have n2_ := Aside0.mk (kB BK215.out hb); have n3_ := Aside0.mk (zT HB.out hb); clear HO_3; clear HO_4; clear BK215; clear HB; have HO_3 := n0_; have HO_4 := n1_; have BK215 := n2_; have HB := n3_; clear n0_ n1_ n2_ n3_))
             go_meet
             case rel => exact ⟨_, (t219), rfl, H', ⟨by have := HK1.out; have := HJ5.out; have := HJ14.out; first | omega | exact Nat.le_refl _⟩, ⟨by (with_reducible repeat (first | apply Kd.R_alloc | apply Kd.R_drewN | apply Kd.R_drew)); exact HO_3.out⟩, ⟨by (with_reducible repeat (first | apply Kd.R_alloc | apply Kd.R_drewN | apply Kd.R_drew)); exact HO_4.out⟩, ⟨by (with_reducible repeat (first | refine kN ?_ _ | refine kD ?_ | refine kA ?_ _)); exact BK215.out⟩, ⟨by repeat (first | (with_reducible first | exact HB.out | apply zA | apply zN | apply zD | refine zS ?_ GE215.out) | exact HB.out)⟩⟩
            ·replace c24 := Bool.eq_false_iff.mpr c24
             subst c24
             rw [if_neg (show ¬ (false = true) by decide)] at H
             have H' := Aside0.mk H
             clear H
             obtain ⟨Ao29, co29, eo29⟩ := Kd.R_slice HO_3.out
             subst eo29
             have p218 : 0 ≤ (x5_1 : Int) := oD (by assumption)
             have q218 : x5_1 < (t211.length : Int) := oD (by assumption)
             obtain ⟨ad218, e218, hx218_0⟩ := Kd.at_bool (Kd.R_reads' HO_3.out).2.2 x5_1 p218 q218
             (try rw [← Nbq23.out] at hx218_0)
             cases e218
             replace p218 := eq_true p218
             replace q218 := eq_true q218
             go_wp2
             go_meet
             case rel => exact ⟨_, (false), rfl, H', ⟨by have := HK1.out; have := HJ5.out; have := HJ14.out; first | omega | exact Nat.le_refl _⟩, ⟨by (with_reducible repeat (first | apply Kd.R_alloc | apply Kd.R_drewN | apply Kd.R_drew)); exact HO_3.out⟩, ⟨by (with_reducible repeat (first | apply Kd.R_alloc | apply Kd.R_drewN | apply Kd.R_drew)); exact HO_4.out⟩, ⟨by (with_reducible repeat (first | refine kN ?_ _ | refine kD ?_ | refine kA ?_ _)); exact BK215.out⟩, ⟨by repeat (first | (with_reducible first | exact HB.out | apply zA | apply zN | apply zD | refine zS ?_ GE215.out) | exact HB.out)⟩⟩
           ·rw [if_neg c22] at H
            exact absurd H (by simp)
          ·rw [if_neg c21] at H
           exact absurd H (by simp)
         case rest =>
          clear HC20
          obtain ⟨kq, x46_19, rfl, HA, HJ19, HO_3, HO_4, BK215, HB⟩ := hcut
          cases kq with
          | zero => exact absurd HA.out (by simp [hurdleref23_Prune.j3])
          | succ kj19 =>
           have H := HA.out
           clear HA
           simp only [hurdleref23_Prune.j3] at H
           by_cases c30 : x46_19 = true
           ·subst c30
            rw [if_pos rfl] at H
            replace H := Option.bind_eq_some_iff.mp H
            obtain ⟨t220, A310, H⟩ := H
            try dsimp only at H
            have A31 := Aside0.mk A310
            clear A310
            replace H := Option.bind_eq_some_iff.mp H
            obtain ⟨t221, A320, H⟩ := H
            try dsimp only at H
            have A32 := Aside0.mk A320
            clear A320
            by_cases c33 : 0 ≤ x5_1
            ·rw [if_pos c33] at H
             have c33b0 : decide (0 ≤ x5_1) = true := dT c33
             clear c33
             by_cases c34 : x5_1 < (t211.length : Int)
             ·rw [if_pos c34] at H
              have c34b0 : decide (x5_1 < (t211.length : Int)) = true := dT c34
              clear c34
              obtain ⟨bq35, hbq35⟩ : ∃ b_ : Bool, b_ = (rdOf false t211 x5_1) := ⟨_, rfl⟩
              replace H : (if bq35 = true then (if x4_1.length < 4398046511104 then (hurdleref23_Prune.l0 kj19 l0 t211 (x4_1 ++ [(⟨((rd_T45 l0 x5_1).f0), t220, t221, x216003_14⟩ : S45)]) (wrap64 (x5_1 + 1))) else (none)) else (hurdleref23_Prune.l0 kj19 l0 t211 x4_1 (wrap64 (x5_1 + 1)))) = some r := by rw [← hbq35] at H; exact H
              have Nbq35 := Aside0.mk hbq35
              clear hbq35
              by_cases c36 : bq35 = true
              ·subst c36
               rw [if_pos rfl] at H
               by_cases c37 : x4_1.length < 4398046511104
               ·rw [if_pos c37] at H
                have LMc37 := Aside0.mk c37
                clear c37
                obtain ⟨y223, hy223⟩ : ∃ y_ : List (S45), y_ = (x4_1 ++ [(⟨((rd_T45 l0 x5_1).f0), t220, t221, x216003_14⟩ : S45)]) := ⟨_, rfl⟩
                simp only [Option.bind_some, ← hy223] at H
                have Ny223 := Aside0.mk hy223
                clear hy223
                have H' := Aside0.mk H
                clear H
                have hcz38_0 : wc.cell? ⟨gb215, 0, none⟩ = some (.int .i64 ((rd_T45 l0 x5_1).f0)) := (kC BK215.out 0).trans rfl
                have hcz38_1 : wc.cell? ⟨gb215, 1, none⟩ = some (.int .i64 ((rd_T45 l0 x5_1).f1)) := (kC BK215.out 1).trans rfl
                have hcz38_2 : wc.cell? ⟨gb215, 2, none⟩ = some (.int .i64 ((rd_T45 l0 x5_1).f2)) := (kC BK215.out 2).trans rfl
                have hcz38_3 : wc.cell? ⟨gb215, 3, none⟩ = some (.int .u32 x216003_14) := (kC BK215.out 3).trans rfl
                have hfz38_0 := kF BK215.out 0
                have hfz38_1 := kF BK215.out 1
                have hfz38_2 := kF BK215.out 2
                have hfz38_3 := kF BK215.out 3
                obtain ⟨Ao39, co39, eo39⟩ := Kd.R_slice HO_3.out
                subst eo39
                go_wp2_with (first | ((with_reducible refine gate_callee (f := 24) rfl ?_); refine goesL_ (some 54) rfl rfl Tryd.func24 (by kernel_rfl) rfl #[.slice Ao39 t211.length co39, .int .i64 x5_1, .int .i64 (wrap64 ((wrap64 (x5_1 + 1)) + ((rd_T45 l0 x5_1).f1)))] rfl (by (try simp only [List.map_toArray, List.map_cons, List.map_nil]); first | done | rfl | (simp only [List.length_drop, List.length_take]; rfl)) ?_; (with_reducible refine (hurdleref23_between.calls kj19 _ _ t211 x5_1 (wrap64 ((wrap64 (x5_1 + 1)) + ((rd_T45 l0 x5_1).f1))) t220 _ ?side1 ?side2 A31.out).mono ?_); (case side1 => repeat (first | exact (Kd.R_reads' HO_3.out).2.2 | (with_reducible refine Kd.C_alloc ?_ _) | (with_reducible refine Kd.C_drewN ?_ _) | (with_reducible refine Kd.C_drew ?_))); (case side2 => exact (Kd.R_reads' HO_3.out).2.1); rintro e w' ⟨rfl, ⟨nd, rfl⟩⟩; refine ⟨_, rfl, ?_⟩; (try (rw [drewN_self wc]; generalize hq_ : World.drewN wc _ = wc; have n0_ : Aside0 (Kd.R Kd.bool 4 wc w.heap.size (fun _ => True) (.slice Ao39 t211.length co39) t211) := ⟨by rw [← hq_]; exact HO_3.out⟩; have n1_ : Aside0 (Kd.R k45 45 wc w.heap.size (fun k_ => k_ ≠ gb215) u4 x4_1) := ⟨by rw [← hq_]; exact HO_4.out⟩; have n2_ : Aside0 (wc.heap[gb215]? = some (.cells #[.int .i64 ((rd_T45 l0 x5_1).f0), .int .i64 ((rd_T45 l0 x5_1).f1), .int .i64 ((rd_T45 l0 x5_1).f2), .int .u32 x216003_14] 45 (0, 0))) := ⟨by rw [← hq_]; exact BK215.out⟩; have n3_ : Aside0 (Below w.heap.size w wc) := ⟨by rw [← hq_]; exact (by repeat (first | (with_reducible first | exact HB.out | apply zA | apply zN | apply zD | refine zS ?_ GE215.out) | exact HB.out))⟩; clear HO_3 HO_4 BK215 HB hq_; have HO_3 := n0_; have HO_4 := n1_; have BK215 := n2_; have HB := n3_; clear n0_ n1_ n2_ n3_; have hqf0_ := kF BK215.out 0; have hqc0_ : wc.cell? ⟨gb215, 0, none⟩ = some (.int .i64 ((rd_T45 l0 x5_1).f0)) := (kC BK215.out 0).trans rfl; have hqf1_ := kF BK215.out 1; have hqc1_ : wc.cell? ⟨gb215, 1, none⟩ = some (.int .i64 ((rd_T45 l0 x5_1).f1)) := (kC BK215.out 1).trans rfl; have hqf2_ := kF BK215.out 2; have hqc2_ : wc.cell? ⟨gb215, 2, none⟩ = some (.int .i64 ((rd_T45 l0 x5_1).f2)) := (kC BK215.out 2).trans rfl; have hqf3_ := kF BK215.out 3; have hqc3_ : wc.cell? ⟨gb215, 3, none⟩ = some (.int .u32 x216003_14) := (kC BK215.out 3).trans rfl))) | ((with_reducible refine gate_callee (f := 24) rfl ?_); refine goesL_ (some 63) rfl rfl Tryd.func24 (by kernel_rfl) rfl #[.slice Ao39 t211.length co39, .int .i64 x5_1, .int .i64 (wrap64 ((wrap64 (x5_1 + 1)) + ((rd_T45 l0 x5_1).f2)))] rfl (by (try simp only [List.map_toArray, List.map_cons, List.map_nil]); first | done | rfl | (simp only [List.length_drop, List.length_take]; rfl)) ?_; (with_reducible refine (hurdleref23_between.calls kj19 _ _ t211 x5_1 (wrap64 ((wrap64 (x5_1 + 1)) + ((rd_T45 l0 x5_1).f2))) t221 _ ?side1 ?side2 A32.out).mono ?_); (case side1 => refine (Kd.R_reads' (e := 4) (base := w.heap.size) (ok := fun k_ => True) (n := t211.length) (c := co39) ?_).2.2; exact (by (with_reducible repeat (first | apply Kd.R_alloc | apply Kd.R_drewN | apply Kd.R_drew)); exact (Kd.R_mono (Kd.R_far (p := ⟨gb215, 1, none⟩) (Kd.R_types HO_3.out BK215.out (by decide)) (fun _ hk => hk.2) (.int .i64 t220)) (fun _ h_ => h_.1)))); (case side2 => exact (Kd.R_reads' HO_3.out).2.1); rintro e w' ⟨rfl, ⟨nd, rfl⟩⟩; refine ⟨_, rfl, ?_⟩; have p222 : 0 ≤ (x5_1 : Int) := oD (by assumption); have q222 : x5_1 < (t211.length : Int) := oD (by assumption); obtain ⟨ad222, e222, hx222_0⟩ := Kd.at_bool (Kd.R_reads' HO_3.out).2.2 x5_1 p222 q222; (try rw [← Nbq35.out] at hx222_0); cases e222; have hn222_0 : ad222.block ≠ gb215 := Kd.own_blk (Kd.R_ne HO_3.out BK215.out (by decide)); have hn222_1 : ad222.block ≠ gb215 := Kd.own_blk (Kd.R_ne HO_3.out BK215.out (by decide)); replace hx222_0 := (cell_far (p := ⟨gb215, 1, none⟩) (by first | (rw [add_block]; exact hn222_0) | (show (Addr.add _ _).block ≠ _; rw [add_block]; exact hn222_0) | exact hn222_0) (.int .i64 t220)).trans hx222_0; replace hx222_0 := drewC_ nd hx222_0; replace hx222_0 := (cell_far (p := ⟨gb215, 2, none⟩) (by first | (rw [add_block]; exact hn222_1) | (show (Addr.add _ _).block ≠ _; rw [add_block]; exact hn222_1) | exact hn222_1) (.int .i64 t221)).trans hx222_0; clear hn222_0; clear hn222_1; replace p222 := eq_true p222; replace q222 := eq_true q222) | ((with_reducible refine gate_builtin (b := .append) (xs := #[.tmp 69, .tmp 71]) rfl ?_); at_builtin; refine Kd.R_append k45 (w0 := w) w.heap.size rfl (.tmp 69) (.tmp 71) 22 45 (.agg #[(.int .i64 0), (.int .i64 0), (.int .i64 0), (.int .u32 0)]) 32 rfl Tryd.underlying22 info45 rfl (by decide) (by omega) u4 x4_1 (⟨((rd_T45 l0 x5_1).f0), t220, t221, x216003_14⟩ : S45) [.int .i64 ((rd_T45 l0 x5_1).f0), .int .i64 t220, .int .i64 t221, .int .u32 x216003_14] (fun k_ => k_ ≠ gb215) (fun _ => False) rfl (by first | (go_simp; done) | (go_simp; rfl)) ?aP (fun _ hk => hk.elim) ?aF ?aO ?aB ?aS ?aL ?_; (case aP => exact k45_mkM _ _ _ (⟨((rd_T45 l0 x5_1).f0), t220, t221, x216003_14⟩ : S45)); (case aB => exact (by repeat (first | (with_reducible first | exact HB.out | apply zA | apply zN | apply zD | refine zS ?_ GE215.out) | exact HB.out))); (case aF => exact (fun k_ hk => Kd.freshB (g := gb215) (o := .cells #[.int .i64 ((rd_T45 l0 x5_1).f0), .int .i64 t220, .int .i64 t221, .int .u32 x216003_14] 45 (0, 0)) (by (with_reducible repeat (first | refine kN ?_ _ | refine kD ?_ | refine kA ?_ _)); refine kP (cs := #[.int .i64 ((rd_T45 l0 x5_1).f0), .int .i64 t220, .int .i64 ((rd_T45 l0 x5_1).f2), .int .u32 x216003_14]) ?_ 2 _ rfl; (with_reducible repeat (first | refine kN ?_ _ | refine kD ?_ | refine kA ?_ _)); refine kP (cs := #[.int .i64 ((rd_T45 l0 x5_1).f0), .int .i64 ((rd_T45 l0 x5_1).f1), .int .i64 ((rd_T45 l0 x5_1).f2), .int .u32 x216003_14]) ?_ 1 _ rfl; (with_reducible repeat (first | refine kN ?_ _ | refine kD ?_ | refine kA ?_ _)); exact BK215.out) k_ hk)); (case aO => exact (by (with_reducible repeat (first | apply Kd.R_alloc | apply Kd.R_drewN | apply Kd.R_drew)); exact Kd.R_mono (Kd.R_far (p := ⟨gb215, 2, none⟩) (Kd.R_far (p := ⟨gb215, 1, none⟩) (Kd.R_mono HO_4.out (fun k_ hk => (⟨hk, hk⟩ : _ ∧ k_ ≠ gb215))) (fun _ hk => hk.2) (.int .i64 t220)) (fun _ hk => hk.2) (.int .i64 t221)) (fun _ hk => hk.1))); (case aS => exact (zZ (by repeat (first | (with_reducible first | exact HB.out | apply zA | apply zN | apply zD | refine zS ?_ GE215.out) | exact HB.out)))); (case aL => have := LMc37.out; omega); intro v224 w40 ho hb hg hat; rw [← Ny223.out] at ho; have n0_ := Aside0.mk (Kd.R_over' (by (with_reducible repeat (first | apply Kd.R_alloc | apply Kd.R_drewN | apply Kd.R_drew)); exact (Kd.R_mono (Kd.R_far (p := ⟨gb215, 2, none⟩) (Kd.R_far (p := ⟨gb215, 1, none⟩) (Kd.R_types HO_3.out BK215.out (by decide)) (fun _ hk => hk.2) (.int .i64 t220)) (fun _ hk => hk.2) (.int .i64 t221)) (fun _ h_ => h_.1))) (Kd.R_typed (by (with_reducible repeat (first | apply Kd.R_alloc | apply Kd.R_drewN | apply Kd.R_drew)); exact (Kd.R_mono (Kd.R_far (p := ⟨gb215, 2, none⟩) (Kd.R_far (p := ⟨gb215, 1, none⟩) (Kd.R_mono HO_4.out (fun k_ hk => (⟨hk, hk⟩ : _ ∧ k_ ≠ gb215))) (fun _ hk => hk.2) (.int .i64 t220)) (fun _ hk => hk.2) (.int .i64 t221)) (fun _ h_ => h_.1)))) (by decide) hg); have n1_ := Aside0.mk (kG (g := gb215) (o := .cells #[.int .i64 ((rd_T45 l0 x5_1).f0), .int .i64 t220, .int .i64 t221, .int .u32 x216003_14] 45 (0, 0)) (by (with_reducible repeat (first | refine kN ?_ _ | refine kD ?_ | refine kA ?_ _)); refine kP (cs := #[.int .i64 ((rd_T45 l0 x5_1).f0), .int .i64 t220, .int .i64 ((rd_T45 l0 x5_1).f2), .int .u32 x216003_14]) ?_ 2 _ rfl; (with_reducible repeat (first | refine kN ?_ _ | refine kD ?_ | refine kA ?_ _)); refine kP (cs := #[.int .i64 ((rd_T45 l0 x5_1).f0), .int .i64 ((rd_T45 l0 x5_1).f1), .int .i64 ((rd_T45 l0 x5_1).f2), .int .u32 x216003_14]) ?_ 1 _ rfl; (with_reducible repeat (first | refine kN ?_ _ | refine kD ?_ | refine kA ?_ _)); exact BK215.out) hg (Kd.R_away HO_4.out (fun _ hk => hk))); have n2_ := Aside0.mk (hb); have n3_ := Aside0.mk (ho); clear HO_3; clear BK215; clear HB; clear HO_4; have HO_3 := n0_; have BK215 := n1_; have HB := n2_; have HO225 := n3_; clear n0_ n1_ n2_ n3_; clear ho hb hg hat))
                go_roundg kj19
                case measure => have := HK1.out; have := HJ5.out; have := HJ14.out; have := HJ19.out; omega
                case rel => exact ⟨(y223), (wrap64 (x5_1 + 1)), rfl, H', ⟨by have := HK1.out; have := HJ5.out; have := HJ14.out; have := HJ19.out; omega⟩, ⟨by (with_reducible repeat (first | apply Kd.R_alloc | apply Kd.R_drewN | apply Kd.R_drew)); exact HO_3.out⟩, ⟨by (with_reducible repeat (first | apply Kd.R_alloc | apply Kd.R_drewN | apply Kd.R_drew)); exact Kd.R_mono HO225.out (fun _ hk => trivial)⟩, ⟨by repeat (first | (with_reducible first | exact HB.out | apply zA | apply zN | apply zD | refine zS ?_ GE215.out) | exact HB.out)⟩⟩
               ·rw [if_neg c37] at H
                exact absurd H (by simp)
              ·replace c36 := Bool.eq_false_iff.mpr c36
               subst c36
               rw [if_neg (show ¬ (false = true) by decide)] at H
               have H' := Aside0.mk H
               clear H
               have hcz41_0 : wc.cell? ⟨gb215, 0, none⟩ = some (.int .i64 ((rd_T45 l0 x5_1).f0)) := (kC BK215.out 0).trans rfl
               have hcz41_1 : wc.cell? ⟨gb215, 1, none⟩ = some (.int .i64 ((rd_T45 l0 x5_1).f1)) := (kC BK215.out 1).trans rfl
               have hcz41_2 : wc.cell? ⟨gb215, 2, none⟩ = some (.int .i64 ((rd_T45 l0 x5_1).f2)) := (kC BK215.out 2).trans rfl
               have hcz41_3 : wc.cell? ⟨gb215, 3, none⟩ = some (.int .u32 x216003_14) := (kC BK215.out 3).trans rfl
               have hfz41_0 := kF BK215.out 0
               have hfz41_1 := kF BK215.out 1
               have hfz41_2 := kF BK215.out 2
               have hfz41_3 := kF BK215.out 3
               obtain ⟨Ao42, co42, eo42⟩ := Kd.R_slice HO_3.out
               subst eo42
               go_wp2_with (first | ((with_reducible refine gate_callee (f := 24) rfl ?_); refine goesL_ (some 54) rfl rfl Tryd.func24 (by kernel_rfl) rfl #[.slice Ao42 t211.length co42, .int .i64 x5_1, .int .i64 (wrap64 ((wrap64 (x5_1 + 1)) + ((rd_T45 l0 x5_1).f1)))] rfl (by (try simp only [List.map_toArray, List.map_cons, List.map_nil]); first | done | rfl | (simp only [List.length_drop, List.length_take]; rfl)) ?_; (with_reducible refine (hurdleref23_between.calls kj19 _ _ t211 x5_1 (wrap64 ((wrap64 (x5_1 + 1)) + ((rd_T45 l0 x5_1).f1))) t220 _ ?side1 ?side2 A31.out).mono ?_); (case side1 => repeat (first | exact (Kd.R_reads' HO_3.out).2.2 | (with_reducible refine Kd.C_alloc ?_ _) | (with_reducible refine Kd.C_drewN ?_ _) | (with_reducible refine Kd.C_drew ?_))); (case side2 => exact (Kd.R_reads' HO_3.out).2.1); rintro e w' ⟨rfl, ⟨nd, rfl⟩⟩; refine ⟨_, rfl, ?_⟩; (try (rw [drewN_self wc]; generalize hq_ : World.drewN wc _ = wc; have n0_ : Aside0 (Kd.R Kd.bool 4 wc w.heap.size (fun _ => True) (.slice Ao42 t211.length co42) t211) := ⟨by rw [← hq_]; exact HO_3.out⟩; have n1_ : Aside0 (Kd.R k45 45 wc w.heap.size (fun k_ => k_ ≠ gb215) u4 x4_1) := ⟨by rw [← hq_]; exact HO_4.out⟩; have n2_ : Aside0 (wc.heap[gb215]? = some (.cells #[.int .i64 ((rd_T45 l0 x5_1).f0), .int .i64 ((rd_T45 l0 x5_1).f1), .int .i64 ((rd_T45 l0 x5_1).f2), .int .u32 x216003_14] 45 (0, 0))) := ⟨by rw [← hq_]; exact BK215.out⟩; have n3_ : Aside0 (Below w.heap.size w wc) := ⟨by rw [← hq_]; exact (by repeat (first | (with_reducible first | exact HB.out | apply zA | apply zN | apply zD | refine zS ?_ GE215.out) | exact HB.out))⟩; clear HO_3 HO_4 BK215 HB hq_; have HO_3 := n0_; have HO_4 := n1_; have BK215 := n2_; have HB := n3_; clear n0_ n1_ n2_ n3_; have hqf0_ := kF BK215.out 0; have hqc0_ : wc.cell? ⟨gb215, 0, none⟩ = some (.int .i64 ((rd_T45 l0 x5_1).f0)) := (kC BK215.out 0).trans rfl; have hqf1_ := kF BK215.out 1; have hqc1_ : wc.cell? ⟨gb215, 1, none⟩ = some (.int .i64 ((rd_T45 l0 x5_1).f1)) := (kC BK215.out 1).trans rfl; have hqf2_ := kF BK215.out 2; have hqc2_ : wc.cell? ⟨gb215, 2, none⟩ = some (.int .i64 ((rd_T45 l0 x5_1).f2)) := (kC BK215.out 2).trans rfl; have hqf3_ := kF BK215.out 3; have hqc3_ : wc.cell? ⟨gb215, 3, none⟩ = some (.int .u32 x216003_14) := (kC BK215.out 3).trans rfl))) | ((with_reducible refine gate_callee (f := 24) rfl ?_); refine goesL_ (some 63) rfl rfl Tryd.func24 (by kernel_rfl) rfl #[.slice Ao42 t211.length co42, .int .i64 x5_1, .int .i64 (wrap64 ((wrap64 (x5_1 + 1)) + ((rd_T45 l0 x5_1).f2)))] rfl (by (try simp only [List.map_toArray, List.map_cons, List.map_nil]); first | done | rfl | (simp only [List.length_drop, List.length_take]; rfl)) ?_; (with_reducible refine (hurdleref23_between.calls kj19 _ _ t211 x5_1 (wrap64 ((wrap64 (x5_1 + 1)) + ((rd_T45 l0 x5_1).f2))) t221 _ ?side1 ?side2 A32.out).mono ?_); (case side1 => refine (Kd.R_reads' (e := 4) (base := w.heap.size) (ok := fun k_ => True) (n := t211.length) (c := co42) ?_).2.2; exact (by (with_reducible repeat (first | apply Kd.R_alloc | apply Kd.R_drewN | apply Kd.R_drew)); exact (Kd.R_mono (Kd.R_far (p := ⟨gb215, 1, none⟩) (Kd.R_types HO_3.out BK215.out (by decide)) (fun _ hk => hk.2) (.int .i64 t220)) (fun _ h_ => h_.1)))); (case side2 => exact (Kd.R_reads' HO_3.out).2.1); rintro e w' ⟨rfl, ⟨nd, rfl⟩⟩; refine ⟨_, rfl, ?_⟩; have p222 : 0 ≤ (x5_1 : Int) := oD (by assumption); have q222 : x5_1 < (t211.length : Int) := oD (by assumption); obtain ⟨ad222, e222, hx222_0⟩ := Kd.at_bool (Kd.R_reads' HO_3.out).2.2 x5_1 p222 q222; (try rw [← Nbq35.out] at hx222_0); cases e222; have hn222_0 : ad222.block ≠ gb215 := Kd.own_blk (Kd.R_ne HO_3.out BK215.out (by decide)); have hn222_1 : ad222.block ≠ gb215 := Kd.own_blk (Kd.R_ne HO_3.out BK215.out (by decide)); replace hx222_0 := (cell_far (p := ⟨gb215, 1, none⟩) (by first | (rw [add_block]; exact hn222_0) | (show (Addr.add _ _).block ≠ _; rw [add_block]; exact hn222_0) | exact hn222_0) (.int .i64 t220)).trans hx222_0; replace hx222_0 := drewC_ nd hx222_0; replace hx222_0 := (cell_far (p := ⟨gb215, 2, none⟩) (by first | (rw [add_block]; exact hn222_1) | (show (Addr.add _ _).block ≠ _; rw [add_block]; exact hn222_1) | exact hn222_1) (.int .i64 t221)).trans hx222_0; clear hn222_0; clear hn222_1; replace p222 := eq_true p222; replace q222 := eq_true q222))
               go_roundg kj19
               case measure => have := HK1.out; have := HJ5.out; have := HJ14.out; have := HJ19.out; omega
               case rel => exact ⟨(x4_1), (wrap64 (x5_1 + 1)), rfl, H', ⟨by have := HK1.out; have := HJ5.out; have := HJ14.out; have := HJ19.out; omega⟩, ⟨by (with_reducible repeat (first | apply Kd.R_alloc | apply Kd.R_drewN | apply Kd.R_drew)); exact Kd.R_mono (Kd.R_far (p := ⟨gb215, 2, none⟩) (Kd.R_far (p := ⟨gb215, 1, none⟩) (Kd.R_types HO_3.out BK215.out (by decide)) (fun _ hk => hk.2) (.int .i64 t220)) (fun _ hk => hk.2) (.int .i64 t221)) (fun _ hk => trivial)⟩, ⟨by (with_reducible repeat (first | apply Kd.R_alloc | apply Kd.R_drewN | apply Kd.R_drew)); exact Kd.R_mono (Kd.R_far (p := ⟨gb215, 2, none⟩) (Kd.R_far (p := ⟨gb215, 1, none⟩) (Kd.R_mono HO_4.out (fun k_ hk => (⟨hk, hk⟩ : _ ∧ k_ ≠ gb215))) (fun _ hk => hk.2) (.int .i64 t220)) (fun _ hk => hk.2) (.int .i64 t221)) (fun _ hk => trivial)⟩, ⟨by repeat (first | (with_reducible first | exact HB.out | apply zA | apply zN | apply zD | refine zS ?_ GE215.out) | exact HB.out)⟩⟩
             ·rw [if_neg c34] at H
              exact absurd H (by simp)
            ·rw [if_neg c33] at H
             exact absurd H (by simp)
           ·replace c30 := Bool.eq_false_iff.mpr c30
            subst c30
            rw [if_neg (show ¬ (false = true) by decide)] at H
            by_cases c43 : 0 ≤ x5_1
            ·rw [if_pos c43] at H
             have c43b0 : decide (0 ≤ x5_1) = true := dT c43
             clear c43
             by_cases c44 : x5_1 < (t211.length : Int)
             ·rw [if_pos c44] at H
              have c44b0 : decide (x5_1 < (t211.length : Int)) = true := dT c44
              clear c44
              obtain ⟨bq45, hbq45⟩ : ∃ b_ : Bool, b_ = (rdOf false t211 x5_1) := ⟨_, rfl⟩
              replace H : (if bq45 = true then (if x4_1.length < 4398046511104 then (hurdleref23_Prune.l0 kj19 l0 t211 (x4_1 ++ [(⟨((rd_T45 l0 x5_1).f0), ((rd_T45 l0 x5_1).f1), ((rd_T45 l0 x5_1).f2), x216003_14⟩ : S45)]) (wrap64 (x5_1 + 1))) else (none)) else (hurdleref23_Prune.l0 kj19 l0 t211 x4_1 (wrap64 (x5_1 + 1)))) = some r := by rw [← hbq45] at H; exact H
              have Nbq45 := Aside0.mk hbq45
              clear hbq45
              by_cases c46 : bq45 = true
              ·subst c46
               rw [if_pos rfl] at H
               by_cases c47 : x4_1.length < 4398046511104
               ·rw [if_pos c47] at H
                have LMc47 := Aside0.mk c47
                clear c47
                obtain ⟨y227, hy227⟩ : ∃ y_ : List (S45), y_ = (x4_1 ++ [(⟨((rd_T45 l0 x5_1).f0), ((rd_T45 l0 x5_1).f1), ((rd_T45 l0 x5_1).f2), x216003_14⟩ : S45)]) := ⟨_, rfl⟩
                simp only [Option.bind_some, ← hy227] at H
                have Ny227 := Aside0.mk hy227
                clear hy227
                have H' := Aside0.mk H
                clear H
                obtain ⟨Ao48, co48, eo48⟩ := Kd.R_slice HO_3.out
                subst eo48
                have p226 : 0 ≤ (x5_1 : Int) := oD (by assumption)
                have q226 : x5_1 < (t211.length : Int) := oD (by assumption)
                obtain ⟨ad226, e226, hx226_0⟩ := Kd.at_bool (Kd.R_reads' HO_3.out).2.2 x5_1 p226 q226
                (try rw [← Nbq45.out] at hx226_0)
                cases e226
                replace p226 := eq_true p226
                replace q226 := eq_true q226
                have hcz49_0 : wc.cell? ⟨gb215, 0, none⟩ = some (.int .i64 ((rd_T45 l0 x5_1).f0)) := (kC BK215.out 0).trans rfl
                have hcz49_1 : wc.cell? ⟨gb215, 1, none⟩ = some (.int .i64 ((rd_T45 l0 x5_1).f1)) := (kC BK215.out 1).trans rfl
                have hcz49_2 : wc.cell? ⟨gb215, 2, none⟩ = some (.int .i64 ((rd_T45 l0 x5_1).f2)) := (kC BK215.out 2).trans rfl
                have hcz49_3 : wc.cell? ⟨gb215, 3, none⟩ = some (.int .u32 x216003_14) := (kC BK215.out 3).trans rfl
                have hfz49_0 := kF BK215.out 0
                have hfz49_1 := kF BK215.out 1
                have hfz49_2 := kF BK215.out 2
                have hfz49_3 := kF BK215.out 3
                go_wp2_with (first | ((with_reducible refine gate_builtin (b := .append) (xs := #[.tmp 69, .tmp 71]) rfl ?_); at_builtin; refine Kd.R_append k45 (w0 := w) w.heap.size rfl (.tmp 69) (.tmp 71) 22 45 (.agg #[(.int .i64 0), (.int .i64 0), (.int .i64 0), (.int .u32 0)]) 32 rfl Tryd.underlying22 info45 rfl (by decide) (by omega) u4 x4_1 (⟨((rd_T45 l0 x5_1).f0), ((rd_T45 l0 x5_1).f1), ((rd_T45 l0 x5_1).f2), x216003_14⟩ : S45) [.int .i64 ((rd_T45 l0 x5_1).f0), .int .i64 ((rd_T45 l0 x5_1).f1), .int .i64 ((rd_T45 l0 x5_1).f2), .int .u32 x216003_14] (fun k_ => k_ ≠ gb215) (fun _ => False) rfl rfl ?aP (fun _ hk => hk.elim) ?aF ?aO ?aB ?aS ?aL ?_; (case aP => exact k45_mkM _ _ _ (⟨((rd_T45 l0 x5_1).f0), ((rd_T45 l0 x5_1).f1), ((rd_T45 l0 x5_1).f2), x216003_14⟩ : S45)); (case aB => exact HB.out); (case aF => exact (fun k_ hk => Kd.freshB BK215.out k_ hk)); (case aO => exact HO_4.out); (case aS => exact (zZ HB.out)); (case aL => have := LMc47.out; omega); intro v228 w50 ho hb hg hat; rw [← Ny227.out] at ho; have n0_ := Aside0.mk (Kd.R_over' HO_3.out (Kd.R_typed HO_4.out) (by decide) hg); have n1_ := Aside0.mk (kG BK215.out hg (Kd.R_away HO_4.out (fun _ hk => hk))); have n2_ := Aside0.mk (hb); have n3_ := Aside0.mk (ho); clear HO_3; clear BK215; clear HB; clear HO_4; have HO_3 := n0_; have BK215 := n1_; have HB := n2_; have HO229 := n3_; clear n0_ n1_ n2_ n3_; clear ho hb hg hat))
                go_roundg kj19
                case measure => have := HK1.out; have := HJ5.out; have := HJ14.out; have := HJ19.out; omega
                case rel => exact ⟨(y227), (wrap64 (x5_1 + 1)), rfl, H', ⟨by have := HK1.out; have := HJ5.out; have := HJ14.out; have := HJ19.out; omega⟩, ⟨by (with_reducible repeat (first | apply Kd.R_alloc | apply Kd.R_drewN | apply Kd.R_drew)); exact HO_3.out⟩, ⟨by (with_reducible repeat (first | apply Kd.R_alloc | apply Kd.R_drewN | apply Kd.R_drew)); exact Kd.R_mono HO229.out (fun _ hk => trivial)⟩, ⟨by repeat (first | (with_reducible first | exact HB.out | apply zA | apply zN | apply zD | refine zS ?_ GE215.out) | exact HB.out)⟩⟩
               ·rw [if_neg c47] at H
                exact absurd H (by simp)
              ·replace c46 := Bool.eq_false_iff.mpr c46
               subst c46
               rw [if_neg (show ¬ (false = true) by decide)] at H
               have H' := Aside0.mk H
               clear H
               obtain ⟨Ao51, co51, eo51⟩ := Kd.R_slice HO_3.out
               subst eo51
               have p226 : 0 ≤ (x5_1 : Int) := oD (by assumption)
               have q226 : x5_1 < (t211.length : Int) := oD (by assumption)
               obtain ⟨ad226, e226, hx226_0⟩ := Kd.at_bool (Kd.R_reads' HO_3.out).2.2 x5_1 p226 q226
               (try rw [← Nbq45.out] at hx226_0)
               cases e226
               replace p226 := eq_true p226
               replace q226 := eq_true q226
               go_wp2
               go_roundg kj19
               case measure => have := HK1.out; have := HJ5.out; have := HJ14.out; have := HJ19.out; omega
               case rel => exact ⟨(x4_1), (wrap64 (x5_1 + 1)), rfl, H', ⟨by have := HK1.out; have := HJ5.out; have := HJ14.out; have := HJ19.out; omega⟩, ⟨by (with_reducible repeat (first | apply Kd.R_alloc | apply Kd.R_drewN | apply Kd.R_drew)); exact HO_3.out⟩, ⟨by (with_reducible repeat (first | apply Kd.R_alloc | apply Kd.R_drewN | apply Kd.R_drew)); exact Kd.R_mono HO_4.out (fun _ hk => trivial)⟩, ⟨by repeat (first | (with_reducible first | exact HB.out | apply zA | apply zN | apply zD | refine zS ?_ GE215.out) | exact HB.out)⟩⟩
             ·rw [if_neg c44] at H
              exact absurd H (by simp)
            ·rw [if_neg c43] at H
             exact absurd H (by simp)
    ·rw [if_neg c5] at H
     exact absurd H (by simp)
   ·rw [if_neg c4] at H
    have c4b0 : decide (x5_1 < (l0.length : Int)) = false := dF c4
    clear c4
    obtain rfl := Option.some.inj H
    go_wp2
    go_ret
    exact ⟨_, by first | rfl | (simp [*] <;> rfl), by (with_reducible repeat (first | apply Kd.R_alloc | apply Kd.R_drewN | apply Kd.R_drew)); exact HO_4.out, by repeat (first | (with_reducible first | exact HB.out | apply zA | apply zN | apply zD) | exact HB.out)⟩
end Go.Proofs.YtohpbjnihmcelaaDoor.M
