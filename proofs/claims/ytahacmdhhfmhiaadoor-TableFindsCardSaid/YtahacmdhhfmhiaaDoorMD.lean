/- What Go functions compute; their calls come to it. No condition. -/
import Derived.Test.YtahacmdhhfmhiaaDoorM0
import Derived.Test.YtahacmdhhfmhiaaDoorM7
import Derived.Test.YtahacmdhhfmhiaaDoorMA
import Derived.Test.YtahacmdhhfmhiaaDoorM12
namespace Go.Proofs.YtahacmdhhfmhiaaDoor.M
open Go.RowKit Go.Proofs.YtahacmdhhfmhiaaDoorW.PrintWords Go.Proofs.YtahacmdhhfmhiaaDoorW.PrintLast Go.Proofs.YtahacmdhhfmhiaaDoorW.PrintMore
attribute [local go_sem] max2_int min2_int max_two min_two max_three min_three max_four min_four   -- for this text's walks alone
set_option linter.unusedVariables false
set_option linter.unusedSimpArgs false
def table_place.l0 : Nat → List (S42) → List (S42) → Int → Int → List (S59) → List (S59) → Int → Option (Int × Bool)
 | 0, _, _, _, _, _, _, _ => none
 | k + 1, x0, x10, x11, x12, x306000, x306001, x306002 => if x12 < x11 then (if 0 ≤ x12 then (if x12 < (x10.length : Int) then ((table_Rule_bytes.f k ((rd_T42 x10 x12).f0) ((rd_T42 x10 x12).f1) ((rd_T42 x10 x12).f2)).bind fun t308 => ((table_Rule_bytes.f k x306000 x306001 x306002).bind fun t309 => (if ((Op.bytesLess t308.toList t309.toList) = true) then (table_place.l0 k x0 x10 x11 (wrap64 (x12 + 1)) x306000 x306001 x306002) else ((table_Rule_bytes.f k ((rd_T42 x10 x12).f0) ((rd_T42 x10 x12).f1) ((rd_T42 x10 x12).f2)).bind fun t310 => ((table_Rule_bytes.f k x306000 x306001 x306002).bind fun t311 => (some (x12, (t310.toList == t311.toList)))))))) else (none)) else (none)) else (some ((x0.length : Int), false))
def table_place.f (k : Nat) (l0 : List (S42)) (l1_0 : List (S59)) (l1_1 : List (S59)) (a1_2 : Int) : Option (Int × Bool) := table_place.l0 k l0 l0 (l0.length : Int) 0 l1_0 l1_1 a1_2
theorem table_place.mono_l : ∀ k, (∀ y0 y1 y2 y3 y4 y5 y6, LeO (table_place.l0 k y0 y1 y2 y3 y4 y5 y6) (table_place.l0 (k + 1) y0 y1 y2 y3 y4 y5 y6))
 | 0 => fun _ _ _ _ _ _ _ r h => by simp [table_place.l0] at h
 | k + 1 => by
  have ih0 := table_place.mono_l k
  ·intro y0 y1 y2 y3 y4 y5 y6
   unfold table_place.l0
   repeat' first
   | (with_reducible apply ih0)
   | (with_reducible apply table_Rule_bytes.mono)
   | (with_reducible exact LeO.refl _)
   | (with_reducible exact LeO.none _)
   | (with_reducible refine LeO.ite ?_ ?_)
   | (with_reducible refine LeO.bind ?_ (fun _ => ?_))
   | apply ih0
   | apply table_Rule_bytes.mono
   | exact LeO.none _
   | refine LeO.ite ?_ ?_
   | refine LeO.bind ?_ (fun _ => ?_)
theorem table_place.mono : ∀ a0 a1 a2 a3 k, LeO (table_place.f k a0 a1 a2 a3) (table_place.f (k + 1) a0 a1 a2 a3) := by
 intro a0 a1 a2 a3 k
 have ih0 := table_place.mono_l k
 unfold table_place.f
 repeat' first
   | (with_reducible apply ih0)
   | (with_reducible apply table_Rule_bytes.mono)
   | (with_reducible exact LeO.refl _)
   | (with_reducible exact LeO.none _)
   | (with_reducible refine LeO.ite ?_ ?_)
   | (with_reducible refine LeO.bind ?_ (fun _ => ?_))
   | apply ih0
   | apply table_Rule_bytes.mono
   | exact LeO.none _
   | refine LeO.ite ?_ ?_
   | refine LeO.bind ?_ (fun _ => ?_)
def table_place.T5 : Bool × List (List Nat × List Nat) := (true, [([], []), ([], []), ([], []), ([1, 2], [1, 2]), ([], []), ([], []), ([4, 5, 3], [4, 5]), ([3, 6], [3, 6]), ([0, 6, 0], [0]), ([7, 8, 0, 1, 2, 3, 4, 5, 6, 7, 8], [7])])
def table_place.B5 : List Nat := [0, 0, 0, 6, 0, 0, 62, 126, 127, 511]
theorem table_place.tab5 : rtab .any (opsOf Tryd.f37 5) = table_place.T5 := by kernel_rfl
theorem table_place.bits5 : waitsOk table_place.T5.2 table_place.B5 = true := by kernel_rfl
set_option maxHeartbeats 8000000 in
set_option maxRecDepth 100000 in
theorem table_place.calls (k : Nat) (A0 : Option Addr) (c0 : Nat) (l0 : List (S42)) (A1_0 : Option Addr) (c1_0 : Nat) (l1_0 : List (S59)) (A1_1 : Option Addr) (c1_1 : Nat) (l1_1 : List (S59)) (a1_2 : Int) (r1 : Int) (r2 : Bool) (w : World) (hr0 : Kd.C k42 w A0 l0.length l0) (hc0 : l0.length ≤ c0) (hr1_0 : Kd.C k59 w A1_0 l1_0.length l1_0) (hc1_0 : l1_0.length ≤ c1_0) (hr1_1 : Kd.C k59 w A1_1 l1_1.length l1_1) (hc1_1 : l1_1.length ≤ c1_1) (hG : Glob w) (h : table_place.f k l0 l1_0 l1_1 a1_2 = some (r1, r2)) :
  Calls Tryd.prog 37 #[.slice A0 l0.length c0, .agg #[.slice A1_0 l1_0.length c1_0, .slice A1_1 l1_1.length c1_1, .int .u32 a1_2], .func (.func 28) #[] #[]] w fun e w' => e = .returned (.tuple #[.int .i64 r1, .bool r2]) ∧ Below w.heap.size w w' := by
 have hu42 := Tryd.underlying42
 have HG := Aside0.mk hG
 clear hG
 have HR0 := Aside0.mk hr0
 have HC0 := Aside0.mk hc0
 clear hr0 hc0
 have HR1_0 := Aside0.mk hr1_0
 have HC1_0 := Aside0.mk hc1_0
 clear hr1_0 hc1_0
 have HR1_1 := Aside0.mk hr1_1
 have HC1_1 := Aside0.mk hc1_1
 clear hr1_1 hc1_1
 have HB := Aside0.mk (Below.refl w.heap.size w)
 have H : (table_place.l0 k l0 l0 (l0.length : Int) 0 l1_0 l1_1 a1_2) = some (r1, r2) := h
 clear h
 have H' := Aside0.mk H
 clear H
 go_enter Tryd.func37, Tryd.ntmps37
 go_wp2_with (first | ((with_reducible refine gate_dst (N := 4) rfl ?_); refine box_event rfl (N := 4) rfl (cs := #[.slice A1_0 l1_0.length c1_0, .slice A1_1 l1_1.length c1_1, .int .u32 a1_2]) (t := 42) jW ?_; intro gb305 hg w3 hbox hb; have BK305 := Aside0.mk hbox; have GW305 := Aside0.mk (jG hg HB); have GE305 := Aside0.mk (jG hg HB); replace HB := Aside0.mk (zT (jH HB) hb); clear hb hbox hg))
 go_loopg [12] k (fun kq v12 w' => ∃ (x12_1 : Int), v12 = .int .i64 x12_1 ∧ Aside0 (table_place.l0 kq l0 l0 (l0.length : Int) x12_1 l1_0 l1_1 a1_2 = some (r1, r2)) ∧ Aside0 (kq ≤ k) ∧ Aside0 (w'.heap[gb305]? = some (.cells #[(.slice A1_0 l1_0.length c1_0), (.slice A1_1 l1_1.length c1_1), .int .u32 a1_2] 42 (0, 0))) ∧ Aside0 (Below w.heap.size w w'))
 case atStart => exact ⟨(0), jS, H', ⟨Nat.le_refl _⟩, ⟨jK BK305⟩, ⟨jH HB⟩⟩
 case round =>
  clear H'
  obtain ⟨x12_1, rfl, HA, HK1, BK305, HB⟩ := hrel
  cases gk with
  | zero => exact absurd HA.out (by simp [table_place.l0])
  | succ k1 =>
   have H := HA.out
   clear HA
   simp only [table_place.l0] at H
   by_cases c4 : x12_1 < (l0.length : Int)
   ·rw [if_pos c4] at H
    have c4b0 : decide (x12_1 < (l0.length : Int)) = true := dT c4
    clear c4
    by_cases c5 : 0 ≤ x12_1
    ·rw [if_pos c5] at H
     have c5b0 : decide (0 ≤ x12_1) = true := dT c5
     clear c5
     by_cases c6 : x12_1 < (l0.length : Int)
     ·rw [if_pos c6] at H
      have c6b0 : decide (x12_1 < (l0.length : Int)) = true := dT c6
      clear c6
      replace H := Option.bind_eq_some_iff.mp H
      obtain ⟨t308, A70, H⟩ := H
      try dsimp only at H
      have A7 := Aside0.mk A70
      clear A70
      replace H := Option.bind_eq_some_iff.mp H
      obtain ⟨t309, A80, H⟩ := H
      try dsimp only at H
      have A8 := Aside0.mk A80
      clear A80
      by_cases c9 : ((Op.bytesLess t308.toList t309.toList) = true)
      ·rw [if_pos c9] at H
       have c9b0 : (Op.bytesLess t308.toList t309.toList) = true := c9
       clear c9
       have H' := Aside0.mk H
       clear H
       have p306 : 0 ≤ (x12_1 : Int) := oD (jA)
       have q306 : x12_1 < (l0.length : Int) := oD (jA)
       obtain ⟨ad306, A306_0, c306_0, A306_1, c306_1, e306, hx306_0, hx306_1, hx306_2, hl306_0, hi306_0, hl306_1, hi306_1⟩ := at_T42 HR0.out x12_1 p306 q306
       cases e306
       replace hx306_0 := (HB.out.cell (bL w _ hx306_0)).trans hx306_0
       replace hx306_1 := (HB.out.cell (bL w _ hx306_1)).trans hx306_1
       replace hx306_2 := (HB.out.cell (bL w _ hx306_2)).trans hx306_2
       have HR306_0 := Aside0.mk hi306_0
       have HC306_0 := Aside0.mk hl306_0
       clear hi306_0 hl306_0
       have HR306_1 := Aside0.mk hi306_1
       have HC306_1 := Aside0.mk hl306_1
       clear hi306_1 hl306_1
       replace p306 := eq_true p306
       replace q306 := eq_true q306
       try go_wp2_with (first | ((with_reducible refine gate_dst (N := 9) rfl ?_); refine box_event rfl (N := 9) rfl (cs := #[.slice none 0 0, .slice none 0 0, .int .u32 0]) (t := 42) jW ?_; intro gb307 hg w10 hbox hb; have BK307 := Aside0.mk hbox; have GW307 := Aside0.mk (jG hg HB); have GE307 := Aside0.mk (jG hg HB); have NB305_307 := Aside0.mk (jN hg BK305); have NB307_305 := Aside0.mk (jM hg BK305); replace BK305 := Aside0.mk (jB BK305 hb); replace HB := Aside0.mk (zT (jH HB) hb); clear hb hbox hg; have hnb11 := NB307_305.out; have hnc11 := NB305_307.out; obtain ⟨hcz12_0, hcz12_1, hcz12_2, hfz12_0, hfz12_1, hfz12_2⟩ := kQ3 BK307.out))
       have n0_ : Aside0 ((((w10.setCell ⟨gb307, 0, none⟩ (.slice A306_0 ((rd_T42 l0 x12_1).f0).length c306_0)).setCell ⟨gb307, 1, none⟩ (.slice A306_1 ((rd_T42 l0 x12_1).f1).length c306_1)).setCell ⟨gb307, 2, none⟩ (.int .u32 ((rd_T42 l0 x12_1).f2))).heap[gb305]? = some (.cells #[.slice A1_0 l1_0.length c1_0, .slice A1_1 l1_1.length c1_1, .int .u32 a1_2] 42 (0, 0))) := ⟨by (with_reducible repeat (first | refine kN ?_ _ | refine kD ?_ | refine kA ?_ _)); refine kR ?_ NB305_307.out _; (with_reducible repeat (first | refine kN ?_ _ | refine kD ?_ | refine kA ?_ _)); refine kR ?_ NB305_307.out _; (with_reducible repeat (first | refine kN ?_ _ | refine kD ?_ | refine kA ?_ _)); refine kR ?_ NB305_307.out _; (with_reducible repeat (first | refine kN ?_ _ | refine kD ?_ | refine kA ?_ _)); exact BK305.out⟩
       have n1_ : Aside0 ((((w10.setCell ⟨gb307, 0, none⟩ (.slice A306_0 ((rd_T42 l0 x12_1).f0).length c306_0)).setCell ⟨gb307, 1, none⟩ (.slice A306_1 ((rd_T42 l0 x12_1).f1).length c306_1)).setCell ⟨gb307, 2, none⟩ (.int .u32 ((rd_T42 l0 x12_1).f2))).heap[gb307]? = some (.cells #[.slice A306_0 ((rd_T42 l0 x12_1).f0).length c306_0, .slice A306_1 ((rd_T42 l0 x12_1).f1).length c306_1, .int .u32 ((rd_T42 l0 x12_1).f2)] 42 (0, 0))) := ⟨by (with_reducible repeat (first | refine kN ?_ _ | refine kD ?_ | refine kA ?_ _)); refine kP (cs := #[.slice A306_0 ((rd_T42 l0 x12_1).f0).length c306_0, .slice A306_1 ((rd_T42 l0 x12_1).f1).length c306_1, .int .u32 0]) ?_ 2 _ rfl; (with_reducible repeat (first | refine kN ?_ _ | refine kD ?_ | refine kA ?_ _)); refine kP (cs := #[.slice A306_0 ((rd_T42 l0 x12_1).f0).length c306_0, .slice none 0 0, .int .u32 0]) ?_ 1 _ rfl; (with_reducible repeat (first | refine kN ?_ _ | refine kD ?_ | refine kA ?_ _)); refine kP (cs := #[.slice none 0 0, .slice none 0 0, .int .u32 0]) ?_ 0 _ rfl; (with_reducible repeat (first | refine kN ?_ _ | refine kD ?_ | refine kA ?_ _)); exact BK307.out⟩
       have n2_ : Aside0 (Below w.heap.size w (((w10.setCell ⟨gb307, 0, none⟩ (.slice A306_0 ((rd_T42 l0 x12_1).f0).length c306_0)).setCell ⟨gb307, 1, none⟩ (.slice A306_1 ((rd_T42 l0 x12_1).f1).length c306_1)).setCell ⟨gb307, 2, none⟩ (.int .u32 ((rd_T42 l0 x12_1).f2)))) := ⟨jH HB⟩
       (try clear BK305)
       (try clear BK307)
       (try clear HB)
       generalize (((w10.setCell ⟨gb307, 0, none⟩ (.slice A306_0 ((rd_T42 l0 x12_1).f0).length c306_0)).setCell ⟨gb307, 1, none⟩ (.slice A306_1 ((rd_T42 l0 x12_1).f1).length c306_1)).setCell ⟨gb307, 2, none⟩ (.int .u32 ((rd_T42 l0 x12_1).f2))) = w13 at n0_ n1_ n2_ ⊢
       have BK305 := n0_
       have BK307 := n1_
       have HB := n2_
       clear n0_ n1_ n2_
       replace BK305 := Aside0.mk (kD BK305.out)
       replace BK307 := Aside0.mk (kD BK307.out)
       replace HB := Aside0.mk (zD HB.out)
       have hgeq_ := fun W => str_geq (P := Tryd.prog) W 9 t308 t309
       refine start_ (n := 7) (S := fun w' => w'.cell? ⟨gb307, 0, none⟩ = some (.slice A306_0 ((rd_T42 l0 x12_1).f0).length c306_0) ∧ w'.cell? ⟨gb307, 1, none⟩ = some (.slice A306_1 ((rd_T42 l0 x12_1).f1).length c306_1) ∧ w'.cell? ⟨gb307, 2, none⟩ = some (.int .u32 ((rd_T42 l0 x12_1).f2)) ∧ w'.cell? ⟨gb305, 0, none⟩ = some (.slice A1_0 l1_0.length c1_0) ∧ w'.cell? ⟨gb305, 1, none⟩ = some (.slice A1_1 l1_1.length c1_1) ∧ w'.cell? ⟨gb305, 2, none⟩ = some (.int .u32 a1_2)) (ds := []) #[false, false, false, false, false, false, false] (by kernel_rfl) rfl rfl ⟨(kC BK307.out 0).trans rfl, (kC BK307.out 1).trans rfl, (kC BK307.out 2).trans rfl, (kC BK305.out 0).trans rfl, (kC BK305.out 1).trans rfl, (kC BK305.out 2).trans rfl⟩ (fun hHeld => ?_)
       generalize w13.drew = w14 at BK305 BK307 HB hHeld ⊢
       refine qP 0 17 (tB 7 1) ?_
       refine qP 3 20 (tB 7 9) ?_
       refine qT 1 18 (tB 7 11) hHeld ?_ (hv := by rintro w' ⟨s0, s1, s2, s3, s4, s5⟩; go_simp; with_reducible rfl)
       refine qT 4 21 (tB 7 27) hHeld ?_ (hv := by rintro w' ⟨s0, s1, s2, s3, s4, s5⟩; go_simp; with_reducible rfl)
       refine one_ (i := 2) (N := some 19) (tB 7 31) rfl rfl (by kernel_rfl) (by decide) (fun K hK => ?_)
       refine goesV_ Tryd.func28 (by kernel_rfl) rfl #[.agg #[.slice A306_0 ((rd_T42 l0 x12_1).f0).length c306_0, .slice A306_1 ((rd_T42 l0 x12_1).f1).length c306_1, .int .u32 ((rd_T42 l0 x12_1).f2)]] (by rfl) rfl rfl rfl jZ ?_
       with_reducible refine (table_Rule_bytes.calls k1 _ _ ((rd_T42 l0 x12_1).f0) _ _ ((rd_T42 l0 x12_1).f1) ((rd_T42 l0 x12_1).f2) t308 _ ?side1 ?side2 ?side3 ?side4 ?side5 A7.out).mono ?_
       (case side1 => exact jC (Kd.C_below HR306_0.out HB.out))
       (case side2 => exact HC306_0.out)
       (case side3 => exact jC (Kd.C_below HR306_1.out HB.out))
       (case side4 => exact HC306_1.out)
       (case side5 => exact Glob.below HG.out (jH HB))
       rintro e w15 ⟨rfl, hb⟩
       refine ⟨_, rfl, ?_⟩
       replace BK305 := Aside0.mk (jB BK305 hb)
       replace BK307 := Aside0.mk (jB BK307 hb)
       replace HB := Aside0.mk (zT (jH HB) hb)
       (try clear hb)
       (try clear hb2)
       (try clear hk)
       (try clear hi)
       refine hK.out _ _ ⟨(kC BK307.out 0).trans rfl, (kC BK307.out 1).trans rfl, (kC BK307.out 2).trans rfl, (kC BK305.out 0).trans rfl, (kC BK305.out 1).trans rfl, (kC BK305.out 2).trans rfl⟩ (fun hHeld => ?_)
       clear hK K
       refine qN 19 ?_
       refine one_ (i := 5) (N := some 22) (tB 7 63) rfl rfl (by kernel_rfl) (by decide) (fun K hK => ?_)
       refine goesV_ Tryd.func28 (by kernel_rfl) rfl #[.agg #[.slice A1_0 l1_0.length c1_0, .slice A1_1 l1_1.length c1_1, .int .u32 a1_2]] (by rfl) rfl rfl rfl jZ ?_
       with_reducible refine (table_Rule_bytes.calls k1 _ _ l1_0 _ _ l1_1 a1_2 t309 _ ?side1 ?side2 ?side3 ?side4 ?side5 A8.out).mono ?_
       (case side1 => exact jC (Kd.C_below HR1_0.out HB.out))
       (case side2 => exact HC1_0.out)
       (case side3 => exact jC (Kd.C_below HR1_1.out HB.out))
       (case side4 => exact HC1_1.out)
       (case side5 => exact Glob.below HG.out (jH HB))
       rintro e w16 ⟨rfl, hb⟩
       refine ⟨_, rfl, ?_⟩
       replace BK305 := Aside0.mk (jB BK305 hb)
       replace BK307 := Aside0.mk (jB BK307 hb)
       replace HB := Aside0.mk (zT (jH HB) hb)
       (try clear hb)
       (try clear hb2)
       (try clear hk)
       (try clear hi)
       refine hK.out _ _ ⟨(kC BK307.out 0).trans rfl, (kC BK307.out 1).trans rfl, (kC BK307.out 2).trans rfl, (kC BK305.out 0).trans rfl, (kC BK305.out 1).trans rfl, (kC BK305.out 2).trans rfl⟩ (fun hHeld => ?_)
       clear hK K
       refine qN 22 ?_
       refine qP 6 23 (tB 7 127) ?_
       refine done_ (by kernel_rfl) ?_
       try go_wp2
       go_roundg k1
       case measure => have := HK1.out; omega
       case rel => exact ⟨(wrap64 (x12_1 + 1)), jS, H', ⟨by have := HK1.out; omega⟩, ⟨jK BK305⟩, ⟨jH HB⟩⟩
      ·rw [if_neg c9] at H
       have c9b0 : (Op.bytesLess t308.toList t309.toList) = false := by simpa using c9
       clear c9
       replace H := Option.bind_eq_some_iff.mp H
       obtain ⟨t310, A170, H⟩ := H
       try dsimp only at H
       have A17 := Aside0.mk A170
       clear A170
       replace H := Option.bind_eq_some_iff.mp H
       obtain ⟨t311, A180, H⟩ := H
       try dsimp only at H
       have A18 := Aside0.mk A180
       clear A180
       simp only [Option.some.injEq, Prod.mk.injEq] at H
       obtain ⟨rfl, rfl⟩ := H
       have p306 : 0 ≤ (x12_1 : Int) := oD (jA)
       have q306 : x12_1 < (l0.length : Int) := oD (jA)
       obtain ⟨ad306, A306_0, c306_0, A306_1, c306_1, e306, hx306_0, hx306_1, hx306_2, hl306_0, hi306_0, hl306_1, hi306_1⟩ := at_T42 HR0.out x12_1 p306 q306
       cases e306
       replace hx306_0 := (HB.out.cell (bL w _ hx306_0)).trans hx306_0
       replace hx306_1 := (HB.out.cell (bL w _ hx306_1)).trans hx306_1
       replace hx306_2 := (HB.out.cell (bL w _ hx306_2)).trans hx306_2
       have HR306_0 := Aside0.mk hi306_0
       have HC306_0 := Aside0.mk hl306_0
       clear hi306_0 hl306_0
       have HR306_1 := Aside0.mk hi306_1
       have HC306_1 := Aside0.mk hl306_1
       clear hi306_1 hl306_1
       replace p306 := eq_true p306
       replace q306 := eq_true q306
       try go_wp2_with (first | ((with_reducible refine gate_dst (N := 9) rfl ?_); refine box_event rfl (N := 9) rfl (cs := #[.slice none 0 0, .slice none 0 0, .int .u32 0]) (t := 42) jW ?_; intro gb307 hg w19 hbox hb; have BK307 := Aside0.mk hbox; have GW307 := Aside0.mk (jG hg HB); have GE307 := Aside0.mk (jG hg HB); have NB305_307 := Aside0.mk (jN hg BK305); have NB307_305 := Aside0.mk (jM hg BK305); replace BK305 := Aside0.mk (jB BK305 hb); replace HB := Aside0.mk (zT (jH HB) hb); clear hb hbox hg; have hnb20 := NB307_305.out; have hnc20 := NB305_307.out; obtain ⟨hcz21_0, hcz21_1, hcz21_2, hfz21_0, hfz21_1, hfz21_2⟩ := kQ3 BK307.out))
       have n0_ : Aside0 ((((w19.setCell ⟨gb307, 0, none⟩ (.slice A306_0 ((rd_T42 l0 x12_1).f0).length c306_0)).setCell ⟨gb307, 1, none⟩ (.slice A306_1 ((rd_T42 l0 x12_1).f1).length c306_1)).setCell ⟨gb307, 2, none⟩ (.int .u32 ((rd_T42 l0 x12_1).f2))).heap[gb305]? = some (.cells #[.slice A1_0 l1_0.length c1_0, .slice A1_1 l1_1.length c1_1, .int .u32 a1_2] 42 (0, 0))) := ⟨by (with_reducible repeat (first | refine kN ?_ _ | refine kD ?_ | refine kA ?_ _)); refine kR ?_ NB305_307.out _; (with_reducible repeat (first | refine kN ?_ _ | refine kD ?_ | refine kA ?_ _)); refine kR ?_ NB305_307.out _; (with_reducible repeat (first | refine kN ?_ _ | refine kD ?_ | refine kA ?_ _)); refine kR ?_ NB305_307.out _; (with_reducible repeat (first | refine kN ?_ _ | refine kD ?_ | refine kA ?_ _)); exact BK305.out⟩
       have n1_ : Aside0 ((((w19.setCell ⟨gb307, 0, none⟩ (.slice A306_0 ((rd_T42 l0 x12_1).f0).length c306_0)).setCell ⟨gb307, 1, none⟩ (.slice A306_1 ((rd_T42 l0 x12_1).f1).length c306_1)).setCell ⟨gb307, 2, none⟩ (.int .u32 ((rd_T42 l0 x12_1).f2))).heap[gb307]? = some (.cells #[.slice A306_0 ((rd_T42 l0 x12_1).f0).length c306_0, .slice A306_1 ((rd_T42 l0 x12_1).f1).length c306_1, .int .u32 ((rd_T42 l0 x12_1).f2)] 42 (0, 0))) := ⟨by (with_reducible repeat (first | refine kN ?_ _ | refine kD ?_ | refine kA ?_ _)); refine kP (cs := #[.slice A306_0 ((rd_T42 l0 x12_1).f0).length c306_0, .slice A306_1 ((rd_T42 l0 x12_1).f1).length c306_1, .int .u32 0]) ?_ 2 _ rfl; (with_reducible repeat (first | refine kN ?_ _ | refine kD ?_ | refine kA ?_ _)); refine kP (cs := #[.slice A306_0 ((rd_T42 l0 x12_1).f0).length c306_0, .slice none 0 0, .int .u32 0]) ?_ 1 _ rfl; (with_reducible repeat (first | refine kN ?_ _ | refine kD ?_ | refine kA ?_ _)); refine kP (cs := #[.slice none 0 0, .slice none 0 0, .int .u32 0]) ?_ 0 _ rfl; (with_reducible repeat (first | refine kN ?_ _ | refine kD ?_ | refine kA ?_ _)); exact BK307.out⟩
       have n2_ : Aside0 (Below w.heap.size w (((w19.setCell ⟨gb307, 0, none⟩ (.slice A306_0 ((rd_T42 l0 x12_1).f0).length c306_0)).setCell ⟨gb307, 1, none⟩ (.slice A306_1 ((rd_T42 l0 x12_1).f1).length c306_1)).setCell ⟨gb307, 2, none⟩ (.int .u32 ((rd_T42 l0 x12_1).f2)))) := ⟨jH HB⟩
       (try clear BK305)
       (try clear BK307)
       (try clear HB)
       generalize (((w19.setCell ⟨gb307, 0, none⟩ (.slice A306_0 ((rd_T42 l0 x12_1).f0).length c306_0)).setCell ⟨gb307, 1, none⟩ (.slice A306_1 ((rd_T42 l0 x12_1).f1).length c306_1)).setCell ⟨gb307, 2, none⟩ (.int .u32 ((rd_T42 l0 x12_1).f2))) = w22 at n0_ n1_ n2_ ⊢
       have BK305 := n0_
       have BK307 := n1_
       have HB := n2_
       clear n0_ n1_ n2_
       replace BK305 := Aside0.mk (kD BK305.out)
       replace BK307 := Aside0.mk (kD BK307.out)
       replace HB := Aside0.mk (zD HB.out)
       have hgeq_ := fun W => str_geq (P := Tryd.prog) W 9 t308 t309
       refine start_ (n := 7) (S := fun w' => w'.cell? ⟨gb307, 0, none⟩ = some (.slice A306_0 ((rd_T42 l0 x12_1).f0).length c306_0) ∧ w'.cell? ⟨gb307, 1, none⟩ = some (.slice A306_1 ((rd_T42 l0 x12_1).f1).length c306_1) ∧ w'.cell? ⟨gb307, 2, none⟩ = some (.int .u32 ((rd_T42 l0 x12_1).f2)) ∧ w'.cell? ⟨gb305, 0, none⟩ = some (.slice A1_0 l1_0.length c1_0) ∧ w'.cell? ⟨gb305, 1, none⟩ = some (.slice A1_1 l1_1.length c1_1) ∧ w'.cell? ⟨gb305, 2, none⟩ = some (.int .u32 a1_2)) (ds := []) #[false, false, false, false, false, false, false] (by kernel_rfl) rfl rfl ⟨(kC BK307.out 0).trans rfl, (kC BK307.out 1).trans rfl, (kC BK307.out 2).trans rfl, (kC BK305.out 0).trans rfl, (kC BK305.out 1).trans rfl, (kC BK305.out 2).trans rfl⟩ (fun hHeld => ?_)
       generalize w22.drew = w23 at BK305 BK307 HB hHeld ⊢
       refine qP 0 17 (tB 7 1) ?_
       refine qP 3 20 (tB 7 9) ?_
       refine qT 1 18 (tB 7 11) hHeld ?_ (hv := by rintro w' ⟨s0, s1, s2, s3, s4, s5⟩; go_simp; with_reducible rfl)
       refine qT 4 21 (tB 7 27) hHeld ?_ (hv := by rintro w' ⟨s0, s1, s2, s3, s4, s5⟩; go_simp; with_reducible rfl)
       refine one_ (i := 2) (N := some 19) (tB 7 31) rfl rfl (by kernel_rfl) (by decide) (fun K hK => ?_)
       refine goesV_ Tryd.func28 (by kernel_rfl) rfl #[.agg #[.slice A306_0 ((rd_T42 l0 x12_1).f0).length c306_0, .slice A306_1 ((rd_T42 l0 x12_1).f1).length c306_1, .int .u32 ((rd_T42 l0 x12_1).f2)]] (by rfl) rfl rfl rfl jZ ?_
       with_reducible refine (table_Rule_bytes.calls k1 _ _ ((rd_T42 l0 x12_1).f0) _ _ ((rd_T42 l0 x12_1).f1) ((rd_T42 l0 x12_1).f2) t308 _ ?side1 ?side2 ?side3 ?side4 ?side5 A7.out).mono ?_
       (case side1 => exact jC (Kd.C_below HR306_0.out HB.out))
       (case side2 => exact HC306_0.out)
       (case side3 => exact jC (Kd.C_below HR306_1.out HB.out))
       (case side4 => exact HC306_1.out)
       (case side5 => exact Glob.below HG.out (jH HB))
       rintro e w24 ⟨rfl, hb⟩
       refine ⟨_, rfl, ?_⟩
       replace BK305 := Aside0.mk (jB BK305 hb)
       replace BK307 := Aside0.mk (jB BK307 hb)
       replace HB := Aside0.mk (zT (jH HB) hb)
       (try clear hb)
       (try clear hb2)
       (try clear hk)
       (try clear hi)
       refine hK.out _ _ ⟨(kC BK307.out 0).trans rfl, (kC BK307.out 1).trans rfl, (kC BK307.out 2).trans rfl, (kC BK305.out 0).trans rfl, (kC BK305.out 1).trans rfl, (kC BK305.out 2).trans rfl⟩ (fun hHeld => ?_)
       clear hK K
       refine qN 19 ?_
       refine one_ (i := 5) (N := some 22) (tB 7 63) rfl rfl (by kernel_rfl) (by decide) (fun K hK => ?_)
       refine goesV_ Tryd.func28 (by kernel_rfl) rfl #[.agg #[.slice A1_0 l1_0.length c1_0, .slice A1_1 l1_1.length c1_1, .int .u32 a1_2]] (by rfl) rfl rfl rfl jZ ?_
       with_reducible refine (table_Rule_bytes.calls k1 _ _ l1_0 _ _ l1_1 a1_2 t309 _ ?side1 ?side2 ?side3 ?side4 ?side5 A8.out).mono ?_
       (case side1 => exact jC (Kd.C_below HR1_0.out HB.out))
       (case side2 => exact HC1_0.out)
       (case side3 => exact jC (Kd.C_below HR1_1.out HB.out))
       (case side4 => exact HC1_1.out)
       (case side5 => exact Glob.below HG.out (jH HB))
       rintro e w25 ⟨rfl, hb⟩
       refine ⟨_, rfl, ?_⟩
       replace BK305 := Aside0.mk (jB BK305 hb)
       replace BK307 := Aside0.mk (jB BK307 hb)
       replace HB := Aside0.mk (zT (jH HB) hb)
       (try clear hb)
       (try clear hb2)
       (try clear hk)
       (try clear hi)
       refine hK.out _ _ ⟨(kC BK307.out 0).trans rfl, (kC BK307.out 1).trans rfl, (kC BK307.out 2).trans rfl, (kC BK305.out 0).trans rfl, (kC BK305.out 1).trans rfl, (kC BK305.out 2).trans rfl⟩ (fun hHeld => ?_)
       clear hK K
       refine qN 22 ?_
       refine qP 6 23 (tB 7 127) ?_
       refine done_ (by kernel_rfl) ?_
       try go_wp2
       replace BK305 := Aside0.mk (kD BK305.out)
       replace BK307 := Aside0.mk (kD BK307.out)
       replace HB := Aside0.mk (zD HB.out)
       refine start_ (n := 10) (S := fun w' => w'.cell? ⟨gb307, 0, none⟩ = some (.slice A306_0 ((rd_T42 l0 x12_1).f0).length c306_0) ∧ w'.cell? ⟨gb307, 1, none⟩ = some (.slice A306_1 ((rd_T42 l0 x12_1).f1).length c306_1) ∧ w'.cell? ⟨gb307, 2, none⟩ = some (.int .u32 ((rd_T42 l0 x12_1).f2)) ∧ w'.cell? ⟨gb305, 0, none⟩ = some (.slice A1_0 l1_0.length c1_0) ∧ w'.cell? ⟨gb305, 1, none⟩ = some (.slice A1_1 l1_1.length c1_1) ∧ w'.cell? ⟨gb305, 2, none⟩ = some (.int .u32 a1_2)) (ds := []) #[false, false, false, false, false, false, false, false, false, false] (by kernel_rfl) rfl rfl ⟨(kC BK307.out 0).trans rfl, (kC BK307.out 1).trans rfl, (kC BK307.out 2).trans rfl, (kC BK305.out 0).trans rfl, (kC BK305.out 1).trans rfl, (kC BK305.out 2).trans rfl⟩ (fun hHeld => ?_); refine with_tabW table_place.tab5 table_place.bits5 (fun HT_ HW_ => ?_)
       generalize w25.drew = w26 at BK305 BK307 HB hHeld ⊢
       refine qP 0 24 (tB 10 1) ?_
       refine qP 1 25 (tB 10 3) ?_
       refine qP 4 28 (tB 10 19) ?_
       refine qT 2 26 (tB 10 23) hHeld ?_ (hv := by rintro w' ⟨s0, s1, s2, s3, s4, s5⟩; go_simp; with_reducible rfl)
       refine qT 5 29 (tB 10 55) hHeld ?_ (hv := by rintro w' ⟨s0, s1, s2, s3, s4, s5⟩; go_simp; with_reducible rfl)
       refine one_ (i := 3) (N := some 27) (tB 10 63) rfl rfl (one_of HT_.out (by kernel_rfl)) (by decide) (fun K hK => ?_)
       refine goesV_ Tryd.func28 (by kernel_rfl) rfl #[.agg #[.slice A306_0 ((rd_T42 l0 x12_1).f0).length c306_0, .slice A306_1 ((rd_T42 l0 x12_1).f1).length c306_1, .int .u32 ((rd_T42 l0 x12_1).f2)]] (by rfl) rfl rfl rfl jZ ?_
       with_reducible refine (table_Rule_bytes.calls k1 _ _ ((rd_T42 l0 x12_1).f0) _ _ ((rd_T42 l0 x12_1).f1) ((rd_T42 l0 x12_1).f2) t310 _ ?side1 ?side2 ?side3 ?side4 ?side5 A17.out).mono ?_
       (case side1 => exact jC (Kd.C_below HR306_0.out HB.out))
       (case side2 => exact HC306_0.out)
       (case side3 => exact jC (Kd.C_below HR306_1.out HB.out))
       (case side4 => exact HC306_1.out)
       (case side5 => exact Glob.below HG.out (jH HB))
       rintro e w27 ⟨rfl, hb⟩
       refine ⟨_, rfl, ?_⟩
       replace BK305 := Aside0.mk (jB BK305 hb)
       replace BK307 := Aside0.mk (jB BK307 hb)
       replace HB := Aside0.mk (zT (jH HB) hb)
       (try clear hb)
       (try clear hb2)
       (try clear hk)
       (try clear hi)
       refine hK.out _ _ ⟨(kC BK307.out 0).trans rfl, (kC BK307.out 1).trans rfl, (kC BK307.out 2).trans rfl, (kC BK305.out 0).trans rfl, (kC BK305.out 1).trans rfl, (kC BK305.out 2).trans rfl⟩ (fun hHeld => ?_)
       clear hK K
       refine qN 27 ?_
       refine one_ (i := 6) (N := some 30) (tB 10 127) rfl rfl (one_of HT_.out (by kernel_rfl)) (by decide) (fun K hK => ?_)
       refine goesV_ Tryd.func28 (by kernel_rfl) rfl #[.agg #[.slice A1_0 l1_0.length c1_0, .slice A1_1 l1_1.length c1_1, .int .u32 a1_2]] (by rfl) rfl rfl rfl jZ ?_
       with_reducible refine (table_Rule_bytes.calls k1 _ _ l1_0 _ _ l1_1 a1_2 t311 _ ?side1 ?side2 ?side3 ?side4 ?side5 A18.out).mono ?_
       (case side1 => exact jC (Kd.C_below HR1_0.out HB.out))
       (case side2 => exact HC1_0.out)
       (case side3 => exact jC (Kd.C_below HR1_1.out HB.out))
       (case side4 => exact HC1_1.out)
       (case side5 => exact Glob.below HG.out (jH HB))
       rintro e w28 ⟨rfl, hb⟩
       refine ⟨_, rfl, ?_⟩
       replace BK305 := Aside0.mk (jB BK305 hb)
       replace BK307 := Aside0.mk (jB BK307 hb)
       replace HB := Aside0.mk (zT (jH HB) hb)
       (try clear hb)
       (try clear hb2)
       (try clear hk)
       (try clear hi)
       refine hK.out _ _ ⟨(kC BK307.out 0).trans rfl, (kC BK307.out 1).trans rfl, (kC BK307.out 2).trans rfl, (kC BK305.out 0).trans rfl, (kC BK305.out 1).trans rfl, (kC BK305.out 2).trans rfl⟩ (fun hHeld => ?_)
       clear hK K
       refine qN 30 ?_
       refine qP 7 31 (tB 10 255) ?_
       refine qP 8 6 (tB 10 511) ?_
       refine qP 9 7 (tB 10 1023) ?_
       refine done_ (done_of HT_.out (by kernel_rfl)) ?_
       try go_wp2
       go_ret2
       exact ⟨jE, jH HB⟩
     ·rw [if_neg c6] at H
      exact absurd H (by simp)
    ·rw [if_neg c5] at H
     exact absurd H (by simp)
   ·rw [if_neg c4] at H
    have c4b0 : decide (x12_1 < (l0.length : Int)) = false := dF c4
    clear c4
    simp only [Option.some.injEq, Prod.mk.injEq] at H
    obtain ⟨rfl, rfl⟩ := H
    go_wp2
    go_ret2
    exact ⟨jE, jH HB⟩
end Go.Proofs.YtahacmdhhfmhiaaDoor.M

/- By a program of this session: what Go functions of the seat compute, as Lean functions, each with a proof that the call of the Go function comes to that. -/
namespace Go.Proofs.YtahacmdhhfmhiaaDoor.M
open Go.RowKit Go.Proofs.YtahacmdhhfmhiaaDoorW.PrintWords Go.Proofs.YtahacmdhhfmhiaaDoorW.PrintLast Go.Proofs.YtahacmdhhfmhiaaDoorW.PrintMore
attribute [local go_sem] max2_int min2_int max_two min_two max_three min_three max_four min_four   -- for this text's walks alone
set_option linter.unusedVariables false
set_option linter.unusedSimpArgs false
def table_own.f (l0_0 : List (S59)) (l0_1 : List (S59)) (a0_2 : Int) : Option ((List (S59)) × (List (S59)) × Int) := (some (([] : List (S59)) : List (S59))).bind fun y314 => (if y314.length + l0_0.length < 4398046511104 then ((some (([] : List (S59)) : List (S59))).bind fun y320 => (if y320.length + l0_1.length < 4398046511104 then (some ((y314 ++ l0_0), (y320 ++ l0_1), a0_2)) else (none))) else (none))
def table_own.T1 : Bool × List (List Nat × List Nat) := (true, [([], []), ([], []), ([1], [1]), ([0, 2], [0, 2]), ([], []), ([], []), ([5], [5]), ([4, 6, 3], [4, 6]), ([], []), ([8], [8]), ([3, 7, 9], [3, 7, 9]), ([10, 7, 0, 1, 2, 3, 4, 5, 6, 7, 8, 9, 10], [10])])
def table_own.B1 : List Nat := [0, 0, 2, 7, 0, 0, 32, 127, 0, 256, 1023, 2047]
theorem table_own.tab1 : rtab .any (opsOf Tryd.f38 1) = table_own.T1 := by kernel_rfl
theorem table_own.bits1 : waitsOk table_own.T1.2 table_own.B1 = true := by kernel_rfl
set_option maxHeartbeats 8000000 in
set_option maxRecDepth 100000 in
theorem table_own.calls (A0_0 : Option Addr) (c0_0 : Nat) (l0_0 : List (S59)) (A0_1 : Option Addr) (c0_1 : Nat) (l0_1 : List (S59)) (a0_2 : Int) (r1 : List (S59)) (r2 : List (S59)) (r3 : Int) (w : World) (hr0_0 : Kd.C k59 w A0_0 l0_0.length l0_0) (hc0_0 : l0_0.length ≤ c0_0) (hr0_1 : Kd.C k59 w A0_1 l0_1.length l0_1) (hc0_1 : l0_1.length ≤ c0_1) (h : table_own.f l0_0 l0_1 a0_2 = some (r1, r2, r3)) :
  Calls Tryd.prog 38 #[.agg #[.slice A0_0 l0_0.length c0_0, .slice A0_1 l0_1.length c0_1, .int .u32 a0_2]] w fun e w' => ∃ v0_ v1_ : Value, e = .returned (.agg #[v0_, v1_, .int .u32 r3]) ∧ Kd.R k59 59 w' w.heap.size (fun k_ => some k_ ≠ (v1_ : Value).ownBlock) v0_ r1 ∧ Kd.R k59 59 w' w.heap.size (fun k_ => some k_ ≠ (v0_ : Value).ownBlock) v1_ r2 ∧ Below w.heap.size w w' := by
 have hu42 := Tryd.underlying42
 have HR0_0 := Aside0.mk hr0_0
 have HC0_0 := Aside0.mk hc0_0
 clear hr0_0 hc0_0
 have HR0_1 := Aside0.mk hr0_1
 have HC0_1 := Aside0.mk hc0_1
 clear hr0_1 hc0_1
 have HB := Aside0.mk (Below.refl w.heap.size w)
 have H : ((some (([] : List (S59)) : List (S59))).bind fun y314 => (if y314.length + l0_0.length < 4398046511104 then ((some (([] : List (S59)) : List (S59))).bind fun y320 => (if y320.length + l0_1.length < 4398046511104 then (some ((y314 ++ l0_0), (y320 ++ l0_1), a0_2)) else (none))) else (none))) = some (r1, r2, r3) := h
 clear h
 obtain ⟨y314, hy314⟩ : ∃ y_ : List (S59), y_ = (([] : List (S59))) := ⟨_, rfl⟩
 replace H : (if y314.length + l0_0.length < 4398046511104 then ((some (([] : List (S59)) : List (S59))).bind fun y320 => (if y320.length + l0_1.length < 4398046511104 then (some ((y314 ++ l0_0), (y320 ++ l0_1), a0_2)) else (none))) else (none)) = some (r1, r2, r3) := by first | (rw [hy314]; with_reducible exact H) | (have H2_ := (Option.bind_some _ _).symm.trans H; rw [hy314]; with_reducible exact H2_) | (have H2_ := (Option.bind_some _ _).symm.trans H; with_reducible exact H2_) | with_reducible exact H | (rw [hy314]; exact H) | exact H
 have Ny314 := Aside0.mk hy314
 clear hy314
 by_cases c2 : y314.length + l0_0.length < 4398046511104
 ·rw [if_pos c2] at H
  have LMc2 := Aside0.mk c2
  clear c2
  obtain ⟨y317, hy317⟩ : ∃ y_ : List (S59), y_ = (y314 ++ l0_0) := ⟨_, rfl⟩
  replace H : ((some (([] : List (S59)) : List (S59))).bind fun y320 => (if y320.length + l0_1.length < 4398046511104 then (some (y317, (y320 ++ l0_1), a0_2)) else (none))) = some (r1, r2, r3) := by first | (rw [hy317]; with_reducible exact H) | (have H2_ := (Option.bind_some _ _).symm.trans H; rw [hy317]; with_reducible exact H2_) | (have H2_ := (Option.bind_some _ _).symm.trans H; with_reducible exact H2_) | with_reducible exact H | (rw [hy317]; exact H) | exact H
  have Ny317 := Aside0.mk hy317
  clear hy317
  obtain ⟨y320, hy320⟩ : ∃ y_ : List (S59), y_ = (([] : List (S59))) := ⟨_, rfl⟩
  replace H : (if y320.length + l0_1.length < 4398046511104 then (some (y317, (y320 ++ l0_1), a0_2)) else (none)) = some (r1, r2, r3) := by first | (rw [hy320]; with_reducible exact H) | (have H2_ := (Option.bind_some _ _).symm.trans H; rw [hy320]; with_reducible exact H2_) | (have H2_ := (Option.bind_some _ _).symm.trans H; with_reducible exact H2_) | with_reducible exact H | (rw [hy320]; exact H) | exact H
  have Ny320 := Aside0.mk hy320
  clear hy320
  by_cases c3 : y320.length + l0_1.length < 4398046511104
  ·rw [if_pos c3] at H
   have LMc3 := Aside0.mk c3
   clear c3
   obtain ⟨y323, hy323⟩ : ∃ y_ : List (S59), y_ = (y320 ++ l0_1) := ⟨_, rfl⟩
   replace H : (some (y317, y323, a0_2)) = some (r1, r2, r3) := by first | (rw [hy323]; with_reducible exact H) | (have H2_ := (Option.bind_some _ _).symm.trans H; rw [hy323]; with_reducible exact H2_) | (have H2_ := (Option.bind_some _ _).symm.trans H; with_reducible exact H2_) | with_reducible exact H | (rw [hy323]; exact H) | exact H
   have Ny323 := Aside0.mk hy323
   clear hy323
   simp only [Option.some.injEq, Prod.mk.injEq] at H
   obtain ⟨rfl, rfl, rfl⟩ := H
   go_enter Tryd.func38, Tryd.ntmps38
   try go_wp2_with (first | ((with_reducible refine gate_dst (N := 1) rfl ?_); refine box_event ?hg (N := 1) ?hd (cs := #[.slice A0_0 l0_0.length c0_0, .slice A0_1 l0_1.length c0_1, .int .u32 a0_2]) (t := 42) ?hr ?_; (case hd => rfl); (case hg => rfl); (case hr => first | (go_simp; done) | (go_simp; rfl)); intro gb312 hg w4 hbox hb; have n0_ := Aside0.mk (zT (jH HB) hb); have n1_ := Aside0.mk (hbox); have n2_ := Aside0.mk ((by rw [hg]; exact (zZ (jH HB)) : w.heap.size ≤ gb312)); have n3_ := Aside0.mk ((by rw [hg]; exact (zZ (jH HB)) : w.heap.size ≤ gb312)); clear HB; have HB := n0_; have BK312 := n1_; have GW312 := n2_; have GE312 := n3_; clear n0_ n1_ n2_ n3_; clear hb hbox hg) | ((with_reducible refine gate_dst (N := 2) rfl ?_); refine box_event ?hg (N := 2) ?hd (cs := #[.slice none 0 0, .slice none 0 0, .int .u32 0]) (t := 42) ?hr ?_; (case hd => rfl); (case hg => rfl); (case hr => first | (go_simp; done) | (go_simp; rfl)); intro gb313 hg w5 hbox hb; have n0_ := Aside0.mk (jB BK312 hb); have n1_ := Aside0.mk (zT (jH HB) hb); have n2_ := Aside0.mk (hbox); have n3_ := Aside0.mk ((by rw [hg]; exact (zZ (jH HB)) : w.heap.size ≤ gb313)); have n4_ := Aside0.mk ((by rw [hg]; exact (zZ (jH HB)) : w.heap.size ≤ gb313)); have n5_ := Aside0.mk ((by rw [hg]; exact Nat.ne_of_lt (jL BK312) : gb312 ≠ gb313)); have n6_ := Aside0.mk ((by rw [hg]; exact Nat.ne_of_gt (jL BK312) : gb313 ≠ gb312)); clear BK312; clear HB; have BK312 := n0_; have HB := n1_; have BK313 := n2_; have GW313 := n3_; have GE313 := n4_; have NB312_313 := n5_; have NB313_312 := n6_; clear n0_ n1_ n2_ n3_ n4_ n5_ n6_; clear hb hbox hg))
   replace BK312 := Aside0.mk (kD BK312.out)
   replace BK313 := Aside0.mk (kD BK313.out)
   replace HB := Aside0.mk (zD HB.out)
   refine start_ (n := 12) (S := fun w' => w'.cell? ⟨gb312, 0, none⟩ = some (.slice A0_0 l0_0.length c0_0) ∧ w'.cell? ⟨gb312, 1, none⟩ = some (.slice A0_1 l0_1.length c0_1) ∧ w'.cell? ⟨gb312, 2, none⟩ = some (.int .u32 a0_2)) (ds := []) #[false, false, false, false, false, false, false, false, false, false, false, false] (by kernel_rfl) rfl rfl ⟨(kC BK312.out 0).trans rfl, (kC BK312.out 1).trans rfl, (kC BK312.out 2).trans rfl⟩ (fun hHeld => ?_); refine with_tabW table_own.tab1 table_own.bits1 (fun HT_ HW_ => ?_)
   generalize w5.drew = w6 at BK312 BK313 HB hHeld ⊢
   refine pure_ (i := 1) (N := some 4) (v := ?_) (a' := ?_) #[false, true, false, false, false, false, false, false, false, false, false, false] rfl rfl (any_of HT_.out (by kernel_rfl)) (fun _ _ _ h => h) (Or.inl ⟨by rfl, ?_⟩) ?_ ?_
   rotate_left
   ·intro w'
    go_simp
    with_reducible rfl
   rotate_left
   ·simp only [Act.put, List.setIfInBounds_toArray, List.set_cons_zero, List.set_cons_succ, i64_w, i32_w]
    rfl
   refine pure_ (i := 5) (N := some 8) (v := ?_) (a' := ?_) #[false, true, false, false, false, true, false, false, false, false, false, false] rfl rfl (any_of HT_.out (by kernel_rfl)) (fun _ _ _ h => h) (Or.inl ⟨by rfl, ?_⟩) ?_ ?_
   rotate_left
   ·intro w'
    go_simp
    with_reducible rfl
   rotate_left
   ·simp only [Act.put, List.setIfInBounds_toArray, List.set_cons_zero, List.set_cons_succ, i64_w, i32_w]
    rfl
   refine pure_ (i := 8) (N := some 11) (v := ?_) (a' := ?_) #[false, true, false, false, false, true, false, false, true, false, false, false] rfl rfl (any_of HT_.out (by kernel_rfl)) (fun _ _ _ h => h) (Or.inl ⟨by rfl, ?_⟩) ?_ ?_
   rotate_left
   ·intro w'
    go_simp
    with_reducible rfl
   rotate_left
   ·simp only [Act.put, List.setIfInBounds_toArray, List.set_cons_zero, List.set_cons_succ, i64_w, i32_w]
    rfl
   refine take_ (i := 2) (N := some 5) (v := ?_) (a' := ?_) #[false, true, true, false, false, true, false, false, true, false, false, false] rfl rfl (take_ofW HT_.out HW_.out (by kernel_rfl)) (fun _ _ _ h => h) (Or.inl ⟨by rfl, ?_⟩) hHeld ?_ ?_
   rotate_left
   ·rintro w' ⟨s0, s1, s2⟩
    go_simp
    with_reducible rfl
   rotate_left
   ·simp only [Act.put, List.setIfInBounds_toArray, List.set_cons_zero, List.set_cons_succ, i64_w, i32_w]
    rfl
   refine take_ (i := 6) (N := some 9) (v := ?_) (a' := ?_) #[false, true, true, false, false, true, true, false, true, false, false, false] rfl rfl (take_ofW HT_.out HW_.out (by kernel_rfl)) (fun _ _ _ h => h) (Or.inl ⟨by rfl, ?_⟩) hHeld ?_ ?_
   rotate_left
   ·rintro w' ⟨s0, s1, s2⟩
    go_simp
    with_reducible rfl
   rotate_left
   ·simp only [Act.put, List.setIfInBounds_toArray, List.set_cons_zero, List.set_cons_succ, i64_w, i32_w]
    rfl
   refine take_ (i := 9) (N := some 12) (v := ?_) (a' := ?_) #[false, true, true, false, false, true, true, false, true, true, false, false] rfl rfl (take_ofW HT_.out HW_.out (by kernel_rfl)) (fun _ _ _ h => h) (Or.inl ⟨by rfl, ?_⟩) hHeld ?_ ?_
   rotate_left
   ·rintro w' ⟨s0, s1, s2⟩
    go_simp
    with_reducible rfl
   rotate_left
   ·simp only [Act.put, List.setIfInBounds_toArray, List.set_cons_zero, List.set_cons_succ, i64_w, i32_w]
    rfl
   refine join_ (σ := Value × Value × Value) 3 #[true, true, true, true, true, true, true, false, true, true, false, false] (fun s_ => [(3, s_.1), (6, s_.2.1), (7, s_.2.2)]) (fun s_ w' => (w'.cell? ⟨gb312, 0, none⟩ = some (.slice A0_0 l0_0.length c0_0) ∧ w'.cell? ⟨gb312, 1, none⟩ = some (.slice A0_1 l0_1.length c0_1) ∧ w'.cell? ⟨gb312, 2, none⟩ = some (.int .u32 a0_2)) ∧ (Kd.R k59 59 w' w.heap.size (fun k_ => some k_ ≠ (s_.2.2 : Value).ownBlock) s_.2.1 y317) ∧ (Kd.R k59 59 w' w.heap.size (fun k_ => some k_ ≠ (s_.2.1 : Value).ownBlock) s_.2.2 y320) ∧ (w'.heap[gb312]? = some (.cells #[.slice A0_0 l0_0.length c0_0, .slice A0_1 l0_1.length c0_1, .int .u32 a0_2] 42 (0, 0))) ∧ (w'.heap[gb313]? = some (.cells #[.slice none 0 0, .slice none 0 0, .int .u32 0] 42 (0, 0))) ∧ (Below w.heap.size w w')) ?_ ?_
   rotate_left
   ·intro hCont
    refine two_ (i := 0) (j := 4) (Ni := some 3) (Nj := some 7) #[true, true, true, false, false, true, true, false, true, true, false, false] #[false, true, true, false, true, true, true, false, true, true, false, false] rfl rfl rfl rfl (two_of HT_.out (by kernel_rfl)) (by decide) (by decide) (fun K hK => ?_) (fun K hK => ?_)
    ·skip
     refine Kd.R_lit_step k59 _ 59 ?hg (N := 3) ?hd (xs := ([] : List (S59))) (inner := []) (ok := fun _ => True) (okp := fun _ => True) ?hr ?hp (fun _ hk => hk) trivial (Below.refl _ _) (Nat.le_refl _) (by simp) ?_; (case hd => rfl); (case hg => rfl); (case hr => first | (go_simp; done) | (go_simp; rfl)); (case hp => exact (Reps.none _ _))
     intro v315 w7 ho8 hb hg_ hnew_
     clear hg_ hnew_
     (first | rw [← Ny314.out] at ho8 | (simp only [Int.reduceToNat] at ho8; rw [← Ny314.out] at ho8))
     have HO316 := Aside0.mk (Kd.R_lower ho8 (zZ (jH HB)))
     replace BK312 := Aside0.mk (jB BK312 hb)
     replace BK313 := Aside0.mk (jB BK313 hb)
     replace HB := Aside0.mk (zT (jH HB) hb)
     clear hb ho8
     refine hK.out _ _ ⟨(kC BK312.out 0).trans rfl, (kC BK312.out 1).trans rfl, (kC BK312.out 2).trans rfl⟩ (fun hHeld => ?_)
     clear hK K
     refine norm_ (a' := ?_) ?_ ?_
     rotate_left
     ·show Act.put _ (some 3) _ = _
      simp only [Act.put, List.setIfInBounds_toArray, List.set_cons_zero, List.set_cons_succ, i64_w, i32_w]
      rfl
     refine two_ (i := 3) (j := 4) (Ni := some 6) (Nj := some 7) #[true, true, true, true, false, true, true, false, true, true, false, false] #[true, true, true, false, true, true, true, false, true, true, false, false] rfl rfl rfl rfl (two_of HT_.out (by kernel_rfl)) (by decide) (by decide) (fun K hK => ?_) (fun K hK => ?_)
     ·skip
      refine Kd.R_append_rows_step k59 (w0 := w) w.heap.size (by rfl) (.tmp 3) (.tmp 5) 39 59 (.agg #[(.int .i64 0), (.int .i64 0), (.int .i64 0), (.int .u32 0)]) 32 rfl Tryd.underlying39 info59 rfl (by decide) (by omega) v315 y314 l0_0 _ _ _ (fun _ => True) (fun _ => False) rfl rfl ?aO ?aR (fun _ _ h => h) (fun _ h => h.elim) ?aF ?aB ?aS ?aL ?_
      (case aR => repeat (first | exact (Kd.C_below HR0_0.out HB.out) | (with_reducible refine Kd.C_alloc ?_ _) | (with_reducible refine Kd.C_drewN ?_ _) | (with_reducible refine Kd.C_drew ?_)))
      (case aB => exact (jH HB))
      (case aF => exact (fun _ _ => trivial))
      (case aO => exact (jR HO316))
      (case aS => exact (zZ (jH HB)))
      (case aL => have := LMc2.out; omega)
      intro v318 w9 ho hb hg hat
      rw [← Ny317.out] at ho
      have HO319 := Aside0.mk (ho)
      replace BK312 := Aside0.mk (kG (g := gb312) (o := .cells #[.slice A0_0 l0_0.length c0_0, .slice A0_1 l0_1.length c0_1, .int .u32 a0_2] 42 (0, 0)) (jK BK312) hg (Kd.R_ne HO316.out BK312.out (by decide)))
      replace BK313 := Aside0.mk (kG (g := gb313) (o := .cells #[.slice none 0 0, .slice none 0 0, .int .u32 0] 42 (0, 0)) (jK BK313) hg (Kd.R_ne HO316.out BK313.out (by decide)))
      replace HB := Aside0.mk (hb)
      clear HO316
      clear ho hb hg hat
      refine hK.out _ _ ⟨(kC BK312.out 0).trans rfl, (kC BK312.out 1).trans rfl, (kC BK312.out 2).trans rfl⟩ (fun hHeld => ?_)
      clear hK K
      refine norm_ (a' := ?_) ?_ ?_
      rotate_left
      ·show Act.put _ (some 6) _ = _
       simp only [Act.put, List.setIfInBounds_toArray, List.set_cons_zero, List.set_cons_succ, i64_w, i32_w]
       rfl
      refine one_ (i := 4) (N := some 7) #[true, true, true, true, true, true, true, false, true, true, false, false] rfl rfl (one_of HT_.out (by kernel_rfl)) (by decide) (fun K hK => ?_)
      refine Kd.R_lit_step k59 _ 59 ?hg (N := 7) ?hd (xs := ([] : List (S59))) (inner := []) (ok := fun _ => True) (okp := fun _ => True) ?hr ?hp (fun _ hk => hk) trivial (Below.refl _ _) (Nat.le_refl _) (by simp) ?_; (case hd => rfl); (case hg => rfl); (case hr => first | (go_simp; done) | (go_simp; rfl)); (case hp => exact (Reps.none _ _))
      intro v321 w10 ho11 hb hg_ hnew_
      clear hg_ hnew_
      (first | rw [← Ny320.out] at ho11 | (simp only [Int.reduceToNat] at ho11; rw [← Ny320.out] at ho11))
      have HO322 := Aside0.mk (Kd.R_lower (Kd.R_new' ho11 (Kd.R_lt (jR HO319))) (zZ (jH HB)))
      replace HO319 := Aside0.mk (Kd.R_elder' (jR HO319) (Kd.R_base ho11) hb)
      replace BK312 := Aside0.mk (jB BK312 hb)
      replace BK313 := Aside0.mk (jB BK313 hb)
      replace HB := Aside0.mk (zT (jH HB) hb)
      clear hb ho11
      refine hK.out _ _ ⟨(kC BK312.out 0).trans rfl, (kC BK312.out 1).trans rfl, (kC BK312.out 2).trans rfl⟩ (fun hHeld => ?_)
      clear hK K
      refine norm_ (a' := ?_) ?_ ?_
      rotate_left
      ·show Act.put _ (some 7) _ = _
       simp only [Act.put, List.setIfInBounds_toArray, List.set_cons_zero, List.set_cons_succ, i64_w, i32_w]
       rfl
      exact norm_ (by simp only [putAll, Act.put, List.setIfInBounds_toArray, List.set_cons_zero, List.set_cons_succ]) (hCont (v315, v318, v321) _ ⟨hHeld, (by (with_reducible repeat (first | apply Kd.R_alloc | apply Kd.R_drewN | apply Kd.R_drew)); exact Kd.R_mono HO319.out (fun _ hk => hk.2)), (by (with_reducible repeat (first | apply Kd.R_alloc | apply Kd.R_drewN | apply Kd.R_drew)); exact Kd.R_mono HO322.out (fun _ hk => hk.2)), (jK BK312), (jK BK313), (jH HB)⟩)
     ·skip
      refine Kd.R_lit_step k59 _ 59 ?hg (N := 7) ?hd (xs := ([] : List (S59))) (inner := []) (ok := fun _ => True) (okp := fun _ => True) ?hr ?hp (fun _ hk => hk) trivial (Below.refl _ _) (Nat.le_refl _) (by simp) ?_; (case hd => rfl); (case hg => rfl); (case hr => first | (go_simp; done) | (go_simp; rfl)); (case hp => exact (Reps.none _ _))
      intro v321 w9 ho10 hb hg_ hnew_
      clear hg_ hnew_
      (first | rw [← Ny320.out] at ho10 | (simp only [Int.reduceToNat] at ho10; rw [← Ny320.out] at ho10))
      have HO322 := Aside0.mk (Kd.R_lower (Kd.R_new' ho10 (Kd.R_lt (jR HO316))) (zZ (jH HB)))
      replace HO316 := Aside0.mk (Kd.R_elder' (jR HO316) (Kd.R_base ho10) hb)
      replace BK312 := Aside0.mk (jB BK312 hb)
      replace BK313 := Aside0.mk (jB BK313 hb)
      replace HB := Aside0.mk (zT (jH HB) hb)
      clear hb ho10
      refine hK.out _ _ ⟨(kC BK312.out 0).trans rfl, (kC BK312.out 1).trans rfl, (kC BK312.out 2).trans rfl⟩ (fun hHeld => ?_)
      clear hK K
      refine norm_ (a' := ?_) ?_ ?_
      rotate_left
      ·show Act.put _ (some 7) _ = _
       simp only [Act.put, List.setIfInBounds_toArray, List.set_cons_zero, List.set_cons_succ, i64_w, i32_w]
       rfl
      refine one_ (i := 3) (N := some 6) #[true, true, true, true, true, true, true, false, true, true, false, false] rfl rfl (one_of HT_.out (by kernel_rfl)) (by decide) (fun K hK => ?_)
      refine Kd.R_append_rows_step k59 (w0 := w) w.heap.size (by rfl) (.tmp 3) (.tmp 5) 39 59 (.agg #[(.int .i64 0), (.int .i64 0), (.int .i64 0), (.int .u32 0)]) 32 rfl Tryd.underlying39 info59 rfl (by decide) (by omega) v315 y314 l0_0 _ _ _ (fun k_ => some k_ ≠ (v321 : Value).ownBlock) (fun _ => False) rfl rfl ?aO ?aR (fun _ _ h => h) (fun _ h => h.elim) ?aF ?aB ?aS ?aL ?_
      (case aR => repeat (first | exact (Kd.C_below HR0_0.out HB.out) | (with_reducible refine Kd.C_alloc ?_ _) | (with_reducible refine Kd.C_drewN ?_ _) | (with_reducible refine Kd.C_drew ?_)))
      (case aB => exact (jH HB))
      (case aF => exact (fun k_ hk => Kd.fresh' (Kd.R_lt (jR HO322)) k_ hk))
      (case aO => exact (by (with_reducible repeat (first | apply Kd.R_alloc | apply Kd.R_drewN | apply Kd.R_drew)); exact Kd.R_mono HO316.out (fun _ hk => hk.2)))
      (case aS => exact (zZ (jH HB)))
      (case aL => have := LMc2.out; omega)
      intro v318 w11 ho hb hg hat
      rw [← Ny317.out] at ho
      have HO319 := Aside0.mk (ho)
      replace BK312 := Aside0.mk (kG (g := gb312) (o := .cells #[.slice A0_0 l0_0.length c0_0, .slice A0_1 l0_1.length c0_1, .int .u32 a0_2] 42 (0, 0)) (jK BK312) hg (Kd.R_ne HO316.out BK312.out (by decide)))
      replace BK313 := Aside0.mk (kG (g := gb313) (o := .cells #[.slice none 0 0, .slice none 0 0, .int .u32 0] 42 (0, 0)) (jK BK313) hg (Kd.R_ne HO316.out BK313.out (by decide)))
      replace HO322 := Aside0.mk (Kd.R_after (ok := (fun _ => True)) (jR HO322) hg hat)
      replace HB := Aside0.mk (hb)
      clear HO316
      clear ho hb hg hat
      refine hK.out _ _ ⟨(kC BK312.out 0).trans rfl, (kC BK312.out 1).trans rfl, (kC BK312.out 2).trans rfl⟩ (fun hHeld => ?_)
      clear hK K
      refine norm_ (a' := ?_) ?_ ?_
      rotate_left
      ·show Act.put _ (some 6) _ = _
       simp only [Act.put, List.setIfInBounds_toArray, List.set_cons_zero, List.set_cons_succ, i64_w, i32_w]
       rfl
      exact norm_ (by simp only [putAll, Act.put, List.setIfInBounds_toArray, List.set_cons_zero, List.set_cons_succ]) (hCont (v315, v318, v321) _ ⟨hHeld, (jR HO319), (by (with_reducible repeat (first | apply Kd.R_alloc | apply Kd.R_drewN | apply Kd.R_drew)); exact Kd.R_mono HO322.out (fun _ hk => hk.2)), (jK BK312), (jK BK313), (jH HB)⟩)
    ·skip
     refine Kd.R_lit_step k59 _ 59 ?hg (N := 7) ?hd (xs := ([] : List (S59))) (inner := []) (ok := fun _ => True) (okp := fun _ => True) ?hr ?hp (fun _ hk => hk) trivial (Below.refl _ _) (Nat.le_refl _) (by simp) ?_; (case hd => rfl); (case hg => rfl); (case hr => first | (go_simp; done) | (go_simp; rfl)); (case hp => exact (Reps.none _ _))
     intro v321 w7 ho8 hb hg_ hnew_
     clear hg_ hnew_
     (first | rw [← Ny320.out] at ho8 | (simp only [Int.reduceToNat] at ho8; rw [← Ny320.out] at ho8))
     have HO322 := Aside0.mk (Kd.R_lower ho8 (zZ (jH HB)))
     replace BK312 := Aside0.mk (jB BK312 hb)
     replace BK313 := Aside0.mk (jB BK313 hb)
     replace HB := Aside0.mk (zT (jH HB) hb)
     clear hb ho8
     refine hK.out _ _ ⟨(kC BK312.out 0).trans rfl, (kC BK312.out 1).trans rfl, (kC BK312.out 2).trans rfl⟩ (fun hHeld => ?_)
     clear hK K
     refine norm_ (a' := ?_) ?_ ?_
     rotate_left
     ·show Act.put _ (some 7) _ = _
      simp only [Act.put, List.setIfInBounds_toArray, List.set_cons_zero, List.set_cons_succ, i64_w, i32_w]
      rfl
     refine one_ (i := 0) (N := some 3) #[true, true, true, false, true, true, true, false, true, true, false, false] rfl rfl (one_of HT_.out (by kernel_rfl)) (by decide) (fun K hK => ?_)
     refine Kd.R_lit_step k59 _ 59 ?hg (N := 3) ?hd (xs := ([] : List (S59))) (inner := []) (ok := fun _ => True) (okp := fun _ => True) ?hr ?hp (fun _ hk => hk) trivial (Below.refl _ _) (Nat.le_refl _) (by simp) ?_; (case hd => rfl); (case hg => rfl); (case hr => first | (go_simp; done) | (go_simp; rfl)); (case hp => exact (Reps.none _ _))
     intro v315 w9 ho10 hb hg_ hnew_
     clear hg_ hnew_
     (first | rw [← Ny314.out] at ho10 | (simp only [Int.reduceToNat] at ho10; rw [← Ny314.out] at ho10))
     have HO316 := Aside0.mk (Kd.R_lower (Kd.R_new' ho10 (Kd.R_lt (jR HO322))) (zZ (jH HB)))
     replace HO322 := Aside0.mk (Kd.R_elder' (jR HO322) (Kd.R_base ho10) hb)
     replace BK312 := Aside0.mk (jB BK312 hb)
     replace BK313 := Aside0.mk (jB BK313 hb)
     replace HB := Aside0.mk (zT (jH HB) hb)
     clear hb ho10
     refine hK.out _ _ ⟨(kC BK312.out 0).trans rfl, (kC BK312.out 1).trans rfl, (kC BK312.out 2).trans rfl⟩ (fun hHeld => ?_)
     clear hK K
     refine norm_ (a' := ?_) ?_ ?_
     rotate_left
     ·show Act.put _ (some 3) _ = _
      simp only [Act.put, List.setIfInBounds_toArray, List.set_cons_zero, List.set_cons_succ, i64_w, i32_w]
      rfl
     refine one_ (i := 3) (N := some 6) #[true, true, true, true, true, true, true, false, true, true, false, false] rfl rfl (one_of HT_.out (by kernel_rfl)) (by decide) (fun K hK => ?_)
     refine Kd.R_append_rows_step k59 (w0 := w) w.heap.size (by rfl) (.tmp 3) (.tmp 5) 39 59 (.agg #[(.int .i64 0), (.int .i64 0), (.int .i64 0), (.int .u32 0)]) 32 rfl Tryd.underlying39 info59 rfl (by decide) (by omega) v315 y314 l0_0 _ _ _ (fun k_ => some k_ ≠ (v321 : Value).ownBlock) (fun _ => False) rfl rfl ?aO ?aR (fun _ _ h => h) (fun _ h => h.elim) ?aF ?aB ?aS ?aL ?_
     (case aR => repeat (first | exact (Kd.C_below HR0_0.out HB.out) | (with_reducible refine Kd.C_alloc ?_ _) | (with_reducible refine Kd.C_drewN ?_ _) | (with_reducible refine Kd.C_drew ?_)))
     (case aB => exact (jH HB))
     (case aF => exact (fun k_ hk => Kd.fresh' (Kd.R_lt (jR HO322)) k_ hk))
     (case aO => exact (by (with_reducible repeat (first | apply Kd.R_alloc | apply Kd.R_drewN | apply Kd.R_drew)); exact Kd.R_mono HO316.out (fun _ hk => hk.2)))
     (case aS => exact (zZ (jH HB)))
     (case aL => have := LMc2.out; omega)
     intro v318 w11 ho hb hg hat
     rw [← Ny317.out] at ho
     have HO319 := Aside0.mk (ho)
     replace BK312 := Aside0.mk (kG (g := gb312) (o := .cells #[.slice A0_0 l0_0.length c0_0, .slice A0_1 l0_1.length c0_1, .int .u32 a0_2] 42 (0, 0)) (jK BK312) hg (Kd.R_ne HO316.out BK312.out (by decide)))
     replace BK313 := Aside0.mk (kG (g := gb313) (o := .cells #[.slice none 0 0, .slice none 0 0, .int .u32 0] 42 (0, 0)) (jK BK313) hg (Kd.R_ne HO316.out BK313.out (by decide)))
     replace HO322 := Aside0.mk (Kd.R_after (ok := (fun _ => True)) (jR HO322) hg hat)
     replace HB := Aside0.mk (hb)
     clear HO316
     clear ho hb hg hat
     refine hK.out _ _ ⟨(kC BK312.out 0).trans rfl, (kC BK312.out 1).trans rfl, (kC BK312.out 2).trans rfl⟩ (fun hHeld => ?_)
     clear hK K
     refine norm_ (a' := ?_) ?_ ?_
     rotate_left
     ·show Act.put _ (some 6) _ = _
      simp only [Act.put, List.setIfInBounds_toArray, List.set_cons_zero, List.set_cons_succ, i64_w, i32_w]
      rfl
     exact norm_ (by simp only [putAll, Act.put, List.setIfInBounds_toArray, List.set_cons_zero, List.set_cons_succ]) (hCont (v315, v318, v321) _ ⟨hHeld, (jR HO319), (by (with_reducible repeat (first | apply Kd.R_alloc | apply Kd.R_drewN | apply Kd.R_drew)); exact Kd.R_mono HO322.out (fun _ hk => hk.2)), (jK BK312), (jK BK313), (jH HB)⟩)
   rintro ⟨v315, v318, v321⟩ w12 ⟨hS_, h0_, h1_, h2_, h3_, h4_⟩
   have n0_ : Aside0 (Kd.R k59 59 w12 w.heap.size (fun k_ => some k_ ≠ (v321 : Value).ownBlock) v318 y317) := ⟨h0_⟩
   have n1_ : Aside0 (Kd.R k59 59 w12 w.heap.size (fun k_ => some k_ ≠ (v318 : Value).ownBlock) v321 y320) := ⟨h1_⟩
   have n2_ : Aside0 (w12.heap[gb312]? = some (.cells #[.slice A0_0 l0_0.length c0_0, .slice A0_1 l0_1.length c0_1, .int .u32 a0_2] 42 (0, 0))) := ⟨h2_⟩
   have n3_ : Aside0 (w12.heap[gb313]? = some (.cells #[.slice none 0 0, .slice none 0 0, .int .u32 0] 42 (0, 0))) := ⟨h3_⟩
   have n4_ : Aside0 (Below w.heap.size w w12) := ⟨h4_⟩
   clear BK312
   clear BK313
   clear HB
   clear h0_ h1_ h2_ h3_ h4_
   have HO319 := n0_
   have HO322 := n1_
   have BK312 := n2_
   have BK313 := n3_
   have HB := n4_
   clear n0_ n1_ n2_ n3_ n4_
   have hHeld : w12.cell? ⟨gb312, 0, none⟩ = some (.slice A0_0 l0_0.length c0_0) ∧ w12.cell? ⟨gb312, 1, none⟩ = some (.slice A0_1 l0_1.length c0_1) ∧ w12.cell? ⟨gb312, 2, none⟩ = some (.int .u32 a0_2) := hS_
   refine norm_ (a' := ?_) ?_ ?_
   rotate_left
   ·simp only [putAll, Act.put, List.setIfInBounds_toArray, List.set_cons_zero, List.set_cons_succ]
    rfl
   refine one_ (i := 7) (N := some 10) #[true, true, true, true, true, true, true, true, true, true, false, false] rfl rfl (one_of HT_.out (by kernel_rfl)) (by decide) (fun K hK => ?_)
   refine Kd.R_append_rows_step k59 (w0 := w) w.heap.size (by rfl) (.tmp 7) (.tmp 9) 39 59 (.agg #[(.int .i64 0), (.int .i64 0), (.int .i64 0), (.int .u32 0)]) 32 rfl Tryd.underlying39 info59 rfl (by decide) (by omega) v321 y320 l0_1 _ _ _ (fun k_ => some k_ ≠ (v318 : Value).ownBlock) (fun _ => False) rfl rfl ?aO ?aR (fun _ _ h => h) (fun _ h => h.elim) ?aF ?aB ?aS ?aL ?_
   (case aR => repeat (first | exact (Kd.C_below HR0_1.out HB.out) | (with_reducible refine Kd.C_alloc ?_ _) | (with_reducible refine Kd.C_drewN ?_ _) | (with_reducible refine Kd.C_drew ?_)))
   (case aB => exact (jH HB))
   (case aF => exact (fun k_ hk => Kd.fresh' (Kd.R_lt (jR HO319)) k_ hk))
   (case aO => exact (jR HO322))
   (case aS => exact (zZ (jH HB)))
   (case aL => have := LMc3.out; omega)
   intro v324 w13 ho hb hg hat
   rw [← Ny323.out] at ho
   have HO325 := Aside0.mk (ho)
   replace BK312 := Aside0.mk (kG (g := gb312) (o := .cells #[.slice A0_0 l0_0.length c0_0, .slice A0_1 l0_1.length c0_1, .int .u32 a0_2] 42 (0, 0)) (jK BK312) hg (Kd.R_ne HO322.out BK312.out (by decide)))
   replace BK313 := Aside0.mk (kG (g := gb313) (o := .cells #[.slice none 0 0, .slice none 0 0, .int .u32 0] 42 (0, 0)) (jK BK313) hg (Kd.R_ne HO322.out BK313.out (by decide)))
   replace HO319 := Aside0.mk (Kd.R_after (ok := (fun _ => True)) (by (with_reducible repeat (first | apply Kd.R_alloc | apply Kd.R_drewN | apply Kd.R_drew)); exact Kd.R_mono HO319.out (fun _ hk => ⟨trivial, hk⟩)) hg hat)
   replace HB := Aside0.mk (hb)
   clear HO322
   clear ho hb hg hat
   obtain ⟨Ao14, co14, eo14⟩ := Kd.R_slice HO325.out
   (first | subst eo14 | (injection eo14 with f1_ f2_ f3_; have f4_ := f1_.symm; have f5_ := f3_.symm; clear f1_ f2_ f3_; subst f4_; subst f5_))
   obtain ⟨Ao15, co15, eo15⟩ := Kd.R_slice HO319.out
   (first | subst eo15 | (injection eo15 with f1_ f2_ f3_; have f4_ := f1_.symm; have f5_ := f3_.symm; clear f1_ f2_ f3_; subst f4_; subst f5_))
   refine hK.out _ _ ⟨(kC BK312.out 0).trans rfl, (kC BK312.out 1).trans rfl, (kC BK312.out 2).trans rfl⟩ (fun hHeld => ?_)
   clear hK K
   refine norm_ (a' := ?_) ?_ ?_
   rotate_left
   ·show Act.put _ (some 10) _ = _
    simp only [Act.put, List.setIfInBounds_toArray, List.set_cons_zero, List.set_cons_succ, i64_w, i32_w]
    rfl
   refine pure_ (i := 10) (N := some 13) (v := ?_) (a' := ?_) #[true, true, true, true, true, true, true, true, true, true, true, false] rfl rfl (any_of HT_.out (by kernel_rfl)) (fun _ _ _ h => h) (Or.inl ⟨by rfl, ?_⟩) ?_ ?_
   rotate_left
   ·intro w'
    go_simp
    with_reducible rfl
   rotate_left
   ·simp only [Act.put, List.setIfInBounds_toArray, List.set_cons_zero, List.set_cons_succ, i64_w, i32_w]
    rfl
   refine one_ (i := 11) (N := none) #[true, true, true, true, true, true, true, true, true, true, true, true] rfl rfl (one_of HT_.out (by kernel_rfl)) (by decide) (fun K hK => ?_)
   have hs16 : w13.cell? ⟨gb313, 0, none⟩ = some (.slice none 0 0) := (kC BK313.out 0).trans rfl
   have hfs16 := kF BK313.out 0
   have hns16_0 := NB312_313.out
   have hms16_0 := NB313_312.out
   have hs17 : w13.cell? ⟨gb313, 1, none⟩ = some (.slice none 0 0) := (kC BK313.out 1).trans rfl
   have hfs17 := kF BK313.out 1
   have hns17_0 := NB312_313.out
   have hms17_0 := NB313_312.out
   have hs18 : w13.cell? ⟨gb313, 2, none⟩ = some (.int .u32 0) := (kC BK313.out 2).trans rfl
   have hfs18 := kF BK313.out 2
   have hns18_0 := NB312_313.out
   have hms18_0 := NB313_312.out
   refine skip_ (w1 := ?_) (by rfl) rfl ?_ ?_
   rotate_left
   ·go_simp
    rfl
   refine hK.out _ _ ⟨((cell_far (p := ⟨gb313, _, none⟩) NB312_313.out _).trans (((cell_far (p := ⟨gb313, _, none⟩) NB312_313.out _).trans (((cell_far (p := ⟨gb313, _, none⟩) NB312_313.out _).trans (hHeld.1)))))), ((cell_far (p := ⟨gb313, _, none⟩) NB312_313.out _).trans (((cell_far (p := ⟨gb313, _, none⟩) NB312_313.out _).trans (((cell_far (p := ⟨gb313, _, none⟩) NB312_313.out _).trans (hHeld.2.1)))))), ((cell_far (p := ⟨gb313, _, none⟩) NB312_313.out _).trans (((cell_far (p := ⟨gb313, _, none⟩) NB312_313.out _).trans (((cell_far (p := ⟨gb313, _, none⟩) NB312_313.out _).trans (hHeld.2.2))))))⟩ (fun hHeld => ?_)
   clear hK K
   refine done_ (done_of HT_.out (by kernel_rfl)) ?_
   try go_wp2
   refine bodyPost_ret (results_cell_row rfl _ _ gb313 42 #[.slice Ao15 y317.length co15, .slice Ao14 y323.length co14, .int .u32 a0_2] (0, 0) _ rfl (by (with_reducible repeat (first | refine kN ?_ _ | refine kD ?_ | refine kA ?_ _)); refine kP (cs := #[.slice Ao15 y317.length co15, .slice Ao14 y323.length co14, .int .u32 0]) ?_ 2 _ rfl; (with_reducible repeat (first | refine kN ?_ _ | refine kD ?_ | refine kA ?_ _)); refine kP (cs := #[.slice Ao15 y317.length co15, .slice none 0 0, .int .u32 0]) ?_ 1 _ rfl; (with_reducible repeat (first | refine kN ?_ _ | refine kD ?_ | refine kA ?_ _)); refine kP (cs := #[.slice none 0 0, .slice none 0 0, .int .u32 0]) ?_ 0 _ rfl; (with_reducible repeat (first | refine kN ?_ _ | refine kD ?_ | refine kA ?_ _)); exact BK313.out) Tryd.underlying42 rfl (by kernel_rfl)) rfl ?_
   exact ⟨_, _, jE, by (with_reducible repeat (first | apply Kd.R_alloc | apply Kd.R_drewN | apply Kd.R_drew)); exact Kd.R_mono (Kd.R_far (p := ⟨gb313, 2, none⟩) (Kd.R_far (p := ⟨gb313, 1, none⟩) (Kd.R_far (p := ⟨gb313, 0, none⟩) (Kd.R_types HO319.out BK313.out (by decide)) (fun _ hk => hk.2) (.slice Ao15 y317.length co15)) (fun _ hk => hk.2) (.slice Ao14 y323.length co14)) (fun _ hk => hk.2) (.int .u32 a0_2)) (fun _ hk => hk.1.2), by (with_reducible repeat (first | apply Kd.R_alloc | apply Kd.R_drewN | apply Kd.R_drew)); exact Kd.R_mono (Kd.R_far (p := ⟨gb313, 2, none⟩) (Kd.R_far (p := ⟨gb313, 1, none⟩) (Kd.R_far (p := ⟨gb313, 0, none⟩) (Kd.R_types HO325.out BK313.out (by decide)) (fun _ hk => hk.2) (.slice Ao15 y317.length co15)) (fun _ hk => hk.2) (.slice Ao14 y323.length co14)) (fun _ hk => hk.2) (.int .u32 a0_2)) (fun _ hk => hk.1), jH HB⟩
  ·rw [if_neg c3] at H
   exact absurd H (by simp)
 ·rw [if_neg c2] at H
  exact absurd H (by simp)
end Go.Proofs.YtahacmdhhfmhiaaDoor.M

/- What Go functions compute; their calls come to it. No condition. -/
namespace Go.Proofs.YtahacmdhhfmhiaaDoor.M
open Go.RowKit Go.Proofs.YtahacmdhhfmhiaaDoorW.PrintWords Go.Proofs.YtahacmdhhfmhiaaDoorW.PrintLast Go.Proofs.YtahacmdhhfmhiaaDoorW.PrintMore
attribute [local go_sem] max2_int min2_int max_two min_two max_three min_three max_four min_four   -- for this text's walks alone
set_option linter.unusedVariables false
set_option linter.unusedSimpArgs false
attribute [local go_sem high] eqA59
def table_same.l0 : Nat → List (S59) → List (S59) → Int → Int → Option (Bool)
 | 0, _, _, _, _ => none
 | k + 1, x0, x1, x12, x13 => if x13 < x12 then (if 0 ≤ x13 then (if x13 < (x0.length : Int) then (if x13 < (x1.length : Int) then (if (!(((rd_T59 x0 x13).f0) == ((rd_T59 x1 x13).f0)) || (!(((rd_T59 x0 x13).f1) == ((rd_T59 x1 x13).f1)) || (!(((rd_T59 x0 x13).f2) == ((rd_T59 x1 x13).f2)) || (!(((rd_T59 x0 x13).f3) == ((rd_T59 x1 x13).f3)))))) = true then (some false) else (table_same.l0 k x0 x1 x12 (wrap64 (x13 + 1)))) else (none)) else (none)) else (none)) else (some true)
def table_same.f (k : Nat) (l0 : List (S59)) (l1 : List (S59)) : Option (Bool) := if (l0.length : Int) = (l1.length : Int) then (table_same.l0 k l0 l1 (l0.length : Int) 0) else (some false)
theorem table_same.mono_l : ∀ k, (∀ y0 y1 y2 y3, LeO (table_same.l0 k y0 y1 y2 y3) (table_same.l0 (k + 1) y0 y1 y2 y3))
 | 0 => fun _ _ _ _ r h => by simp [table_same.l0] at h
 | k + 1 => by
  have ih0 := table_same.mono_l k
  ·intro y0 y1 y2 y3
   unfold table_same.l0
   repeat' first
   | (with_reducible apply ih0)
   | (with_reducible exact LeO.refl _)
   | (with_reducible exact LeO.none _)
   | (with_reducible refine LeO.ite ?_ ?_)
   | (with_reducible refine LeO.bind ?_ (fun _ => ?_))
   | apply ih0
   | exact LeO.none _
   | refine LeO.ite ?_ ?_
   | refine LeO.bind ?_ (fun _ => ?_)
theorem table_same.mono : ∀ a0 a1 k, LeO (table_same.f k a0 a1) (table_same.f (k + 1) a0 a1) := by
 intro a0 a1 k
 have ih0 := table_same.mono_l k
 unfold table_same.f
 repeat' first
   | (with_reducible apply ih0)
   | (with_reducible exact LeO.refl _)
   | (with_reducible exact LeO.none _)
   | (with_reducible refine LeO.ite ?_ ?_)
   | (with_reducible refine LeO.bind ?_ (fun _ => ?_))
   | apply ih0
   | exact LeO.none _
   | refine LeO.ite ?_ ?_
   | refine LeO.bind ?_ (fun _ => ?_)
set_option maxHeartbeats 8000000 in
set_option maxRecDepth 100000 in
theorem table_same.calls (k : Nat) (A0 : Option Addr) (c0 : Nat) (l0 : List (S59)) (A1 : Option Addr) (c1 : Nat) (l1 : List (S59)) (r : Bool) (w : World) (hr0 : Kd.C k59 w A0 l0.length l0) (hc0 : l0.length ≤ c0) (hr1 : Kd.C k59 w A1 l1.length l1) (hc1 : l1.length ≤ c1) (h : table_same.f k l0 l1 = some r) :
  Calls Tryd.prog 39 #[.slice A0 l0.length c0, .slice A1 l1.length c1] w fun e w' => e = .returned (.bool r) ∧ Drawn0 w w' := by
 have hu59 := Tryd.underlying59
 have HR0 := Aside0.mk hr0
 have HC0 := Aside0.mk hc0
 clear hr0 hc0
 have HR1 := Aside0.mk hr1
 have HC1 := Aside0.mk hc1
 clear hr1 hc1
 have H : (if (l0.length : Int) = (l1.length : Int) then (table_same.l0 k l0 l1 (l0.length : Int) 0) else (some false)) = some r := h
 clear h
 by_cases c3 : (l0.length : Int) = (l1.length : Int)
 ·rw [if_pos c3] at H
  have c3b0 : ((l0.length : Int) == (l1.length : Int)) = true := bI.mpr c3
  have c3b1 : ((l0.length : Int) != (l1.length : Int)) = false := nF.mpr c3
  have c3b2 : (l0.length == l1.length) = true := by first | simpa using c3 | (simp at c3 ⊢; omega)
  clear c3
  have H' := Aside0.mk H
  clear H
  go_enter Tryd.func39, Tryd.ntmps39
  go_wp2
  repeat (go_quiet (fail); try go_wp2)
  go_loopg [13] k (fun kq v13 w' => ∃ (x13_1 : Int), v13 = .int .i64 x13_1 ∧ Aside0 (table_same.l0 kq l0 l1 (l0.length : Int) x13_1 = some r) ∧ Aside0 (kq ≤ k) ∧ Drawn0 w w')
  case atStart => exact ⟨(0), jS, H', ⟨Nat.le_refl _⟩, by repeat (first | exact Drawn0.refl _ | apply Drawn0.step)⟩
  case round =>
   clear H'
   obtain ⟨x13_1, rfl, HA, HK1, ⟨m1, rfl⟩⟩ := hrel
   cases gk with
   | zero => exact absurd HA.out (by simp [table_same.l0])
   | succ k1 =>
    have H := HA.out
    clear HA
    simp only [table_same.l0] at H
    by_cases c4 : x13_1 < (l0.length : Int)
    ·rw [if_pos c4] at H
     have c4b0 : decide (x13_1 < (l0.length : Int)) = true := dT c4
     clear c4
     by_cases c5 : 0 ≤ x13_1
     ·rw [if_pos c5] at H
      have c5b0 : decide (0 ≤ x13_1) = true := dT c5
      clear c5
      by_cases c6 : x13_1 < (l0.length : Int)
      ·rw [if_pos c6] at H
       have c6b0 : decide (x13_1 < (l0.length : Int)) = true := dT c6
       clear c6
       by_cases c7 : x13_1 < (l1.length : Int)
       ·rw [if_pos c7] at H
        have c7b0 : decide (x13_1 < (l1.length : Int)) = true := dT c7
        clear c7
        by_cases c8 : (!(((rd_T59 l0 x13_1).f0) == ((rd_T59 l1 x13_1).f0)) || (!(((rd_T59 l0 x13_1).f1) == ((rd_T59 l1 x13_1).f1)) || (!(((rd_T59 l0 x13_1).f2) == ((rd_T59 l1 x13_1).f2)) || (!(((rd_T59 l0 x13_1).f3) == ((rd_T59 l1 x13_1).f3)))))) = true
        ·rw [if_pos c8] at H
         have c8b0 : (!(((rd_T59 l0 x13_1).f0) == ((rd_T59 l1 x13_1).f0)) || (!(((rd_T59 l0 x13_1).f1) == ((rd_T59 l1 x13_1).f1)) || (!(((rd_T59 l0 x13_1).f2) == ((rd_T59 l1 x13_1).f2)) || (!(((rd_T59 l0 x13_1).f3) == ((rd_T59 l1 x13_1).f3)))))) = true := c8
         clear c8
         obtain rfl := Option.some.inj H
         have p375 : 0 ≤ (x13_1 : Int) := oD (jA)
         have q375 : x13_1 < (l0.length : Int) := oD (jA)
         obtain ⟨ad375, e375, hx375_0, hx375_1, hx375_2, hx375_3⟩ := at_T59 HR0.out x13_1 p375 q375
         cases e375
         replace p375 := eq_true p375
         replace q375 := eq_true q375
         have p376 : 0 ≤ (x13_1 : Int) := oD (jA)
         have q376 : x13_1 < (l1.length : Int) := oD (jA)
         obtain ⟨ad376, e376, hx376_0, hx376_1, hx376_2, hx376_3⟩ := at_T59 HR1.out x13_1 p376 q376
         cases e376
         replace p376 := eq_true p376
         replace q376 := eq_true q376
         go_wp2
         repeat (go_quiet (fail); try go_wp2)
         go_ret
         exact ⟨by first | rfl | (simp; done) | (simp [*]; done), by repeat (first | exact Drawn0.refl _ | apply Drawn0.step)⟩
        ·rw [if_neg c8] at H
         have c8b0 : (!(((rd_T59 l0 x13_1).f0) == ((rd_T59 l1 x13_1).f0)) || (!(((rd_T59 l0 x13_1).f1) == ((rd_T59 l1 x13_1).f1)) || (!(((rd_T59 l0 x13_1).f2) == ((rd_T59 l1 x13_1).f2)) || (!(((rd_T59 l0 x13_1).f3) == ((rd_T59 l1 x13_1).f3)))))) = false := by simpa using c8
         clear c8
         have H' := Aside0.mk H
         clear H
         have p375 : 0 ≤ (x13_1 : Int) := oD (jA)
         have q375 : x13_1 < (l0.length : Int) := oD (jA)
         obtain ⟨ad375, e375, hx375_0, hx375_1, hx375_2, hx375_3⟩ := at_T59 HR0.out x13_1 p375 q375
         cases e375
         replace p375 := eq_true p375
         replace q375 := eq_true q375
         have p376 : 0 ≤ (x13_1 : Int) := oD (jA)
         have q376 : x13_1 < (l1.length : Int) := oD (jA)
         obtain ⟨ad376, e376, hx376_0, hx376_1, hx376_2, hx376_3⟩ := at_T59 HR1.out x13_1 p376 q376
         cases e376
         replace p376 := eq_true p376
         replace q376 := eq_true q376
         go_wp2
         repeat (go_quiet (fail); try go_wp2)
         go_roundg k1
         case measure => have := HK1.out; omega
         case rel => exact ⟨(wrap64 (x13_1 + 1)), jS, H', ⟨by have := HK1.out; omega⟩, by repeat (first | exact Drawn0.refl _ | apply Drawn0.step)⟩
       ·rw [if_neg c7] at H
        exact absurd H (by simp)
      ·rw [if_neg c6] at H
       exact absurd H (by simp)
     ·rw [if_neg c5] at H
      exact absurd H (by simp)
    ·rw [if_neg c4] at H
     have c4b0 : decide (x13_1 < (l0.length : Int)) = false := dF c4
     clear c4
     obtain rfl := Option.some.inj H
     go_wp2
     repeat (go_quiet (fail); try go_wp2)
     go_ret
     exact ⟨by first | rfl | (simp; done) | (simp [*]; done), by repeat (first | exact Drawn0.refl _ | apply Drawn0.step)⟩
 ·rw [if_neg c3] at H
  have c3b0 : ((l0.length : Int) == (l1.length : Int)) = false := bF.mpr c3
  have c3b1 : ((l0.length : Int) != (l1.length : Int)) = true := nI.mpr c3
  have c3b2 : (l0.length == l1.length) = false := by first | simpa using c3 | (simp at c3 ⊢; omega)
  obtain rfl := Option.some.inj H
  go_enter Tryd.func39, Tryd.ntmps39
  go_wp2
  repeat (go_quiet (fail); try go_wp2)
  go_ret
  exact ⟨by first | rfl | (simp; done) | (simp [*]; done), by repeat (first | exact Drawn0.refl _ | apply Drawn0.step)⟩
end Go.Proofs.YtahacmdhhfmhiaaDoor.M

/- What Go functions compute; their calls come to it. No condition. -/
namespace Go.Proofs.YtahacmdhhfmhiaaDoor.M
open Go.RowKit Go.Proofs.YtahacmdhhfmhiaaDoorW.PrintWords Go.Proofs.YtahacmdhhfmhiaaDoorW.PrintLast Go.Proofs.YtahacmdhhfmhiaaDoorW.PrintMore
attribute [local go_sem] max2_int min2_int max_two min_two max_three min_three max_four min_four   -- for this text's walks alone
set_option linter.unusedVariables false
set_option linter.unusedSimpArgs false
def table_Find.l0 : Nat → List (S59) → Int → List (S42) → Int → Int → Option ((List (S59)) × Bool)
 | 0, _, _, _, _, _ => none
 | k + 1, x1, x2, x13, x14, x15 => if x15 < x14 then (if 0 ≤ x15 then (if x15 < (x13.length : Int) then ((table_same.f k ((rd_T42 x13 x15).f0) x1).bind fun t380 => (if t380 = true then (if (Go.bits .and .u32 x2 262143) = ((rd_T42 x13 x15).f2) then ((some (([] : List (S59)) : List (S59))).bind fun y381 => (if y381.length + ((rd_T42 x13 x15).f1).length < 4398046511104 then (some ((y381 ++ ((rd_T42 x13 x15).f1)), true)) else (none))) else (table_Find.l0 k x1 x2 x13 x14 (wrap64 (x15 + 1)))) else (table_Find.l0 k x1 x2 x13 x14 (wrap64 (x15 + 1))))) else (none)) else (none)) else (some (([] : List (S59)), false))
def table_Find.f (k : Nat) (l0 : List (S42)) (l1 : List (S59)) (a2 : Int) : Option ((List (S59)) × Bool) := (table_Right.f k l0).bind fun t377 => (if t377 = true then (table_Find.l0 k l1 a2 l0 (l0.length : Int) 0) else (some (([] : List (S59)), false)))
theorem table_Find.mono_l : ∀ k, (∀ y0 y1 y2 y3 y4, LeO (table_Find.l0 k y0 y1 y2 y3 y4) (table_Find.l0 (k + 1) y0 y1 y2 y3 y4))
 | 0 => fun _ _ _ _ _ r h => by simp [table_Find.l0] at h
 | k + 1 => by
  have ih0 := table_Find.mono_l k
  ·intro y0 y1 y2 y3 y4
   unfold table_Find.l0
   repeat' first
   | (with_reducible apply ih0)
   | (with_reducible apply table_Right.mono)
   | (with_reducible apply table_same.mono)
   | (with_reducible exact LeO.refl _)
   | (with_reducible exact LeO.none _)
   | (with_reducible refine LeO.ite ?_ ?_)
   | (with_reducible refine LeO.bind ?_ (fun _ => ?_))
   | apply ih0
   | apply table_Right.mono
   | apply table_same.mono
   | exact LeO.none _
   | refine LeO.ite ?_ ?_
   | refine LeO.bind ?_ (fun _ => ?_)
theorem table_Find.mono : ∀ a0 a1 a2 k, LeO (table_Find.f k a0 a1 a2) (table_Find.f (k + 1) a0 a1 a2) := by
 intro a0 a1 a2 k
 have ih0 := table_Find.mono_l k
 unfold table_Find.f
 repeat' first
   | (with_reducible apply ih0)
   | (with_reducible apply table_Right.mono)
   | (with_reducible apply table_same.mono)
   | (with_reducible exact LeO.refl _)
   | (with_reducible exact LeO.none _)
   | (with_reducible refine LeO.ite ?_ ?_)
   | (with_reducible refine LeO.bind ?_ (fun _ => ?_))
   | apply ih0
   | apply table_Right.mono
   | apply table_same.mono
   | exact LeO.none _
   | refine LeO.ite ?_ ?_
   | refine LeO.bind ?_ (fun _ => ?_)
set_option maxHeartbeats 8000000 in
set_option maxRecDepth 100000 in
theorem table_Find.calls (k : Nat) (A0 : Option Addr) (c0 : Nat) (l0 : List (S42)) (A1 : Option Addr) (c1 : Nat) (l1 : List (S59)) (a2 : Int) (r1 : List (S59)) (r2 : Bool) (w : World) (hr0 : Kd.C k42 w A0 l0.length l0) (hc0 : l0.length ≤ c0) (hr1 : Kd.C k59 w A1 l1.length l1) (hc1 : l1.length ≤ c1) (hG : Glob w) (h : table_Find.f k l0 l1 a2 = some (r1, r2)) :
  Calls Tryd.prog 23 #[.slice A0 l0.length c0, .slice A1 l1.length c1, .int .u32 a2] w fun e w' => ∃ v0_ : Value, e = .returned (.tuple #[v0_, .bool r2]) ∧ Kd.R k59 59 w' w.heap.size (fun _ => True) v0_ r1 ∧ Below w.heap.size w w' := by
 have hu42 := Tryd.underlying42
 have HG := Aside0.mk hG
 clear hG
 have HR0 := Aside0.mk hr0
 have HC0 := Aside0.mk hc0
 clear hr0 hc0
 have HR1 := Aside0.mk hr1
 have HC1 := Aside0.mk hc1
 clear hr1 hc1
 have HB := Aside0.mk (Below.refl w.heap.size w)
 have H : ((table_Right.f k l0).bind fun t377 => (if t377 = true then (table_Find.l0 k l1 a2 l0 (l0.length : Int) 0) else (some (([] : List (S59)), false)))) = some (r1, r2) := h
 clear h
 replace H := Option.bind_eq_some_iff.mp H
 obtain ⟨t377, A40, H⟩ := H
 try dsimp only at H
 have A4 := Aside0.mk A40
 clear A40
 by_cases c5 : t377 = true
 ·subst c5
  rw [if_pos rfl] at H
  have H' := Aside0.mk H
  clear H
  go_enter Tryd.func23, Tryd.ntmps23
  go_wp2_with (first | ((with_reducible refine gate_callee (f := 15) rfl ?_); refine goesL_ (some 11) rfl rfl Tryd.func15 (by kernel_rfl) rfl #[.slice A0 l0.length c0] rfl jZ ?_; (with_reducible refine (table_Right.calls k _ _ l0 true _ ?side1 ?side2 ?side3 A4.out).mono ?_); (case side1 => repeat (first | exact HR0.out | (with_reducible refine Kd.C_alloc ?_ _) | (with_reducible refine Kd.C_drewN ?_ _) | (with_reducible refine Kd.C_drew ?_))); (case side2 => exact HC0.out); (case side3 => exact Glob.below HG.out (jH HB)); rintro e w6 ⟨rfl, hb⟩; refine ⟨_, rfl, ?_⟩; replace HB := Aside0.mk (zT (jH HB) hb); (try clear hb); (try clear hb2); (try clear hk); (try clear hi)))
  go_loopg [15] k (fun kq v15 w' => ∃ (x15_1 : Int), v15 = .int .i64 x15_1 ∧ Aside0 (table_Find.l0 kq l1 a2 l0 (l0.length : Int) x15_1 = some (r1, r2)) ∧ Aside0 (kq ≤ k) ∧ Aside0 (Below w.heap.size w w'))
  case atStart => exact ⟨(0), jS, H', ⟨Nat.le_refl _⟩, ⟨jH HB⟩⟩
  case round =>
   clear H'
   obtain ⟨x15_1, rfl, HA, HK1, HB⟩ := hrel
   cases gk with
   | zero => exact absurd HA.out (by simp [table_Find.l0])
   | succ k1 =>
    have H := HA.out
    clear HA
    simp only [table_Find.l0] at H
    by_cases c7 : x15_1 < (l0.length : Int)
    ·rw [if_pos c7] at H
     have c7b0 : decide (x15_1 < (l0.length : Int)) = true := dT c7
     clear c7
     by_cases c8 : 0 ≤ x15_1
     ·rw [if_pos c8] at H
      have c8b0 : decide (0 ≤ x15_1) = true := dT c8
      clear c8
      by_cases c9 : x15_1 < (l0.length : Int)
      ·rw [if_pos c9] at H
       have c9b0 : decide (x15_1 < (l0.length : Int)) = true := dT c9
       clear c9
       replace H := Option.bind_eq_some_iff.mp H
       obtain ⟨t380, A100, H⟩ := H
       try dsimp only at H
       have A10 := Aside0.mk A100
       clear A100
       by_cases c11 : t380 = true
       ·subst c11
        rw [if_pos rfl] at H
        by_cases c12 : (Go.bits .and .u32 a2 262143) = ((rd_T42 l0 x15_1).f2)
        ·rw [if_pos c12] at H
         have c12b0 : ((Go.bits .and .u32 a2 262143) == ((rd_T42 l0 x15_1).f2)) = true := bI.mpr c12
         have c12b1 : ((Go.bits .and .u32 a2 262143) != ((rd_T42 l0 x15_1).f2)) = false := nF.mpr c12
         clear c12
         obtain ⟨y381, hy381⟩ : ∃ y_ : List (S59), y_ = (([] : List (S59))) := ⟨_, rfl⟩
         simp only [Option.bind_some, ← hy381] at H
         have Ny381 := Aside0.mk hy381
         clear hy381
         by_cases c13 : y381.length + ((rd_T42 l0 x15_1).f1).length < 4398046511104
         ·rw [if_pos c13] at H
          have LMc13 := Aside0.mk c13
          clear c13
          obtain ⟨y384, hy384⟩ : ∃ y_ : List (S59), y_ = (y381 ++ ((rd_T42 l0 x15_1).f1)) := ⟨_, rfl⟩
          simp only [Option.bind_some, ← hy384] at H
          have Ny384 := Aside0.mk hy384
          clear hy384
          simp only [Option.some.injEq, Prod.mk.injEq] at H
          obtain ⟨rfl, rfl⟩ := H
          have p378 : 0 ≤ (x15_1 : Int) := oD (jA)
          have q378 : x15_1 < (l0.length : Int) := oD (jA)
          obtain ⟨ad378, A378_0, c378_0, A378_1, c378_1, e378, hx378_0, hx378_1, hx378_2, hl378_0, hi378_0, hl378_1, hi378_1⟩ := at_T42 HR0.out x15_1 p378 q378
          cases e378
          replace hx378_0 := (HB.out.cell (bL w _ hx378_0)).trans hx378_0
          replace hx378_1 := (HB.out.cell (bL w _ hx378_1)).trans hx378_1
          replace hx378_2 := (HB.out.cell (bL w _ hx378_2)).trans hx378_2
          have HR378_0 := Aside0.mk hi378_0
          have HC378_0 := Aside0.mk hl378_0
          clear hi378_0 hl378_0
          have HR378_1 := Aside0.mk hi378_1
          have HC378_1 := Aside0.mk hl378_1
          clear hi378_1 hl378_1
          replace p378 := eq_true p378
          replace q378 := eq_true q378
          go_wp2_with (first | ((with_reducible refine gate_dst (N := 9) rfl ?_); refine box_event rfl (N := 9) rfl (cs := #[.slice none 0 0, .slice none 0 0, .int .u32 0]) (t := 42) jW ?_; intro gb379 hg w14 hbox hb; have BK379 := Aside0.mk hbox; have GW379 := Aside0.mk (jG hg HB); have GE379 := Aside0.mk (jG hg HB); replace HB := Aside0.mk (zT (jH HB) hb); clear hb hbox hg; obtain ⟨hcz15_0, hcz15_1, hcz15_2, hfz15_0, hfz15_1, hfz15_2⟩ := kQ3 BK379.out) | ((with_reducible refine gate_callee (f := 39) rfl ?_); refine goesL_ (some 22) rfl rfl Tryd.func39 (by kernel_rfl) rfl #[.slice A378_0 ((rd_T42 l0 x15_1).f0).length c378_0, .slice A1 l1.length c1] rfl jZ ?_; (with_reducible refine (table_same.calls k1 _ _ ((rd_T42 l0 x15_1).f0) _ _ l1 true _ ?side1 ?side2 ?side3 ?side4 A10.out).mono ?_); (case side1 => exact Kd.C_below HR378_0.out (jH HB)); (case side2 => exact HC378_0.out); (case side3 => exact Kd.C_below HR1.out (jH HB)); (case side4 => exact HC1.out); rintro e w' ⟨rfl, ⟨nd, rfl⟩⟩; refine ⟨_, rfl, ?_⟩) | ((with_reducible refine gate_dst (N := 30) rfl ?_); refine Kd.R_lit k59 _ 59 ?hg (N := 30) ?hd (xs := ([] : List (S59))) (inner := []) (ok := fun _ => True) (okp := fun _ => True) ?hr ?hp (fun _ hk => hk) trivial (Below.refl _ _) (Nat.le_refl _) (by simp) ?_; (case hd => rfl); (case hg => rfl); (case hr => first | (go_simp; done) | (go_simp; rfl)); (case hp => exact (Reps.none _ _)); intro v382 w16 ho17 hb hg_ hnew_; clear hg_ hnew_; (first | rw [← Ny381.out] at ho17 | (simp only [Int.reduceToNat] at ho17; rw [← Ny381.out] at ho17)); have n0_ := Aside0.mk (Kd.R_lower ho17 (zZ (jH HB))); have n1_ := Aside0.mk (kB (g := gb379) (o := .cells #[.slice A378_0 ((rd_T42 l0 x15_1).f0).length c378_0, .slice A378_1 ((rd_T42 l0 x15_1).f1).length c378_1, .int .u32 ((rd_T42 l0 x15_1).f2)] 42 (0, 0)) (by (with_reducible repeat (first | refine kN ?_ _ | refine kD ?_ | refine kA ?_ _)); refine kP (cs := #[.slice A378_0 ((rd_T42 l0 x15_1).f0).length c378_0, .slice A378_1 ((rd_T42 l0 x15_1).f1).length c378_1, .int .u32 0]) ?_ 2 _ rfl; (with_reducible repeat (first | refine kN ?_ _ | refine kD ?_ | refine kA ?_ _)); refine kP (cs := #[.slice A378_0 ((rd_T42 l0 x15_1).f0).length c378_0, .slice none 0 0, .int .u32 0]) ?_ 1 _ rfl; (with_reducible repeat (first | refine kN ?_ _ | refine kD ?_ | refine kA ?_ _)); refine kP (cs := #[.slice none 0 0, .slice none 0 0, .int .u32 0]) ?_ 0 _ rfl; (with_reducible repeat (first | refine kN ?_ _ | refine kD ?_ | refine kA ?_ _)); exact BK379.out) hb); have n2_ := Aside0.mk (zT (jH HB) hb); clear BK379; clear HB; have HO383 := n0_; have BK379 := n1_; have HB := n2_; clear n0_ n1_ n2_; clear hb ho17; obtain ⟨hcz18_0, hcz18_1, hcz18_2, hfz18_0, hfz18_1, hfz18_2⟩ := kQ3 BK379.out) | ((with_reducible refine gate_builtin (b := .append) (xs := #[.tmp 30, .tmp 32]) rfl ?_); at_builtin; refine Kd.R_append_rows k59 (w0 := w) w.heap.size rfl (.tmp 30) (.tmp 32) 39 59 (.agg #[(.int .i64 0), (.int .i64 0), (.int .i64 0), (.int .u32 0)]) 32 rfl Tryd.underlying39 info59 rfl (by decide) (by omega) v382 y381 ((rd_T42 l0 x15_1).f1) _ _ _ (fun _ => True) (fun _ => False) rfl rfl ?aO ?aR (fun _ _ h => h) (fun _ h => h.elim) ?aF ?aB ?aS ?aL ?_; (case aR => repeat (first | exact (Kd.C_below HR378_1.out HB.out) | (with_reducible refine Kd.C_alloc ?_ _) | (with_reducible refine Kd.C_drewN ?_ _) | (with_reducible refine Kd.C_drew ?_))); (case aB => exact (jH HB)); (case aF => exact (fun _ _ => trivial)); (case aO => exact (jR HO383)); (case aS => exact (zZ (jH HB))); (case aL => have := LMc13.out; omega); intro v385 w19 ho hb hg hat; rw [← Ny384.out] at ho; have HO386 := Aside0.mk (ho); replace BK379 := Aside0.mk (kG (g := gb379) (o := .cells #[.slice A378_0 ((rd_T42 l0 x15_1).f0).length c378_0, .slice A378_1 ((rd_T42 l0 x15_1).f1).length c378_1, .int .u32 ((rd_T42 l0 x15_1).f2)] 42 (0, 0)) (jK BK379) hg (Kd.R_ne HO383.out BK379.out (by decide))); replace HB := Aside0.mk (hb); clear HO383; clear ho hb hg hat))
          go_ret2
          exact ⟨_, jE, by (with_reducible repeat (first | apply Kd.R_alloc | apply Kd.R_drewN | apply Kd.R_drew)); exact HO386.out, jH HB⟩
         ·rw [if_neg c13] at H
          exact absurd H (by simp)
        ·rw [if_neg c12] at H
         have c12b0 : ((Go.bits .and .u32 a2 262143) == ((rd_T42 l0 x15_1).f2)) = false := bF.mpr c12
         have c12b1 : ((Go.bits .and .u32 a2 262143) != ((rd_T42 l0 x15_1).f2)) = true := nI.mpr c12
         have H' := Aside0.mk H
         clear H
         have p378 : 0 ≤ (x15_1 : Int) := oD (jA)
         have q378 : x15_1 < (l0.length : Int) := oD (jA)
         obtain ⟨ad378, A378_0, c378_0, A378_1, c378_1, e378, hx378_0, hx378_1, hx378_2, hl378_0, hi378_0, hl378_1, hi378_1⟩ := at_T42 HR0.out x15_1 p378 q378
         cases e378
         replace hx378_0 := (HB.out.cell (bL w _ hx378_0)).trans hx378_0
         replace hx378_1 := (HB.out.cell (bL w _ hx378_1)).trans hx378_1
         replace hx378_2 := (HB.out.cell (bL w _ hx378_2)).trans hx378_2
         have HR378_0 := Aside0.mk hi378_0
         have HC378_0 := Aside0.mk hl378_0
         clear hi378_0 hl378_0
         have HR378_1 := Aside0.mk hi378_1
         have HC378_1 := Aside0.mk hl378_1
         clear hi378_1 hl378_1
         replace p378 := eq_true p378
         replace q378 := eq_true q378
         go_wp2_with (first | ((with_reducible refine gate_dst (N := 9) rfl ?_); refine box_event rfl (N := 9) rfl (cs := #[.slice none 0 0, .slice none 0 0, .int .u32 0]) (t := 42) jW ?_; intro gb379 hg w20 hbox hb; have BK379 := Aside0.mk hbox; have GW379 := Aside0.mk (jG hg HB); have GE379 := Aside0.mk (jG hg HB); replace HB := Aside0.mk (zT (jH HB) hb); clear hb hbox hg; obtain ⟨hcz21_0, hcz21_1, hcz21_2, hfz21_0, hfz21_1, hfz21_2⟩ := kQ3 BK379.out) | ((with_reducible refine gate_callee (f := 39) rfl ?_); refine goesL_ (some 22) rfl rfl Tryd.func39 (by kernel_rfl) rfl #[.slice A378_0 ((rd_T42 l0 x15_1).f0).length c378_0, .slice A1 l1.length c1] rfl jZ ?_; (with_reducible refine (table_same.calls k1 _ _ ((rd_T42 l0 x15_1).f0) _ _ l1 true _ ?side1 ?side2 ?side3 ?side4 A10.out).mono ?_); (case side1 => exact Kd.C_below HR378_0.out (jH HB)); (case side2 => exact HC378_0.out); (case side3 => exact Kd.C_below HR1.out (jH HB)); (case side4 => exact HC1.out); rintro e w' ⟨rfl, ⟨nd, rfl⟩⟩; refine ⟨_, rfl, ?_⟩))
         go_roundg k1
         case measure => have := HK1.out; omega
         case rel => exact ⟨(wrap64 (x15_1 + 1)), jS, H', ⟨by have := HK1.out; omega⟩, ⟨jH HB⟩⟩
       ·replace c11 := Bool.eq_false_iff.mpr c11
        subst c11
        rw [if_neg (show ¬ (false = true) by decide)] at H
        have H' := Aside0.mk H
        clear H
        have p378 : 0 ≤ (x15_1 : Int) := oD (jA)
        have q378 : x15_1 < (l0.length : Int) := oD (jA)
        obtain ⟨ad378, A378_0, c378_0, A378_1, c378_1, e378, hx378_0, hx378_1, hx378_2, hl378_0, hi378_0, hl378_1, hi378_1⟩ := at_T42 HR0.out x15_1 p378 q378
        cases e378
        replace hx378_0 := (HB.out.cell (bL w _ hx378_0)).trans hx378_0
        replace hx378_1 := (HB.out.cell (bL w _ hx378_1)).trans hx378_1
        replace hx378_2 := (HB.out.cell (bL w _ hx378_2)).trans hx378_2
        have HR378_0 := Aside0.mk hi378_0
        have HC378_0 := Aside0.mk hl378_0
        clear hi378_0 hl378_0
        have HR378_1 := Aside0.mk hi378_1
        have HC378_1 := Aside0.mk hl378_1
        clear hi378_1 hl378_1
        replace p378 := eq_true p378
        replace q378 := eq_true q378
        go_wp2_with (first | ((with_reducible refine gate_dst (N := 9) rfl ?_); refine box_event rfl (N := 9) rfl (cs := #[.slice none 0 0, .slice none 0 0, .int .u32 0]) (t := 42) jW ?_; intro gb379 hg w22 hbox hb; have BK379 := Aside0.mk hbox; have GW379 := Aside0.mk (jG hg HB); have GE379 := Aside0.mk (jG hg HB); replace HB := Aside0.mk (zT (jH HB) hb); clear hb hbox hg; obtain ⟨hcz23_0, hcz23_1, hcz23_2, hfz23_0, hfz23_1, hfz23_2⟩ := kQ3 BK379.out) | ((with_reducible refine gate_callee (f := 39) rfl ?_); refine goesL_ (some 22) rfl rfl Tryd.func39 (by kernel_rfl) rfl #[.slice A378_0 ((rd_T42 l0 x15_1).f0).length c378_0, .slice A1 l1.length c1] rfl jZ ?_; (with_reducible refine (table_same.calls k1 _ _ ((rd_T42 l0 x15_1).f0) _ _ l1 false _ ?side1 ?side2 ?side3 ?side4 A10.out).mono ?_); (case side1 => exact Kd.C_below HR378_0.out (jH HB)); (case side2 => exact HC378_0.out); (case side3 => exact Kd.C_below HR1.out (jH HB)); (case side4 => exact HC1.out); rintro e w' ⟨rfl, ⟨nd, rfl⟩⟩; refine ⟨_, rfl, ?_⟩))
        go_roundg k1
        case measure => have := HK1.out; omega
        case rel => exact ⟨(wrap64 (x15_1 + 1)), jS, H', ⟨by have := HK1.out; omega⟩, ⟨jH HB⟩⟩
      ·rw [if_neg c9] at H
       exact absurd H (by simp)
     ·rw [if_neg c8] at H
      exact absurd H (by simp)
    ·rw [if_neg c7] at H
     have c7b0 : decide (x15_1 < (l0.length : Int)) = false := dF c7
     clear c7
     simp only [Option.some.injEq, Prod.mk.injEq] at H
     obtain ⟨rfl, rfl⟩ := H
     go_wp2
     go_ret2
     exact ⟨_, jE, by first | exact Kd.R_nil _ _ _ _ _ | exact Kd.N_nil _ _ _ _ _ | exact Kd.V_nil _ _ _ _ _ | exact Kd.Q_nil _ _ _ _ _ | exact Kd.S_nil _ _ _ _ _, jH HB⟩
 ·replace c5 := Bool.eq_false_iff.mpr c5
  subst c5
  rw [if_neg (show ¬ (false = true) by decide)] at H
  simp only [Option.some.injEq, Prod.mk.injEq] at H
  obtain ⟨rfl, rfl⟩ := H
  go_enter Tryd.func23, Tryd.ntmps23
  go_wp2_with (first | ((with_reducible refine gate_callee (f := 15) rfl ?_); refine goesL_ (some 11) rfl rfl Tryd.func15 (by kernel_rfl) rfl #[.slice A0 l0.length c0] rfl jZ ?_; (with_reducible refine (table_Right.calls k _ _ l0 false _ ?side1 ?side2 ?side3 A4.out).mono ?_); (case side1 => repeat (first | exact HR0.out | (with_reducible refine Kd.C_alloc ?_ _) | (with_reducible refine Kd.C_drewN ?_ _) | (with_reducible refine Kd.C_drew ?_))); (case side2 => exact HC0.out); (case side3 => exact Glob.below HG.out (jH HB)); rintro e w24 ⟨rfl, hb⟩; refine ⟨_, rfl, ?_⟩; replace HB := Aside0.mk (zT (jH HB) hb); (try clear hb); (try clear hb2); (try clear hk); (try clear hi)))
  go_ret2
  exact ⟨_, jE, by first | exact Kd.R_nil _ _ _ _ _ | exact Kd.N_nil _ _ _ _ _ | exact Kd.V_nil _ _ _ _ _ | exact Kd.Q_nil _ _ _ _ _ | exact Kd.S_nil _ _ _ _ _, jH HB⟩
end Go.Proofs.YtahacmdhhfmhiaaDoor.M
