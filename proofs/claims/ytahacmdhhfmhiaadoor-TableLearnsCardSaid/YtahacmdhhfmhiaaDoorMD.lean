/- What Go functions compute; their calls come to it. No condition. -/
import Derived.Test.YtahacmdhhfmhiaaDoorM0
import Derived.Test.YtahacmdhhfmhiaaDoorMB
import Derived.Test.YtahacmdhhfmhiaaDoorMC
import Derived.Test.YtahacmdhhfmhiaaDoorMA
namespace Go.Proofs.YtahacmdhhfmhiaaDoor.M
open Go.RowKit Go.Proofs.YtahacmdhhfmhiaaDoorW.PrintWords Go.Proofs.YtahacmdhhfmhiaaDoorW.PrintLast Go.Proofs.YtahacmdhhfmhiaaDoorW.PrintMore
attribute [local go_sem] max2_int min2_int max_two min_two max_three min_three max_four min_four   -- for this text's walks alone
set_option linter.unusedVariables false
set_option linter.unusedSimpArgs false
def table_place.l0 : Nat → List (S42) → List (S42) → Int → Int → List (S59) → List (S59) → Int → Option (Int × Bool)
 | 0, _, _, _, _, _, _, _ => none
 | k + 1, x0, x10, x11, x12, x306000, x306001, x306002 => if x12 < x11 then (if 0 ≤ x12 then (if x12 < (x10.length : Int) then ((table_Rule_bytes.f k ((rd_T42 x10 x12).f0) ((rd_T42 x10 x12).f1) ((rd_T42 x10 x12).f2)).bind fun t308 => ((table_Rule_bytes.f k x306000 x306001 x306002).bind fun t309 => (if ((Op.bytesLess t308.toList t309.toList) = true) then (table_place.l0 k x0 x10 x11 (wrap64 (x12 + 1)) x306000 x306001 x306002) else ((table_Rule_bytes.f k ((rd_T42 x10 x12).f0) ((rd_T42 x10 x12).f1) ((rd_T42 x10 x12).f2)).bind fun t310 => ((table_Rule_bytes.f k x306000 x306001 x306002).bind fun t311 => (some (x12, (t310.toList == t311.toList)))))))) else (none)) else (none)) else (some ((x0.length : Int), false))
def table_place.f (k : Nat) (l0 : List (S42)) (l1_0 : List (S59)) (l1_1 : List (S59)) (a1_2 : Int) : Option (Int × Bool) := table_place.l0 k l0 l0 (l0.length : Int) 0 l1_0 l1_1 a1_2
def table_place.T5 : Bool × List (List Nat × List Nat) := (true, [([], []), ([], []), ([], []), ([1, 2], [1, 2]), ([], []), ([], []), ([4, 5, 3], [4, 5]), ([3, 6], [3, 6]), ([0, 6, 0], [0]), ([7, 8, 0, 1, 2, 3, 4, 5, 6, 7, 8], [7])])
def table_place.B5 : List Nat := [0, 0, 0, 6, 0, 0, 62, 126, 127, 511]
theorem table_place.tab5 : rtab .any (opsOf Tryd.f37 5) = table_place.T5 := by kernel_rfl
theorem table_place.bits5 : waitsOk table_place.T5.2 table_place.B5 = true := by kernel_rfl
set_option maxHeartbeats 8000000 in
set_option maxRecDepth 100000 in
theorem table_place.calls (k : Nat) (A0 : Option Addr) (c0 : Nat) (l0 : List (S42)) (A1_0 : Option Addr) (c1_0 : Nat) (l1_0 : List (S59)) (A1_1 : Option Addr) (c1_1 : Nat) (l1_1 : List (S59)) (a1_2 : Int) (r1 : Int) (r2 : Bool) (w : World) (hr0 : Kd.C k42 w A0 l0.length l0) (hc0 : l0.length ≤ c0) (hr1_0 : Kd.C k59 w A1_0 l1_0.length l1_0) (hc1_0 : l1_0.length ≤ c1_0) (hr1_1 : Kd.C k59 w A1_1 l1_1.length l1_1) (hc1_1 : l1_1.length ≤ c1_1) (hG : Glob w) (h : table_place.f k l0 l1_0 l1_1 a1_2 = some (r1, r2)) :
  Calls Tryd.prog 37 #[.slice A0 l0.length c0, .agg #[.slice A1_0 l1_0.length c1_0, .slice A1_1 l1_1.length c1_1, .int .u32 a1_2], .func (.func 28) #[] #[]] w fun e w' => e = .returned (.tuple #[.int .i64 r1, .bool r2]) ∧ Below w.heap.size w w' := by
 have hu42 := Tryd.underlying42
 have HG := Aside0.mk hG
 clear hG
 have HR0 := Aside0.mk hr0
 have HC0 := Aside0.mk hc0
 clear hr0 hc0
 have HR1_0 := Aside0.mk hr1_0
 have HC1_0 := Aside0.mk hc1_0
 clear hr1_0 hc1_0
 have HR1_1 := Aside0.mk hr1_1
 have HC1_1 := Aside0.mk hc1_1
 clear hr1_1 hc1_1
 have HB := Aside0.mk (Below.refl w.heap.size w)
 have H : (table_place.l0 k l0 l0 (l0.length : Int) 0 l1_0 l1_1 a1_2) = some (r1, r2) := h
 clear h
 have H' := Aside0.mk H
 clear H
 go_enter Tryd.func37, Tryd.ntmps37
 go_wp2_with (first | ((with_reducible refine gate_dst (N := 4) rfl ?_); refine box_event rfl (N := 4) rfl (cs := #[.slice A1_0 l1_0.length c1_0, .slice A1_1 l1_1.length c1_1, .int .u32 a1_2]) (t := 42) jW ?_; intro gb305 hg w3 hbox hb; have BK305 := Aside0.mk hbox; have GW305 := Aside0.mk (jG hg HB); have GE305 := Aside0.mk (jG hg HB); replace HB := Aside0.mk (zT (jH HB) hb); clear hb hbox hg))
 go_loopg [12] k (fun kq v12 w' => ∃ (x12_1 : Int), v12 = .int .i64 x12_1 ∧ Aside0 (table_place.l0 kq l0 l0 (l0.length : Int) x12_1 l1_0 l1_1 a1_2 = some (r1, r2)) ∧ Aside0 (kq ≤ k) ∧ Aside0 (w'.heap[gb305]? = some (.cells #[(.slice A1_0 l1_0.length c1_0), (.slice A1_1 l1_1.length c1_1), .int .u32 a1_2] 42 (0, 0))) ∧ Aside0 (Below w.heap.size w w'))
 case atStart => exact ⟨(0), jS, H', ⟨Nat.le_refl _⟩, ⟨jK BK305⟩, ⟨jH HB⟩⟩
 case round =>
  clear H'
  obtain ⟨x12_1, rfl, HA, HK1, BK305, HB⟩ := hrel
  cases gk with
  | zero => exact absurd HA.out (by simp [table_place.l0])
  | succ k1 =>
   have H := HA.out
   clear HA
   simp only [table_place.l0] at H
   by_cases c4 : x12_1 < (l0.length : Int)
   ·rw [if_pos c4] at H
    have c4b0 := dT c4
    clear c4
    by_cases c5 : 0 ≤ x12_1
    ·rw [if_pos c5] at H
     have c5b0 := dT c5
     clear c5
     by_cases c6 : x12_1 < (l0.length : Int)
     ·rw [if_pos c6] at H
      have c6b0 := dT c6
      clear c6
      replace H := Option.bind_eq_some_iff.mp H
      obtain ⟨t308, A70, H⟩ := H
      try dsimp only at H
      have A7 := Aside0.mk A70
      clear A70
      replace H := Option.bind_eq_some_iff.mp H
      obtain ⟨t309, A80, H⟩ := H
      try dsimp only at H
      have A8 := Aside0.mk A80
      clear A80
      by_cases c9 : ((Op.bytesLess t308.toList t309.toList) = true)
      ·rw [if_pos c9] at H
       have c9b0 : (Op.bytesLess t308.toList t309.toList) = true := c9
       clear c9
       have H' := Aside0.mk H
       clear H
       have p306 : 0 ≤ (x12_1 : Int) := oD (jA)
       have q306 : x12_1 < (l0.length : Int) := oD (jA)
       obtain ⟨ad306, A306_0, c306_0, A306_1, c306_1, e306, hx306_0, hx306_1, hx306_2, hl306_0, hi306_0, hl306_1, hi306_1⟩ := at_T42 HR0.out x12_1 p306 q306
       cases e306
       replace hx306_0 := (HB.out.cell (bL w _ hx306_0)).trans hx306_0
       replace hx306_1 := (HB.out.cell (bL w _ hx306_1)).trans hx306_1
       replace hx306_2 := (HB.out.cell (bL w _ hx306_2)).trans hx306_2
       have HR306_0 := Aside0.mk hi306_0
       have HC306_0 := Aside0.mk hl306_0
       clear hi306_0 hl306_0
       have HR306_1 := Aside0.mk hi306_1
       have HC306_1 := Aside0.mk hl306_1
       clear hi306_1 hl306_1
       replace p306 := eq_true p306
       replace q306 := eq_true q306
       try go_wp2_with (first | ((with_reducible refine gate_dst (N := 9) rfl ?_); refine box_event rfl (N := 9) rfl (cs := #[.slice none 0 0, .slice none 0 0, .int .u32 0]) (t := 42) jW ?_; intro gb307 hg w10 hbox hb; have BK307 := Aside0.mk hbox; have GW307 := Aside0.mk (jG hg HB); have GE307 := Aside0.mk (jG hg HB); have NB305_307 := Aside0.mk (jN hg BK305); have NB307_305 := Aside0.mk (jM hg BK305); replace BK305 := Aside0.mk (jB BK305 hb); replace HB := Aside0.mk (zT (jH HB) hb); clear hb hbox hg; have hnb11 := NB307_305.out; have hnc11 := NB305_307.out; obtain ⟨hcz12_0, hcz12_1, hcz12_2, hfz12_0, hfz12_1, hfz12_2⟩ := kQ3 BK307.out))
       have n0_ : Aside0 ((((w10.setCell ⟨gb307, 0, none⟩ (.slice A306_0 ((rd_T42 l0 x12_1).f0).length c306_0)).setCell ⟨gb307, 1, none⟩ (.slice A306_1 ((rd_T42 l0 x12_1).f1).length c306_1)).setCell ⟨gb307, 2, none⟩ (.int .u32 ((rd_T42 l0 x12_1).f2))).heap[gb305]? = some (.cells #[.slice A1_0 l1_0.length c1_0, .slice A1_1 l1_1.length c1_1, .int .u32 a1_2] 42 (0, 0))) := ⟨by (with_reducible repeat (first | refine kN ?_ _ | refine kD ?_ | refine kA ?_ _)); refine kR ?_ NB305_307.out _; (with_reducible repeat (first | refine kN ?_ _ | refine kD ?_ | refine kA ?_ _)); refine kR ?_ NB305_307.out _; (with_reducible repeat (first | refine kN ?_ _ | refine kD ?_ | refine kA ?_ _)); refine kR ?_ NB305_307.out _; (with_reducible repeat (first | refine kN ?_ _ | refine kD ?_ | refine kA ?_ _)); exact BK305.out⟩
       have n1_ : Aside0 ((((w10.setCell ⟨gb307, 0, none⟩ (.slice A306_0 ((rd_T42 l0 x12_1).f0).length c306_0)).setCell ⟨gb307, 1, none⟩ (.slice A306_1 ((rd_T42 l0 x12_1).f1).length c306_1)).setCell ⟨gb307, 2, none⟩ (.int .u32 ((rd_T42 l0 x12_1).f2))).heap[gb307]? = some (.cells #[.slice A306_0 ((rd_T42 l0 x12_1).f0).length c306_0, .slice A306_1 ((rd_T42 l0 x12_1).f1).length c306_1, .int .u32 ((rd_T42 l0 x12_1).f2)] 42 (0, 0))) := ⟨by (with_reducible repeat (first | refine kN ?_ _ | refine kD ?_ | refine kA ?_ _)); refine kP (cs := #[.slice A306_0 ((rd_T42 l0 x12_1).f0).length c306_0, .slice A306_1 ((rd_T42 l0 x12_1).f1).length c306_1, .int .u32 0]) ?_ 2 _ rfl; (with_reducible repeat (first | refine kN ?_ _ | refine kD ?_ | refine kA ?_ _)); refine kP (cs := #[.slice A306_0 ((rd_T42 l0 x12_1).f0).length c306_0, .slice none 0 0, .int .u32 0]) ?_ 1 _ rfl; (with_reducible repeat (first | refine kN ?_ _ | refine kD ?_ | refine kA ?_ _)); refine kP (cs := #[.slice none 0 0, .slice none 0 0, .int .u32 0]) ?_ 0 _ rfl; (with_reducible repeat (first | refine kN ?_ _ | refine kD ?_ | refine kA ?_ _)); exact BK307.out⟩
       have n2_ : Aside0 (Below w.heap.size w (((w10.setCell ⟨gb307, 0, none⟩ (.slice A306_0 ((rd_T42 l0 x12_1).f0).length c306_0)).setCell ⟨gb307, 1, none⟩ (.slice A306_1 ((rd_T42 l0 x12_1).f1).length c306_1)).setCell ⟨gb307, 2, none⟩ (.int .u32 ((rd_T42 l0 x12_1).f2)))) := ⟨jH HB⟩
       (try clear BK305)
       (try clear BK307)
       (try clear HB)
       generalize (((w10.setCell ⟨gb307, 0, none⟩ (.slice A306_0 ((rd_T42 l0 x12_1).f0).length c306_0)).setCell ⟨gb307, 1, none⟩ (.slice A306_1 ((rd_T42 l0 x12_1).f1).length c306_1)).setCell ⟨gb307, 2, none⟩ (.int .u32 ((rd_T42 l0 x12_1).f2))) = w13 at n0_ n1_ n2_ ⊢
       have BK305 := n0_
       have BK307 := n1_
       have HB := n2_
       clear n0_ n1_ n2_
       replace BK305 := Aside0.mk (kD BK305.out)
       replace BK307 := Aside0.mk (kD BK307.out)
       replace HB := Aside0.mk (zD HB.out)
       have hgeq_ := fun W => str_geq (P := Tryd.prog) W 9 t308 t309
       refine start_ (n := 7) (S := fun w' => w'.cell? ⟨gb307, 0, none⟩ = some (.slice A306_0 ((rd_T42 l0 x12_1).f0).length c306_0) ∧ w'.cell? ⟨gb307, 1, none⟩ = some (.slice A306_1 ((rd_T42 l0 x12_1).f1).length c306_1) ∧ w'.cell? ⟨gb307, 2, none⟩ = some (.int .u32 ((rd_T42 l0 x12_1).f2)) ∧ w'.cell? ⟨gb305, 0, none⟩ = some (.slice A1_0 l1_0.length c1_0) ∧ w'.cell? ⟨gb305, 1, none⟩ = some (.slice A1_1 l1_1.length c1_1) ∧ w'.cell? ⟨gb305, 2, none⟩ = some (.int .u32 a1_2)) (ds := []) #[false, false, false, false, false, false, false] (by kernel_rfl) rfl rfl ⟨(kC BK307.out 0).trans rfl, (kC BK307.out 1).trans rfl, (kC BK307.out 2).trans rfl, (kC BK305.out 0).trans rfl, (kC BK305.out 1).trans rfl, (kC BK305.out 2).trans rfl⟩ (fun hHeld => ?_)
       generalize w13.drew = w14 at BK305 BK307 HB hHeld ⊢
       refine qP 0 17 (tB 7 1) ?_
       refine qP 3 20 (tB 7 9) ?_
       refine qT 1 18 (tB 7 11) hHeld ?_ (hv := by rintro w' ⟨s0, s1, s2, s3, s4, s5⟩; go_simp; with_reducible rfl)
       refine qT 4 21 (tB 7 27) hHeld ?_ (hv := by rintro w' ⟨s0, s1, s2, s3, s4, s5⟩; go_simp; with_reducible rfl)
       refine one_ (i := 2) (N := some 19) (tB 7 31) rfl rfl (by kernel_rfl) (by decide) (fun K hK => ?_)
       refine goesV_ Tryd.func28 (by kernel_rfl) rfl #[.agg #[.slice A306_0 ((rd_T42 l0 x12_1).f0).length c306_0, .slice A306_1 ((rd_T42 l0 x12_1).f1).length c306_1, .int .u32 ((rd_T42 l0 x12_1).f2)]] (by rfl) rfl rfl rfl jZ ?_
       with_reducible refine (table_Rule_bytes.calls k1 _ _ ((rd_T42 l0 x12_1).f0) _ _ ((rd_T42 l0 x12_1).f1) ((rd_T42 l0 x12_1).f2) t308 _ ?side1 ?side2 ?side3 ?side4 ?side5 A7.out).mono ?_
       (case side1 => exact jC (Kd.C_below HR306_0.out HB.out))
       (case side2 => exact HC306_0.out)
       (case side3 => exact jC (Kd.C_below HR306_1.out HB.out))
       (case side4 => exact HC306_1.out)
       (case side5 => exact Glob.below HG.out (jH HB))
       rintro e w15 ⟨rfl, hb⟩
       refine ⟨_, rfl, ?_⟩
       replace BK305 := Aside0.mk (jB BK305 hb)
       replace BK307 := Aside0.mk (jB BK307 hb)
       replace HB := Aside0.mk (zT (jH HB) hb)
       (try clear hb)
       (try clear hb2)
       (try clear hk)
       (try clear hi)
       refine hK.out _ _ ⟨(kC BK307.out 0).trans rfl, (kC BK307.out 1).trans rfl, (kC BK307.out 2).trans rfl, (kC BK305.out 0).trans rfl, (kC BK305.out 1).trans rfl, (kC BK305.out 2).trans rfl⟩ (fun hHeld => ?_)
       clear hK K
       refine qN 19 ?_
       refine one_ (i := 5) (N := some 22) (tB 7 63) rfl rfl (by kernel_rfl) (by decide) (fun K hK => ?_)
       refine goesV_ Tryd.func28 (by kernel_rfl) rfl #[.agg #[.slice A1_0 l1_0.length c1_0, .slice A1_1 l1_1.length c1_1, .int .u32 a1_2]] (by rfl) rfl rfl rfl jZ ?_
       with_reducible refine (table_Rule_bytes.calls k1 _ _ l1_0 _ _ l1_1 a1_2 t309 _ ?side1 ?side2 ?side3 ?side4 ?side5 A8.out).mono ?_
       (case side1 => exact jC (Kd.C_below HR1_0.out HB.out))
       (case side2 => exact HC1_0.out)
       (case side3 => exact jC (Kd.C_below HR1_1.out HB.out))
       (case side4 => exact HC1_1.out)
       (case side5 => exact Glob.below HG.out (jH HB))
       rintro e w16 ⟨rfl, hb⟩
       refine ⟨_, rfl, ?_⟩
       replace BK305 := Aside0.mk (jB BK305 hb)
       replace BK307 := Aside0.mk (jB BK307 hb)
       replace HB := Aside0.mk (zT (jH HB) hb)
       (try clear hb)
       (try clear hb2)
       (try clear hk)
       (try clear hi)
       refine hK.out _ _ ⟨(kC BK307.out 0).trans rfl, (kC BK307.out 1).trans rfl, (kC BK307.out 2).trans rfl, (kC BK305.out 0).trans rfl, (kC BK305.out 1).trans rfl, (kC BK305.out 2).trans rfl⟩ (fun hHeld => ?_)
       clear hK K
       refine qN 22 ?_
       refine qP 6 23 (tB 7 127) ?_
       refine done_ (by kernel_rfl) ?_
       try go_wp2
       go_roundg k1
       case measure => have := HK1.out; omega
       case rel => exact ⟨(wrap64 (x12_1 + 1)), jS, H', ⟨by have := HK1.out; omega⟩, ⟨jK BK305⟩, ⟨jH HB⟩⟩
      ·rw [if_neg c9] at H
       have c9b0 : (Op.bytesLess t308.toList t309.toList) = false := by simpa using c9
       clear c9
       replace H := Option.bind_eq_some_iff.mp H
       obtain ⟨t310, A170, H⟩ := H
       try dsimp only at H
       have A17 := Aside0.mk A170
       clear A170
       replace H := Option.bind_eq_some_iff.mp H
       obtain ⟨t311, A180, H⟩ := H
       try dsimp only at H
       have A18 := Aside0.mk A180
       clear A180
       simp only [Option.some.injEq, Prod.mk.injEq] at H
       obtain ⟨rfl, rfl⟩ := H
       have p306 : 0 ≤ (x12_1 : Int) := oD (jA)
       have q306 : x12_1 < (l0.length : Int) := oD (jA)
       obtain ⟨ad306, A306_0, c306_0, A306_1, c306_1, e306, hx306_0, hx306_1, hx306_2, hl306_0, hi306_0, hl306_1, hi306_1⟩ := at_T42 HR0.out x12_1 p306 q306
       cases e306
       replace hx306_0 := (HB.out.cell (bL w _ hx306_0)).trans hx306_0
       replace hx306_1 := (HB.out.cell (bL w _ hx306_1)).trans hx306_1
       replace hx306_2 := (HB.out.cell (bL w _ hx306_2)).trans hx306_2
       have HR306_0 := Aside0.mk hi306_0
       have HC306_0 := Aside0.mk hl306_0
       clear hi306_0 hl306_0
       have HR306_1 := Aside0.mk hi306_1
       have HC306_1 := Aside0.mk hl306_1
       clear hi306_1 hl306_1
       replace p306 := eq_true p306
       replace q306 := eq_true q306
       try go_wp2_with (first | ((with_reducible refine gate_dst (N := 9) rfl ?_); refine box_event rfl (N := 9) rfl (cs := #[.slice none 0 0, .slice none 0 0, .int .u32 0]) (t := 42) jW ?_; intro gb307 hg w19 hbox hb; have BK307 := Aside0.mk hbox; have GW307 := Aside0.mk (jG hg HB); have GE307 := Aside0.mk (jG hg HB); have NB305_307 := Aside0.mk (jN hg BK305); have NB307_305 := Aside0.mk (jM hg BK305); replace BK305 := Aside0.mk (jB BK305 hb); replace HB := Aside0.mk (zT (jH HB) hb); clear hb hbox hg; have hnb20 := NB307_305.out; have hnc20 := NB305_307.out; obtain ⟨hcz21_0, hcz21_1, hcz21_2, hfz21_0, hfz21_1, hfz21_2⟩ := kQ3 BK307.out))
       have n0_ : Aside0 ((((w19.setCell ⟨gb307, 0, none⟩ (.slice A306_0 ((rd_T42 l0 x12_1).f0).length c306_0)).setCell ⟨gb307, 1, none⟩ (.slice A306_1 ((rd_T42 l0 x12_1).f1).length c306_1)).setCell ⟨gb307, 2, none⟩ (.int .u32 ((rd_T42 l0 x12_1).f2))).heap[gb305]? = some (.cells #[.slice A1_0 l1_0.length c1_0, .slice A1_1 l1_1.length c1_1, .int .u32 a1_2] 42 (0, 0))) := ⟨by (with_reducible repeat (first | refine kN ?_ _ | refine kD ?_ | refine kA ?_ _)); refine kR ?_ NB305_307.out _; (with_reducible repeat (first | refine kN ?_ _ | refine kD ?_ | refine kA ?_ _)); refine kR ?_ NB305_307.out _; (with_reducible repeat (first | refine kN ?_ _ | refine kD ?_ | refine kA ?_ _)); refine kR ?_ NB305_307.out _; (with_reducible repeat (first | refine kN ?_ _ | refine kD ?_ | refine kA ?_ _)); exact BK305.out⟩
       have n1_ : Aside0 ((((w19.setCell ⟨gb307, 0, none⟩ (.slice A306_0 ((rd_T42 l0 x12_1).f0).length c306_0)).setCell ⟨gb307, 1, none⟩ (.slice A306_1 ((rd_T42 l0 x12_1).f1).length c306_1)).setCell ⟨gb307, 2, none⟩ (.int .u32 ((rd_T42 l0 x12_1).f2))).heap[gb307]? = some (.cells #[.slice A306_0 ((rd_T42 l0 x12_1).f0).length c306_0, .slice A306_1 ((rd_T42 l0 x12_1).f1).length c306_1, .int .u32 ((rd_T42 l0 x12_1).f2)] 42 (0, 0))) := ⟨by (with_reducible repeat (first | refine kN ?_ _ | refine kD ?_ | refine kA ?_ _)); refine kP (cs := #[.slice A306_0 ((rd_T42 l0 x12_1).f0).length c306_0, .slice A306_1 ((rd_T42 l0 x12_1).f1).length c306_1, .int .u32 0]) ?_ 2 _ rfl; (with_reducible repeat (first | refine kN ?_ _ | refine kD ?_ | refine kA ?_ _)); refine kP (cs := #[.slice A306_0 ((rd_T42 l0 x12_1).f0).length c306_0, .slice none 0 0, .int .u32 0]) ?_ 1 _ rfl; (with_reducible repeat (first | refine kN ?_ _ | refine kD ?_ | refine kA ?_ _)); refine kP (cs := #[.slice none 0 0, .slice none 0 0, .int .u32 0]) ?_ 0 _ rfl; (with_reducible repeat (first | refine kN ?_ _ | refine kD ?_ | refine kA ?_ _)); exact BK307.out⟩
       have n2_ : Aside0 (Below w.heap.size w (((w19.setCell ⟨gb307, 0, none⟩ (.slice A306_0 ((rd_T42 l0 x12_1).f0).length c306_0)).setCell ⟨gb307, 1, none⟩ (.slice A306_1 ((rd_T42 l0 x12_1).f1).length c306_1)).setCell ⟨gb307, 2, none⟩ (.int .u32 ((rd_T42 l0 x12_1).f2)))) := ⟨jH HB⟩
       (try clear BK305)
       (try clear BK307)
       (try clear HB)
       generalize (((w19.setCell ⟨gb307, 0, none⟩ (.slice A306_0 ((rd_T42 l0 x12_1).f0).length c306_0)).setCell ⟨gb307, 1, none⟩ (.slice A306_1 ((rd_T42 l0 x12_1).f1).length c306_1)).setCell ⟨gb307, 2, none⟩ (.int .u32 ((rd_T42 l0 x12_1).f2))) = w22 at n0_ n1_ n2_ ⊢
       have BK305 := n0_
       have BK307 := n1_
       have HB := n2_
       clear n0_ n1_ n2_
       replace BK305 := Aside0.mk (kD BK305.out)
       replace BK307 := Aside0.mk (kD BK307.out)
       replace HB := Aside0.mk (zD HB.out)
       have hgeq_ := fun W => str_geq (P := Tryd.prog) W 9 t308 t309
       refine start_ (n := 7) (S := fun w' => w'.cell? ⟨gb307, 0, none⟩ = some (.slice A306_0 ((rd_T42 l0 x12_1).f0).length c306_0) ∧ w'.cell? ⟨gb307, 1, none⟩ = some (.slice A306_1 ((rd_T42 l0 x12_1).f1).length c306_1) ∧ w'.cell? ⟨gb307, 2, none⟩ = some (.int .u32 ((rd_T42 l0 x12_1).f2)) ∧ w'.cell? ⟨gb305, 0, none⟩ = some (.slice A1_0 l1_0.length c1_0) ∧ w'.cell? ⟨gb305, 1, none⟩ = some (.slice A1_1 l1_1.length c1_1) ∧ w'.cell? ⟨gb305, 2, none⟩ = some (.int .u32 a1_2)) (ds := []) #[false, false, false, false, false, false, false] (by kernel_rfl) rfl rfl ⟨(kC BK307.out 0).trans rfl, (kC BK307.out 1).trans rfl, (kC BK307.out 2).trans rfl, (kC BK305.out 0).trans rfl, (kC BK305.out 1).trans rfl, (kC BK305.out 2).trans rfl⟩ (fun hHeld => ?_)
       generalize w22.drew = w23 at BK305 BK307 HB hHeld ⊢
       refine qP 0 17 (tB 7 1) ?_
       refine qP 3 20 (tB 7 9) ?_
       refine qT 1 18 (tB 7 11) hHeld ?_ (hv := by rintro w' ⟨s0, s1, s2, s3, s4, s5⟩; go_simp; with_reducible rfl)
       refine qT 4 21 (tB 7 27) hHeld ?_ (hv := by rintro w' ⟨s0, s1, s2, s3, s4, s5⟩; go_simp; with_reducible rfl)
       refine one_ (i := 2) (N := some 19) (tB 7 31) rfl rfl (by kernel_rfl) (by decide) (fun K hK => ?_)
       refine goesV_ Tryd.func28 (by kernel_rfl) rfl #[.agg #[.slice A306_0 ((rd_T42 l0 x12_1).f0).length c306_0, .slice A306_1 ((rd_T42 l0 x12_1).f1).length c306_1, .int .u32 ((rd_T42 l0 x12_1).f2)]] (by rfl) rfl rfl rfl jZ ?_
       with_reducible refine (table_Rule_bytes.calls k1 _ _ ((rd_T42 l0 x12_1).f0) _ _ ((rd_T42 l0 x12_1).f1) ((rd_T42 l0 x12_1).f2) t308 _ ?side1 ?side2 ?side3 ?side4 ?side5 A7.out).mono ?_
       (case side1 => exact jC (Kd.C_below HR306_0.out HB.out))
       (case side2 => exact HC306_0.out)
       (case side3 => exact jC (Kd.C_below HR306_1.out HB.out))
       (case side4 => exact HC306_1.out)
       (case side5 => exact Glob.below HG.out (jH HB))
       rintro e w24 ⟨rfl, hb⟩
       refine ⟨_, rfl, ?_⟩
       replace BK305 := Aside0.mk (jB BK305 hb)
       replace BK307 := Aside0.mk (jB BK307 hb)
       replace HB := Aside0.mk (zT (jH HB) hb)
       (try clear hb)
       (try clear hb2)
       (try clear hk)
       (try clear hi)
       refine hK.out _ _ ⟨(kC BK307.out 0).trans rfl, (kC BK307.out 1).trans rfl, (kC BK307.out 2).trans rfl, (kC BK305.out 0).trans rfl, (kC BK305.out 1).trans rfl, (kC BK305.out 2).trans rfl⟩ (fun hHeld => ?_)
       clear hK K
       refine qN 19 ?_
       refine one_ (i := 5) (N := some 22) (tB 7 63) rfl rfl (by kernel_rfl) (by decide) (fun K hK => ?_)
       refine goesV_ Tryd.func28 (by kernel_rfl) rfl #[.agg #[.slice A1_0 l1_0.length c1_0, .slice A1_1 l1_1.length c1_1, .int .u32 a1_2]] (by rfl) rfl rfl rfl jZ ?_
       with_reducible refine (table_Rule_bytes.calls k1 _ _ l1_0 _ _ l1_1 a1_2 t309 _ ?side1 ?side2 ?side3 ?side4 ?side5 A8.out).mono ?_
       (case side1 => exact jC (Kd.C_below HR1_0.out HB.out))
       (case side2 => exact HC1_0.out)
       (case side3 => exact jC (Kd.C_below HR1_1.out HB.out))
       (case side4 => exact HC1_1.out)
       (case side5 => exact Glob.below HG.out (jH HB))
       rintro e w25 ⟨rfl, hb⟩
       refine ⟨_, rfl, ?_⟩
       replace BK305 := Aside0.mk (jB BK305 hb)
       replace BK307 := Aside0.mk (jB BK307 hb)
       replace HB := Aside0.mk (zT (jH HB) hb)
       (try clear hb)
       (try clear hb2)
       (try clear hk)
       (try clear hi)
       refine hK.out _ _ ⟨(kC BK307.out 0).trans rfl, (kC BK307.out 1).trans rfl, (kC BK307.out 2).trans rfl, (kC BK305.out 0).trans rfl, (kC BK305.out 1).trans rfl, (kC BK305.out 2).trans rfl⟩ (fun hHeld => ?_)
       clear hK K
       refine qN 22 ?_
       refine qP 6 23 (tB 7 127) ?_
       refine done_ (by kernel_rfl) ?_
       try go_wp2
       replace BK305 := Aside0.mk (kD BK305.out)
       replace BK307 := Aside0.mk (kD BK307.out)
       replace HB := Aside0.mk (zD HB.out)
       refine start_ (n := 10) (S := fun w' => w'.cell? ⟨gb307, 0, none⟩ = some (.slice A306_0 ((rd_T42 l0 x12_1).f0).length c306_0) ∧ w'.cell? ⟨gb307, 1, none⟩ = some (.slice A306_1 ((rd_T42 l0 x12_1).f1).length c306_1) ∧ w'.cell? ⟨gb307, 2, none⟩ = some (.int .u32 ((rd_T42 l0 x12_1).f2)) ∧ w'.cell? ⟨gb305, 0, none⟩ = some (.slice A1_0 l1_0.length c1_0) ∧ w'.cell? ⟨gb305, 1, none⟩ = some (.slice A1_1 l1_1.length c1_1) ∧ w'.cell? ⟨gb305, 2, none⟩ = some (.int .u32 a1_2)) (ds := []) #[false, false, false, false, false, false, false, false, false, false] (by kernel_rfl) rfl rfl ⟨(kC BK307.out 0).trans rfl, (kC BK307.out 1).trans rfl, (kC BK307.out 2).trans rfl, (kC BK305.out 0).trans rfl, (kC BK305.out 1).trans rfl, (kC BK305.out 2).trans rfl⟩ (fun hHeld => ?_); refine with_tabW table_place.tab5 table_place.bits5 (fun HT_ HW_ => ?_)
       generalize w25.drew = w26 at BK305 BK307 HB hHeld ⊢
       refine qP 0 24 (tB 10 1) ?_
       refine qP 1 25 (tB 10 3) ?_
       refine qP 4 28 (tB 10 19) ?_
       refine qT 2 26 (tB 10 23) hHeld ?_ (hv := by rintro w' ⟨s0, s1, s2, s3, s4, s5⟩; go_simp; with_reducible rfl)
       refine qT 5 29 (tB 10 55) hHeld ?_ (hv := by rintro w' ⟨s0, s1, s2, s3, s4, s5⟩; go_simp; with_reducible rfl)
       refine one_ (i := 3) (N := some 27) (tB 10 63) rfl rfl (one_of HT_.out (by kernel_rfl)) (by decide) (fun K hK => ?_)
       refine goesV_ Tryd.func28 (by kernel_rfl) rfl #[.agg #[.slice A306_0 ((rd_T42 l0 x12_1).f0).length c306_0, .slice A306_1 ((rd_T42 l0 x12_1).f1).length c306_1, .int .u32 ((rd_T42 l0 x12_1).f2)]] (by rfl) rfl rfl rfl jZ ?_
       with_reducible refine (table_Rule_bytes.calls k1 _ _ ((rd_T42 l0 x12_1).f0) _ _ ((rd_T42 l0 x12_1).f1) ((rd_T42 l0 x12_1).f2) t310 _ ?side1 ?side2 ?side3 ?side4 ?side5 A17.out).mono ?_
       (case side1 => exact jC (Kd.C_below HR306_0.out HB.out))
       (case side2 => exact HC306_0.out)
       (case side3 => exact jC (Kd.C_below HR306_1.out HB.out))
       (case side4 => exact HC306_1.out)
       (case side5 => exact Glob.below HG.out (jH HB))
       rintro e w27 ⟨rfl, hb⟩
       refine ⟨_, rfl, ?_⟩
       replace BK305 := Aside0.mk (jB BK305 hb)
       replace BK307 := Aside0.mk (jB BK307 hb)
       replace HB := Aside0.mk (zT (jH HB) hb)
       (try clear hb)
       (try clear hb2)
       (try clear hk)
       (try clear hi)
       refine hK.out _ _ ⟨(kC BK307.out 0).trans rfl, (kC BK307.out 1).trans rfl, (kC BK307.out 2).trans rfl, (kC BK305.out 0).trans rfl, (kC BK305.out 1).trans rfl, (kC BK305.out 2).trans rfl⟩ (fun hHeld => ?_)
       clear hK K
       refine qN 27 ?_
       refine one_ (i := 6) (N := some 30) (tB 10 127) rfl rfl (one_of HT_.out (by kernel_rfl)) (by decide) (fun K hK => ?_)
       refine goesV_ Tryd.func28 (by kernel_rfl) rfl #[.agg #[.slice A1_0 l1_0.length c1_0, .slice A1_1 l1_1.length c1_1, .int .u32 a1_2]] (by rfl) rfl rfl rfl jZ ?_
       with_reducible refine (table_Rule_bytes.calls k1 _ _ l1_0 _ _ l1_1 a1_2 t311 _ ?side1 ?side2 ?side3 ?side4 ?side5 A18.out).mono ?_
       (case side1 => exact jC (Kd.C_below HR1_0.out HB.out))
       (case side2 => exact HC1_0.out)
       (case side3 => exact jC (Kd.C_below HR1_1.out HB.out))
       (case side4 => exact HC1_1.out)
       (case side5 => exact Glob.below HG.out (jH HB))
       rintro e w28 ⟨rfl, hb⟩
       refine ⟨_, rfl, ?_⟩
       replace BK305 := Aside0.mk (jB BK305 hb)
       replace BK307 := Aside0.mk (jB BK307 hb)
       replace HB := Aside0.mk (zT (jH HB) hb)
       (try clear hb)
       (try clear hb2)
       (try clear hk)
       (try clear hi)
       refine hK.out _ _ ⟨(kC BK307.out 0).trans rfl, (kC BK307.out 1).trans rfl, (kC BK307.out 2).trans rfl, (kC BK305.out 0).trans rfl, (kC BK305.out 1).trans rfl, (kC BK305.out 2).trans rfl⟩ (fun hHeld => ?_)
       clear hK K
       refine qN 30 ?_
       refine qP 7 31 (tB 10 255) ?_
       refine qP 8 6 (tB 10 511) ?_
       refine qP 9 7 (tB 10 1023) ?_
       refine done_ (done_of HT_.out (by kernel_rfl)) ?_
       try go_wp2
       go_ret2
       exact ⟨jE, jH HB⟩
     ·rw [if_neg c6] at H
      exact absurd H (by simp)
    ·rw [if_neg c5] at H
     exact absurd H (by simp)
   ·rw [if_neg c4] at H
    have c4b0 := dF c4
    clear c4
    simp only [Option.some.injEq, Prod.mk.injEq] at H
    obtain ⟨rfl, rfl⟩ := H
    go_wp2
    go_ret2
    exact ⟨jE, jH HB⟩
def table_own.f (l0_0 : List (S59)) (l0_1 : List (S59)) (a0_2 : Int) : Option ((List (S59)) × (List (S59)) × Int) := (some (([] : List (S59)) : List (S59))).bind fun y314 => (if y314.length + l0_0.length < 4398046511104 then ((some (([] : List (S59)) : List (S59))).bind fun y320 => (if y320.length + l0_1.length < 4398046511104 then (some ((y314 ++ l0_0), (y320 ++ l0_1), a0_2)) else (none))) else (none))
def table_own.T1 : Bool × List (List Nat × List Nat) := (true, [([], []), ([], []), ([1], [1]), ([0, 2], [0, 2]), ([], []), ([], []), ([5], [5]), ([4, 6, 3], [4, 6]), ([], []), ([8], [8]), ([3, 7, 9], [3, 7, 9]), ([10, 7, 0, 1, 2, 3, 4, 5, 6, 7, 8, 9, 10], [10])])
def table_own.B1 : List Nat := [0, 0, 2, 7, 0, 0, 32, 127, 0, 256, 1023, 2047]
theorem table_own.tab1 : rtab .any (opsOf Tryd.f38 1) = table_own.T1 := by kernel_rfl
theorem table_own.bits1 : waitsOk table_own.T1.2 table_own.B1 = true := by kernel_rfl
set_option maxHeartbeats 8000000 in
set_option maxRecDepth 100000 in
theorem table_own.calls (A0_0 : Option Addr) (c0_0 : Nat) (l0_0 : List (S59)) (A0_1 : Option Addr) (c0_1 : Nat) (l0_1 : List (S59)) (a0_2 : Int) (r1 : List (S59)) (r2 : List (S59)) (r3 : Int) (w : World) (hr0_0 : Kd.C k59 w A0_0 l0_0.length l0_0) (hc0_0 : l0_0.length ≤ c0_0) (hr0_1 : Kd.C k59 w A0_1 l0_1.length l0_1) (hc0_1 : l0_1.length ≤ c0_1) (h : table_own.f l0_0 l0_1 a0_2 = some (r1, r2, r3)) :
  Calls Tryd.prog 38 #[.agg #[.slice A0_0 l0_0.length c0_0, .slice A0_1 l0_1.length c0_1, .int .u32 a0_2]] w fun e w' => ∃ v0_ v1_ : Value, e = .returned (.agg #[v0_, v1_, .int .u32 r3]) ∧ Kd.R k59 59 w' w.heap.size (fun k_ => some k_ ≠ (v1_ : Value).ownBlock) v0_ r1 ∧ Kd.R k59 59 w' w.heap.size (fun k_ => some k_ ≠ (v0_ : Value).ownBlock) v1_ r2 ∧ Below w.heap.size w w' := by
 have hu42 := Tryd.underlying42
 have HR0_0 := Aside0.mk hr0_0
 have HC0_0 := Aside0.mk hc0_0
 clear hr0_0 hc0_0
 have HR0_1 := Aside0.mk hr0_1
 have HC0_1 := Aside0.mk hc0_1
 clear hr0_1 hc0_1
 have HB := Aside0.mk (Below.refl w.heap.size w)
 have H : ((some (([] : List (S59)) : List (S59))).bind fun y314 => (if y314.length + l0_0.length < 4398046511104 then ((some (([] : List (S59)) : List (S59))).bind fun y320 => (if y320.length + l0_1.length < 4398046511104 then (some ((y314 ++ l0_0), (y320 ++ l0_1), a0_2)) else (none))) else (none))) = some (r1, r2, r3) := h
 clear h
 obtain ⟨y314, hy314⟩ : ∃ y_ : List (S59), y_ = (([] : List (S59))) := ⟨_, rfl⟩
 replace H : (if y314.length + l0_0.length < 4398046511104 then ((some (([] : List (S59)) : List (S59))).bind fun y320 => (if y320.length + l0_1.length < 4398046511104 then (some ((y314 ++ l0_0), (y320 ++ l0_1), a0_2)) else (none))) else (none)) = some (r1, r2, r3) := by first | (rw [hy314]; with_reducible exact H) | (have H2_ := (Option.bind_some _ _).symm.trans H; rw [hy314]; with_reducible exact H2_) | (have H2_ := (Option.bind_some _ _).symm.trans H; with_reducible exact H2_) | with_reducible exact H | (rw [hy314]; exact H) | exact H
 have Ny314 := Aside0.mk hy314
 clear hy314
 by_cases c2 : y314.length + l0_0.length < 4398046511104
 ·rw [if_pos c2] at H
  have LMc2 := Aside0.mk c2
  clear c2
  obtain ⟨y317, hy317⟩ : ∃ y_ : List (S59), y_ = (y314 ++ l0_0) := ⟨_, rfl⟩
  replace H : ((some (([] : List (S59)) : List (S59))).bind fun y320 => (if y320.length + l0_1.length < 4398046511104 then (some (y317, (y320 ++ l0_1), a0_2)) else (none))) = some (r1, r2, r3) := by first | (rw [hy317]; with_reducible exact H) | (have H2_ := (Option.bind_some _ _).symm.trans H; rw [hy317]; with_reducible exact H2_) | (have H2_ := (Option.bind_some _ _).symm.trans H; with_reducible exact H2_) | with_reducible exact H | (rw [hy317]; exact H) | exact H
  have Ny317 := Aside0.mk hy317
  clear hy317
  obtain ⟨y320, hy320⟩ : ∃ y_ : List (S59), y_ = (([] : List (S59))) := ⟨_, rfl⟩
  replace H : (if y320.length + l0_1.length < 4398046511104 then (some (y317, (y320 ++ l0_1), a0_2)) else (none)) = some (r1, r2, r3) := by first | (rw [hy320]; with_reducible exact H) | (have H2_ := (Option.bind_some _ _).symm.trans H; rw [hy320]; with_reducible exact H2_) | (have H2_ := (Option.bind_some _ _).symm.trans H; with_reducible exact H2_) | with_reducible exact H | (rw [hy320]; exact H) | exact H
  have Ny320 := Aside0.mk hy320
  clear hy320
  by_cases c3 : y320.length + l0_1.length < 4398046511104
  ·rw [if_pos c3] at H
   have LMc3 := Aside0.mk c3
   clear c3
   obtain ⟨y323, hy323⟩ : ∃ y_ : List (S59), y_ = (y320 ++ l0_1) := ⟨_, rfl⟩
   replace H : (some (y317, y323, a0_2)) = some (r1, r2, r3) := by first | (rw [hy323]; with_reducible exact H) | (have H2_ := (Option.bind_some _ _).symm.trans H; rw [hy323]; with_reducible exact H2_) | (have H2_ := (Option.bind_some _ _).symm.trans H; with_reducible exact H2_) | with_reducible exact H | (rw [hy323]; exact H) | exact H
   have Ny323 := Aside0.mk hy323
   clear hy323
   simp only [Option.some.injEq, Prod.mk.injEq] at H
   obtain ⟨rfl, rfl, rfl⟩ := H
   go_enter Tryd.func38, Tryd.ntmps38
   try go_wp2_with (first | ((with_reducible refine gate_dst (N := 1) rfl ?_); refine box_event ?hg (N := 1) ?hd (cs := #[.slice A0_0 l0_0.length c0_0, .slice A0_1 l0_1.length c0_1, .int .u32 a0_2]) (t := 42) ?hr ?_; (case hd => rfl); (case hg => rfl); (case hr => first | (go_simp; done) | (go_simp; rfl)); intro gb312 hg w4 hbox hb; have BK312 := Aside0.mk (hbox); have GW312 := Aside0.mk ((by rw [hg]; exact (zZ (jH HB)) : w.heap.size ≤ gb312)); have GE312 := Aside0.mk ((by rw [hg]; exact (zZ (jH HB)) : w.heap.size ≤ gb312)); replace HB := Aside0.mk (zT (jH HB) hb); clear hb hbox hg) | ((with_reducible refine gate_dst (N := 2) rfl ?_); refine box_event ?hg (N := 2) ?hd (cs := #[.slice none 0 0, .slice none 0 0, .int .u32 0]) (t := 42) ?hr ?_; (case hd => rfl); (case hg => rfl); (case hr => first | (go_simp; done) | (go_simp; rfl)); intro gb313 hg w5 hbox hb; have BK313 := Aside0.mk (hbox); have GW313 := Aside0.mk ((by rw [hg]; exact (zZ (jH HB)) : w.heap.size ≤ gb313)); have GE313 := Aside0.mk ((by rw [hg]; exact (zZ (jH HB)) : w.heap.size ≤ gb313)); have NB312_313 := Aside0.mk ((by rw [hg]; exact Nat.ne_of_lt (jL BK312) : gb312 ≠ gb313)); have NB313_312 := Aside0.mk ((by rw [hg]; exact Nat.ne_of_gt (jL BK312) : gb313 ≠ gb312)); replace BK312 := Aside0.mk (jB BK312 hb); replace HB := Aside0.mk (zT (jH HB) hb); clear hb hbox hg))
   replace BK312 := Aside0.mk (kD BK312.out)
   replace BK313 := Aside0.mk (kD BK313.out)
   replace HB := Aside0.mk (zD HB.out)
   refine start_ (n := 12) (S := fun w' => w'.cell? ⟨gb312, 0, none⟩ = some (.slice A0_0 l0_0.length c0_0) ∧ w'.cell? ⟨gb312, 1, none⟩ = some (.slice A0_1 l0_1.length c0_1) ∧ w'.cell? ⟨gb312, 2, none⟩ = some (.int .u32 a0_2)) (ds := []) #[false, false, false, false, false, false, false, false, false, false, false, false] (by kernel_rfl) rfl rfl ⟨(kC BK312.out 0).trans rfl, (kC BK312.out 1).trans rfl, (kC BK312.out 2).trans rfl⟩ (fun hHeld => ?_); refine with_tabW table_own.tab1 table_own.bits1 (fun HT_ HW_ => ?_)
   generalize w5.drew = w6 at BK312 BK313 HB hHeld ⊢
   refine pure_ (i := 1) (N := some 4) (v := ?_) (a' := ?_) #[false, true, false, false, false, false, false, false, false, false, false, false] rfl rfl (any_of HT_.out (by kernel_rfl)) (fun _ _ _ h => h) (Or.inl ⟨by rfl, ?_⟩) ?_ ?_
   rotate_left
   ·intro w'
    go_simp
    with_reducible rfl
   rotate_left
   ·simp only [Act.put, List.setIfInBounds_toArray, List.set_cons_zero, List.set_cons_succ, i64_w, i32_w]
    rfl
   refine pure_ (i := 5) (N := some 8) (v := ?_) (a' := ?_) #[false, true, false, false, false, true, false, false, false, false, false, false] rfl rfl (any_of HT_.out (by kernel_rfl)) (fun _ _ _ h => h) (Or.inl ⟨by rfl, ?_⟩) ?_ ?_
   rotate_left
   ·intro w'
    go_simp
    with_reducible rfl
   rotate_left
   ·simp only [Act.put, List.setIfInBounds_toArray, List.set_cons_zero, List.set_cons_succ, i64_w, i32_w]
    rfl
   refine pure_ (i := 8) (N := some 11) (v := ?_) (a' := ?_) #[false, true, false, false, false, true, false, false, true, false, false, false] rfl rfl (any_of HT_.out (by kernel_rfl)) (fun _ _ _ h => h) (Or.inl ⟨by rfl, ?_⟩) ?_ ?_
   rotate_left
   ·intro w'
    go_simp
    with_reducible rfl
   rotate_left
   ·simp only [Act.put, List.setIfInBounds_toArray, List.set_cons_zero, List.set_cons_succ, i64_w, i32_w]
    rfl
   refine take_ (i := 2) (N := some 5) (v := ?_) (a' := ?_) #[false, true, true, false, false, true, false, false, true, false, false, false] rfl rfl (take_ofW HT_.out HW_.out (by kernel_rfl)) (fun _ _ _ h => h) (Or.inl ⟨by rfl, ?_⟩) hHeld ?_ ?_
   rotate_left
   ·rintro w' ⟨s0, s1, s2⟩
    go_simp
    with_reducible rfl
   rotate_left
   ·simp only [Act.put, List.setIfInBounds_toArray, List.set_cons_zero, List.set_cons_succ, i64_w, i32_w]
    rfl
   refine take_ (i := 6) (N := some 9) (v := ?_) (a' := ?_) #[false, true, true, false, false, true, true, false, true, false, false, false] rfl rfl (take_ofW HT_.out HW_.out (by kernel_rfl)) (fun _ _ _ h => h) (Or.inl ⟨by rfl, ?_⟩) hHeld ?_ ?_
   rotate_left
   ·rintro w' ⟨s0, s1, s2⟩
    go_simp
    with_reducible rfl
   rotate_left
   ·simp only [Act.put, List.setIfInBounds_toArray, List.set_cons_zero, List.set_cons_succ, i64_w, i32_w]
    rfl
   refine take_ (i := 9) (N := some 12) (v := ?_) (a' := ?_) #[false, true, true, false, false, true, true, false, true, true, false, false] rfl rfl (take_ofW HT_.out HW_.out (by kernel_rfl)) (fun _ _ _ h => h) (Or.inl ⟨by rfl, ?_⟩) hHeld ?_ ?_
   rotate_left
   ·rintro w' ⟨s0, s1, s2⟩
    go_simp
    with_reducible rfl
   rotate_left
   ·simp only [Act.put, List.setIfInBounds_toArray, List.set_cons_zero, List.set_cons_succ, i64_w, i32_w]
    rfl
   refine join_ (σ := Value × Value × Value) 3 #[true, true, true, true, true, true, true, false, true, true, false, false] (fun s_ => [(3, s_.1), (6, s_.2.1), (7, s_.2.2)]) (fun s_ w' => (w'.cell? ⟨gb312, 0, none⟩ = some (.slice A0_0 l0_0.length c0_0) ∧ w'.cell? ⟨gb312, 1, none⟩ = some (.slice A0_1 l0_1.length c0_1) ∧ w'.cell? ⟨gb312, 2, none⟩ = some (.int .u32 a0_2)) ∧ (Kd.R k59 59 w' w.heap.size (fun k_ => some k_ ≠ (s_.2.2 : Value).ownBlock) s_.2.1 y317) ∧ (Kd.R k59 59 w' w.heap.size (fun k_ => some k_ ≠ (s_.2.1 : Value).ownBlock) s_.2.2 y320) ∧ (w'.heap[gb312]? = some (.cells #[.slice A0_0 l0_0.length c0_0, .slice A0_1 l0_1.length c0_1, .int .u32 a0_2] 42 (0, 0))) ∧ (w'.heap[gb313]? = some (.cells #[.slice none 0 0, .slice none 0 0, .int .u32 0] 42 (0, 0))) ∧ (Below w.heap.size w w')) ?_ ?_
   rotate_left
   ·intro hCont
    refine two_ (i := 0) (j := 4) (Ni := some 3) (Nj := some 7) #[true, true, true, false, false, true, true, false, true, true, false, false] #[false, true, true, false, true, true, true, false, true, true, false, false] rfl rfl rfl rfl (two_of HT_.out (by kernel_rfl)) (by decide) (by decide) (fun K hK => ?_) (fun K hK => ?_)
    ·skip
     refine Kd.R_lit_step k59 _ 59 ?hg (N := 3) ?hd (xs := ([] : List (S59))) (inner := []) (ok := fun _ => True) (okp := fun _ => True) ?hr ?hp (fun _ hk => hk) trivial (Below.refl _ _) (Nat.le_refl _) (by simp) ?_; (case hd => rfl); (case hg => rfl); (case hr => first | (go_simp; done) | (go_simp; rfl)); (case hp => exact (Reps.none _ _))
     intro v315 w7 ho8 hb hg_ hnew_
     clear hg_ hnew_
     (first | rw [← Ny314.out] at ho8 | (simp only [Int.reduceToNat] at ho8; rw [← Ny314.out] at ho8))
     have HO316 := Aside0.mk (Kd.R_lower ho8 (zZ (jH HB)))
     replace BK312 := Aside0.mk (jB BK312 hb)
     replace BK313 := Aside0.mk (jB BK313 hb)
     replace HB := Aside0.mk (zT (jH HB) hb)
     clear hb ho8
     refine hK.out _ _ ⟨(kC BK312.out 0).trans rfl, (kC BK312.out 1).trans rfl, (kC BK312.out 2).trans rfl⟩ (fun hHeld => ?_)
     clear hK K
     refine norm_ (a' := ?_) ?_ ?_
     rotate_left
     ·show Act.put _ (some 3) _ = _
      simp only [Act.put, List.setIfInBounds_toArray, List.set_cons_zero, List.set_cons_succ, i64_w, i32_w]
      rfl
     refine two_ (i := 3) (j := 4) (Ni := some 6) (Nj := some 7) #[true, true, true, true, false, true, true, false, true, true, false, false] #[true, true, true, false, true, true, true, false, true, true, false, false] rfl rfl rfl rfl (two_of HT_.out (by kernel_rfl)) (by decide) (by decide) (fun K hK => ?_) (fun K hK => ?_)
     ·skip
      refine Kd.R_append_rows_step k59 (w0 := w) w.heap.size (by rfl) (.tmp 3) (.tmp 5) 39 59 (.agg #[(.int .i64 0), (.int .i64 0), (.int .i64 0), (.int .u32 0)]) 32 rfl Tryd.underlying39 info59 rfl (by decide) (by omega) v315 y314 l0_0 _ _ _ (fun _ => True) (fun _ => False) rfl rfl ?aO ?aR (fun _ _ h => h) (fun _ h => h.elim) ?aF ?aB ?aS ?aL ?_
      (case aR => repeat (first | exact (Kd.C_below HR0_0.out HB.out) | (with_reducible refine Kd.C_alloc ?_ _) | (with_reducible refine Kd.C_drewN ?_ _) | (with_reducible refine Kd.C_drew ?_)))
      (case aB => exact (jH HB))
      (case aF => exact (fun _ _ => trivial))
      (case aO => exact (jR HO316))
      (case aS => exact (zZ (jH HB)))
      (case aL => have := LMc2.out; omega)
      intro v318 w9 ho hb hg hat
      rw [← Ny317.out] at ho
      have HO319 := Aside0.mk (ho)
      replace BK312 := Aside0.mk (kG (g := gb312) (o := .cells #[.slice A0_0 l0_0.length c0_0, .slice A0_1 l0_1.length c0_1, .int .u32 a0_2] 42 (0, 0)) (jK BK312) hg (Kd.R_ne HO316.out BK312.out (by decide)))
      replace BK313 := Aside0.mk (kG (g := gb313) (o := .cells #[.slice none 0 0, .slice none 0 0, .int .u32 0] 42 (0, 0)) (jK BK313) hg (Kd.R_ne HO316.out BK313.out (by decide)))
      replace HB := Aside0.mk (hb)
      clear HO316
      clear ho hb hg hat
      refine hK.out _ _ ⟨(kC BK312.out 0).trans rfl, (kC BK312.out 1).trans rfl, (kC BK312.out 2).trans rfl⟩ (fun hHeld => ?_)
      clear hK K
      refine norm_ (a' := ?_) ?_ ?_
      rotate_left
      ·show Act.put _ (some 6) _ = _
       simp only [Act.put, List.setIfInBounds_toArray, List.set_cons_zero, List.set_cons_succ, i64_w, i32_w]
       rfl
      refine one_ (i := 4) (N := some 7) #[true, true, true, true, true, true, true, false, true, true, false, false] rfl rfl (one_of HT_.out (by kernel_rfl)) (by decide) (fun K hK => ?_)
      refine Kd.R_lit_step k59 _ 59 ?hg (N := 7) ?hd (xs := ([] : List (S59))) (inner := []) (ok := fun _ => True) (okp := fun _ => True) ?hr ?hp (fun _ hk => hk) trivial (Below.refl _ _) (Nat.le_refl _) (by simp) ?_; (case hd => rfl); (case hg => rfl); (case hr => first | (go_simp; done) | (go_simp; rfl)); (case hp => exact (Reps.none _ _))
      intro v321 w10 ho11 hb hg_ hnew_
      clear hg_ hnew_
      (first | rw [← Ny320.out] at ho11 | (simp only [Int.reduceToNat] at ho11; rw [← Ny320.out] at ho11))
      have HO322 := Aside0.mk (Kd.R_lower (Kd.R_new' ho11 (Kd.R_lt (jR HO319))) (zZ (jH HB)))
      replace HO319 := Aside0.mk (Kd.R_elder' (jR HO319) (Kd.R_base ho11) hb)
      replace BK312 := Aside0.mk (jB BK312 hb)
      replace BK313 := Aside0.mk (jB BK313 hb)
      replace HB := Aside0.mk (zT (jH HB) hb)
      clear hb ho11
      refine hK.out _ _ ⟨(kC BK312.out 0).trans rfl, (kC BK312.out 1).trans rfl, (kC BK312.out 2).trans rfl⟩ (fun hHeld => ?_)
      clear hK K
      refine norm_ (a' := ?_) ?_ ?_
      rotate_left
      ·show Act.put _ (some 7) _ = _
       simp only [Act.put, List.setIfInBounds_toArray, List.set_cons_zero, List.set_cons_succ, i64_w, i32_w]
       rfl
      exact norm_ (by simp only [putAll, Act.put, List.setIfInBounds_toArray, List.set_cons_zero, List.set_cons_succ]) (hCont (v315, v318, v321) _ ⟨hHeld, (by (with_reducible repeat (first | apply Kd.R_alloc | apply Kd.R_drewN | apply Kd.R_drew)); exact Kd.R_mono HO319.out (fun _ hk => hk.2)), (by (with_reducible repeat (first | apply Kd.R_alloc | apply Kd.R_drewN | apply Kd.R_drew)); exact Kd.R_mono HO322.out (fun _ hk => hk.2)), (jK BK312), (jK BK313), (jH HB)⟩)
     ·skip
      refine Kd.R_lit_step k59 _ 59 ?hg (N := 7) ?hd (xs := ([] : List (S59))) (inner := []) (ok := fun _ => True) (okp := fun _ => True) ?hr ?hp (fun _ hk => hk) trivial (Below.refl _ _) (Nat.le_refl _) (by simp) ?_; (case hd => rfl); (case hg => rfl); (case hr => first | (go_simp; done) | (go_simp; rfl)); (case hp => exact (Reps.none _ _))
      intro v321 w9 ho10 hb hg_ hnew_
      clear hg_ hnew_
      (first | rw [← Ny320.out] at ho10 | (simp only [Int.reduceToNat] at ho10; rw [← Ny320.out] at ho10))
      have HO322 := Aside0.mk (Kd.R_lower (Kd.R_new' ho10 (Kd.R_lt (jR HO316))) (zZ (jH HB)))
      replace HO316 := Aside0.mk (Kd.R_elder' (jR HO316) (Kd.R_base ho10) hb)
      replace BK312 := Aside0.mk (jB BK312 hb)
      replace BK313 := Aside0.mk (jB BK313 hb)
      replace HB := Aside0.mk (zT (jH HB) hb)
      clear hb ho10
      refine hK.out _ _ ⟨(kC BK312.out 0).trans rfl, (kC BK312.out 1).trans rfl, (kC BK312.out 2).trans rfl⟩ (fun hHeld => ?_)
      clear hK K
      refine norm_ (a' := ?_) ?_ ?_
      rotate_left
      ·show Act.put _ (some 7) _ = _
       simp only [Act.put, List.setIfInBounds_toArray, List.set_cons_zero, List.set_cons_succ, i64_w, i32_w]
       rfl
      refine one_ (i := 3) (N := some 6) #[true, true, true, true, true, true, true, false, true, true, false, false] rfl rfl (one_of HT_.out (by kernel_rfl)) (by decide) (fun K hK => ?_)
      refine Kd.R_append_rows_step k59 (w0 := w) w.heap.size (by rfl) (.tmp 3) (.tmp 5) 39 59 (.agg #[(.int .i64 0), (.int .i64 0), (.int .i64 0), (.int .u32 0)]) 32 rfl Tryd.underlying39 info59 rfl (by decide) (by omega) v315 y314 l0_0 _ _ _ (fun k_ => some k_ ≠ (v321 : Value).ownBlock) (fun _ => False) rfl rfl ?aO ?aR (fun _ _ h => h) (fun _ h => h.elim) ?aF ?aB ?aS ?aL ?_
      (case aR => repeat (first | exact (Kd.C_below HR0_0.out HB.out) | (with_reducible refine Kd.C_alloc ?_ _) | (with_reducible refine Kd.C_drewN ?_ _) | (with_reducible refine Kd.C_drew ?_)))
      (case aB => exact (jH HB))
      (case aF => exact (fun k_ hk => Kd.fresh' (Kd.R_lt (jR HO322)) k_ hk))
      (case aO => exact (by (with_reducible repeat (first | apply Kd.R_alloc | apply Kd.R_drewN | apply Kd.R_drew)); exact Kd.R_mono HO316.out (fun _ hk => hk.2)))
      (case aS => exact (zZ (jH HB)))
      (case aL => have := LMc2.out; omega)
      intro v318 w11 ho hb hg hat
      rw [← Ny317.out] at ho
      have HO319 := Aside0.mk (ho)
      replace BK312 := Aside0.mk (kG (g := gb312) (o := .cells #[.slice A0_0 l0_0.length c0_0, .slice A0_1 l0_1.length c0_1, .int .u32 a0_2] 42 (0, 0)) (jK BK312) hg (Kd.R_ne HO316.out BK312.out (by decide)))
      replace BK313 := Aside0.mk (kG (g := gb313) (o := .cells #[.slice none 0 0, .slice none 0 0, .int .u32 0] 42 (0, 0)) (jK BK313) hg (Kd.R_ne HO316.out BK313.out (by decide)))
      replace HO322 := Aside0.mk (Kd.R_after (ok := (fun _ => True)) (jR HO322) hg hat)
      replace HB := Aside0.mk (hb)
      clear HO316
      clear ho hb hg hat
      refine hK.out _ _ ⟨(kC BK312.out 0).trans rfl, (kC BK312.out 1).trans rfl, (kC BK312.out 2).trans rfl⟩ (fun hHeld => ?_)
      clear hK K
      refine norm_ (a' := ?_) ?_ ?_
      rotate_left
      ·show Act.put _ (some 6) _ = _
       simp only [Act.put, List.setIfInBounds_toArray, List.set_cons_zero, List.set_cons_succ, i64_w, i32_w]
       rfl
      exact norm_ (by simp only [putAll, Act.put, List.setIfInBounds_toArray, List.set_cons_zero, List.set_cons_succ]) (hCont (v315, v318, v321) _ ⟨hHeld, (jR HO319), (by (with_reducible repeat (first | apply Kd.R_alloc | apply Kd.R_drewN | apply Kd.R_drew)); exact Kd.R_mono HO322.out (fun _ hk => hk.2)), (jK BK312), (jK BK313), (jH HB)⟩)
    ·skip
     refine Kd.R_lit_step k59 _ 59 ?hg (N := 7) ?hd (xs := ([] : List (S59))) (inner := []) (ok := fun _ => True) (okp := fun _ => True) ?hr ?hp (fun _ hk => hk) trivial (Below.refl _ _) (Nat.le_refl _) (by simp) ?_; (case hd => rfl); (case hg => rfl); (case hr => first | (go_simp; done) | (go_simp; rfl)); (case hp => exact (Reps.none _ _))
     intro v321 w7 ho8 hb hg_ hnew_
     clear hg_ hnew_
     (first | rw [← Ny320.out] at ho8 | (simp only [Int.reduceToNat] at ho8; rw [← Ny320.out] at ho8))
     have HO322 := Aside0.mk (Kd.R_lower ho8 (zZ (jH HB)))
     replace BK312 := Aside0.mk (jB BK312 hb)
     replace BK313 := Aside0.mk (jB BK313 hb)
     replace HB := Aside0.mk (zT (jH HB) hb)
     clear hb ho8
     refine hK.out _ _ ⟨(kC BK312.out 0).trans rfl, (kC BK312.out 1).trans rfl, (kC BK312.out 2).trans rfl⟩ (fun hHeld => ?_)
     clear hK K
     refine norm_ (a' := ?_) ?_ ?_
     rotate_left
     ·show Act.put _ (some 7) _ = _
      simp only [Act.put, List.setIfInBounds_toArray, List.set_cons_zero, List.set_cons_succ, i64_w, i32_w]
      rfl
     refine one_ (i := 0) (N := some 3) #[true, true, true, false, true, true, true, false, true, true, false, false] rfl rfl (one_of HT_.out (by kernel_rfl)) (by decide) (fun K hK => ?_)
     refine Kd.R_lit_step k59 _ 59 ?hg (N := 3) ?hd (xs := ([] : List (S59))) (inner := []) (ok := fun _ => True) (okp := fun _ => True) ?hr ?hp (fun _ hk => hk) trivial (Below.refl _ _) (Nat.le_refl _) (by simp) ?_; (case hd => rfl); (case hg => rfl); (case hr => first | (go_simp; done) | (go_simp; rfl)); (case hp => exact (Reps.none _ _))
     intro v315 w9 ho10 hb hg_ hnew_
     clear hg_ hnew_
     (first | rw [← Ny314.out] at ho10 | (simp only [Int.reduceToNat] at ho10; rw [← Ny314.out] at ho10))
     have HO316 := Aside0.mk (Kd.R_lower (Kd.R_new' ho10 (Kd.R_lt (jR HO322))) (zZ (jH HB)))
     replace HO322 := Aside0.mk (Kd.R_elder' (jR HO322) (Kd.R_base ho10) hb)
     replace BK312 := Aside0.mk (jB BK312 hb)
     replace BK313 := Aside0.mk (jB BK313 hb)
     replace HB := Aside0.mk (zT (jH HB) hb)
     clear hb ho10
     refine hK.out _ _ ⟨(kC BK312.out 0).trans rfl, (kC BK312.out 1).trans rfl, (kC BK312.out 2).trans rfl⟩ (fun hHeld => ?_)
     clear hK K
     refine norm_ (a' := ?_) ?_ ?_
     rotate_left
     ·show Act.put _ (some 3) _ = _
      simp only [Act.put, List.setIfInBounds_toArray, List.set_cons_zero, List.set_cons_succ, i64_w, i32_w]
      rfl
     refine one_ (i := 3) (N := some 6) #[true, true, true, true, true, true, true, false, true, true, false, false] rfl rfl (one_of HT_.out (by kernel_rfl)) (by decide) (fun K hK => ?_)
     refine Kd.R_append_rows_step k59 (w0 := w) w.heap.size (by rfl) (.tmp 3) (.tmp 5) 39 59 (.agg #[(.int .i64 0), (.int .i64 0), (.int .i64 0), (.int .u32 0)]) 32 rfl Tryd.underlying39 info59 rfl (by decide) (by omega) v315 y314 l0_0 _ _ _ (fun k_ => some k_ ≠ (v321 : Value).ownBlock) (fun _ => False) rfl rfl ?aO ?aR (fun _ _ h => h) (fun _ h => h.elim) ?aF ?aB ?aS ?aL ?_
     (case aR => repeat (first | exact (Kd.C_below HR0_0.out HB.out) | (with_reducible refine Kd.C_alloc ?_ _) | (with_reducible refine Kd.C_drewN ?_ _) | (with_reducible refine Kd.C_drew ?_)))
     (case aB => exact (jH HB))
     (case aF => exact (fun k_ hk => Kd.fresh' (Kd.R_lt (jR HO322)) k_ hk))
     (case aO => exact (by (with_reducible repeat (first | apply Kd.R_alloc | apply Kd.R_drewN | apply Kd.R_drew)); exact Kd.R_mono HO316.out (fun _ hk => hk.2)))
     (case aS => exact (zZ (jH HB)))
     (case aL => have := LMc2.out; omega)
     intro v318 w11 ho hb hg hat
     rw [← Ny317.out] at ho
     have HO319 := Aside0.mk (ho)
     replace BK312 := Aside0.mk (kG (g := gb312) (o := .cells #[.slice A0_0 l0_0.length c0_0, .slice A0_1 l0_1.length c0_1, .int .u32 a0_2] 42 (0, 0)) (jK BK312) hg (Kd.R_ne HO316.out BK312.out (by decide)))
     replace BK313 := Aside0.mk (kG (g := gb313) (o := .cells #[.slice none 0 0, .slice none 0 0, .int .u32 0] 42 (0, 0)) (jK BK313) hg (Kd.R_ne HO316.out BK313.out (by decide)))
     replace HO322 := Aside0.mk (Kd.R_after (ok := (fun _ => True)) (jR HO322) hg hat)
     replace HB := Aside0.mk (hb)
     clear HO316
     clear ho hb hg hat
     refine hK.out _ _ ⟨(kC BK312.out 0).trans rfl, (kC BK312.out 1).trans rfl, (kC BK312.out 2).trans rfl⟩ (fun hHeld => ?_)
     clear hK K
     refine norm_ (a' := ?_) ?_ ?_
     rotate_left
     ·show Act.put _ (some 6) _ = _
      simp only [Act.put, List.setIfInBounds_toArray, List.set_cons_zero, List.set_cons_succ, i64_w, i32_w]
      rfl
     exact norm_ (by simp only [putAll, Act.put, List.setIfInBounds_toArray, List.set_cons_zero, List.set_cons_succ]) (hCont (v315, v318, v321) _ ⟨hHeld, (jR HO319), (by (with_reducible repeat (first | apply Kd.R_alloc | apply Kd.R_drewN | apply Kd.R_drew)); exact Kd.R_mono HO322.out (fun _ hk => hk.2)), (jK BK312), (jK BK313), (jH HB)⟩)
   rintro ⟨v315, v318, v321⟩ w12 ⟨hS_, h0_, h1_, h2_, h3_, h4_⟩
   have n0_ : Aside0 (Kd.R k59 59 w12 w.heap.size (fun k_ => some k_ ≠ (v321 : Value).ownBlock) v318 y317) := ⟨h0_⟩
   have n1_ : Aside0 (Kd.R k59 59 w12 w.heap.size (fun k_ => some k_ ≠ (v318 : Value).ownBlock) v321 y320) := ⟨h1_⟩
   have n2_ : Aside0 (w12.heap[gb312]? = some (.cells #[.slice A0_0 l0_0.length c0_0, .slice A0_1 l0_1.length c0_1, .int .u32 a0_2] 42 (0, 0))) := ⟨h2_⟩
   have n3_ : Aside0 (w12.heap[gb313]? = some (.cells #[.slice none 0 0, .slice none 0 0, .int .u32 0] 42 (0, 0))) := ⟨h3_⟩
   have n4_ : Aside0 (Below w.heap.size w w12) := ⟨h4_⟩
   clear BK312
   clear BK313
   clear HB
   clear h0_ h1_ h2_ h3_ h4_
   have HO319 := n0_
   have HO322 := n1_
   have BK312 := n2_
   have BK313 := n3_
   have HB := n4_
   clear n0_ n1_ n2_ n3_ n4_
   have hHeld : w12.cell? ⟨gb312, 0, none⟩ = some (.slice A0_0 l0_0.length c0_0) ∧ w12.cell? ⟨gb312, 1, none⟩ = some (.slice A0_1 l0_1.length c0_1) ∧ w12.cell? ⟨gb312, 2, none⟩ = some (.int .u32 a0_2) := hS_
   refine norm_ (a' := ?_) ?_ ?_
   rotate_left
   ·simp only [putAll, Act.put, List.setIfInBounds_toArray, List.set_cons_zero, List.set_cons_succ]
    rfl
   refine one_ (i := 7) (N := some 10) #[true, true, true, true, true, true, true, true, true, true, false, false] rfl rfl (one_of HT_.out (by kernel_rfl)) (by decide) (fun K hK => ?_)
   refine Kd.R_append_rows_step k59 (w0 := w) w.heap.size (by rfl) (.tmp 7) (.tmp 9) 39 59 (.agg #[(.int .i64 0), (.int .i64 0), (.int .i64 0), (.int .u32 0)]) 32 rfl Tryd.underlying39 info59 rfl (by decide) (by omega) v321 y320 l0_1 _ _ _ (fun k_ => some k_ ≠ (v318 : Value).ownBlock) (fun _ => False) rfl rfl ?aO ?aR (fun _ _ h => h) (fun _ h => h.elim) ?aF ?aB ?aS ?aL ?_
   (case aR => repeat (first | exact (Kd.C_below HR0_1.out HB.out) | (with_reducible refine Kd.C_alloc ?_ _) | (with_reducible refine Kd.C_drewN ?_ _) | (with_reducible refine Kd.C_drew ?_)))
   (case aB => exact (jH HB))
   (case aF => exact (fun k_ hk => Kd.fresh' (Kd.R_lt (jR HO319)) k_ hk))
   (case aO => exact (jR HO322))
   (case aS => exact (zZ (jH HB)))
   (case aL => have := LMc3.out; omega)
   intro v324 w13 ho hb hg hat
   rw [← Ny323.out] at ho
   have HO325 := Aside0.mk (ho)
   replace BK312 := Aside0.mk (kG (g := gb312) (o := .cells #[.slice A0_0 l0_0.length c0_0, .slice A0_1 l0_1.length c0_1, .int .u32 a0_2] 42 (0, 0)) (jK BK312) hg (Kd.R_ne HO322.out BK312.out (by decide)))
   replace BK313 := Aside0.mk (kG (g := gb313) (o := .cells #[.slice none 0 0, .slice none 0 0, .int .u32 0] 42 (0, 0)) (jK BK313) hg (Kd.R_ne HO322.out BK313.out (by decide)))
   replace HO319 := Aside0.mk (Kd.R_after (ok := (fun _ => True)) (by (with_reducible repeat (first | apply Kd.R_alloc | apply Kd.R_drewN | apply Kd.R_drew)); exact Kd.R_mono HO319.out (fun _ hk => ⟨trivial, hk⟩)) hg hat)
   replace HB := Aside0.mk (hb)
   clear HO322
   clear ho hb hg hat
   obtain ⟨Ao14, co14, eo14⟩ := Kd.R_slice HO325.out
   (first | subst eo14 | (injection eo14 with f1_ f2_ f3_; have f4_ := f1_.symm; have f5_ := f3_.symm; clear f1_ f2_ f3_; subst f4_; subst f5_))
   obtain ⟨Ao15, co15, eo15⟩ := Kd.R_slice HO319.out
   (first | subst eo15 | (injection eo15 with f1_ f2_ f3_; have f4_ := f1_.symm; have f5_ := f3_.symm; clear f1_ f2_ f3_; subst f4_; subst f5_))
   refine hK.out _ _ ⟨(kC BK312.out 0).trans rfl, (kC BK312.out 1).trans rfl, (kC BK312.out 2).trans rfl⟩ (fun hHeld => ?_)
   clear hK K
   refine norm_ (a' := ?_) ?_ ?_
   rotate_left
   ·show Act.put _ (some 10) _ = _
    simp only [Act.put, List.setIfInBounds_toArray, List.set_cons_zero, List.set_cons_succ, i64_w, i32_w]
    rfl
   refine pure_ (i := 10) (N := some 13) (v := ?_) (a' := ?_) #[true, true, true, true, true, true, true, true, true, true, true, false] rfl rfl (any_of HT_.out (by kernel_rfl)) (fun _ _ _ h => h) (Or.inl ⟨by rfl, ?_⟩) ?_ ?_
   rotate_left
   ·intro w'
    go_simp
    with_reducible rfl
   rotate_left
   ·simp only [Act.put, List.setIfInBounds_toArray, List.set_cons_zero, List.set_cons_succ, i64_w, i32_w]
    rfl
   refine one_ (i := 11) (N := none) #[true, true, true, true, true, true, true, true, true, true, true, true] rfl rfl (one_of HT_.out (by kernel_rfl)) (by decide) (fun K hK => ?_)
   have hs16 : w13.cell? ⟨gb313, 0, none⟩ = some (.slice none 0 0) := (kC BK313.out 0).trans rfl
   have hfs16 := kF BK313.out 0
   have hns16_0 := NB312_313.out
   have hms16_0 := NB313_312.out
   have hs17 : w13.cell? ⟨gb313, 1, none⟩ = some (.slice none 0 0) := (kC BK313.out 1).trans rfl
   have hfs17 := kF BK313.out 1
   have hns17_0 := NB312_313.out
   have hms17_0 := NB313_312.out
   have hs18 : w13.cell? ⟨gb313, 2, none⟩ = some (.int .u32 0) := (kC BK313.out 2).trans rfl
   have hfs18 := kF BK313.out 2
   have hns18_0 := NB312_313.out
   have hms18_0 := NB313_312.out
   refine skip_ (w1 := ?_) (by rfl) rfl ?_ ?_
   rotate_left
   ·go_simp
    rfl
   refine hK.out _ _ ⟨((cell_far (p := ⟨gb313, _, none⟩) NB312_313.out _).trans (((cell_far (p := ⟨gb313, _, none⟩) NB312_313.out _).trans (((cell_far (p := ⟨gb313, _, none⟩) NB312_313.out _).trans (hHeld.1)))))), ((cell_far (p := ⟨gb313, _, none⟩) NB312_313.out _).trans (((cell_far (p := ⟨gb313, _, none⟩) NB312_313.out _).trans (((cell_far (p := ⟨gb313, _, none⟩) NB312_313.out _).trans (hHeld.2.1)))))), ((cell_far (p := ⟨gb313, _, none⟩) NB312_313.out _).trans (((cell_far (p := ⟨gb313, _, none⟩) NB312_313.out _).trans (((cell_far (p := ⟨gb313, _, none⟩) NB312_313.out _).trans (hHeld.2.2))))))⟩ (fun hHeld => ?_)
   clear hK K
   refine done_ (done_of HT_.out (by kernel_rfl)) ?_
   try go_wp2
   refine bodyPost_ret (results_cell_row rfl _ _ gb313 42 #[.slice Ao15 y317.length co15, .slice Ao14 y323.length co14, .int .u32 a0_2] (0, 0) _ rfl (by (with_reducible repeat (first | refine kN ?_ _ | refine kD ?_ | refine kA ?_ _)); refine kP (cs := #[.slice Ao15 y317.length co15, .slice Ao14 y323.length co14, .int .u32 0]) ?_ 2 _ rfl; (with_reducible repeat (first | refine kN ?_ _ | refine kD ?_ | refine kA ?_ _)); refine kP (cs := #[.slice Ao15 y317.length co15, .slice none 0 0, .int .u32 0]) ?_ 1 _ rfl; (with_reducible repeat (first | refine kN ?_ _ | refine kD ?_ | refine kA ?_ _)); refine kP (cs := #[.slice none 0 0, .slice none 0 0, .int .u32 0]) ?_ 0 _ rfl; (with_reducible repeat (first | refine kN ?_ _ | refine kD ?_ | refine kA ?_ _)); exact BK313.out) Tryd.underlying42 rfl (by kernel_rfl)) rfl ?_
   exact ⟨_, _, jE, by (with_reducible repeat (first | apply Kd.R_alloc | apply Kd.R_drewN | apply Kd.R_drew)); exact Kd.R_mono (Kd.R_far (p := ⟨gb313, 2, none⟩) (Kd.R_far (p := ⟨gb313, 1, none⟩) (Kd.R_far (p := ⟨gb313, 0, none⟩) (Kd.R_types HO319.out BK313.out (by decide)) (fun _ hk => hk.2) (.slice Ao15 y317.length co15)) (fun _ hk => hk.2) (.slice Ao14 y323.length co14)) (fun _ hk => hk.2) (.int .u32 a0_2)) (fun _ hk => hk.1.2), by (with_reducible repeat (first | apply Kd.R_alloc | apply Kd.R_drewN | apply Kd.R_drew)); exact Kd.R_mono (Kd.R_far (p := ⟨gb313, 2, none⟩) (Kd.R_far (p := ⟨gb313, 1, none⟩) (Kd.R_far (p := ⟨gb313, 0, none⟩) (Kd.R_types HO325.out BK313.out (by decide)) (fun _ hk => hk.2) (.slice Ao15 y317.length co15)) (fun _ hk => hk.2) (.slice Ao14 y323.length co14)) (fun _ hk => hk.2) (.int .u32 a0_2)) (fun _ hk => hk.1), jH HB⟩
  ·rw [if_neg c3] at H
   exact absurd H (by simp)
 ·rw [if_neg c2] at H
  exact absurd H (by simp)
mutual
def table_Learn.j0 : Nat → List (S42) → Bool → List (S59) → List (S59) → Int → Option ((List (S42)) × Int)
 | 0, _, _, _, _, _ => none
 | k + 1, x0, x20, x327000, x327001, x327002 => if x20 = true then (some (x0, 1)) else ((table_place.f k x0 x327000 x327001 x327002).bind fun bt329 => (if bt329.2 = true then (some (x0, 0)) else (if (x0.length : Int) = 64 then (some (x0, 3)) else (if 0 ≤ bt329.1 then (if bt329.1 ≤ (x0.length : Int) then ((some (x0.take (bt329.1 : Int).toNat : List (S42))).bind fun y331 => (table_Learn.l0 k x0 bt329.1 ([] : List (S42)) y331 (y331.length : Int) 0 x327000 x327001 x327002)) else (none)) else (none)))))
def table_Learn.l0 : Nat → List (S42) → Int → List (S42) → List (S42) → Int → Int → List (S59) → List (S59) → Int → Option ((List (S42)) × Int)
 | 0, _, _, _, _, _, _, _, _, _ => none
 | k + 1, x0, x6, x8, x38, x39, x40, x327000, x327001, x327002 => if x40 < x39 then (if 0 ≤ x40 then (if x40 < (x38.length : Int) then ((table_own.f ((rd_T42 x38 x40).f0) ((rd_T42 x38 x40).f1) ((rd_T42 x38 x40).f2)).bind fun bt338 => (if x8.length < 2513169434916 then (table_Learn.l0 k x0 x6 (x8 ++ [(⟨bt338.1, bt338.2.1, bt338.2.2⟩ : S42)]) x38 x39 (wrap64 (x40 + 1)) x327000 x327001 x327002) else (none))) else (none)) else (none)) else ((table_own.f x327000 x327001 x327002).bind fun bt348 => (if x8.length < 2513169434916 then (if 0 ≤ x6 then (if x6 ≤ (x0.length : Int) then ((some (x0.drop (x6 : Int).toNat : List (S42))).bind fun y358 => (table_Learn.l1 k (x8 ++ [(⟨bt348.1, bt348.2.1, bt348.2.2⟩ : S42)]) y358 (y358.length : Int) 0)) else (none)) else (none)) else (none)))
def table_Learn.l1 : Nat → List (S42) → List (S42) → Int → Int → Option ((List (S42)) × Int)
 | 0, _, _, _, _ => none
 | k + 1, x8, x57, x58, x59 => if x59 < x58 then (if 0 ≤ x59 then (if x59 < (x57.length : Int) then ((table_own.f ((rd_T42 x57 x59).f0) ((rd_T42 x57 x59).f1) ((rd_T42 x57 x59).f2)).bind fun bt365 => (if x8.length < 2513169434916 then (table_Learn.l1 k (x8 ++ [(⟨bt365.1, bt365.2.1, bt365.2.2⟩ : S42)]) x57 x58 (wrap64 (x59 + 1))) else (none))) else (none)) else (none)) else (some (x8, 0))
end
def table_Learn.f (k : Nat) (l0 : List (S42)) (l1_0 : List (S59)) (l1_1 : List (S59)) (a1_2 : Int) : Option ((List (S42)) × Int) := (table_Right.f k l0).bind fun t327 => (if t327 = true then ((table_Rule_right.f k l1_0 l1_1 a1_2).bind fun t328 => (table_Learn.j0 k l0 (!t328) l1_0 l1_1 a1_2)) else (table_Learn.j0 k l0 true l1_0 l1_1 a1_2))
set_option maxHeartbeats 8000000 in
set_option maxRecDepth 100000 in
theorem table_Learn.calls (k : Nat) (P0_ : Nat → Prop) (A0 : Option Addr) (c0 : Nat) (l0 : List (S42)) (A1_0 : Option Addr) (c1_0 : Nat) (l1_0 : List (S59)) (A1_1 : Option Addr) (c1_1 : Nat) (l1_1 : List (S59)) (a1_2 : Int) (r1 : List (S42)) (r2 : Int) (w : World) (hs0 : Kd.V k42 42 w w.heap.size (fun k_ => P0_ k_) (.slice A0 l0.length c0) l0) (hr1_0 : Kd.C k59 w A1_0 l1_0.length l1_0) (hc1_0 : l1_0.length ≤ c1_0) (hr1_1 : Kd.C k59 w A1_1 l1_1.length l1_1) (hc1_1 : l1_1.length ≤ c1_1) (hG : Glob w) (h : table_Learn.f k l0 l1_0 l1_1 a1_2 = some (r1, r2)) :
  Calls Tryd.prog 20 #[.slice A0 l0.length c0, .agg #[.slice A1_0 l1_0.length c1_0, .slice A1_1 l1_1.length c1_1, .int .u32 a1_2]] w fun e w' => ∃ v0_ : Value, e = .returned (.tuple #[v0_, .int .i64 r2]) ∧ Kd.V k42 42 w' w.heap.size (fun k_ => (P0_ k_ ∨ w.heap.size ≤ k_)) v0_ r1 ∧ Below w.heap.size w w' := by
 have hu42 := Tryd.underlying42
 have HG := Aside0.mk hG
 clear hG
 have HO0 := Aside0.mk (show Kd.V k42 42 w w.heap.size (fun k_ => (P0_ k_ ∨ w.heap.size ≤ k_)) (.slice A0 l0.length c0) l0 from Kd.V_mono hs0 (fun k_ hk => .inl hk))
 have HR1_0 := Aside0.mk hr1_0
 have HC1_0 := Aside0.mk hc1_0
 clear hr1_0 hc1_0
 have HR1_1 := Aside0.mk hr1_1
 have HC1_1 := Aside0.mk hc1_1
 clear hr1_1 hc1_1
 have HB := Aside0.mk (Below.refl w.heap.size w)
 have H : ((table_Right.f k l0).bind fun t327 => (if t327 = true then ((table_Rule_right.f k l1_0 l1_1 a1_2).bind fun t328 => (table_Learn.j0 k l0 (!t328) l1_0 l1_1 a1_2)) else (table_Learn.j0 k l0 true l1_0 l1_1 a1_2))) = some (r1, r2) := h
 clear h
 have HC3 := Aside0.mk H
 clear H
 go_enter Tryd.func20, Tryd.ntmps20
 go_upto_region 1 with (first | ((with_reducible refine gate_dst (N := 3) rfl ?_); refine box_event rfl (N := 3) rfl (cs := #[.slice A1_0 l1_0.length c1_0, .slice A1_1 l1_1.length c1_1, .int .u32 a1_2]) (t := 42) jW ?_; intro gb326 hg w4 hbox hb; have BK326 := Aside0.mk hbox; have GW326 := Aside0.mk (jG hg HB); have GE326 := Aside0.mk (jG hg HB); replace HO0 := Aside0.mk (Kd.V_below (Kd.V_elderB (jV HO0) gb326 (Nat.le_of_eq hg.symm)) hb); replace HB := Aside0.mk (zT (jH HB) hb); clear hb hbox hg))
 (try simp only [Act.put, List.setIfInBounds_toArray, List.set_cons_zero, List.set_cons_succ])
 go_cut [20] (fun v20 wc => ∃ (kq : Nat) (x20_2 : Bool), v20 = .bool x20_2 ∧ Aside0 (table_Learn.j0 kq l0 x20_2 l1_0 l1_1 a1_2 = some (r1, r2)) ∧ Aside0 (kq ≤ k) ∧ Aside0 (Kd.V k42 42 wc w.heap.size (fun k_ => (P0_ k_ ∨ w.heap.size ≤ k_) ∧ k_ ≠ gb326) (.slice A0 l0.length c0) l0) ∧ Aside0 (wc.heap[gb326]? = some (.cells #[(.slice A1_0 l1_0.length c1_0), (.slice A1_1 l1_1.length c1_1), .int .u32 a1_2] 42 (0, 0))) ∧ Aside0 (Below w.heap.size w wc))
 case first =>
  have H := HC3.out
  clear HC3
  replace H := Option.bind_eq_some_iff.mp H
  obtain ⟨t327, A50, H⟩ := H
  try dsimp only at H
  have A5 := Aside0.mk A50
  clear A50
  by_cases c6 : t327 = true
  ·subst c6
   rw [if_pos rfl] at H
   replace H := Option.bind_eq_some_iff.mp H
   obtain ⟨t328, A70, H⟩ := H
   try dsimp only at H
   have A7 := Aside0.mk A70
   clear A70
   have H' := Aside0.mk H
   clear H
   go_wp2_with (first | ((with_reducible refine gate_callee (f := 15) rfl ?_); refine goesL_ (some 14) rfl rfl Tryd.func15 (by kernel_rfl) rfl #[.slice A0 l0.length c0] rfl jZ ?_; (with_reducible refine (table_Right.calls k _ _ l0 true _ ?side1 ?side2 ?side3 A5.out).mono ?_); (case side1 => exact jC (Kd.V_reads' HO0.out).2.2); (case side2 => exact (Kd.V_reads' HO0.out).2.1); (case side3 => exact Glob.below HG.out (jH HB)); rintro e w8 ⟨rfl, hb⟩; refine ⟨_, rfl, ?_⟩; replace HO0 := Aside0.mk (Kd.V_below (jV HO0) hb); replace BK326 := Aside0.mk (jB BK326 hb); replace HB := Aside0.mk (zT (jH HB) hb); (try clear hb); (try clear hb2); (try clear hk); (try clear hi); obtain ⟨hcz9_0, hcz9_1, hcz9_2, hfz9_0, hfz9_1, hfz9_2⟩ := kQ3 BK326.out) | (go_at_call 32; (with_reducible refine (table_Rule_right.calls k _ _ l1_0 _ _ l1_1 a1_2 t328 _ ?side1 ?side2 ?side3 ?side4 ?side5 A7.out).mono ?_); (case side1 => exact jC (Kd.C_below HR1_0.out HB.out)); (case side2 => exact HC1_0.out); (case side3 => exact jC (Kd.C_below HR1_1.out HB.out)); (case side4 => exact HC1_1.out); (case side5 => exact Glob.below HG.out (jH HB)); rintro e w10 ⟨rfl, hb⟩; replace HO0 := Aside0.mk (Kd.V_below (jV HO0) hb); replace BK326 := Aside0.mk (jB BK326 hb); replace HB := Aside0.mk (zT (jH HB) hb); (try clear hb); (try clear hb2); (try clear hk); (try clear hi)))
   go_meet
   case rel => exact ⟨_, (!t328), jS, H', ⟨jO⟩, ⟨jV HO0⟩, ⟨jK BK326⟩, ⟨jH HB⟩⟩
  ·replace c6 := Bool.eq_false_iff.mpr c6
   subst c6
   rw [if_neg (show ¬ (false = true) by decide)] at H
   have H' := Aside0.mk H
   clear H
   go_wp2_with (first | ((with_reducible refine gate_callee (f := 15) rfl ?_); refine goesL_ (some 14) rfl rfl Tryd.func15 (by kernel_rfl) rfl #[.slice A0 l0.length c0] rfl jZ ?_; (with_reducible refine (table_Right.calls k _ _ l0 false _ ?side1 ?side2 ?side3 A5.out).mono ?_); (case side1 => exact jC (Kd.V_reads' HO0.out).2.2); (case side2 => exact (Kd.V_reads' HO0.out).2.1); (case side3 => exact Glob.below HG.out (jH HB)); rintro e w11 ⟨rfl, hb⟩; refine ⟨_, rfl, ?_⟩; replace HO0 := Aside0.mk (Kd.V_below (jV HO0) hb); replace BK326 := Aside0.mk (jB BK326 hb); replace HB := Aside0.mk (zT (jH HB) hb); (try clear hb); (try clear hb2); (try clear hk); (try clear hi)))
   go_meet
   case rel => exact ⟨_, (true), jS, H', ⟨jO⟩, ⟨jV HO0⟩, ⟨jK BK326⟩, ⟨jH HB⟩⟩
 case rest =>
  clear HC3
  obtain ⟨kq, x20_2, rfl, HA, HJ2, HO_0, BK326, HB⟩ := hcut
  cases kq with
  | zero => exact absurd HA.out (by simp [table_Learn.j0])
  | succ kj2 =>
   have H := HA.out
   clear HA
   simp only [table_Learn.j0] at H
   by_cases c12 : x20_2 = true
   ·subst c12
    rw [if_pos rfl] at H
    simp only [Option.some.injEq, Prod.mk.injEq] at H
    obtain ⟨rfl, rfl⟩ := H
    go_wp2
    go_ret2
    exact ⟨_, jE, by (with_reducible repeat (first | apply Kd.V_alloc | apply Kd.V_drewN | apply Kd.V_drew)); exact Kd.V_mono HO_0.out (fun _ hk => hk.1), jH HB⟩
   ·replace c12 := Bool.eq_false_iff.mpr c12
    subst c12
    rw [if_neg (show ¬ (false = true) by decide)] at H
    replace H := Option.bind_eq_some_iff.mp H
    obtain ⟨⟨t329, t330⟩, A130, H⟩ := H
    try dsimp only at H
    have A13 := Aside0.mk A130
    clear A130
    by_cases c14 : t330 = true
    ·subst c14
     rw [if_pos rfl] at H
     simp only [Option.some.injEq, Prod.mk.injEq] at H
     obtain ⟨rfl, rfl⟩ := H
     obtain ⟨hcz15_0, hcz15_1, hcz15_2, hfz15_0, hfz15_1, hfz15_2⟩ := kQ3 BK326.out
     go_wp2_with (first | ((with_reducible refine gate_callee (f := 37) rfl ?_); refine goesL_ (some 25) rfl rfl Tryd.func37 (by kernel_rfl) rfl #[.slice A0 l0.length c0, .agg #[.slice A1_0 l1_0.length c1_0, .slice A1_1 l1_1.length c1_1, .int .u32 a1_2], .func (.func 28) #[] #[]] rfl jZ ?_; (with_reducible refine (table_place.calls kj2 _ _ l0 _ _ l1_0 _ _ l1_1 a1_2 t329 true _ ?side1 ?side2 ?side3 ?side4 ?side5 ?side6 ?side7 A13.out).mono ?_); (case side1 => exact jC (Kd.V_reads' HO_0.out).2.2); (case side2 => exact (Kd.V_reads' HO_0.out).2.1); (case side3 => exact jC (Kd.C_below HR1_0.out HB.out)); (case side4 => exact HC1_0.out); (case side5 => exact jC (Kd.C_below HR1_1.out HB.out)); (case side6 => exact HC1_1.out); (case side7 => exact Glob.below HG.out (jH HB)); rintro e w16 ⟨rfl, hb⟩; refine ⟨_, rfl, ?_⟩; replace HO_0 := Aside0.mk (Kd.V_below (jV HO_0) hb); replace BK326 := Aside0.mk (jB BK326 hb); replace HB := Aside0.mk (zT (jH HB) hb); (try clear hb); (try clear hb2); (try clear hk); (try clear hi)))
     go_ret2
     exact ⟨_, jE, by (with_reducible repeat (first | apply Kd.V_alloc | apply Kd.V_drewN | apply Kd.V_drew)); exact Kd.V_mono HO_0.out (fun _ hk => hk.1), jH HB⟩
    ·replace c14 := Bool.eq_false_iff.mpr c14
     subst c14
     rw [if_neg (show ¬ (false = true) by decide)] at H
     by_cases c17 : (l0.length : Int) = 64
     ·rw [if_pos c17] at H
      have c17b0 : ((l0.length : Int) == 64) = true := bI.mpr c17
      have c17b1 : ((l0.length : Int) != 64) = false := nF.mpr c17
      clear c17
      simp only [Option.some.injEq, Prod.mk.injEq] at H
      obtain ⟨rfl, rfl⟩ := H
      obtain ⟨hcz18_0, hcz18_1, hcz18_2, hfz18_0, hfz18_1, hfz18_2⟩ := kQ3 BK326.out
      go_wp2_with (first | ((with_reducible refine gate_callee (f := 37) rfl ?_); refine goesL_ (some 25) rfl rfl Tryd.func37 (by kernel_rfl) rfl #[.slice A0 l0.length c0, .agg #[.slice A1_0 l1_0.length c1_0, .slice A1_1 l1_1.length c1_1, .int .u32 a1_2], .func (.func 28) #[] #[]] rfl jZ ?_; (with_reducible refine (table_place.calls kj2 _ _ l0 _ _ l1_0 _ _ l1_1 a1_2 t329 false _ ?side1 ?side2 ?side3 ?side4 ?side5 ?side6 ?side7 A13.out).mono ?_); (case side1 => exact jC (Kd.V_reads' HO_0.out).2.2); (case side2 => exact (Kd.V_reads' HO_0.out).2.1); (case side3 => exact jC (Kd.C_below HR1_0.out HB.out)); (case side4 => exact HC1_0.out); (case side5 => exact jC (Kd.C_below HR1_1.out HB.out)); (case side6 => exact HC1_1.out); (case side7 => exact Glob.below HG.out (jH HB)); rintro e w19 ⟨rfl, hb⟩; refine ⟨_, rfl, ?_⟩; replace HO_0 := Aside0.mk (Kd.V_below (jV HO_0) hb); replace BK326 := Aside0.mk (jB BK326 hb); replace HB := Aside0.mk (zT (jH HB) hb); (try clear hb); (try clear hb2); (try clear hk); (try clear hi)))
      go_ret2
      exact ⟨_, jE, by (with_reducible repeat (first | apply Kd.V_alloc | apply Kd.V_drewN | apply Kd.V_drew)); exact Kd.V_mono HO_0.out (fun _ hk => hk.1), jH HB⟩
     ·rw [if_neg c17] at H
      have c17b0 : ((l0.length : Int) == 64) = false := bF.mpr c17
      have c17b1 : ((l0.length : Int) != 64) = true := nI.mpr c17
      by_cases c20 : 0 ≤ t329
      ·rw [if_pos c20] at H
       have c20b0 := eq_true c20
       have c20b1 := dT c20
       clear c20
       by_cases c21 : t329 ≤ (l0.length : Int)
       ·rw [if_pos c21] at H
        have c21b0 := eq_true c21
        have c21b1 := dT c21
        clear c21
        obtain ⟨y331, hy331⟩ : ∃ y_ : List (S42), y_ = (l0.take (t329 : Int).toNat) := ⟨_, rfl⟩
        simp only [Option.bind_some, ← hy331] at H
        have Ny331 := Aside0.mk hy331
        clear hy331
        have H' := Aside0.mk H
        clear H
        obtain ⟨hcz22_0, hcz22_1, hcz22_2, hfz22_0, hfz22_1, hfz22_2⟩ := kQ3 BK326.out
        go_wp2_with (first | ((with_reducible refine gate_callee (f := 37) rfl ?_); refine goesL_ (some 25) rfl rfl Tryd.func37 (by kernel_rfl) rfl #[.slice A0 l0.length c0, .agg #[.slice A1_0 l1_0.length c1_0, .slice A1_1 l1_1.length c1_1, .int .u32 a1_2], .func (.func 28) #[] #[]] rfl jZ ?_; (with_reducible refine (table_place.calls kj2 _ _ l0 _ _ l1_0 _ _ l1_1 a1_2 t329 false _ ?side1 ?side2 ?side3 ?side4 ?side5 ?side6 ?side7 A13.out).mono ?_); (case side1 => exact jC (Kd.V_reads' HO_0.out).2.2); (case side2 => exact (Kd.V_reads' HO_0.out).2.1); (case side3 => exact jC (Kd.C_below HR1_0.out HB.out)); (case side4 => exact HC1_0.out); (case side5 => exact jC (Kd.C_below HR1_1.out HB.out)); (case side6 => exact HC1_1.out); (case side7 => exact Glob.below HG.out (jH HB)); rintro e w23 ⟨rfl, hb⟩; refine ⟨_, rfl, ?_⟩; replace HO_0 := Aside0.mk (Kd.V_below (jV HO_0) hb); replace BK326 := Aside0.mk (jB BK326 hb); replace HB := Aside0.mk (zT (jH HB) hb); (try clear hb); (try clear hb2); (try clear hk); (try clear hi); have q24 : (t329 : Int) ≤ ((l0.length : Int) : Int) := oD (jA); obtain ⟨i024, hi024, _, hsz24, _⟩ := info_parts info42; have hroom24 : l0.length ≤ c0 := (Kd.V_reads' HO_0.out).2.1; have hC24 : Kd.F k42 _ _ A0 l0.length l0 := (Kd.V_at (base := w.heap.size) HO_0.out).2.2; have hcut24 := cut_to (P := Tryd.prog) 22 42 .i64 Tryd.underlying22 hi024 A0 l0.length c0 t329 (oD (jA)) q24 hroom24; have hr24 := Kd.F_take (m := (t329 : Int).toNat) hC24 (by omega); have hy24 : y331.length = (t329 : Int).toNat := (by rw [Ny331.out, List.length_take]; omega); rw [← Ny331.out] at hr24; rw [← hy24] at hcut24; have HO335 := Aside0.mk (show Kd.V k42 42 _ w.heap.size _ (.slice A0 y331.length c0) y331 from Kd.V_mk (by omega) hr24); have HC335 := Aside0.mk (show y331.length ≤ c0 from by omega); clear hr24 hC24 hroom24 hi024 hsz24; have KY24 := Aside0.mk hy24; clear hy24; replace q24 := eq_true q24))
        go_loopg [8, 40] kj2 (fun kq v8 v40 w' => ∃ (x8_2 : List (S42)) (x40_2 : Int), v40 = .int .i64 x40_2 ∧ Aside0 (table_Learn.l0 kq l0 t329 x8_2 y331 (y331.length : Int) x40_2 l1_0 l1_1 a1_2 = some (r1, r2)) ∧ Aside0 (kq ≤ kj2) ∧ Aside0 (Kd.V k42 42 w' w.heap.size (fun k_ => (P0_ k_ ∨ w.heap.size ≤ k_) ∧ some k_ ≠ (v8 : Value).ownBlock ∧ k_ ≠ gb326) (.slice A0 l0.length c0) l0) ∧ Aside0 (Kd.S k42 42 w' w.heap.size (fun k_ => (w.heap.size ≤ k_) ∧ k_ ≠ gb326) v8 x8_2) ∧ Aside0 (Kd.V k42 42 w' w.heap.size (fun k_ => (P0_ k_ ∨ w.heap.size ≤ k_) ∧ some k_ ≠ (v8 : Value).ownBlock ∧ k_ ≠ gb326) (.slice A0 y331.length c0) y331) ∧ Aside0 (w'.heap[gb326]? = some (.cells #[(.slice A1_0 l1_0.length c1_0), (.slice A1_1 l1_1.length c1_1), .int .u32 a1_2] 42 (0, 0))) ∧ Aside0 (Below w.heap.size w w'))
        case atStart => exact ⟨(([] : List (S42))), (0), jS, H', ⟨Nat.le_refl _⟩, ⟨by (with_reducible repeat (first | apply Kd.V_alloc | apply Kd.V_drewN | apply Kd.V_drew)); exact Kd.V_mono HO_0.out (fun _ hk => ⟨hk.1, ⟨(by simp [Value.ownBlock]), hk.2⟩⟩)⟩, ⟨by first | exact Kd.S_nil _ _ _ _ _ | exact Kd.N_nil _ _ _ _ _ | exact Kd.V_nil _ _ _ _ _ | exact Kd.Q_nil _ _ _ _ _ | exact Kd.R_nil _ _ _ _ _⟩, ⟨by (with_reducible repeat (first | apply Kd.V_alloc | apply Kd.V_drewN | apply Kd.V_drew)); exact Kd.V_mono HO335.out (fun _ hk => ⟨hk.1, ⟨(by simp [Value.ownBlock]), hk.2⟩⟩)⟩, ⟨jK BK326⟩, ⟨jH HB⟩⟩
        case round =>
         clear H'
         obtain ⟨x8_2, x40_2, rfl, HA, HK2, HO_0, HO_8, HO_38, BK326, HB⟩ := hrel
         cases gk with
         | zero => exact absurd HA.out (by simp [table_Learn.l0])
         | succ k2 =>
          have H := HA.out
          clear HA
          simp only [table_Learn.l0] at H
          by_cases c25 : x40_2 < (y331.length : Int)
          ·rw [if_pos c25] at H
           have c25b0 := dT c25
           clear c25
           by_cases c26 : 0 ≤ x40_2
           ·rw [if_pos c26] at H
            have c26b0 := dT c26
            clear c26
            by_cases c27 : x40_2 < (y331.length : Int)
            ·rw [if_pos c27] at H
             have c27b0 := dT c27
             clear c27
             replace H := Option.bind_eq_some_iff.mp H
             obtain ⟨⟨t338, t341, t344⟩, A280, H⟩ := H
             try dsimp only at H
             have A28 := Aside0.mk A280
             clear A280
             by_cases c29 : x8_2.length < 2513169434916
             ·rw [if_pos c29] at H
              have LMc29 := Aside0.mk c29
              clear c29
              obtain ⟨y345, hy345⟩ : ∃ y_ : List (S42), y_ = (x8_2 ++ [(⟨t338, t341, t344⟩ : S42)]) := ⟨_, rfl⟩
              simp only [Option.bind_some, ← hy345] at H
              have Ny345 := Aside0.mk hy345
              clear hy345
              have H' := Aside0.mk H
              clear H
              have p336 : 0 ≤ (x40_2 : Int) := oD (jA)
              have q336 : x40_2 < (y331.length : Int) := oD (jA)
              obtain ⟨ad336, A336_0, c336_0, A336_1, c336_1, e336, hx336_0, hx336_1, hx336_2, hl336_0, hi336_0, hl336_1, hi336_1⟩ := at_T42 (Kd.V_reads' HO_38.out).2.2 x40_2 p336 q336
              cases e336
              obtain ⟨ce336, hce336, hMe336, hcc336⟩ := Kd.V_get HO_38.out z42 x40_2 p336 (by first | exact q336 | exact oD (jA) | (have e_ := (Kd.V_reads' HO_38.out).1; omega))
              obtain ⟨ua336_0, uc336_0, ua336_1, uc336_1, rfl, ul336_0, ge336_0, ul336_1, ge336_1⟩ := k42_openF hMe336
              have hv336_0 := hcc336 0 _ rfl
              rw [Nat.add_zero] at hv336_0
              replace hv336_0 := Option.some.inj (hv336_0.symm.trans hx336_0)
              injection hv336_0 with hva_ hvn_ hvc_
              rw [hva_] at ge336_0
              rw [hvc_] at ul336_0
              have HL336_0 := Aside0.mk (show Kd.V k59 59 _ w.heap.size _ _ ((rd_T42 y331 x40_2).f0) from Kd.V_mk ul336_0 ge336_0)
              clear hva_ hvn_ hvc_ ge336_0 ul336_0
              have hv336_1 := hcc336 1 _ rfl
              rw [add_field _ _ 1 (by omega)] at hv336_1
              replace hv336_1 := Option.some.inj (hv336_1.symm.trans hx336_1)
              injection hv336_1 with hva_ hvn_ hvc_
              rw [hva_] at ge336_1
              rw [hvc_] at ul336_1
              have HL336_1 := Aside0.mk (show Kd.V k59 59 _ w.heap.size _ _ ((rd_T42 y331 x40_2).f1) from Kd.V_mk ul336_1 ge336_1)
              clear hva_ hvn_ hvc_ ge336_1 ul336_1
              clear hcc336 hce336
              have HR336_0 := Aside0.mk hi336_0
              have HC336_0 := Aside0.mk hl336_0
              clear hi336_0 hl336_0
              have HR336_1 := Aside0.mk hi336_1
              have HC336_1 := Aside0.mk hl336_1
              clear hi336_1 hl336_1
              replace p336 := eq_true p336
              replace q336 := eq_true q336
              go_wp2_with (first | ((with_reducible refine gate_dst (N := 10) rfl ?_); refine box_event rfl (N := 10) rfl (cs := #[.slice none 0 0, .slice none 0 0, .int .u32 0]) (t := 42) jW ?_; intro gb337 hg w30 hbox hb; have BK337 := Aside0.mk hbox; have GW337 := Aside0.mk (jG hg HB); have GE337 := Aside0.mk (jG hg HB); have NB326_337 := Aside0.mk (jN hg BK326); have NB337_326 := Aside0.mk (jM hg BK326); replace HO_0 := Aside0.mk (Kd.V_below (Kd.V_elderB (jV HO_0) gb337 (Nat.le_of_eq hg.symm)) hb); replace HO_8 := Aside0.mk (Kd.S_below (Kd.S_elderB (by (with_reducible repeat (first | apply Kd.S_alloc | apply Kd.S_drewN | apply Kd.S_drew)); exact HO_8.out) gb337 (Nat.le_of_eq hg.symm)) hb); replace HO_38 := Aside0.mk (Kd.V_below (Kd.V_elderB (jV HO_38) gb337 (Nat.le_of_eq hg.symm)) hb); replace HL336_0 := Aside0.mk (Kd.V_below (Kd.V_elderB (jV HL336_0) gb337 (Nat.le_of_eq hg.symm)) hb); replace HL336_1 := Aside0.mk (Kd.V_below (Kd.V_elderB (jV HL336_1) gb337 (Nat.le_of_eq hg.symm)) hb); replace BK326 := Aside0.mk (jB BK326 hb); replace HR336_0 := Aside0.mk (Kd.C_below (by repeat (first | (with_reducible exact HR336_0.out) | (with_reducible refine Kd.C_alloc ?_ _) | (with_reducible refine Kd.C_drewN ?_ _) | (with_reducible refine Kd.C_drew ?_) | exact HR336_0.out)) hb); replace HR336_1 := Aside0.mk (Kd.C_below (by repeat (first | (with_reducible exact HR336_1.out) | (with_reducible refine Kd.C_alloc ?_ _) | (with_reducible refine Kd.C_drewN ?_ _) | (with_reducible refine Kd.C_drew ?_) | exact HR336_1.out)) hb); replace HB := Aside0.mk (zT (jH HB) hb); clear hb hbox hg; have hnb31 := NB337_326.out; have hnc31 := NB326_337.out; obtain ⟨hcz32_0, hcz32_1, hcz32_2, hfz32_0, hfz32_1, hfz32_2⟩ := kQ3 BK337.out) | ((with_reducible refine gate_callee (f := 38) rfl ?_); refine goesL_ (some 46) rfl rfl Tryd.func38 (by kernel_rfl) rfl #[.agg #[.slice A336_0 ((rd_T42 y331 x40_2).f0).length c336_0, .slice A336_1 ((rd_T42 y331 x40_2).f1).length c336_1, .int .u32 ((rd_T42 y331 x40_2).f2)]] rfl jZ ?_; (with_reducible refine (table_own.calls _ _ ((rd_T42 y331 x40_2).f0) _ _ ((rd_T42 y331 x40_2).f1) ((rd_T42 y331 x40_2).f2) t338 t341 t344 _ ?side1 ?side2 ?side3 ?side4 A28.out).mono ?_); (case side1 => repeat (first | exact ((Kd.V_reads' (by (with_reducible repeat (first | apply Kd.V_alloc | apply Kd.V_drewN | apply Kd.V_drew)); exact (Kd.V_mono (Kd.V_far (p := ⟨gb337, 2, none⟩) (Kd.V_far (p := ⟨gb337, 1, none⟩) (Kd.V_far (p := ⟨gb337, 0, none⟩) (Kd.V_mono HL336_0.out (fun k_ hk => (⟨hk, hk.2⟩ : _ ∧ k_ ≠ gb337))) (fun _ hk => hk.2) (.slice A336_0 ((rd_T42 y331 x40_2).f0).length c336_0)) (fun _ hk => hk.2) (.slice A336_1 ((rd_T42 y331 x40_2).f1).length c336_1)) (fun _ hk => hk.2) (.int .u32 ((rd_T42 y331 x40_2).f2))) (fun _ h_ => h_.1)))).2.2) | (with_reducible refine Kd.C_alloc ?_ _) | (with_reducible refine Kd.C_drewN ?_ _) | (with_reducible refine Kd.C_drew ?_))); (case side2 => exact HC336_0.out); (case side3 => repeat (first | exact ((Kd.V_reads' (by (with_reducible repeat (first | apply Kd.V_alloc | apply Kd.V_drewN | apply Kd.V_drew)); exact (Kd.V_mono (Kd.V_far (p := ⟨gb337, 2, none⟩) (Kd.V_far (p := ⟨gb337, 1, none⟩) (Kd.V_far (p := ⟨gb337, 0, none⟩) (Kd.V_mono HL336_1.out (fun k_ hk => (⟨hk, hk.2⟩ : _ ∧ k_ ≠ gb337))) (fun _ hk => hk.2) (.slice A336_0 ((rd_T42 y331 x40_2).f0).length c336_0)) (fun _ hk => hk.2) (.slice A336_1 ((rd_T42 y331 x40_2).f1).length c336_1)) (fun _ hk => hk.2) (.int .u32 ((rd_T42 y331 x40_2).f2))) (fun _ h_ => h_.1)))).2.2) | (with_reducible refine Kd.C_alloc ?_ _) | (with_reducible refine Kd.C_drewN ?_ _) | (with_reducible refine Kd.C_drew ?_))); (case side4 => exact HC336_1.out); rintro e w33 ⟨v339, v342, rfl, ho0, ho1, hb⟩; refine ⟨_, rfl, ?_⟩; have HO340 := Aside0.mk (Kd.R_lower (Kd.R_newM (M := fun k_ => (w.heap.size ≤ k_)) ho0 (zZ (jH HB)) (fun k_ h_ => h_)) (zZ (jH HB))); have HO343 := Aside0.mk (Kd.R_lower (Kd.R_newM (M := fun k_ => (w.heap.size ≤ k_)) ho1 (zZ (jH HB)) (fun k_ h_ => h_)) (zZ (jH HB))); replace HO_0 := Aside0.mk (Kd.V_mono (Kd.V_told (Kd.V_told (Kd.V_old (by (with_reducible repeat (first | apply Kd.V_alloc | apply Kd.V_drewN | apply Kd.V_drew)); exact (Kd.V_mono (Kd.V_far (p := ⟨gb337, 2, none⟩) (Kd.V_far (p := ⟨gb337, 1, none⟩) (Kd.V_far (p := ⟨gb337, 0, none⟩) (Kd.V_mono HO_0.out (fun k_ hk => (⟨hk, hk.2⟩ : _ ∧ k_ ≠ gb337))) (fun _ hk => hk.2) (.slice A336_0 ((rd_T42 y331 x40_2).f0).length c336_0)) (fun _ hk => hk.2) (.slice A336_1 ((rd_T42 y331 x40_2).f1).length c336_1)) (fun _ hk => hk.2) (.int .u32 ((rd_T42 y331 x40_2).f2))) (fun _ h_ => h_.1))) hb) (Kd.R_base ho0)) (Kd.R_base ho1)) (fun _ h_ => h_.1)); replace HO_8 := Aside0.mk (Kd.S_mono (Kd.S_told (Kd.S_told (Kd.S_old (by (with_reducible repeat (first | apply Kd.S_alloc | apply Kd.S_drewN | apply Kd.S_drew)); exact (Kd.S_mono (Kd.S_far (p := ⟨gb337, 2, none⟩) (Kd.S_far (p := ⟨gb337, 1, none⟩) (Kd.S_far (p := ⟨gb337, 0, none⟩) (Kd.S_mono HO_8.out (fun k_ hk => (⟨hk, hk.2⟩ : _ ∧ k_ ≠ gb337))) (fun _ hk => hk.2) (.slice A336_0 ((rd_T42 y331 x40_2).f0).length c336_0)) (fun _ hk => hk.2) (.slice A336_1 ((rd_T42 y331 x40_2).f1).length c336_1)) (fun _ hk => hk.2) (.int .u32 ((rd_T42 y331 x40_2).f2))) (fun _ h_ => h_.1))) hb) (Kd.R_base ho0)) (Kd.R_base ho1)) (fun _ h_ => h_.1)); replace HO_38 := Aside0.mk (Kd.V_mono (Kd.V_told (Kd.V_told (Kd.V_old (by (with_reducible repeat (first | apply Kd.V_alloc | apply Kd.V_drewN | apply Kd.V_drew)); exact (Kd.V_mono (Kd.V_far (p := ⟨gb337, 2, none⟩) (Kd.V_far (p := ⟨gb337, 1, none⟩) (Kd.V_far (p := ⟨gb337, 0, none⟩) (Kd.V_mono HO_38.out (fun k_ hk => (⟨hk, hk.2⟩ : _ ∧ k_ ≠ gb337))) (fun _ hk => hk.2) (.slice A336_0 ((rd_T42 y331 x40_2).f0).length c336_0)) (fun _ hk => hk.2) (.slice A336_1 ((rd_T42 y331 x40_2).f1).length c336_1)) (fun _ hk => hk.2) (.int .u32 ((rd_T42 y331 x40_2).f2))) (fun _ h_ => h_.1))) hb) (Kd.R_base ho0)) (Kd.R_base ho1)) (fun _ h_ => h_.1)); replace BK326 := Aside0.mk (kB (g := gb326) (o := .cells #[.slice A1_0 l1_0.length c1_0, .slice A1_1 l1_1.length c1_1, .int .u32 a1_2] 42 (0, 0)) (by (with_reducible repeat (first | refine kN ?_ _ | refine kD ?_ | refine kA ?_ _)); refine kR ?_ NB326_337.out _; (with_reducible repeat (first | refine kN ?_ _ | refine kD ?_ | refine kA ?_ _)); refine kR ?_ NB326_337.out _; (with_reducible repeat (first | refine kN ?_ _ | refine kD ?_ | refine kA ?_ _)); refine kR ?_ NB326_337.out _; (with_reducible repeat (first | refine kN ?_ _ | refine kD ?_ | refine kA ?_ _)); exact BK326.out) hb); replace HR336_0 := Aside0.mk (Kd.C_below ((Kd.V_reads' (by (with_reducible repeat (first | apply Kd.V_alloc | apply Kd.V_drewN | apply Kd.V_drew)); exact (Kd.V_mono (Kd.V_far (p := ⟨gb337, 2, none⟩) (Kd.V_far (p := ⟨gb337, 1, none⟩) (Kd.V_far (p := ⟨gb337, 0, none⟩) (Kd.V_mono HL336_0.out (fun k_ hk => (⟨hk, hk.2⟩ : _ ∧ k_ ≠ gb337))) (fun _ hk => hk.2) (.slice A336_0 ((rd_T42 y331 x40_2).f0).length c336_0)) (fun _ hk => hk.2) (.slice A336_1 ((rd_T42 y331 x40_2).f1).length c336_1)) (fun _ hk => hk.2) (.int .u32 ((rd_T42 y331 x40_2).f2))) (fun _ h_ => h_.1)))).2.2) hb); replace HL336_0 := Aside0.mk (Kd.V_mono (Kd.V_told (Kd.V_told (Kd.V_old (by (with_reducible repeat (first | apply Kd.V_alloc | apply Kd.V_drewN | apply Kd.V_drew)); exact (Kd.V_mono (Kd.V_far (p := ⟨gb337, 2, none⟩) (Kd.V_far (p := ⟨gb337, 1, none⟩) (Kd.V_far (p := ⟨gb337, 0, none⟩) (Kd.V_mono HL336_0.out (fun k_ hk => (⟨hk, hk.2⟩ : _ ∧ k_ ≠ gb337))) (fun _ hk => hk.2) (.slice A336_0 ((rd_T42 y331 x40_2).f0).length c336_0)) (fun _ hk => hk.2) (.slice A336_1 ((rd_T42 y331 x40_2).f1).length c336_1)) (fun _ hk => hk.2) (.int .u32 ((rd_T42 y331 x40_2).f2))) (fun _ h_ => h_.1))) hb) (Kd.R_base ho0)) (Kd.R_base ho1)) (fun _ h_ => h_.1)); replace HR336_1 := Aside0.mk (Kd.C_below ((Kd.V_reads' (by (with_reducible repeat (first | apply Kd.V_alloc | apply Kd.V_drewN | apply Kd.V_drew)); exact (Kd.V_mono (Kd.V_far (p := ⟨gb337, 2, none⟩) (Kd.V_far (p := ⟨gb337, 1, none⟩) (Kd.V_far (p := ⟨gb337, 0, none⟩) (Kd.V_mono HL336_1.out (fun k_ hk => (⟨hk, hk.2⟩ : _ ∧ k_ ≠ gb337))) (fun _ hk => hk.2) (.slice A336_0 ((rd_T42 y331 x40_2).f0).length c336_0)) (fun _ hk => hk.2) (.slice A336_1 ((rd_T42 y331 x40_2).f1).length c336_1)) (fun _ hk => hk.2) (.int .u32 ((rd_T42 y331 x40_2).f2))) (fun _ h_ => h_.1)))).2.2) hb); replace HL336_1 := Aside0.mk (Kd.V_mono (Kd.V_told (Kd.V_told (Kd.V_old (by (with_reducible repeat (first | apply Kd.V_alloc | apply Kd.V_drewN | apply Kd.V_drew)); exact (Kd.V_mono (Kd.V_far (p := ⟨gb337, 2, none⟩) (Kd.V_far (p := ⟨gb337, 1, none⟩) (Kd.V_far (p := ⟨gb337, 0, none⟩) (Kd.V_mono HL336_1.out (fun k_ hk => (⟨hk, hk.2⟩ : _ ∧ k_ ≠ gb337))) (fun _ hk => hk.2) (.slice A336_0 ((rd_T42 y331 x40_2).f0).length c336_0)) (fun _ hk => hk.2) (.slice A336_1 ((rd_T42 y331 x40_2).f1).length c336_1)) (fun _ hk => hk.2) (.int .u32 ((rd_T42 y331 x40_2).f2))) (fun _ h_ => h_.1))) hb) (Kd.R_base ho0)) (Kd.R_base ho1)) (fun _ h_ => h_.1)); replace BK337 := Aside0.mk (kB (g := gb337) (o := .cells #[.slice A336_0 ((rd_T42 y331 x40_2).f0).length c336_0, .slice A336_1 ((rd_T42 y331 x40_2).f1).length c336_1, .int .u32 ((rd_T42 y331 x40_2).f2)] 42 (0, 0)) (by (with_reducible repeat (first | refine kN ?_ _ | refine kD ?_ | refine kA ?_ _)); refine kP (cs := #[.slice A336_0 ((rd_T42 y331 x40_2).f0).length c336_0, .slice A336_1 ((rd_T42 y331 x40_2).f1).length c336_1, .int .u32 0]) ?_ 2 _ rfl; (with_reducible repeat (first | refine kN ?_ _ | refine kD ?_ | refine kA ?_ _)); refine kP (cs := #[.slice A336_0 ((rd_T42 y331 x40_2).f0).length c336_0, .slice none 0 0, .int .u32 0]) ?_ 1 _ rfl; (with_reducible repeat (first | refine kN ?_ _ | refine kD ?_ | refine kA ?_ _)); refine kP (cs := #[.slice none 0 0, .slice none 0 0, .int .u32 0]) ?_ 0 _ rfl; (with_reducible repeat (first | refine kN ?_ _ | refine kD ?_ | refine kA ?_ _)); exact BK337.out) hb); replace HB := Aside0.mk (zT (jH HB) hb); (try clear hb); (try clear hb2); (try clear hk); (try clear hi); (try clear ho0); (try clear ho1); obtain ⟨Ao35, co35, eo35⟩ := Kd.R_slice HO340.out; subst eo35; obtain ⟨Ao36, co36, eo36⟩ := Kd.R_slice HO343.out; subst eo36) | ((with_reducible refine gate_builtin (b := .append) (xs := #[.tmp 44, .tmp 47]) rfl ?_); at_builtin; refine Kd.S_append k42 (w0 := w) w.heap.size rfl (.tmp 44) (.tmp 47) 22 42 (.agg #[(.slice none 0 0), (.slice none 0 0), (.int .u32 0)]) 56 rfl Tryd.underlying22 info42 rfl (by decide) (by omega) u8 x8_2 (⟨t338, t341, t344⟩ : S42) [.slice Ao35 t338.length co35, .slice Ao36 t341.length co36, .int .u32 t344] (fun k_ => (w.heap.size ≤ k_) ∧ k_ ≠ gb326 ∧ k_ ≠ gb337) (fun k_ => some k_ = (.slice Ao35 t338.length co35 : Value).ownBlock ∨ some k_ = (.slice Ao36 t341.length co36 : Value).ownBlock) rfl rfl ?aP (fun k_ hk_ => hk_.elim (fun h_ => ((Kd.R_mono (ok' := fun k_ => ((fun k_ => (w.heap.size ≤ k_) ∧ k_ ≠ gb326 ∧ k_ ≠ gb337)) k_ ∧ some k_ ≠ (u8 : Value).ownBlock) (Kd.R_types (Kd.R_types (Kd.R_apart' (HO340.out) (Kd.S_typed HO_8.out) (by decide)) BK326.out (by decide)) BK337.out (by decide)) (fun k_ hk => ⟨⟨hk.1.1.1.1, ⟨hk.1.2, hk.2⟩⟩, hk.1.1.2⟩))).1 k_ h_.symm) (fun h_ => ((Kd.R_mono (ok' := fun k_ => ((fun k_ => (w.heap.size ≤ k_) ∧ k_ ≠ gb326 ∧ k_ ≠ gb337)) k_ ∧ some k_ ≠ (u8 : Value).ownBlock) (Kd.R_types (Kd.R_types (Kd.R_apart' (HO343.out) (Kd.S_typed HO_8.out) (by decide)) BK326.out (by decide)) BK337.out (by decide)) (fun k_ hk => ⟨⟨hk.1.1.1.1, ⟨hk.1.2, hk.2⟩⟩, hk.1.1.2⟩))).1 k_ h_.symm)) ?aF ?aO ?aB ?aS ?aL ?_; (case aP => exact k42_mkM _ _ _ (⟨t338, t341, t344⟩ : S42) (Kd.R_mono (Kd.R_tight rfl (Kd.R_mono (ok' := fun k_ => ((fun k_ => (w.heap.size ≤ k_) ∧ k_ ≠ gb326 ∧ k_ ≠ gb337)) k_ ∧ some k_ ≠ (u8 : Value).ownBlock) (Kd.R_types (Kd.R_types (Kd.R_apart' (HO340.out) (Kd.S_typed HO_8.out) (by decide)) BK326.out (by decide)) BK337.out (by decide)) (fun k_ hk => ⟨⟨hk.1.1.1.1, ⟨hk.1.2, hk.2⟩⟩, hk.1.1.2⟩))) (fun _ h_ => Or.inl h_)) (Kd.R_mono (Kd.R_tight rfl (Kd.R_mono (ok' := fun k_ => ((fun k_ => (w.heap.size ≤ k_) ∧ k_ ≠ gb326 ∧ k_ ≠ gb337)) k_ ∧ some k_ ≠ (u8 : Value).ownBlock) (Kd.R_types (Kd.R_types (Kd.R_apart' (HO343.out) (Kd.S_typed HO_8.out) (by decide)) BK326.out (by decide)) BK337.out (by decide)) (fun k_ hk => ⟨⟨hk.1.1.1.1, ⟨hk.1.2, hk.2⟩⟩, hk.1.1.2⟩))) (fun _ h_ => Or.inr (h_)))); (case aB => exact (jH HB)); (case aF => exact (fun k_ hk => ⟨(Nat.le_trans (zZ (jH HB)) hk), Kd.freshB (g := gb326) (o := .cells #[.slice A1_0 l1_0.length c1_0, .slice A1_1 l1_1.length c1_1, .int .u32 a1_2] 42 (0, 0)) (jK BK326) k_ hk, Kd.freshB (g := gb337) (o := .cells #[.slice A336_0 ((rd_T42 y331 x40_2).f0).length c336_0, .slice A336_1 ((rd_T42 y331 x40_2).f1).length c336_1, .int .u32 ((rd_T42 y331 x40_2).f2)] 42 (0, 0)) (jK BK337) k_ hk⟩)); (case aO => exact (by (with_reducible repeat (first | apply Kd.S_alloc | apply Kd.S_drewN | apply Kd.S_drew)); exact Kd.S_mono HO_8.out (fun k_ hk => ⟨⟨hk.1.1.1.1, ⟨hk.1.1.1.2, hk.1.1.2⟩⟩, fun e_ => e_.elim (fun h_ => hk.1.2 h_) (fun h_ => hk.2 h_)⟩))); (case aS => exact (zZ (jH HB))); (case aL => have := LMc29.out; omega); intro v346 w34 ho hb hg hat; rw [← Ny345.out] at ho; have HO347 := Aside0.mk (ho); replace HO_0 := Aside0.mk (Kd.V_afterv (ok := (fun k_ => (P0_ k_ ∨ w.heap.size ≤ k_) ∧ some k_ ≠ (.slice Ao35 t338.length co35 : Value).ownBlock ∧ some k_ ≠ (.slice Ao36 t341.length co36 : Value).ownBlock ∧ k_ ≠ gb326 ∧ k_ ≠ gb337)) (by (with_reducible repeat (first | apply Kd.V_alloc | apply Kd.V_drewN | apply Kd.V_drew)); exact Kd.V_mono HO_0.out (fun _ hk => ⟨⟨hk.1.1.1.1, ⟨hk.1.2, ⟨hk.2, ⟨hk.1.1.1.2.2, hk.1.1.2⟩⟩⟩⟩, hk.1.1.1.2.1⟩)) hg hat); replace HO_38 := Aside0.mk (Kd.V_afterv (ok := (fun k_ => (P0_ k_ ∨ w.heap.size ≤ k_) ∧ some k_ ≠ (.slice Ao35 t338.length co35 : Value).ownBlock ∧ some k_ ≠ (.slice Ao36 t341.length co36 : Value).ownBlock ∧ k_ ≠ gb326 ∧ k_ ≠ gb337)) (by (with_reducible repeat (first | apply Kd.V_alloc | apply Kd.V_drewN | apply Kd.V_drew)); exact Kd.V_mono HO_38.out (fun _ hk => ⟨⟨hk.1.1.1.1, ⟨hk.1.2, ⟨hk.2, ⟨hk.1.1.1.2.2, hk.1.1.2⟩⟩⟩⟩, hk.1.1.1.2.1⟩)) hg hat); replace BK326 := Aside0.mk (kG (g := gb326) (o := .cells #[.slice A1_0 l1_0.length c1_0, .slice A1_1 l1_1.length c1_1, .int .u32 a1_2] 42 (0, 0)) (jK BK326) hg (Kd.S_away HO_8.out (fun _ hk => hk.1.1.1.2))); replace HL336_0 := Aside0.mk (Kd.V_afterv (ok := (fun k_ => (P0_ k_ ∨ w.heap.size ≤ k_) ∧ some k_ ≠ (.slice Ao35 t338.length co35 : Value).ownBlock ∧ some k_ ≠ (.slice Ao36 t341.length co36 : Value).ownBlock ∧ k_ ≠ gb326 ∧ k_ ≠ gb337)) (by (with_reducible repeat (first | apply Kd.V_alloc | apply Kd.V_drewN | apply Kd.V_drew)); exact Kd.V_mono HL336_0.out (fun _ hk => ⟨⟨hk.1.1.1.1, ⟨hk.1.2, ⟨hk.2, ⟨hk.1.1.1.2.2, hk.1.1.2⟩⟩⟩⟩, hk.1.1.1.2.1⟩)) hg hat); replace HL336_1 := Aside0.mk (Kd.V_afterv (ok := (fun k_ => (P0_ k_ ∨ w.heap.size ≤ k_) ∧ some k_ ≠ (.slice Ao35 t338.length co35 : Value).ownBlock ∧ some k_ ≠ (.slice Ao36 t341.length co36 : Value).ownBlock ∧ k_ ≠ gb326 ∧ k_ ≠ gb337)) (by (with_reducible repeat (first | apply Kd.V_alloc | apply Kd.V_drewN | apply Kd.V_drew)); exact Kd.V_mono HL336_1.out (fun _ hk => ⟨⟨hk.1.1.1.1, ⟨hk.1.2, ⟨hk.2, ⟨hk.1.1.1.2.2, hk.1.1.2⟩⟩⟩⟩, hk.1.1.1.2.1⟩)) hg hat); replace BK337 := Aside0.mk (kG (g := gb337) (o := .cells #[.slice A336_0 ((rd_T42 y331 x40_2).f0).length c336_0, .slice A336_1 ((rd_T42 y331 x40_2).f1).length c336_1, .int .u32 ((rd_T42 y331 x40_2).f2)] 42 (0, 0)) (jK BK337) hg (Kd.S_away HO_8.out (fun _ hk => hk.1.1.2))); replace HB := Aside0.mk (hb); clear HO_8; clear HO340; clear HO343; clear ho hb hg hat))
              go_roundg k2
              case measure => have := HJ2.out; have := HK2.out; omega
              case rel => exact ⟨(y345), (wrap64 (x40_2 + 1)), jS, H', ⟨by have := HJ2.out; have := HK2.out; omega⟩, ⟨by (with_reducible repeat (first | apply Kd.V_alloc | apply Kd.V_drewN | apply Kd.V_drew)); exact Kd.V_mono HO_0.out (fun _ hk => ⟨hk.1.1, ⟨hk.2, hk.1.2.2.2.1⟩⟩)⟩, ⟨by (with_reducible repeat (first | apply Kd.S_alloc | apply Kd.S_drewN | apply Kd.S_drew)); exact Kd.S_mono HO347.out (fun _ hk => ⟨hk.1, hk.2.1⟩)⟩, ⟨by (with_reducible repeat (first | apply Kd.V_alloc | apply Kd.V_drewN | apply Kd.V_drew)); exact Kd.V_mono HO_38.out (fun _ hk => ⟨hk.1.1, ⟨hk.2, hk.1.2.2.2.1⟩⟩)⟩, ⟨jK BK326⟩, ⟨jH HB⟩⟩
             ·rw [if_neg c29] at H
              exact absurd H (by simp)
            ·rw [if_neg c27] at H
             exact absurd H (by simp)
           ·rw [if_neg c26] at H
            exact absurd H (by simp)
          ·rw [if_neg c25] at H
           have c25b0 := dF c25
           clear c25
           replace H := Option.bind_eq_some_iff.mp H
           obtain ⟨⟨t348, t351, t354⟩, A370, H⟩ := H
           try dsimp only at H
           have A37 := Aside0.mk A370
           clear A370
           by_cases c38 : x8_2.length < 2513169434916
           ·rw [if_pos c38] at H
            have LMc38 := Aside0.mk c38
            clear c38
            obtain ⟨y355, hy355⟩ : ∃ y_ : List (S42), y_ = (x8_2 ++ [(⟨t348, t351, t354⟩ : S42)]) := ⟨_, rfl⟩
            simp only [Option.bind_some, ← hy355] at H
            have Ny355 := Aside0.mk hy355
            clear hy355
            by_cases c39 : 0 ≤ t329
            ·rw [if_pos c39] at H
             have c39b0 := eq_true c39
             have c39b1 := dT c39
             clear c39
             by_cases c40 : t329 ≤ (l0.length : Int)
             ·rw [if_pos c40] at H
              have c40b0 := eq_true c40
              have c40b1 := dT c40
              clear c40
              obtain ⟨y358, hy358⟩ : ∃ y_ : List (S42), y_ = (l0.drop (t329 : Int).toNat) := ⟨_, rfl⟩
              simp only [Option.bind_some, ← hy358] at H
              have Ny358 := Aside0.mk hy358
              clear hy358
              have H' := Aside0.mk H
              clear H
              obtain ⟨hcz41_0, hcz41_1, hcz41_2, hfz41_0, hfz41_1, hfz41_2⟩ := kQ3 BK326.out
              go_wp2_with (first | ((with_reducible refine gate_callee (f := 38) rfl ?_); refine goesL_ (some 52) rfl rfl Tryd.func38 (by kernel_rfl) rfl #[.agg #[.slice A1_0 l1_0.length c1_0, .slice A1_1 l1_1.length c1_1, .int .u32 a1_2]] rfl jZ ?_; (with_reducible refine (table_own.calls _ _ l1_0 _ _ l1_1 a1_2 t348 t351 t354 _ ?side1 ?side2 ?side3 ?side4 A37.out).mono ?_); (case side1 => exact jC (Kd.C_below HR1_0.out HB.out)); (case side2 => exact HC1_0.out); (case side3 => exact jC (Kd.C_below HR1_1.out HB.out)); (case side4 => exact HC1_1.out); rintro e w42 ⟨v349, v352, rfl, ho0, ho1, hb⟩; refine ⟨_, rfl, ?_⟩; have HO350 := Aside0.mk (Kd.R_lower (Kd.R_newM (M := fun k_ => (w.heap.size ≤ k_)) ho0 (zZ (jH HB)) (fun k_ h_ => h_)) (zZ (jH HB))); have HO353 := Aside0.mk (Kd.R_lower (Kd.R_newM (M := fun k_ => (w.heap.size ≤ k_)) ho1 (zZ (jH HB)) (fun k_ h_ => h_)) (zZ (jH HB))); replace HO_0 := Aside0.mk (Kd.V_mono (Kd.V_told (Kd.V_told (Kd.V_old (jV HO_0) hb) (Kd.R_base ho0)) (Kd.R_base ho1)) (fun _ h_ => h_.1)); replace HO_8 := Aside0.mk (Kd.S_mono (Kd.S_told (Kd.S_told (Kd.S_old (by (with_reducible repeat (first | apply Kd.S_alloc | apply Kd.S_drewN | apply Kd.S_drew)); exact HO_8.out) hb) (Kd.R_base ho0)) (Kd.R_base ho1)) (fun _ h_ => h_.1)); replace HO_38 := Aside0.mk (Kd.V_mono (Kd.V_told (Kd.V_told (Kd.V_old (jV HO_38) hb) (Kd.R_base ho0)) (Kd.R_base ho1)) (fun _ h_ => h_.1)); replace BK326 := Aside0.mk (jB BK326 hb); replace HB := Aside0.mk (zT (jH HB) hb); (try clear hb); (try clear hb2); (try clear hk); (try clear hi); (try clear ho0); (try clear ho1); obtain ⟨Ao44, co44, eo44⟩ := Kd.R_slice HO350.out; subst eo44; obtain ⟨Ao45, co45, eo45⟩ := Kd.R_slice HO353.out; subst eo45) | ((with_reducible refine gate_builtin (b := .append) (xs := #[.tmp 50, .tmp 53]) rfl ?_); at_builtin; refine Kd.S_append k42 (w0 := w) w.heap.size rfl (.tmp 50) (.tmp 53) 22 42 (.agg #[(.slice none 0 0), (.slice none 0 0), (.int .u32 0)]) 56 rfl Tryd.underlying22 info42 rfl (by decide) (by omega) u8 x8_2 (⟨t348, t351, t354⟩ : S42) [.slice Ao44 t348.length co44, .slice Ao45 t351.length co45, .int .u32 t354] (fun k_ => (w.heap.size ≤ k_) ∧ k_ ≠ gb326) (fun k_ => some k_ = (.slice Ao44 t348.length co44 : Value).ownBlock ∨ some k_ = (.slice Ao45 t351.length co45 : Value).ownBlock) rfl rfl ?aP (fun k_ hk_ => hk_.elim (fun h_ => ((Kd.R_mono (ok' := fun k_ => ((fun k_ => (w.heap.size ≤ k_) ∧ k_ ≠ gb326)) k_ ∧ some k_ ≠ (u8 : Value).ownBlock) (Kd.R_types (Kd.R_apart' (HO350.out) (Kd.S_typed HO_8.out) (by decide)) BK326.out (by decide)) (fun k_ hk => ⟨⟨hk.1.1.1, hk.2⟩, hk.1.2⟩))).1 k_ h_.symm) (fun h_ => ((Kd.R_mono (ok' := fun k_ => ((fun k_ => (w.heap.size ≤ k_) ∧ k_ ≠ gb326)) k_ ∧ some k_ ≠ (u8 : Value).ownBlock) (Kd.R_types (Kd.R_apart' (HO353.out) (Kd.S_typed HO_8.out) (by decide)) BK326.out (by decide)) (fun k_ hk => ⟨⟨hk.1.1.1, hk.2⟩, hk.1.2⟩))).1 k_ h_.symm)) ?aF ?aO ?aB ?aS ?aL ?_; (case aP => exact k42_mkM _ _ _ (⟨t348, t351, t354⟩ : S42) (Kd.R_mono (Kd.R_tight rfl (Kd.R_mono (ok' := fun k_ => ((fun k_ => (w.heap.size ≤ k_) ∧ k_ ≠ gb326)) k_ ∧ some k_ ≠ (u8 : Value).ownBlock) (Kd.R_types (Kd.R_apart' (HO350.out) (Kd.S_typed HO_8.out) (by decide)) BK326.out (by decide)) (fun k_ hk => ⟨⟨hk.1.1.1, hk.2⟩, hk.1.2⟩))) (fun _ h_ => Or.inl h_)) (Kd.R_mono (Kd.R_tight rfl (Kd.R_mono (ok' := fun k_ => ((fun k_ => (w.heap.size ≤ k_) ∧ k_ ≠ gb326)) k_ ∧ some k_ ≠ (u8 : Value).ownBlock) (Kd.R_types (Kd.R_apart' (HO353.out) (Kd.S_typed HO_8.out) (by decide)) BK326.out (by decide)) (fun k_ hk => ⟨⟨hk.1.1.1, hk.2⟩, hk.1.2⟩))) (fun _ h_ => Or.inr (h_)))); (case aB => exact (jH HB)); (case aF => exact (fun k_ hk => ⟨(Nat.le_trans (zZ (jH HB)) hk), Kd.freshB (g := gb326) (o := .cells #[.slice A1_0 l1_0.length c1_0, .slice A1_1 l1_1.length c1_1, .int .u32 a1_2] 42 (0, 0)) (jK BK326) k_ hk⟩)); (case aO => exact (by (with_reducible repeat (first | apply Kd.S_alloc | apply Kd.S_drewN | apply Kd.S_drew)); exact Kd.S_mono HO_8.out (fun k_ hk => ⟨⟨hk.1.1.1, hk.1.1.2⟩, fun e_ => e_.elim (fun h_ => hk.1.2 h_) (fun h_ => hk.2 h_)⟩))); (case aS => exact (zZ (jH HB))); (case aL => have := LMc38.out; omega); intro v356 w43 ho hb hg hat; rw [← Ny355.out] at ho; have HO357 := Aside0.mk (ho); replace HO_0 := Aside0.mk (Kd.V_afterv (ok := (fun k_ => (P0_ k_ ∨ w.heap.size ≤ k_) ∧ some k_ ≠ (.slice Ao44 t348.length co44 : Value).ownBlock ∧ some k_ ≠ (.slice Ao45 t351.length co45 : Value).ownBlock ∧ k_ ≠ gb326)) (by (with_reducible repeat (first | apply Kd.V_alloc | apply Kd.V_drewN | apply Kd.V_drew)); exact Kd.V_mono HO_0.out (fun _ hk => ⟨⟨hk.1.1.1, ⟨hk.1.2, ⟨hk.2, hk.1.1.2.2⟩⟩⟩, hk.1.1.2.1⟩)) hg hat); replace HO_38 := Aside0.mk (Kd.V_afterv (ok := (fun k_ => (P0_ k_ ∨ w.heap.size ≤ k_) ∧ some k_ ≠ (.slice Ao44 t348.length co44 : Value).ownBlock ∧ some k_ ≠ (.slice Ao45 t351.length co45 : Value).ownBlock ∧ k_ ≠ gb326)) (by (with_reducible repeat (first | apply Kd.V_alloc | apply Kd.V_drewN | apply Kd.V_drew)); exact Kd.V_mono HO_38.out (fun _ hk => ⟨⟨hk.1.1.1, ⟨hk.1.2, ⟨hk.2, hk.1.1.2.2⟩⟩⟩, hk.1.1.2.1⟩)) hg hat); replace BK326 := Aside0.mk (kG (g := gb326) (o := .cells #[.slice A1_0 l1_0.length c1_0, .slice A1_1 l1_1.length c1_1, .int .u32 a1_2] 42 (0, 0)) (jK BK326) hg (Kd.S_away HO_8.out (fun _ hk => hk.1.1.2))); replace HB := Aside0.mk (hb); clear HO_8; clear HO350; clear HO353; clear ho hb hg hat; have q46 : (t329 : Int) ≤ ((l0.length : Int) : Int) := oD (jA); obtain ⟨i046, hi046, _, hsz46, _⟩ := info_parts info42; have hroom46 : l0.length ≤ c0 := (Kd.V_reads' HO_0.out).2.1; have hC46 : Kd.F k42 _ _ A0 l0.length l0 := (Kd.V_at (base := w.heap.size) HO_0.out).2.2; have q046 : (0 : Int) ≤ (t329 : Int) := oD (jA); have hcut46 := cut_from (P := Tryd.prog) 22 42 .i64 Tryd.underlying22 hi046 3 hsz46 A0 l0.length c0 t329 q046 q46; have hr46 := Kd.F_cut (m := (t329 : Int).toNat) (c := c0) hC46 (by omega) hroom46; obtain ⟨A46, hA46⟩ : ∃ A1, A1 = (if c0 = (t329 : Int).toNat then A0 else (A0 : Option Addr).map (·.add ((t329 : Int).toNat * 3))) := ⟨_, rfl⟩; obtain ⟨c46, hc46⟩ : ∃ c1, c1 = c0 - (t329 : Int).toNat := ⟨_, rfl⟩; have hy46 : y358.length = l0.length - (t329 : Int).toNat := (by rw [Ny358.out, List.length_drop] <;> omega); rw [show (l0).drop (t329 : Int).toNat = y358 from Ny358.out.symm] at hr46; replace hr46 : Kd.F k42 _ _ A46 y358.length y358 := (by rw [hA46]; exact hr46); rw [← hy46, ← hA46, ← hc46] at hcut46; have HO362 := Aside0.mk (show Kd.V k42 42 _ w.heap.size _ (.slice A46 y358.length c46) y358 from Kd.V_mk (by rw [hy46, hc46]; exact Nat.sub_le_sub_right hroom46 _) hr46); have HC362 := Aside0.mk (show y358.length ≤ c46 from by rw [hy46, hc46]; exact Nat.sub_le_sub_right hroom46 _); clear hr46 hC46 hroom46 hi046 hsz46 hc46; have KY46 := Aside0.mk hy46; have KA46 := Aside0.mk hA46; clear hy46 hA46; replace q46 := eq_true q46))
              go_loopg [8, 59] k2 (fun kq v8 v59 w' => ∃ (x8_3 : List (S42)) (x59_3 : Int), v59 = .int .i64 x59_3 ∧ Aside0 (table_Learn.l1 kq x8_3 y358 (y358.length : Int) x59_3 = some (r1, r2)) ∧ Aside0 (kq ≤ k2) ∧ Aside0 (Kd.S k42 42 w' w.heap.size (fun k_ => (w.heap.size ≤ k_) ∧ k_ ≠ gb326) v8 x8_3) ∧ Aside0 (Kd.V k42 42 w' w.heap.size (fun k_ => (P0_ k_ ∨ w.heap.size ≤ k_) ∧ some k_ ≠ (v8 : Value).ownBlock ∧ k_ ≠ gb326) (.slice A46 y358.length c46) y358) ∧ Aside0 (w'.heap[gb326]? = some (.cells #[(.slice A1_0 l1_0.length c1_0), (.slice A1_1 l1_1.length c1_1), .int .u32 a1_2] 42 (0, 0))) ∧ Aside0 (Below w.heap.size w w'))
              case atStart => exact ⟨(y355), (0), jS, H', ⟨Nat.le_refl _⟩, ⟨by (with_reducible repeat (first | apply Kd.S_alloc | apply Kd.S_drewN | apply Kd.S_drew)); exact HO357.out⟩, ⟨by (with_reducible repeat (first | apply Kd.V_alloc | apply Kd.V_drewN | apply Kd.V_drew)); exact Kd.V_mono HO362.out (fun _ hk => ⟨hk.1.1, ⟨hk.2, hk.1.2.2.2⟩⟩)⟩, ⟨jK BK326⟩, ⟨jH HB⟩⟩
              case round =>
               clear H'
               obtain ⟨x8_3, x59_3, rfl, HA, HK3, HO_8, HO_57, BK326, HB⟩ := hrel
               cases gk with
               | zero => exact absurd HA.out (by simp [table_Learn.l1])
               | succ k3 =>
                have H := HA.out
                clear HA
                simp only [table_Learn.l1] at H
                by_cases c47 : x59_3 < (y358.length : Int)
                ·rw [if_pos c47] at H
                 have c47b0 := dT c47
                 clear c47
                 by_cases c48 : 0 ≤ x59_3
                 ·rw [if_pos c48] at H
                  have c48b0 := dT c48
                  clear c48
                  by_cases c49 : x59_3 < (y358.length : Int)
                  ·rw [if_pos c49] at H
                   have c49b0 := dT c49
                   clear c49
                   replace H := Option.bind_eq_some_iff.mp H
                   obtain ⟨⟨t365, t368, t371⟩, A500, H⟩ := H
                   try dsimp only at H
                   have A50 := Aside0.mk A500
                   clear A500
                   by_cases c51 : x8_3.length < 2513169434916
                   ·rw [if_pos c51] at H
                    have LMc51 := Aside0.mk c51
                    clear c51
                    obtain ⟨y372, hy372⟩ : ∃ y_ : List (S42), y_ = (x8_3 ++ [(⟨t365, t368, t371⟩ : S42)]) := ⟨_, rfl⟩
                    simp only [Option.bind_some, ← hy372] at H
                    have Ny372 := Aside0.mk hy372
                    clear hy372
                    have H' := Aside0.mk H
                    clear H
                    have p363 : 0 ≤ (x59_3 : Int) := oD (jA)
                    have q363 : x59_3 < (y358.length : Int) := oD (jA)
                    obtain ⟨ad363, A363_0, c363_0, A363_1, c363_1, e363, hx363_0, hx363_1, hx363_2, hl363_0, hi363_0, hl363_1, hi363_1⟩ := at_T42 (Kd.V_reads' HO_57.out).2.2 x59_3 p363 q363
                    cases e363
                    obtain ⟨ce363, hce363, hMe363, hcc363⟩ := Kd.V_get HO_57.out z42 x59_3 p363 (by first | exact q363 | exact oD (jA) | (have e_ := (Kd.V_reads' HO_57.out).1; omega))
                    obtain ⟨ua363_0, uc363_0, ua363_1, uc363_1, rfl, ul363_0, ge363_0, ul363_1, ge363_1⟩ := k42_openF hMe363
                    have hv363_0 := hcc363 0 _ rfl
                    rw [Nat.add_zero] at hv363_0
                    replace hv363_0 := Option.some.inj (hv363_0.symm.trans hx363_0)
                    injection hv363_0 with hva_ hvn_ hvc_
                    rw [hva_] at ge363_0
                    rw [hvc_] at ul363_0
                    have HL363_0 := Aside0.mk (show Kd.V k59 59 _ w.heap.size _ _ ((rd_T42 y358 x59_3).f0) from Kd.V_mk ul363_0 ge363_0)
                    clear hva_ hvn_ hvc_ ge363_0 ul363_0
                    have hv363_1 := hcc363 1 _ rfl
                    rw [add_field _ _ 1 (by omega)] at hv363_1
                    replace hv363_1 := Option.some.inj (hv363_1.symm.trans hx363_1)
                    injection hv363_1 with hva_ hvn_ hvc_
                    rw [hva_] at ge363_1
                    rw [hvc_] at ul363_1
                    have HL363_1 := Aside0.mk (show Kd.V k59 59 _ w.heap.size _ _ ((rd_T42 y358 x59_3).f1) from Kd.V_mk ul363_1 ge363_1)
                    clear hva_ hvn_ hvc_ ge363_1 ul363_1
                    clear hcc363 hce363
                    have HR363_0 := Aside0.mk hi363_0
                    have HC363_0 := Aside0.mk hl363_0
                    clear hi363_0 hl363_0
                    have HR363_1 := Aside0.mk hi363_1
                    have HC363_1 := Aside0.mk hl363_1
                    clear hi363_1 hl363_1
                    replace p363 := eq_true p363
                    replace q363 := eq_true q363
                    go_wp2_with (first | ((with_reducible refine gate_dst (N := 12) rfl ?_); refine box_event rfl (N := 12) rfl (cs := #[.slice none 0 0, .slice none 0 0, .int .u32 0]) (t := 42) jW ?_; intro gb364 hg w52 hbox hb; have BK364 := Aside0.mk hbox; have GW364 := Aside0.mk (jG hg HB); have GE364 := Aside0.mk (jG hg HB); have NB326_364 := Aside0.mk (jN hg BK326); have NB364_326 := Aside0.mk (jM hg BK326); replace HO_8 := Aside0.mk (Kd.S_below (Kd.S_elderB (by (with_reducible repeat (first | apply Kd.S_alloc | apply Kd.S_drewN | apply Kd.S_drew)); exact HO_8.out) gb364 (Nat.le_of_eq hg.symm)) hb); replace HO_57 := Aside0.mk (Kd.V_below (Kd.V_elderB (jV HO_57) gb364 (Nat.le_of_eq hg.symm)) hb); replace HL363_0 := Aside0.mk (Kd.V_below (Kd.V_elderB (jV HL363_0) gb364 (Nat.le_of_eq hg.symm)) hb); replace HL363_1 := Aside0.mk (Kd.V_below (Kd.V_elderB (jV HL363_1) gb364 (Nat.le_of_eq hg.symm)) hb); replace BK326 := Aside0.mk (jB BK326 hb); replace HR363_0 := Aside0.mk (Kd.C_below (by repeat (first | (with_reducible exact HR363_0.out) | (with_reducible refine Kd.C_alloc ?_ _) | (with_reducible refine Kd.C_drewN ?_ _) | (with_reducible refine Kd.C_drew ?_) | exact HR363_0.out)) hb); replace HR363_1 := Aside0.mk (Kd.C_below (by repeat (first | (with_reducible exact HR363_1.out) | (with_reducible refine Kd.C_alloc ?_ _) | (with_reducible refine Kd.C_drewN ?_ _) | (with_reducible refine Kd.C_drew ?_) | exact HR363_1.out)) hb); replace HB := Aside0.mk (zT (jH HB) hb); clear hb hbox hg; have hnb53 := NB364_326.out; have hnc53 := NB326_364.out; obtain ⟨hcz54_0, hcz54_1, hcz54_2, hfz54_0, hfz54_1, hfz54_2⟩ := kQ3 BK364.out) | ((with_reducible refine gate_callee (f := 38) rfl ?_); refine goesL_ (some 65) rfl rfl Tryd.func38 (by kernel_rfl) rfl #[.agg #[.slice A363_0 ((rd_T42 y358 x59_3).f0).length c363_0, .slice A363_1 ((rd_T42 y358 x59_3).f1).length c363_1, .int .u32 ((rd_T42 y358 x59_3).f2)]] rfl jZ ?_; (with_reducible refine (table_own.calls _ _ ((rd_T42 y358 x59_3).f0) _ _ ((rd_T42 y358 x59_3).f1) ((rd_T42 y358 x59_3).f2) t365 t368 t371 _ ?side1 ?side2 ?side3 ?side4 A50.out).mono ?_); (case side1 => repeat (first | exact ((Kd.V_reads' (by (with_reducible repeat (first | apply Kd.V_alloc | apply Kd.V_drewN | apply Kd.V_drew)); exact (Kd.V_mono (Kd.V_far (p := ⟨gb364, 2, none⟩) (Kd.V_far (p := ⟨gb364, 1, none⟩) (Kd.V_far (p := ⟨gb364, 0, none⟩) (Kd.V_mono HL363_0.out (fun k_ hk => (⟨hk, hk.2⟩ : _ ∧ k_ ≠ gb364))) (fun _ hk => hk.2) (.slice A363_0 ((rd_T42 y358 x59_3).f0).length c363_0)) (fun _ hk => hk.2) (.slice A363_1 ((rd_T42 y358 x59_3).f1).length c363_1)) (fun _ hk => hk.2) (.int .u32 ((rd_T42 y358 x59_3).f2))) (fun _ h_ => h_.1)))).2.2) | (with_reducible refine Kd.C_alloc ?_ _) | (with_reducible refine Kd.C_drewN ?_ _) | (with_reducible refine Kd.C_drew ?_))); (case side2 => exact HC363_0.out); (case side3 => repeat (first | exact ((Kd.V_reads' (by (with_reducible repeat (first | apply Kd.V_alloc | apply Kd.V_drewN | apply Kd.V_drew)); exact (Kd.V_mono (Kd.V_far (p := ⟨gb364, 2, none⟩) (Kd.V_far (p := ⟨gb364, 1, none⟩) (Kd.V_far (p := ⟨gb364, 0, none⟩) (Kd.V_mono HL363_1.out (fun k_ hk => (⟨hk, hk.2⟩ : _ ∧ k_ ≠ gb364))) (fun _ hk => hk.2) (.slice A363_0 ((rd_T42 y358 x59_3).f0).length c363_0)) (fun _ hk => hk.2) (.slice A363_1 ((rd_T42 y358 x59_3).f1).length c363_1)) (fun _ hk => hk.2) (.int .u32 ((rd_T42 y358 x59_3).f2))) (fun _ h_ => h_.1)))).2.2) | (with_reducible refine Kd.C_alloc ?_ _) | (with_reducible refine Kd.C_drewN ?_ _) | (with_reducible refine Kd.C_drew ?_))); (case side4 => exact HC363_1.out); rintro e w55 ⟨v366, v369, rfl, ho0, ho1, hb⟩; refine ⟨_, rfl, ?_⟩; have HO367 := Aside0.mk (Kd.R_lower (Kd.R_newM (M := fun k_ => (w.heap.size ≤ k_)) ho0 (zZ (jH HB)) (fun k_ h_ => h_)) (zZ (jH HB))); have HO370 := Aside0.mk (Kd.R_lower (Kd.R_newM (M := fun k_ => (w.heap.size ≤ k_)) ho1 (zZ (jH HB)) (fun k_ h_ => h_)) (zZ (jH HB))); replace HO_8 := Aside0.mk (Kd.S_mono (Kd.S_told (Kd.S_told (Kd.S_old (by (with_reducible repeat (first | apply Kd.S_alloc | apply Kd.S_drewN | apply Kd.S_drew)); exact (Kd.S_mono (Kd.S_far (p := ⟨gb364, 2, none⟩) (Kd.S_far (p := ⟨gb364, 1, none⟩) (Kd.S_far (p := ⟨gb364, 0, none⟩) (Kd.S_mono HO_8.out (fun k_ hk => (⟨hk, hk.2⟩ : _ ∧ k_ ≠ gb364))) (fun _ hk => hk.2) (.slice A363_0 ((rd_T42 y358 x59_3).f0).length c363_0)) (fun _ hk => hk.2) (.slice A363_1 ((rd_T42 y358 x59_3).f1).length c363_1)) (fun _ hk => hk.2) (.int .u32 ((rd_T42 y358 x59_3).f2))) (fun _ h_ => h_.1))) hb) (Kd.R_base ho0)) (Kd.R_base ho1)) (fun _ h_ => h_.1)); replace HO_57 := Aside0.mk (Kd.V_mono (Kd.V_told (Kd.V_told (Kd.V_old (by (with_reducible repeat (first | apply Kd.V_alloc | apply Kd.V_drewN | apply Kd.V_drew)); exact (Kd.V_mono (Kd.V_far (p := ⟨gb364, 2, none⟩) (Kd.V_far (p := ⟨gb364, 1, none⟩) (Kd.V_far (p := ⟨gb364, 0, none⟩) (Kd.V_mono HO_57.out (fun k_ hk => (⟨hk, hk.2⟩ : _ ∧ k_ ≠ gb364))) (fun _ hk => hk.2) (.slice A363_0 ((rd_T42 y358 x59_3).f0).length c363_0)) (fun _ hk => hk.2) (.slice A363_1 ((rd_T42 y358 x59_3).f1).length c363_1)) (fun _ hk => hk.2) (.int .u32 ((rd_T42 y358 x59_3).f2))) (fun _ h_ => h_.1))) hb) (Kd.R_base ho0)) (Kd.R_base ho1)) (fun _ h_ => h_.1)); replace BK326 := Aside0.mk (kB (g := gb326) (o := .cells #[.slice A1_0 l1_0.length c1_0, .slice A1_1 l1_1.length c1_1, .int .u32 a1_2] 42 (0, 0)) (by (with_reducible repeat (first | refine kN ?_ _ | refine kD ?_ | refine kA ?_ _)); refine kR ?_ NB326_364.out _; (with_reducible repeat (first | refine kN ?_ _ | refine kD ?_ | refine kA ?_ _)); refine kR ?_ NB326_364.out _; (with_reducible repeat (first | refine kN ?_ _ | refine kD ?_ | refine kA ?_ _)); refine kR ?_ NB326_364.out _; (with_reducible repeat (first | refine kN ?_ _ | refine kD ?_ | refine kA ?_ _)); exact BK326.out) hb); replace HR363_0 := Aside0.mk (Kd.C_below ((Kd.V_reads' (by (with_reducible repeat (first | apply Kd.V_alloc | apply Kd.V_drewN | apply Kd.V_drew)); exact (Kd.V_mono (Kd.V_far (p := ⟨gb364, 2, none⟩) (Kd.V_far (p := ⟨gb364, 1, none⟩) (Kd.V_far (p := ⟨gb364, 0, none⟩) (Kd.V_mono HL363_0.out (fun k_ hk => (⟨hk, hk.2⟩ : _ ∧ k_ ≠ gb364))) (fun _ hk => hk.2) (.slice A363_0 ((rd_T42 y358 x59_3).f0).length c363_0)) (fun _ hk => hk.2) (.slice A363_1 ((rd_T42 y358 x59_3).f1).length c363_1)) (fun _ hk => hk.2) (.int .u32 ((rd_T42 y358 x59_3).f2))) (fun _ h_ => h_.1)))).2.2) hb); replace HL363_0 := Aside0.mk (Kd.V_mono (Kd.V_told (Kd.V_told (Kd.V_old (by (with_reducible repeat (first | apply Kd.V_alloc | apply Kd.V_drewN | apply Kd.V_drew)); exact (Kd.V_mono (Kd.V_far (p := ⟨gb364, 2, none⟩) (Kd.V_far (p := ⟨gb364, 1, none⟩) (Kd.V_far (p := ⟨gb364, 0, none⟩) (Kd.V_mono HL363_0.out (fun k_ hk => (⟨hk, hk.2⟩ : _ ∧ k_ ≠ gb364))) (fun _ hk => hk.2) (.slice A363_0 ((rd_T42 y358 x59_3).f0).length c363_0)) (fun _ hk => hk.2) (.slice A363_1 ((rd_T42 y358 x59_3).f1).length c363_1)) (fun _ hk => hk.2) (.int .u32 ((rd_T42 y358 x59_3).f2))) (fun _ h_ => h_.1))) hb) (Kd.R_base ho0)) (Kd.R_base ho1)) (fun _ h_ => h_.1)); replace HR363_1 := Aside0.mk (Kd.C_below ((Kd.V_reads' (by (with_reducible repeat (first | apply Kd.V_alloc | apply Kd.V_drewN | apply Kd.V_drew)); exact (Kd.V_mono (Kd.V_far (p := ⟨gb364, 2, none⟩) (Kd.V_far (p := ⟨gb364, 1, none⟩) (Kd.V_far (p := ⟨gb364, 0, none⟩) (Kd.V_mono HL363_1.out (fun k_ hk => (⟨hk, hk.2⟩ : _ ∧ k_ ≠ gb364))) (fun _ hk => hk.2) (.slice A363_0 ((rd_T42 y358 x59_3).f0).length c363_0)) (fun _ hk => hk.2) (.slice A363_1 ((rd_T42 y358 x59_3).f1).length c363_1)) (fun _ hk => hk.2) (.int .u32 ((rd_T42 y358 x59_3).f2))) (fun _ h_ => h_.1)))).2.2) hb); replace HL363_1 := Aside0.mk (Kd.V_mono (Kd.V_told (Kd.V_told (Kd.V_old (by (with_reducible repeat (first | apply Kd.V_alloc | apply Kd.V_drewN | apply Kd.V_drew)); exact (Kd.V_mono (Kd.V_far (p := ⟨gb364, 2, none⟩) (Kd.V_far (p := ⟨gb364, 1, none⟩) (Kd.V_far (p := ⟨gb364, 0, none⟩) (Kd.V_mono HL363_1.out (fun k_ hk => (⟨hk, hk.2⟩ : _ ∧ k_ ≠ gb364))) (fun _ hk => hk.2) (.slice A363_0 ((rd_T42 y358 x59_3).f0).length c363_0)) (fun _ hk => hk.2) (.slice A363_1 ((rd_T42 y358 x59_3).f1).length c363_1)) (fun _ hk => hk.2) (.int .u32 ((rd_T42 y358 x59_3).f2))) (fun _ h_ => h_.1))) hb) (Kd.R_base ho0)) (Kd.R_base ho1)) (fun _ h_ => h_.1)); replace BK364 := Aside0.mk (kB (g := gb364) (o := .cells #[.slice A363_0 ((rd_T42 y358 x59_3).f0).length c363_0, .slice A363_1 ((rd_T42 y358 x59_3).f1).length c363_1, .int .u32 ((rd_T42 y358 x59_3).f2)] 42 (0, 0)) (by (with_reducible repeat (first | refine kN ?_ _ | refine kD ?_ | refine kA ?_ _)); refine kP (cs := #[.slice A363_0 ((rd_T42 y358 x59_3).f0).length c363_0, .slice A363_1 ((rd_T42 y358 x59_3).f1).length c363_1, .int .u32 0]) ?_ 2 _ rfl; (with_reducible repeat (first | refine kN ?_ _ | refine kD ?_ | refine kA ?_ _)); refine kP (cs := #[.slice A363_0 ((rd_T42 y358 x59_3).f0).length c363_0, .slice none 0 0, .int .u32 0]) ?_ 1 _ rfl; (with_reducible repeat (first | refine kN ?_ _ | refine kD ?_ | refine kA ?_ _)); refine kP (cs := #[.slice none 0 0, .slice none 0 0, .int .u32 0]) ?_ 0 _ rfl; (with_reducible repeat (first | refine kN ?_ _ | refine kD ?_ | refine kA ?_ _)); exact BK364.out) hb); replace HB := Aside0.mk (zT (jH HB) hb); (try clear hb); (try clear hb2); (try clear hk); (try clear hi); (try clear ho0); (try clear ho1); obtain ⟨Ao57, co57, eo57⟩ := Kd.R_slice HO367.out; subst eo57; obtain ⟨Ao58, co58, eo58⟩ := Kd.R_slice HO370.out; subst eo58) | ((with_reducible refine gate_builtin (b := .append) (xs := #[.tmp 63, .tmp 66]) rfl ?_); at_builtin; refine Kd.S_append k42 (w0 := w) w.heap.size rfl (.tmp 63) (.tmp 66) 22 42 (.agg #[(.slice none 0 0), (.slice none 0 0), (.int .u32 0)]) 56 rfl Tryd.underlying22 info42 rfl (by decide) (by omega) u8 x8_3 (⟨t365, t368, t371⟩ : S42) [.slice Ao57 t365.length co57, .slice Ao58 t368.length co58, .int .u32 t371] (fun k_ => (w.heap.size ≤ k_) ∧ k_ ≠ gb326 ∧ k_ ≠ gb364) (fun k_ => some k_ = (.slice Ao57 t365.length co57 : Value).ownBlock ∨ some k_ = (.slice Ao58 t368.length co58 : Value).ownBlock) rfl rfl ?aP (fun k_ hk_ => hk_.elim (fun h_ => ((Kd.R_mono (ok' := fun k_ => ((fun k_ => (w.heap.size ≤ k_) ∧ k_ ≠ gb326 ∧ k_ ≠ gb364)) k_ ∧ some k_ ≠ (u8 : Value).ownBlock) (Kd.R_types (Kd.R_types (Kd.R_apart' (HO367.out) (Kd.S_typed HO_8.out) (by decide)) BK326.out (by decide)) BK364.out (by decide)) (fun k_ hk => ⟨⟨hk.1.1.1.1, ⟨hk.1.2, hk.2⟩⟩, hk.1.1.2⟩))).1 k_ h_.symm) (fun h_ => ((Kd.R_mono (ok' := fun k_ => ((fun k_ => (w.heap.size ≤ k_) ∧ k_ ≠ gb326 ∧ k_ ≠ gb364)) k_ ∧ some k_ ≠ (u8 : Value).ownBlock) (Kd.R_types (Kd.R_types (Kd.R_apart' (HO370.out) (Kd.S_typed HO_8.out) (by decide)) BK326.out (by decide)) BK364.out (by decide)) (fun k_ hk => ⟨⟨hk.1.1.1.1, ⟨hk.1.2, hk.2⟩⟩, hk.1.1.2⟩))).1 k_ h_.symm)) ?aF ?aO ?aB ?aS ?aL ?_; (case aP => exact k42_mkM _ _ _ (⟨t365, t368, t371⟩ : S42) (Kd.R_mono (Kd.R_tight rfl (Kd.R_mono (ok' := fun k_ => ((fun k_ => (w.heap.size ≤ k_) ∧ k_ ≠ gb326 ∧ k_ ≠ gb364)) k_ ∧ some k_ ≠ (u8 : Value).ownBlock) (Kd.R_types (Kd.R_types (Kd.R_apart' (HO367.out) (Kd.S_typed HO_8.out) (by decide)) BK326.out (by decide)) BK364.out (by decide)) (fun k_ hk => ⟨⟨hk.1.1.1.1, ⟨hk.1.2, hk.2⟩⟩, hk.1.1.2⟩))) (fun _ h_ => Or.inl h_)) (Kd.R_mono (Kd.R_tight rfl (Kd.R_mono (ok' := fun k_ => ((fun k_ => (w.heap.size ≤ k_) ∧ k_ ≠ gb326 ∧ k_ ≠ gb364)) k_ ∧ some k_ ≠ (u8 : Value).ownBlock) (Kd.R_types (Kd.R_types (Kd.R_apart' (HO370.out) (Kd.S_typed HO_8.out) (by decide)) BK326.out (by decide)) BK364.out (by decide)) (fun k_ hk => ⟨⟨hk.1.1.1.1, ⟨hk.1.2, hk.2⟩⟩, hk.1.1.2⟩))) (fun _ h_ => Or.inr (h_)))); (case aB => exact (jH HB)); (case aF => exact (fun k_ hk => ⟨(Nat.le_trans (zZ (jH HB)) hk), Kd.freshB (g := gb326) (o := .cells #[.slice A1_0 l1_0.length c1_0, .slice A1_1 l1_1.length c1_1, .int .u32 a1_2] 42 (0, 0)) (jK BK326) k_ hk, Kd.freshB (g := gb364) (o := .cells #[.slice A363_0 ((rd_T42 y358 x59_3).f0).length c363_0, .slice A363_1 ((rd_T42 y358 x59_3).f1).length c363_1, .int .u32 ((rd_T42 y358 x59_3).f2)] 42 (0, 0)) (jK BK364) k_ hk⟩)); (case aO => exact (by (with_reducible repeat (first | apply Kd.S_alloc | apply Kd.S_drewN | apply Kd.S_drew)); exact Kd.S_mono HO_8.out (fun k_ hk => ⟨⟨hk.1.1.1.1, ⟨hk.1.1.1.2, hk.1.1.2⟩⟩, fun e_ => e_.elim (fun h_ => hk.1.2 h_) (fun h_ => hk.2 h_)⟩))); (case aS => exact (zZ (jH HB))); (case aL => have := LMc51.out; omega); intro v373 w56 ho hb hg hat; rw [← Ny372.out] at ho; have HO374 := Aside0.mk (ho); replace HO_57 := Aside0.mk (Kd.V_afterv (ok := (fun k_ => (P0_ k_ ∨ w.heap.size ≤ k_) ∧ some k_ ≠ (.slice Ao57 t365.length co57 : Value).ownBlock ∧ some k_ ≠ (.slice Ao58 t368.length co58 : Value).ownBlock ∧ k_ ≠ gb326 ∧ k_ ≠ gb364)) (by (with_reducible repeat (first | apply Kd.V_alloc | apply Kd.V_drewN | apply Kd.V_drew)); exact Kd.V_mono HO_57.out (fun _ hk => ⟨⟨hk.1.1.1.1, ⟨hk.1.2, ⟨hk.2, ⟨hk.1.1.1.2.2, hk.1.1.2⟩⟩⟩⟩, hk.1.1.1.2.1⟩)) hg hat); replace BK326 := Aside0.mk (kG (g := gb326) (o := .cells #[.slice A1_0 l1_0.length c1_0, .slice A1_1 l1_1.length c1_1, .int .u32 a1_2] 42 (0, 0)) (jK BK326) hg (Kd.S_away HO_8.out (fun _ hk => hk.1.1.1.2))); replace HL363_0 := Aside0.mk (Kd.V_afterv (ok := (fun k_ => (P0_ k_ ∨ w.heap.size ≤ k_) ∧ some k_ ≠ (.slice Ao57 t365.length co57 : Value).ownBlock ∧ some k_ ≠ (.slice Ao58 t368.length co58 : Value).ownBlock ∧ k_ ≠ gb326 ∧ k_ ≠ gb364)) (by (with_reducible repeat (first | apply Kd.V_alloc | apply Kd.V_drewN | apply Kd.V_drew)); exact Kd.V_mono HL363_0.out (fun _ hk => ⟨⟨hk.1.1.1.1, ⟨hk.1.2, ⟨hk.2, ⟨hk.1.1.1.2.2, hk.1.1.2⟩⟩⟩⟩, hk.1.1.1.2.1⟩)) hg hat); replace HL363_1 := Aside0.mk (Kd.V_afterv (ok := (fun k_ => (P0_ k_ ∨ w.heap.size ≤ k_) ∧ some k_ ≠ (.slice Ao57 t365.length co57 : Value).ownBlock ∧ some k_ ≠ (.slice Ao58 t368.length co58 : Value).ownBlock ∧ k_ ≠ gb326 ∧ k_ ≠ gb364)) (by (with_reducible repeat (first | apply Kd.V_alloc | apply Kd.V_drewN | apply Kd.V_drew)); exact Kd.V_mono HL363_1.out (fun _ hk => ⟨⟨hk.1.1.1.1, ⟨hk.1.2, ⟨hk.2, ⟨hk.1.1.1.2.2, hk.1.1.2⟩⟩⟩⟩, hk.1.1.1.2.1⟩)) hg hat); replace BK364 := Aside0.mk (kG (g := gb364) (o := .cells #[.slice A363_0 ((rd_T42 y358 x59_3).f0).length c363_0, .slice A363_1 ((rd_T42 y358 x59_3).f1).length c363_1, .int .u32 ((rd_T42 y358 x59_3).f2)] 42 (0, 0)) (jK BK364) hg (Kd.S_away HO_8.out (fun _ hk => hk.1.1.2))); replace HB := Aside0.mk (hb); clear HO_8; clear HO367; clear HO370; clear ho hb hg hat))
                    go_roundg k3
                    case measure => have := HJ2.out; have := HK2.out; have := HK3.out; omega
                    case rel => exact ⟨(y372), (wrap64 (x59_3 + 1)), jS, H', ⟨by have := HJ2.out; have := HK2.out; have := HK3.out; omega⟩, ⟨by (with_reducible repeat (first | apply Kd.S_alloc | apply Kd.S_drewN | apply Kd.S_drew)); exact Kd.S_mono HO374.out (fun _ hk => ⟨hk.1, hk.2.1⟩)⟩, ⟨by (with_reducible repeat (first | apply Kd.V_alloc | apply Kd.V_drewN | apply Kd.V_drew)); exact Kd.V_mono HO_57.out (fun _ hk => ⟨hk.1.1, ⟨hk.2, hk.1.2.2.2.1⟩⟩)⟩, ⟨jK BK326⟩, ⟨jH HB⟩⟩
                   ·rw [if_neg c51] at H
                    exact absurd H (by simp)
                  ·rw [if_neg c49] at H
                   exact absurd H (by simp)
                 ·rw [if_neg c48] at H
                  exact absurd H (by simp)
                ·rw [if_neg c47] at H
                 have c47b0 := dF c47
                 clear c47
                 simp only [Option.some.injEq, Prod.mk.injEq] at H
                 obtain ⟨rfl, rfl⟩ := H
                 go_wp2
                 go_ret2
                 exact ⟨_, jE, Kd.V_mono (Kd.S_V (by (with_reducible repeat (first | apply Kd.S_alloc | apply Kd.S_drewN | apply Kd.S_drew)); exact Kd.S_mono HO_8.out (fun _ hk => hk.1))) (fun k_ hk => by first | exact ⟨(.inr (hk.1)), hk.2⟩ | exact (.inr (hk))), jH HB⟩
             ·rw [if_neg c40] at H
              exact absurd H (by simp)
            ·rw [if_neg c39] at H
             exact absurd H (by simp)
           ·rw [if_neg c38] at H
            exact absurd H (by simp)
       ·rw [if_neg c21] at H
        exact absurd H (by simp)
      ·rw [if_neg c20] at H
       exact absurd H (by simp)
attribute [local go_sem high] eqA59
def table_same.l0 : Nat → List (S59) → List (S59) → Int → Int → Option (Bool)
 | 0, _, _, _, _ => none
 | k + 1, x0, x1, x12, x13 => if x13 < x12 then (if 0 ≤ x13 then (if x13 < (x0.length : Int) then (if x13 < (x1.length : Int) then (if (!(((rd_T59 x0 x13).f0) == ((rd_T59 x1 x13).f0)) || (!(((rd_T59 x0 x13).f1) == ((rd_T59 x1 x13).f1)) || (!(((rd_T59 x0 x13).f2) == ((rd_T59 x1 x13).f2)) || (!(((rd_T59 x0 x13).f3) == ((rd_T59 x1 x13).f3)))))) = true then (some false) else (table_same.l0 k x0 x1 x12 (wrap64 (x13 + 1)))) else (none)) else (none)) else (none)) else (some true)
def table_same.f (k : Nat) (l0 : List (S59)) (l1 : List (S59)) : Option (Bool) := if (l0.length : Int) = (l1.length : Int) then (table_same.l0 k l0 l1 (l0.length : Int) 0) else (some false)
set_option maxHeartbeats 8000000 in
set_option maxRecDepth 100000 in
theorem table_same.calls (k : Nat) (A0 : Option Addr) (c0 : Nat) (l0 : List (S59)) (A1 : Option Addr) (c1 : Nat) (l1 : List (S59)) (r : Bool) (w : World) (hr0 : Kd.C k59 w A0 l0.length l0) (hc0 : l0.length ≤ c0) (hr1 : Kd.C k59 w A1 l1.length l1) (hc1 : l1.length ≤ c1) (h : table_same.f k l0 l1 = some r) :
  Calls Tryd.prog 39 #[.slice A0 l0.length c0, .slice A1 l1.length c1] w fun e w' => e = .returned (.bool r) ∧ Drawn0 w w' := by
 have hu59 := Tryd.underlying59
 have HR0 := Aside0.mk hr0
 have HC0 := Aside0.mk hc0
 clear hr0 hc0
 have HR1 := Aside0.mk hr1
 have HC1 := Aside0.mk hc1
 clear hr1 hc1
 have H : (if (l0.length : Int) = (l1.length : Int) then (table_same.l0 k l0 l1 (l0.length : Int) 0) else (some false)) = some r := h
 clear h
 by_cases c3 : (l0.length : Int) = (l1.length : Int)
 ·rw [if_pos c3] at H
  have c3b0 : ((l0.length : Int) == (l1.length : Int)) = true := bI.mpr c3
  have c3b1 : ((l0.length : Int) != (l1.length : Int)) = false := nF.mpr c3
  have c3b2 : (l0.length == l1.length) = true := by first | simpa using c3 | (simp at c3 ⊢; omega)
  clear c3
  have H' := Aside0.mk H
  clear H
  go_enter Tryd.func39, Tryd.ntmps39
  go_wp2
  repeat (go_quiet (fail); try go_wp2)
  go_loopg [13] k (fun kq v13 w' => ∃ (x13_1 : Int), v13 = .int .i64 x13_1 ∧ Aside0 (table_same.l0 kq l0 l1 (l0.length : Int) x13_1 = some r) ∧ Aside0 (kq ≤ k) ∧ Drawn0 w w')
  case atStart => exact ⟨(0), jS, H', ⟨Nat.le_refl _⟩, by repeat (first | exact Drawn0.refl _ | apply Drawn0.step)⟩
  case round =>
   clear H'
   obtain ⟨x13_1, rfl, HA, HK1, ⟨m1, rfl⟩⟩ := hrel
   cases gk with
   | zero => exact absurd HA.out (by simp [table_same.l0])
   | succ k1 =>
    have H := HA.out
    clear HA
    simp only [table_same.l0] at H
    by_cases c4 : x13_1 < (l0.length : Int)
    ·rw [if_pos c4] at H
     have c4b0 := dT c4
     clear c4
     by_cases c5 : 0 ≤ x13_1
     ·rw [if_pos c5] at H
      have c5b0 := dT c5
      clear c5
      by_cases c6 : x13_1 < (l0.length : Int)
      ·rw [if_pos c6] at H
       have c6b0 := dT c6
       clear c6
       by_cases c7 : x13_1 < (l1.length : Int)
       ·rw [if_pos c7] at H
        have c7b0 := dT c7
        clear c7
        by_cases c8 : (!(((rd_T59 l0 x13_1).f0) == ((rd_T59 l1 x13_1).f0)) || (!(((rd_T59 l0 x13_1).f1) == ((rd_T59 l1 x13_1).f1)) || (!(((rd_T59 l0 x13_1).f2) == ((rd_T59 l1 x13_1).f2)) || (!(((rd_T59 l0 x13_1).f3) == ((rd_T59 l1 x13_1).f3)))))) = true
        ·rw [if_pos c8] at H
         have c8b0 : (!(((rd_T59 l0 x13_1).f0) == ((rd_T59 l1 x13_1).f0)) || (!(((rd_T59 l0 x13_1).f1) == ((rd_T59 l1 x13_1).f1)) || (!(((rd_T59 l0 x13_1).f2) == ((rd_T59 l1 x13_1).f2)) || (!(((rd_T59 l0 x13_1).f3) == ((rd_T59 l1 x13_1).f3)))))) = true := c8
         clear c8
         obtain rfl := Option.some.inj H
         have p375 : 0 ≤ (x13_1 : Int) := oD (jA)
         have q375 : x13_1 < (l0.length : Int) := oD (jA)
         obtain ⟨ad375, e375, hx375_0, hx375_1, hx375_2, hx375_3⟩ := at_T59 HR0.out x13_1 p375 q375
         cases e375
         replace p375 := eq_true p375
         replace q375 := eq_true q375
         have p376 : 0 ≤ (x13_1 : Int) := oD (jA)
         have q376 : x13_1 < (l1.length : Int) := oD (jA)
         obtain ⟨ad376, e376, hx376_0, hx376_1, hx376_2, hx376_3⟩ := at_T59 HR1.out x13_1 p376 q376
         cases e376
         replace p376 := eq_true p376
         replace q376 := eq_true q376
         go_wp2
         repeat (go_quiet (fail); try go_wp2)
         go_ret
         exact ⟨by first | rfl | (simp; done) | (simp [*]; done), by repeat (first | exact Drawn0.refl _ | apply Drawn0.step)⟩
        ·rw [if_neg c8] at H
         have c8b0 : (!(((rd_T59 l0 x13_1).f0) == ((rd_T59 l1 x13_1).f0)) || (!(((rd_T59 l0 x13_1).f1) == ((rd_T59 l1 x13_1).f1)) || (!(((rd_T59 l0 x13_1).f2) == ((rd_T59 l1 x13_1).f2)) || (!(((rd_T59 l0 x13_1).f3) == ((rd_T59 l1 x13_1).f3)))))) = false := by simpa using c8
         clear c8
         have H' := Aside0.mk H
         clear H
         have p375 : 0 ≤ (x13_1 : Int) := oD (jA)
         have q375 : x13_1 < (l0.length : Int) := oD (jA)
         obtain ⟨ad375, e375, hx375_0, hx375_1, hx375_2, hx375_3⟩ := at_T59 HR0.out x13_1 p375 q375
         cases e375
         replace p375 := eq_true p375
         replace q375 := eq_true q375
         have p376 : 0 ≤ (x13_1 : Int) := oD (jA)
         have q376 : x13_1 < (l1.length : Int) := oD (jA)
         obtain ⟨ad376, e376, hx376_0, hx376_1, hx376_2, hx376_3⟩ := at_T59 HR1.out x13_1 p376 q376
         cases e376
         replace p376 := eq_true p376
         replace q376 := eq_true q376
         go_wp2
         repeat (go_quiet (fail); try go_wp2)
         go_roundg k1
         case measure => have := HK1.out; omega
         case rel => exact ⟨(wrap64 (x13_1 + 1)), jS, H', ⟨by have := HK1.out; omega⟩, by repeat (first | exact Drawn0.refl _ | apply Drawn0.step)⟩
       ·rw [if_neg c7] at H
        exact absurd H (by simp)
      ·rw [if_neg c6] at H
       exact absurd H (by simp)
     ·rw [if_neg c5] at H
      exact absurd H (by simp)
    ·rw [if_neg c4] at H
     have c4b0 := dF c4
     clear c4
     obtain rfl := Option.some.inj H
     go_wp2
     repeat (go_quiet (fail); try go_wp2)
     go_ret
     exact ⟨by first | rfl | (simp; done) | (simp [*]; done), by repeat (first | exact Drawn0.refl _ | apply Drawn0.step)⟩
 ·rw [if_neg c3] at H
  have c3b0 : ((l0.length : Int) == (l1.length : Int)) = false := bF.mpr c3
  have c3b1 : ((l0.length : Int) != (l1.length : Int)) = true := nI.mpr c3
  have c3b2 : (l0.length == l1.length) = false := by first | simpa using c3 | (simp at c3 ⊢; omega)
  obtain rfl := Option.some.inj H
  go_enter Tryd.func39, Tryd.ntmps39
  go_wp2
  repeat (go_quiet (fail); try go_wp2)
  go_ret
  exact ⟨by first | rfl | (simp; done) | (simp [*]; done), by repeat (first | exact Drawn0.refl _ | apply Drawn0.step)⟩
def table_Find.l0 : Nat → List (S59) → Int → List (S42) → Int → Int → Option ((List (S59)) × Bool)
 | 0, _, _, _, _, _ => none
 | k + 1, x1, x2, x13, x14, x15 => if x15 < x14 then (if 0 ≤ x15 then (if x15 < (x13.length : Int) then ((table_same.f k ((rd_T42 x13 x15).f0) x1).bind fun t380 => (if t380 = true then (if (Go.bits .and .u32 x2 262143) = ((rd_T42 x13 x15).f2) then ((some (([] : List (S59)) : List (S59))).bind fun y381 => (if y381.length + ((rd_T42 x13 x15).f1).length < 4398046511104 then (some ((y381 ++ ((rd_T42 x13 x15).f1)), true)) else (none))) else (table_Find.l0 k x1 x2 x13 x14 (wrap64 (x15 + 1)))) else (table_Find.l0 k x1 x2 x13 x14 (wrap64 (x15 + 1))))) else (none)) else (none)) else (some (([] : List (S59)), false))
def table_Find.f (k : Nat) (l0 : List (S42)) (l1 : List (S59)) (a2 : Int) : Option ((List (S59)) × Bool) := (table_Right.f k l0).bind fun t377 => (if t377 = true then (table_Find.l0 k l1 a2 l0 (l0.length : Int) 0) else (some (([] : List (S59)), false)))
set_option maxHeartbeats 8000000 in
set_option maxRecDepth 100000 in
theorem table_Find.calls (k : Nat) (A0 : Option Addr) (c0 : Nat) (l0 : List (S42)) (A1 : Option Addr) (c1 : Nat) (l1 : List (S59)) (a2 : Int) (r1 : List (S59)) (r2 : Bool) (w : World) (hr0 : Kd.C k42 w A0 l0.length l0) (hc0 : l0.length ≤ c0) (hr1 : Kd.C k59 w A1 l1.length l1) (hc1 : l1.length ≤ c1) (hG : Glob w) (h : table_Find.f k l0 l1 a2 = some (r1, r2)) :
  Calls Tryd.prog 23 #[.slice A0 l0.length c0, .slice A1 l1.length c1, .int .u32 a2] w fun e w' => ∃ v0_ : Value, e = .returned (.tuple #[v0_, .bool r2]) ∧ Kd.R k59 59 w' w.heap.size (fun _ => True) v0_ r1 ∧ Below w.heap.size w w' := by
 have hu42 := Tryd.underlying42
 have HG := Aside0.mk hG
 clear hG
 have HR0 := Aside0.mk hr0
 have HC0 := Aside0.mk hc0
 clear hr0 hc0
 have HR1 := Aside0.mk hr1
 have HC1 := Aside0.mk hc1
 clear hr1 hc1
 have HB := Aside0.mk (Below.refl w.heap.size w)
 have H : ((table_Right.f k l0).bind fun t377 => (if t377 = true then (table_Find.l0 k l1 a2 l0 (l0.length : Int) 0) else (some (([] : List (S59)), false)))) = some (r1, r2) := h
 clear h
 replace H := Option.bind_eq_some_iff.mp H
 obtain ⟨t377, A40, H⟩ := H
 try dsimp only at H
 have A4 := Aside0.mk A40
 clear A40
 by_cases c5 : t377 = true
 ·subst c5
  rw [if_pos rfl] at H
  have H' := Aside0.mk H
  clear H
  go_enter Tryd.func23, Tryd.ntmps23
  go_wp2_with (first | ((with_reducible refine gate_callee (f := 15) rfl ?_); refine goesL_ (some 11) rfl rfl Tryd.func15 (by kernel_rfl) rfl #[.slice A0 l0.length c0] rfl jZ ?_; (with_reducible refine (table_Right.calls k _ _ l0 true _ ?side1 ?side2 ?side3 A4.out).mono ?_); (case side1 => repeat (first | exact HR0.out | (with_reducible refine Kd.C_alloc ?_ _) | (with_reducible refine Kd.C_drewN ?_ _) | (with_reducible refine Kd.C_drew ?_))); (case side2 => exact HC0.out); (case side3 => exact Glob.below HG.out (jH HB)); rintro e w6 ⟨rfl, hb⟩; refine ⟨_, rfl, ?_⟩; replace HB := Aside0.mk (zT (jH HB) hb); (try clear hb); (try clear hb2); (try clear hk); (try clear hi)))
  go_loopg [15] k (fun kq v15 w' => ∃ (x15_1 : Int), v15 = .int .i64 x15_1 ∧ Aside0 (table_Find.l0 kq l1 a2 l0 (l0.length : Int) x15_1 = some (r1, r2)) ∧ Aside0 (kq ≤ k) ∧ Aside0 (Below w.heap.size w w'))
  case atStart => exact ⟨(0), jS, H', ⟨Nat.le_refl _⟩, ⟨jH HB⟩⟩
  case round =>
   clear H'
   obtain ⟨x15_1, rfl, HA, HK1, HB⟩ := hrel
   cases gk with
   | zero => exact absurd HA.out (by simp [table_Find.l0])
   | succ k1 =>
    have H := HA.out
    clear HA
    simp only [table_Find.l0] at H
    by_cases c7 : x15_1 < (l0.length : Int)
    ·rw [if_pos c7] at H
     have c7b0 := dT c7
     clear c7
     by_cases c8 : 0 ≤ x15_1
     ·rw [if_pos c8] at H
      have c8b0 := dT c8
      clear c8
      by_cases c9 : x15_1 < (l0.length : Int)
      ·rw [if_pos c9] at H
       have c9b0 := dT c9
       clear c9
       replace H := Option.bind_eq_some_iff.mp H
       obtain ⟨t380, A100, H⟩ := H
       try dsimp only at H
       have A10 := Aside0.mk A100
       clear A100
       by_cases c11 : t380 = true
       ·subst c11
        rw [if_pos rfl] at H
        by_cases c12 : (Go.bits .and .u32 a2 262143) = ((rd_T42 l0 x15_1).f2)
        ·rw [if_pos c12] at H
         have c12b0 : ((Go.bits .and .u32 a2 262143) == ((rd_T42 l0 x15_1).f2)) = true := bI.mpr c12
         have c12b1 : ((Go.bits .and .u32 a2 262143) != ((rd_T42 l0 x15_1).f2)) = false := nF.mpr c12
         clear c12
         obtain ⟨y381, hy381⟩ : ∃ y_ : List (S59), y_ = (([] : List (S59))) := ⟨_, rfl⟩
         simp only [Option.bind_some, ← hy381] at H
         have Ny381 := Aside0.mk hy381
         clear hy381
         by_cases c13 : y381.length + ((rd_T42 l0 x15_1).f1).length < 4398046511104
         ·rw [if_pos c13] at H
          have LMc13 := Aside0.mk c13
          clear c13
          obtain ⟨y384, hy384⟩ : ∃ y_ : List (S59), y_ = (y381 ++ ((rd_T42 l0 x15_1).f1)) := ⟨_, rfl⟩
          simp only [Option.bind_some, ← hy384] at H
          have Ny384 := Aside0.mk hy384
          clear hy384
          simp only [Option.some.injEq, Prod.mk.injEq] at H
          obtain ⟨rfl, rfl⟩ := H
          have p378 : 0 ≤ (x15_1 : Int) := oD (jA)
          have q378 : x15_1 < (l0.length : Int) := oD (jA)
          obtain ⟨ad378, A378_0, c378_0, A378_1, c378_1, e378, hx378_0, hx378_1, hx378_2, hl378_0, hi378_0, hl378_1, hi378_1⟩ := at_T42 HR0.out x15_1 p378 q378
          cases e378
          replace hx378_0 := (HB.out.cell (bL w _ hx378_0)).trans hx378_0
          replace hx378_1 := (HB.out.cell (bL w _ hx378_1)).trans hx378_1
          replace hx378_2 := (HB.out.cell (bL w _ hx378_2)).trans hx378_2
          have HR378_0 := Aside0.mk hi378_0
          have HC378_0 := Aside0.mk hl378_0
          clear hi378_0 hl378_0
          have HR378_1 := Aside0.mk hi378_1
          have HC378_1 := Aside0.mk hl378_1
          clear hi378_1 hl378_1
          replace p378 := eq_true p378
          replace q378 := eq_true q378
          go_wp2_with (first | ((with_reducible refine gate_dst (N := 9) rfl ?_); refine box_event rfl (N := 9) rfl (cs := #[.slice none 0 0, .slice none 0 0, .int .u32 0]) (t := 42) jW ?_; intro gb379 hg w14 hbox hb; have BK379 := Aside0.mk hbox; have GW379 := Aside0.mk (jG hg HB); have GE379 := Aside0.mk (jG hg HB); replace HB := Aside0.mk (zT (jH HB) hb); clear hb hbox hg; obtain ⟨hcz15_0, hcz15_1, hcz15_2, hfz15_0, hfz15_1, hfz15_2⟩ := kQ3 BK379.out) | ((with_reducible refine gate_callee (f := 39) rfl ?_); refine goesL_ (some 22) rfl rfl Tryd.func39 (by kernel_rfl) rfl #[.slice A378_0 ((rd_T42 l0 x15_1).f0).length c378_0, .slice A1 l1.length c1] rfl jZ ?_; (with_reducible refine (table_same.calls k1 _ _ ((rd_T42 l0 x15_1).f0) _ _ l1 true _ ?side1 ?side2 ?side3 ?side4 A10.out).mono ?_); (case side1 => exact Kd.C_below HR378_0.out (jH HB)); (case side2 => exact HC378_0.out); (case side3 => exact Kd.C_below HR1.out (jH HB)); (case side4 => exact HC1.out); rintro e w' ⟨rfl, ⟨nd, rfl⟩⟩; refine ⟨_, rfl, ?_⟩) | ((with_reducible refine gate_dst (N := 30) rfl ?_); refine Kd.R_lit k59 _ 59 ?hg (N := 30) ?hd (xs := ([] : List (S59))) (inner := []) (ok := fun _ => True) (okp := fun _ => True) ?hr ?hp (fun _ hk => hk) trivial (Below.refl _ _) (Nat.le_refl _) (by simp) ?_; (case hd => rfl); (case hg => rfl); (case hr => first | (go_simp; done) | (go_simp; rfl)); (case hp => exact (Reps.none _ _)); intro v382 w16 ho17 hb hg_ hnew_; clear hg_ hnew_; (first | rw [← Ny381.out] at ho17 | (simp only [Int.reduceToNat] at ho17; rw [← Ny381.out] at ho17)); have HO383 := Aside0.mk (Kd.R_lower ho17 (zZ (jH HB))); replace BK379 := Aside0.mk (kB (g := gb379) (o := .cells #[.slice A378_0 ((rd_T42 l0 x15_1).f0).length c378_0, .slice A378_1 ((rd_T42 l0 x15_1).f1).length c378_1, .int .u32 ((rd_T42 l0 x15_1).f2)] 42 (0, 0)) (by (with_reducible repeat (first | refine kN ?_ _ | refine kD ?_ | refine kA ?_ _)); refine kP (cs := #[.slice A378_0 ((rd_T42 l0 x15_1).f0).length c378_0, .slice A378_1 ((rd_T42 l0 x15_1).f1).length c378_1, .int .u32 0]) ?_ 2 _ rfl; (with_reducible repeat (first | refine kN ?_ _ | refine kD ?_ | refine kA ?_ _)); refine kP (cs := #[.slice A378_0 ((rd_T42 l0 x15_1).f0).length c378_0, .slice none 0 0, .int .u32 0]) ?_ 1 _ rfl; (with_reducible repeat (first | refine kN ?_ _ | refine kD ?_ | refine kA ?_ _)); refine kP (cs := #[.slice none 0 0, .slice none 0 0, .int .u32 0]) ?_ 0 _ rfl; (with_reducible repeat (first | refine kN ?_ _ | refine kD ?_ | refine kA ?_ _)); exact BK379.out) hb); replace HB := Aside0.mk (zT (jH HB) hb); clear hb ho17; obtain ⟨hcz18_0, hcz18_1, hcz18_2, hfz18_0, hfz18_1, hfz18_2⟩ := kQ3 BK379.out) | ((with_reducible refine gate_builtin (b := .append) (xs := #[.tmp 30, .tmp 32]) rfl ?_); at_builtin; refine Kd.R_append_rows k59 (w0 := w) w.heap.size rfl (.tmp 30) (.tmp 32) 39 59 (.agg #[(.int .i64 0), (.int .i64 0), (.int .i64 0), (.int .u32 0)]) 32 rfl Tryd.underlying39 info59 rfl (by decide) (by omega) v382 y381 ((rd_T42 l0 x15_1).f1) _ _ _ (fun _ => True) (fun _ => False) rfl rfl ?aO ?aR (fun _ _ h => h) (fun _ h => h.elim) ?aF ?aB ?aS ?aL ?_; (case aR => repeat (first | exact (Kd.C_below HR378_1.out HB.out) | (with_reducible refine Kd.C_alloc ?_ _) | (with_reducible refine Kd.C_drewN ?_ _) | (with_reducible refine Kd.C_drew ?_))); (case aB => exact (jH HB)); (case aF => exact (fun _ _ => trivial)); (case aO => exact (jR HO383)); (case aS => exact (zZ (jH HB))); (case aL => have := LMc13.out; omega); intro v385 w19 ho hb hg hat; rw [← Ny384.out] at ho; have HO386 := Aside0.mk (ho); replace BK379 := Aside0.mk (kG (g := gb379) (o := .cells #[.slice A378_0 ((rd_T42 l0 x15_1).f0).length c378_0, .slice A378_1 ((rd_T42 l0 x15_1).f1).length c378_1, .int .u32 ((rd_T42 l0 x15_1).f2)] 42 (0, 0)) (jK BK379) hg (Kd.R_ne HO383.out BK379.out (by decide))); replace HB := Aside0.mk (hb); clear HO383; clear ho hb hg hat))
          go_ret2
          exact ⟨_, jE, by (with_reducible repeat (first | apply Kd.R_alloc | apply Kd.R_drewN | apply Kd.R_drew)); exact HO386.out, jH HB⟩
         ·rw [if_neg c13] at H
          exact absurd H (by simp)
        ·rw [if_neg c12] at H
         have c12b0 : ((Go.bits .and .u32 a2 262143) == ((rd_T42 l0 x15_1).f2)) = false := bF.mpr c12
         have c12b1 : ((Go.bits .and .u32 a2 262143) != ((rd_T42 l0 x15_1).f2)) = true := nI.mpr c12
         have H' := Aside0.mk H
         clear H
         have p378 : 0 ≤ (x15_1 : Int) := oD (jA)
         have q378 : x15_1 < (l0.length : Int) := oD (jA)
         obtain ⟨ad378, A378_0, c378_0, A378_1, c378_1, e378, hx378_0, hx378_1, hx378_2, hl378_0, hi378_0, hl378_1, hi378_1⟩ := at_T42 HR0.out x15_1 p378 q378
         cases e378
         replace hx378_0 := (HB.out.cell (bL w _ hx378_0)).trans hx378_0
         replace hx378_1 := (HB.out.cell (bL w _ hx378_1)).trans hx378_1
         replace hx378_2 := (HB.out.cell (bL w _ hx378_2)).trans hx378_2
         have HR378_0 := Aside0.mk hi378_0
         have HC378_0 := Aside0.mk hl378_0
         clear hi378_0 hl378_0
         have HR378_1 := Aside0.mk hi378_1
         have HC378_1 := Aside0.mk hl378_1
         clear hi378_1 hl378_1
         replace p378 := eq_true p378
         replace q378 := eq_true q378
         go_wp2_with (first | ((with_reducible refine gate_dst (N := 9) rfl ?_); refine box_event rfl (N := 9) rfl (cs := #[.slice none 0 0, .slice none 0 0, .int .u32 0]) (t := 42) jW ?_; intro gb379 hg w20 hbox hb; have BK379 := Aside0.mk hbox; have GW379 := Aside0.mk (jG hg HB); have GE379 := Aside0.mk (jG hg HB); replace HB := Aside0.mk (zT (jH HB) hb); clear hb hbox hg; obtain ⟨hcz21_0, hcz21_1, hcz21_2, hfz21_0, hfz21_1, hfz21_2⟩ := kQ3 BK379.out) | ((with_reducible refine gate_callee (f := 39) rfl ?_); refine goesL_ (some 22) rfl rfl Tryd.func39 (by kernel_rfl) rfl #[.slice A378_0 ((rd_T42 l0 x15_1).f0).length c378_0, .slice A1 l1.length c1] rfl jZ ?_; (with_reducible refine (table_same.calls k1 _ _ ((rd_T42 l0 x15_1).f0) _ _ l1 true _ ?side1 ?side2 ?side3 ?side4 A10.out).mono ?_); (case side1 => exact Kd.C_below HR378_0.out (jH HB)); (case side2 => exact HC378_0.out); (case side3 => exact Kd.C_below HR1.out (jH HB)); (case side4 => exact HC1.out); rintro e w' ⟨rfl, ⟨nd, rfl⟩⟩; refine ⟨_, rfl, ?_⟩))
         go_roundg k1
         case measure => have := HK1.out; omega
         case rel => exact ⟨(wrap64 (x15_1 + 1)), jS, H', ⟨by have := HK1.out; omega⟩, ⟨jH HB⟩⟩
       ·replace c11 := Bool.eq_false_iff.mpr c11
        subst c11
        rw [if_neg (show ¬ (false = true) by decide)] at H
        have H' := Aside0.mk H
        clear H
        have p378 : 0 ≤ (x15_1 : Int) := oD (jA)
        have q378 : x15_1 < (l0.length : Int) := oD (jA)
        obtain ⟨ad378, A378_0, c378_0, A378_1, c378_1, e378, hx378_0, hx378_1, hx378_2, hl378_0, hi378_0, hl378_1, hi378_1⟩ := at_T42 HR0.out x15_1 p378 q378
        cases e378
        replace hx378_0 := (HB.out.cell (bL w _ hx378_0)).trans hx378_0
        replace hx378_1 := (HB.out.cell (bL w _ hx378_1)).trans hx378_1
        replace hx378_2 := (HB.out.cell (bL w _ hx378_2)).trans hx378_2
        have HR378_0 := Aside0.mk hi378_0
        have HC378_0 := Aside0.mk hl378_0
        clear hi378_0 hl378_0
        have HR378_1 := Aside0.mk hi378_1
        have HC378_1 := Aside0.mk hl378_1
        clear hi378_1 hl378_1
        replace p378 := eq_true p378
        replace q378 := eq_true q378
        go_wp2_with (first | ((with_reducible refine gate_dst (N := 9) rfl ?_); refine box_event rfl (N := 9) rfl (cs := #[.slice none 0 0, .slice none 0 0, .int .u32 0]) (t := 42) jW ?_; intro gb379 hg w22 hbox hb; have BK379 := Aside0.mk hbox; have GW379 := Aside0.mk (jG hg HB); have GE379 := Aside0.mk (jG hg HB); replace HB := Aside0.mk (zT (jH HB) hb); clear hb hbox hg; obtain ⟨hcz23_0, hcz23_1, hcz23_2, hfz23_0, hfz23_1, hfz23_2⟩ := kQ3 BK379.out) | ((with_reducible refine gate_callee (f := 39) rfl ?_); refine goesL_ (some 22) rfl rfl Tryd.func39 (by kernel_rfl) rfl #[.slice A378_0 ((rd_T42 l0 x15_1).f0).length c378_0, .slice A1 l1.length c1] rfl jZ ?_; (with_reducible refine (table_same.calls k1 _ _ ((rd_T42 l0 x15_1).f0) _ _ l1 false _ ?side1 ?side2 ?side3 ?side4 A10.out).mono ?_); (case side1 => exact Kd.C_below HR378_0.out (jH HB)); (case side2 => exact HC378_0.out); (case side3 => exact Kd.C_below HR1.out (jH HB)); (case side4 => exact HC1.out); rintro e w' ⟨rfl, ⟨nd, rfl⟩⟩; refine ⟨_, rfl, ?_⟩))
        go_roundg k1
        case measure => have := HK1.out; omega
        case rel => exact ⟨(wrap64 (x15_1 + 1)), jS, H', ⟨by have := HK1.out; omega⟩, ⟨jH HB⟩⟩
      ·rw [if_neg c9] at H
       exact absurd H (by simp)
     ·rw [if_neg c8] at H
      exact absurd H (by simp)
    ·rw [if_neg c7] at H
     have c7b0 := dF c7
     clear c7
     simp only [Option.some.injEq, Prod.mk.injEq] at H
     obtain ⟨rfl, rfl⟩ := H
     go_wp2
     go_ret2
     exact ⟨_, jE, by first | exact Kd.R_nil _ _ _ _ _ | exact Kd.N_nil _ _ _ _ _ | exact Kd.V_nil _ _ _ _ _ | exact Kd.Q_nil _ _ _ _ _ | exact Kd.S_nil _ _ _ _ _, jH HB⟩
 ·replace c5 := Bool.eq_false_iff.mpr c5
  subst c5
  rw [if_neg (show ¬ (false = true) by decide)] at H
  simp only [Option.some.injEq, Prod.mk.injEq] at H
  obtain ⟨rfl, rfl⟩ := H
  go_enter Tryd.func23, Tryd.ntmps23
  go_wp2_with (first | ((with_reducible refine gate_callee (f := 15) rfl ?_); refine goesL_ (some 11) rfl rfl Tryd.func15 (by kernel_rfl) rfl #[.slice A0 l0.length c0] rfl jZ ?_; (with_reducible refine (table_Right.calls k _ _ l0 false _ ?side1 ?side2 ?side3 A4.out).mono ?_); (case side1 => repeat (first | exact HR0.out | (with_reducible refine Kd.C_alloc ?_ _) | (with_reducible refine Kd.C_drewN ?_ _) | (with_reducible refine Kd.C_drew ?_))); (case side2 => exact HC0.out); (case side3 => exact Glob.below HG.out (jH HB)); rintro e w24 ⟨rfl, hb⟩; refine ⟨_, rfl, ?_⟩; replace HB := Aside0.mk (zT (jH HB) hb); (try clear hb); (try clear hb2); (try clear hk); (try clear hi)))
  go_ret2
  exact ⟨_, jE, by first | exact Kd.R_nil _ _ _ _ _ | exact Kd.N_nil _ _ _ _ _ | exact Kd.V_nil _ _ _ _ _ | exact Kd.Q_nil _ _ _ _ _ | exact Kd.S_nil _ _ _ _ _, jH HB⟩
def l21_knows0.f (k : Nat)  : Option (Bool) := (table_Encode.f k ([] : List (S42))).bind fun bt387 => ((some (([(⟨132, 0, 0, 0⟩ : S59), (⟨132, 0, 0, 0⟩ : S59)] : List (S59)) : List (S59))).bind fun y391 => ((table_Learn.f k ([] : List (S42)) y391 ([] : List (S59)) 1).bind fun bt395 => ((table_Find.f k bt395.1 y391 1).bind fun bt399 => ((table_Decode.f k ([] : List Int)).bind fun bt403 => (if (bt387.1.length : Int) = 9 then (if 5 ≤ (bt387.1.length : Int) then (if (strOfNums (bt387.1.take 5)).toList = ([72, 82, 84, 49, 0] : List UInt8) then (if bt387.2 = 0 then (if (bt395.1.length : Int) = 1 then (if bt395.2 = 0 then (if (bt399.1.length : Int) = 0 then (if bt399.2 = true then (if bt403.2 = 0 then (none) else ((table_Right.f k bt395.1).bind fun t411 => (some t411))) else (none)) else (none)) else (none)) else (none)) else (none)) else (none)) else (none)) else (none))))))
set_option maxHeartbeats 8000000 in
set_option maxRecDepth 100000 in
theorem l21_knows0.calls (k : Nat)  (r : Bool) (w : World) (hG : Glob w) (h : l21_knows0.f k  = some r) :
  Calls Tryd.prog 11 #[] w fun e w' => e = .returned (.bool r) ∧ Below w.heap.size w w' := by
 have hu59 := Tryd.underlying59
 have hu42 := Tryd.underlying42
 have HG := Aside0.mk hG
 clear hG
 have HB := Aside0.mk (Below.refl w.heap.size w)
 have H : ((table_Encode.f k ([] : List (S42))).bind fun bt387 => ((some (([(⟨132, 0, 0, 0⟩ : S59), (⟨132, 0, 0, 0⟩ : S59)] : List (S59)) : List (S59))).bind fun y391 => ((table_Learn.f k ([] : List (S42)) y391 ([] : List (S59)) 1).bind fun bt395 => ((table_Find.f k bt395.1 y391 1).bind fun bt399 => ((table_Decode.f k ([] : List Int)).bind fun bt403 => (if (bt387.1.length : Int) = 9 then (if 5 ≤ (bt387.1.length : Int) then (if (strOfNums (bt387.1.take 5)).toList = ([72, 82, 84, 49, 0] : List UInt8) then (if bt387.2 = 0 then (if (bt395.1.length : Int) = 1 then (if bt395.2 = 0 then (if (bt399.1.length : Int) = 0 then (if bt399.2 = true then (if bt403.2 = 0 then (none) else ((table_Right.f k bt395.1).bind fun t411 => (some t411))) else (none)) else (none)) else (none)) else (none)) else (none)) else (none)) else (none)) else (none))))))) = some r := h
 clear h
 replace H := Option.bind_eq_some_iff.mp H
 obtain ⟨⟨t387, t388⟩, A10, H⟩ := H
 try dsimp only at H
 have A1 := Aside0.mk A10
 clear A10
 obtain ⟨y391, hy391⟩ : ∃ y_ : List (S59), y_ = (([(⟨132, 0, 0, 0⟩ : S59), (⟨132, 0, 0, 0⟩ : S59)] : List (S59))) := ⟨_, rfl⟩
 simp only [Option.bind_some, ← hy391] at H
 have Ny391 := Aside0.mk hy391
 clear hy391
 replace H := Option.bind_eq_some_iff.mp H
 obtain ⟨⟨t395, t398⟩, A20, H⟩ := H
 try dsimp only at H
 have A2 := Aside0.mk A20
 clear A20
 replace H := Option.bind_eq_some_iff.mp H
 obtain ⟨⟨t399, t400⟩, A30, H⟩ := H
 try dsimp only at H
 have A3 := Aside0.mk A30
 clear A30
 replace H := Option.bind_eq_some_iff.mp H
 obtain ⟨⟨t403, t404⟩, A40, H⟩ := H
 try dsimp only at H
 have A4 := Aside0.mk A40
 clear A40
 by_cases c5 : (t387.length : Int) = 9
 ·rw [if_pos c5] at H
  have c5b0 : ((t387.length : Int) == 9) = true := bI.mpr c5
  have c5b1 : ((t387.length : Int) != 9) = false := nF.mpr c5
  clear c5
  by_cases c6 : 5 ≤ (t387.length : Int)
  ·rw [if_pos c6] at H
   have c6b0 := eq_true c6
   have c6b1 := dT c6
   clear c6
   obtain ⟨y407, hy407⟩ : ∃ y_ : List Int, y_ = (t387.take 5) := ⟨_, rfl⟩
   simp only [Option.bind_some, ← hy407] at H
   have Ny407 := Aside0.mk hy407
   clear hy407
   by_cases c7 : (strOfNums y407).toList = ([72, 82, 84, 49, 0] : List UInt8)
   ·rw [if_pos c7] at H
    have c7b0 : ((strOfNums y407).toList == ([72, 82, 84, 49, 0] : List UInt8)) = true := bI.mpr c7
    have c7b1 : ((strOfNums y407).toList != ([72, 82, 84, 49, 0] : List UInt8)) = false := nF.mpr c7
    clear c7
    by_cases c8 : t388 = 0
    ·rw [if_pos c8] at H
     have c8b0 : (t388 == 0) = true := bI.mpr c8
     have c8b1 : (t388 != 0) = false := nF.mpr c8
     clear c8
     by_cases c9 : (t395.length : Int) = 1
     ·rw [if_pos c9] at H
      have c9b0 : ((t395.length : Int) == 1) = true := bI.mpr c9
      have c9b1 : ((t395.length : Int) != 1) = false := nF.mpr c9
      clear c9
      by_cases c10 : t398 = 0
      ·rw [if_pos c10] at H
       have c10b0 : (t398 == 0) = true := bI.mpr c10
       have c10b1 : (t398 != 0) = false := nF.mpr c10
       clear c10
       by_cases c11 : (t399.length : Int) = 0
       ·rw [if_pos c11] at H
        have c11b0 : ((t399.length : Int) == 0) = true := bI.mpr c11
        have c11b1 : ((t399.length : Int) != 0) = false := nF.mpr c11
        clear c11
        by_cases c12 : t400 = true
        ·subst c12
         rw [if_pos rfl] at H
         by_cases c13 : t404 = 0
         ·rw [if_pos c13] at H
          exact absurd H (by simp)
         ·rw [if_neg c13] at H
          have c13b0 : (t404 == 0) = false := bF.mpr c13
          have c13b1 : (t404 != 0) = true := nI.mpr c13
          replace H := Option.bind_eq_some_iff.mp H
          obtain ⟨t411, A140, H⟩ := H
          try dsimp only at H
          have A14 := Aside0.mk A140
          clear A140
          obtain rfl := Option.some.inj H
          go_enter Tryd.func11, Tryd.ntmps11
          go_wp2_with (first | ((with_reducible refine gate_callee (f := 12) rfl ?_); refine goesL_ (some 11) rfl rfl Tryd.func12 (by kernel_rfl) rfl #[.slice none 0 0] rfl jZ ?_; (refine (table_Encode.calls k _ _ ([] : List (S42)) t387 t388 _ ?side1 ?side2 ?side3 A1.out).mono ?_); (case side1 => exact Kd.C_nil _ _); (case side2 => exact Nat.le_refl _); (case side3 => exact Glob.below HG.out (jH HB)); rintro e w15 ⟨v389, rfl, ho0, hb⟩; refine ⟨_, rfl, ?_⟩; have HO390 := Aside0.mk (Kd.R_lower ho0 (zZ (jH HB))); replace HB := Aside0.mk (zT (jH HB) hb); (try clear hb); (try clear hb2); (try clear hk); (try clear hi); (try clear ho0)) | ((with_reducible refine gate_dst (N := 16) rfl ?_); (try (refine gate_guard (by rfl) ?_; dsimp only)); refine Kd.R_lit k59 _ 59 ?hg (N := 16) ?hd (xs := ([(⟨132, 0, 0, 0⟩ : S59), (⟨132, 0, 0, 0⟩ : S59)] : List (S59))) (inner := [.int .i64 132, .int .i64 0, .int .i64 0, .int .u32 0, .int .i64 132, .int .i64 0, .int .i64 0, .int .u32 0]) (ok := fun _ => True) (okp := fun _ => True) ?hr ?hp (fun _ hk => hk) trivial (Below.refl _ _) (Nat.le_refl _) (by simp) ?_; (case hd => rfl); (case hg => rfl); (case hr => first | (go_simp; done) | (go_simp; rfl)); (case hp => exact (Reps.c4 (show Kd.M k59 _ _ _ (⟨132, 0, 0, 0⟩ : S59) [.int .i64 132, .int .i64 0, .int .i64 0, .int .u32 0] from (k59_mkM _ _ _ (⟨132, 0, 0, 0⟩ : S59) )) (Reps.c4 (show Kd.M k59 _ _ _ (⟨132, 0, 0, 0⟩ : S59) [.int .i64 132, .int .i64 0, .int .i64 0, .int .u32 0] from (k59_mkM _ _ _ (⟨132, 0, 0, 0⟩ : S59) )) (Reps.none _ _)))); intro v392 w16 ho17 hb hg_ hnew_; clear hg_ hnew_; (first | rw [← Ny391.out] at ho17 | (simp only [Int.reduceToNat] at ho17; rw [← Ny391.out] at ho17)); have HO393 := Aside0.mk (Kd.R_lower ho17 (zZ (jH HB))); replace HO390 := Aside0.mk (Kd.R_below (jR HO390) hb); replace HB := Aside0.mk (zT (jH HB) hb); clear hb ho17; obtain ⟨Ao18, co18, eo18⟩ := Kd.R_slice HO393.out; subst eo18) | ((with_reducible refine gate_dst (N := 3) rfl ?_); (try (refine gate_guard (by rfl) ?_; dsimp only)); refine box_event rfl (N := 3) rfl (cs := #[.slice none 0 0, .slice none 0 0, .int .u32 0]) (t := 42) jW ?_; intro gb394 hg w19 hbox hb; have BK394 := Aside0.mk hbox; have GW394 := Aside0.mk (jG hg HB); have GE394 := Aside0.mk (jG hg HB); replace HO390 := Aside0.mk (Kd.R_below (jR HO390) hb); replace HO393 := Aside0.mk (Kd.R_below (jR HO393) hb); replace HB := Aside0.mk (zT (jH HB) hb); clear hb hbox hg; obtain ⟨hcz20_0, hcz20_1, hcz20_2, hfz20_0, hfz20_1, hfz20_2⟩ := kQ3 BK394.out) | ((with_reducible refine gate_store (t := 42) (p := 3) rfl ?_); refine store_event (t := 42) (p := 3) (v := ?vo_w21) (w1 := (((w19.setCell ⟨gb394, 0, none⟩ (.slice Ao18 y391.length co18)).setCell ⟨gb394, 1, none⟩ (.slice none 0 0)).setCell ⟨gb394, 2, none⟩ (.int .u32 1))) ?hg ?ho ?hn ?hr ?_; (case ho => rfl); (case hg => rfl); (case hn => rfl); (case hr => first | (go_simp; done) | (go_simp; rfl)); intro w21 hw; have n0_ : Aside0 (Kd.R (Kd.int .u8) 5 w21 w.heap.size (fun _ => True) v389 t387) := ⟨(by rw [hw]; exact (by (with_reducible repeat (first | apply Kd.R_alloc | apply Kd.R_drewN | apply Kd.R_drew)); exact Kd.R_mono (Kd.R_far (p := ⟨gb394, 2, none⟩) (Kd.R_far (p := ⟨gb394, 1, none⟩) (Kd.R_far (p := ⟨gb394, 0, none⟩) (Kd.R_types HO390.out BK394.out (by decide)) (fun _ hk => hk.2) (.slice Ao18 y391.length co18)) (fun _ hk => hk.2) (.slice none 0 0)) (fun _ hk => hk.2) (.int .u32 1)) (fun _ hk => trivial)))⟩; have n1_ : Aside0 (Kd.R k59 59 w21 w.heap.size (fun _ => True) (.slice Ao18 y391.length co18) y391) := ⟨(by rw [hw]; exact (by (with_reducible repeat (first | apply Kd.R_alloc | apply Kd.R_drewN | apply Kd.R_drew)); exact Kd.R_mono (Kd.R_far (p := ⟨gb394, 2, none⟩) (Kd.R_far (p := ⟨gb394, 1, none⟩) (Kd.R_far (p := ⟨gb394, 0, none⟩) (Kd.R_types HO393.out BK394.out (by decide)) (fun _ hk => hk.2) (.slice Ao18 y391.length co18)) (fun _ hk => hk.2) (.slice none 0 0)) (fun _ hk => hk.2) (.int .u32 1)) (fun _ hk => trivial)))⟩; have n2_ : Aside0 (w21.heap[gb394]? = some (.cells #[.slice Ao18 y391.length co18, .slice none 0 0, .int .u32 1] 42 (0, 0))) := ⟨(by rw [hw]; exact (by (with_reducible repeat (first | refine kN ?_ _ | refine kD ?_ | refine kA ?_ _)); refine kP (cs := #[.slice Ao18 y391.length co18, .slice none 0 0, .int .u32 0]) ?_ 2 _ rfl; (with_reducible repeat (first | refine kN ?_ _ | refine kD ?_ | refine kA ?_ _)); refine kP (cs := #[.slice Ao18 y391.length co18, .slice none 0 0, .int .u32 0]) ?_ 1 _ rfl; (with_reducible repeat (first | refine kN ?_ _ | refine kD ?_ | refine kA ?_ _)); refine kP (cs := #[.slice none 0 0, .slice none 0 0, .int .u32 0]) ?_ 0 _ rfl; (with_reducible repeat (first | refine kN ?_ _ | refine kD ?_ | refine kA ?_ _)); exact BK394.out))⟩; have n3_ : Aside0 (Below w.heap.size w w21) := ⟨(by rw [hw]; exact (jH HB))⟩; clear hw; clear HO390; clear HO393; clear BK394; clear HB; have HO390 := n0_; have HO393 := n1_; have BK394 := n2_; have HB := n3_; clear n0_ n1_ n2_ n3_; obtain ⟨hcz22_0, hcz22_1, hcz22_2, hfz22_0, hfz22_1, hfz22_2⟩ := kQ3 BK394.out) | ((with_reducible refine gate_callee (f := 20) rfl ?_); refine goesL_ (some 20) rfl rfl Tryd.func20 (by kernel_rfl) rfl #[.slice none 0 0, .agg #[.slice Ao18 y391.length co18, .slice none 0 0, .int .u32 1]] rfl jZ ?_; (refine (table_Learn.calls k (fun k_ => False) _ _ ([] : List (S42)) _ _ y391 _ _ ([] : List (S59)) 1 t395 t398 _ ?side1 ?side2 ?side3 ?side4 ?side5 ?side6 A2.out).mono ?_); (case side1 => exact Kd.V_nil _ _ _ _ _); (case side2 => exact jC (Kd.R_reads' HO393.out).2.2); (case side3 => exact (Kd.R_reads' HO393.out).2.1); (case side4 => exact Kd.C_nil _ _); (case side5 => exact Nat.le_refl _); (case side6 => exact Glob.below HG.out (jH HB)); rintro e w23 ⟨v396, rfl, ho0, hb⟩; refine ⟨_, rfl, ?_⟩; have HO397 := Aside0.mk (Kd.V_lower (Kd.V_mono (ok' := fun k_ => some k_ ≠ (v389 : Value).ownBlock ∧ some k_ ≠ (.slice Ao18 y391.length co18 : Value).ownBlock ∧ k_ ≠ gb394) ho0 (fun k_ hk_ => ⟨Or.elim hk_ (fun hs_ => (hs_).elim) (fun hn_ => (Kd.fresh' (Kd.R_lt (jR HO390)) k_ hn_)), Or.elim hk_ (fun hs_ => (hs_).elim) (fun hn_ => (Kd.fresh' (Kd.R_lt (jR HO393)) k_ hn_)), Or.elim hk_ (fun hs_ => (hs_).elim) (fun hn_ => (Kd.freshB (g := gb394) (o := .cells #[.slice Ao18 y391.length co18, .slice none 0 0, .int .u32 1] 42 (0, 0)) (jK BK394) k_ hn_))⟩)) (zZ (jH HB))); replace HO390 := Aside0.mk (Kd.R_below (jR HO390) hb); replace HO393 := Aside0.mk (Kd.R_below (jR HO393) hb); replace BK394 := Aside0.mk (jB BK394 hb); replace HB := Aside0.mk (zT (jH HB) hb); (try clear hb); (try clear hb2); (try clear hk); (try clear hi); (try clear ho0); obtain ⟨hcz24_0, hcz24_1, hcz24_2, hfz24_0, hfz24_1, hfz24_2⟩ := kQ3 BK394.out; obtain ⟨Ao25, co25, eo25⟩ := Kd.V_slice HO397.out; subst eo25) | ((with_reducible refine gate_callee (f := 23) rfl ?_); refine goesL_ (some 27) rfl rfl Tryd.func23 (by kernel_rfl) rfl #[.slice Ao25 t395.length co25, .slice Ao18 y391.length co18, .int .u32 1] rfl jZ ?_; (with_reducible refine (table_Find.calls k _ _ t395 _ _ y391 1 t399 true _ ?side1 ?side2 ?side3 ?side4 ?side5 A3.out).mono ?_); (case side1 => exact jC (Kd.V_reads' HO397.out).2.2); (case side2 => exact (Kd.V_reads' HO397.out).2.1); (case side3 => exact jC (Kd.R_reads' HO393.out).2.2); (case side4 => exact (Kd.R_reads' HO393.out).2.1); (case side5 => exact Glob.below HG.out (jH HB)); rintro e w26 ⟨v401, rfl, ho0, hb⟩; refine ⟨_, rfl, ?_⟩; have HO402 := Aside0.mk (Kd.R_lower (Kd.R_new' ho0 (Kd.R_lt (jR HO393))) (zZ (jH HB))); replace HO390 := Aside0.mk (Kd.R_below (jR HO390) hb); replace HO393 := Aside0.mk (Kd.R_elder' (jR HO393) (Kd.R_base ho0) hb); replace HO397 := Aside0.mk (Kd.V_elder' (jV HO397) (Kd.R_base ho0) hb); replace BK394 := Aside0.mk (jB BK394 hb); replace HB := Aside0.mk (zT (jH HB) hb); (try clear hb); (try clear hb2); (try clear hk); (try clear hi); (try clear ho0)) | ((with_reducible refine gate_callee (f := 17) rfl ?_); refine goesL_ (some 31) rfl rfl Tryd.func17 (by kernel_rfl) rfl #[.slice none 0 0] rfl jZ ?_; (refine (table_Decode.calls k _ _ ([] : List Int) t403 t404 _ ?side1 ?side2 ?side3 A4.out).mono ?_); (case side1 => exact Kd.C_nil _ _); (case side2 => exact Nat.le_refl _); (case side3 => exact Glob.below HG.out (jH HB)); rintro e w27 ⟨v405, rfl, ho0, hb⟩; refine ⟨_, rfl, ?_⟩; have HO406 := Aside0.mk (Kd.S_lower (Kd.S_newB (Kd.S_new' (Kd.S_new' ho0 (Kd.R_lt (jR HO393))) (Kd.R_lt (jR HO402))) (g := gb394) (o := .cells #[.slice Ao18 y391.length co18, .slice none 0 0, .int .u32 1] 42 (0, 0)) (jK BK394)) (zZ (jH HB))); replace HO390 := Aside0.mk (Kd.R_below (jR HO390) hb); replace HO393 := Aside0.mk (Kd.R_below (jR HO393) hb); replace HO397 := Aside0.mk (Kd.V_elder' (jV HO397) (Kd.S_base ho0) hb); replace HO402 := Aside0.mk (Kd.R_below (jR HO402) hb); replace BK394 := Aside0.mk (jB BK394 hb); replace HB := Aside0.mk (zT (jH HB) hb); (try clear hb); (try clear hb2); (try clear hk); (try clear hi); (try clear ho0); obtain ⟨Ao28, co28, eo28⟩ := Kd.R_slice HO390.out; subst eo28; have q29 : (5 : Int) ≤ ((t387.length : Int) : Int) := oD (jA); obtain ⟨i029, hi029, _, hsz29, _⟩ := info_parts info5; have hroom29 : t387.length ≤ co28 := (Kd.R_reads' HO390.out).2.1; have hC29 : Kd.C (Kd.int .u8) _ Ao28 t387.length t387 := (Kd.R_reads' HO390.out).2.2; have hcut29 := cut_to (P := Tryd.prog) 25 5 .i64 Tryd.underlying25 hi029 Ao28 t387.length co28 5 (by omega) q29 hroom29; have hr29 := Kd.C_take (m := 5) hC29 (by omega); have hy29 : y407.length = (5 : Int).toNat := (by rw [Ny407.out, List.length_take]; omega); rw [← Ny407.out] at hr29; rw [← hy29] at hcut29; have HR410 := Aside0.mk hr29; have HC410 := Aside0.mk (show y407.length ≤ co28 from by omega); clear hr29 hC29 hroom29 hi029 hsz29; have KY29 := Aside0.mk hy29; clear hy29; have KL29 := Aside0.mk (show 5 ≤ t387.length from by omega); replace q29 := eq_true q29; have hcv30 := Kd.C_string (P := Tryd.prog) (A := Ao28) (c := co28) Tryd.underlying25 Tryd.underlying5 Tryd.underlying9 (by repeat (first | (with_reducible exact HR410.out) | (with_reducible refine Kd.C_alloc ?_ _) | (with_reducible refine Kd.C_drewN ?_ _) | (with_reducible refine Kd.C_drew ?_) | exact HR410.out)); obtain ⟨Ao31, co31, eo31⟩ := Kd.R_slice HO402.out; subst eo31) | (go_at_call 15; (with_reducible refine (table_Right.calls k _ _ t395 t411 _ ?side1 ?side2 ?side3 A14.out).mono ?_); (case side1 => exact jC (Kd.V_reads' HO397.out).2.2); (case side2 => exact (Kd.V_reads' HO397.out).2.1); (case side3 => exact Glob.below HG.out (jH HB)); rintro e w32 ⟨rfl, hb⟩; replace HO390 := Aside0.mk (Kd.R_below (jR HO390) hb); replace HO393 := Aside0.mk (Kd.R_below (jR HO393) hb); replace HO397 := Aside0.mk (Kd.V_below (jV HO397) hb); replace HO402 := Aside0.mk (Kd.R_below (jR HO402) hb); replace HO406 := Aside0.mk (Kd.S_below (by (with_reducible repeat (first | apply Kd.S_alloc | apply Kd.S_drewN | apply Kd.S_drew)); exact HO406.out) hb); replace BK394 := Aside0.mk (jB BK394 hb); replace HR410 := Aside0.mk (Kd.C_below (by repeat (first | (with_reducible exact HR410.out) | (with_reducible refine Kd.C_alloc ?_ _) | (with_reducible refine Kd.C_drewN ?_ _) | (with_reducible refine Kd.C_drew ?_) | exact HR410.out)) hb); replace HB := Aside0.mk (zT (jH HB) hb); (try clear hb); (try clear hb2); (try clear hk); (try clear hi)))
          go_ret
          exact ⟨jE, jH HB⟩
        ·replace c12 := Bool.eq_false_iff.mpr c12
         subst c12
         rw [if_neg (show ¬ (false = true) by decide)] at H
         exact absurd H (by simp)
       ·rw [if_neg c11] at H
        exact absurd H (by simp)
      ·rw [if_neg c10] at H
       exact absurd H (by simp)
     ·rw [if_neg c9] at H
      exact absurd H (by simp)
    ·rw [if_neg c8] at H
     exact absurd H (by simp)
   ·rw [if_neg c7] at H
    exact absurd H (by simp)
  ·rw [if_neg c6] at H
   exact absurd H (by simp)
 ·rw [if_neg c5] at H
  exact absurd H (by simp)
def r02_branch.f (a0 : Int) : Option (Bool) := some (decide (a0 ≥ 31))
set_option maxHeartbeats 8000000 in
set_option maxRecDepth 100000 in
theorem r02_branch.calls (a0 : Int) (r : Bool) (w : World) (h : r02_branch.f a0 = some r) :
  Calls Tryd.prog 61 #[.int .i64 a0] w fun e w' => e = .returned (.bool r) ∧ Drawn0 w w' := by
 have H : (some (decide (a0 ≥ 31))) = some r := h
 clear h
 obtain rfl := Option.some.inj H
 go_enter Tryd.func61, Tryd.ntmps61
 go_wp2
 go_ret
 exact ⟨by first | rfl | (simp; done) | (simp [*]; done), by repeat (first | exact Drawn0.refl _ | apply Drawn0.step)⟩
def r02_Ops.f  : Option (List Int) := some (([0, 1, 2, 3, 4, 20, 36, 52, 68, 84, 100, 116, 164, 12, 28, 44, 60, 76, 92, 108, 124, 172, 132, 7, 135, 32, 96, 97, 5, 6, 22, 21, 37, 53, 69, 29, 45, 61, 77] : List Int))
set_option maxHeartbeats 8000000 in
set_option maxRecDepth 100000 in
theorem r02_Ops.calls  (r : List Int) (w : World) (h : r02_Ops.f  = some r) :
  Calls Tryd.prog 66 #[] w fun e w' => ∃ v0_ : Value, e = .returned (v0_) ∧ Kd.R (Kd.int .i64) 3 w' w.heap.size (fun _ => True) v0_ r ∧ Below w.heap.size w w' := by
 have HB := Aside0.mk (Below.refl w.heap.size w)
 have H : (some (([0, 1, 2, 3, 4, 20, 36, 52, 68, 84, 100, 116, 164, 12, 28, 44, 60, 76, 92, 108, 124, 172, 132, 7, 135, 32, 96, 97, 5, 6, 22, 21, 37, 53, 69, 29, 45, 61, 77] : List Int))) = some r := h
 clear h
 obtain ⟨y412, hy412⟩ : ∃ y_ : List Int, y_ = (([0, 1, 2, 3, 4, 20, 36, 52, 68, 84, 100, 116, 164, 12, 28, 44, 60, 76, 92, 108, 124, 172, 132, 7, 135, 32, 96, 97, 5, 6, 22, 21, 37, 53, 69, 29, 45, 61, 77] : List Int)) := ⟨_, rfl⟩
 simp only [Option.bind_some, ← hy412] at H
 have Ny412 := Aside0.mk hy412
 clear hy412
 obtain rfl := Option.some.inj H
 go_enter Tryd.func66, Tryd.ntmps66
 go_wp2_with (first | ((with_reducible refine gate_dst (N := 1) rfl ?_); refine Kd.R_lit (Kd.int .i64) _ 3 ?hg (N := 1) ?hd (xs := ([0, 1, 2, 3, 4, 20, 36, 52, 68, 84, 100, 116, 164, 12, 28, 44, 60, 76, 92, 108, 124, 172, 132, 7, 135, 32, 96, 97, 5, 6, 22, 21, 37, 53, 69, 29, 45, 61, 77] : List Int)) (inner := [.int .i64 0, .int .i64 1, .int .i64 2, .int .i64 3, .int .i64 4, .int .i64 20, .int .i64 36, .int .i64 52, .int .i64 68, .int .i64 84, .int .i64 100, .int .i64 116, .int .i64 164, .int .i64 12, .int .i64 28, .int .i64 44, .int .i64 60, .int .i64 76, .int .i64 92, .int .i64 108, .int .i64 124, .int .i64 172, .int .i64 132, .int .i64 7, .int .i64 135, .int .i64 32, .int .i64 96, .int .i64 97, .int .i64 5, .int .i64 6, .int .i64 22, .int .i64 21, .int .i64 37, .int .i64 53, .int .i64 69, .int .i64 29, .int .i64 45, .int .i64 61, .int .i64 77]) (ok := fun _ => True) (okp := fun _ => True) ?hr ?hp (fun _ hk => hk) trivial (Below.refl _ _) (Nat.le_refl _) (by simp) ?_; (case hd => rfl); (case hg => rfl); (case hr => first | (go_simp; done) | (go_simp; rfl)); (case hp => exact (Reps.one (show Kd.M (Kd.int .i64) _ _ _ 0 [.int .i64 0] from rfl) (Reps.one (show Kd.M (Kd.int .i64) _ _ _ 1 [.int .i64 1] from rfl) (Reps.one (show Kd.M (Kd.int .i64) _ _ _ 2 [.int .i64 2] from rfl) (Reps.one (show Kd.M (Kd.int .i64) _ _ _ 3 [.int .i64 3] from rfl) (Reps.one (show Kd.M (Kd.int .i64) _ _ _ 4 [.int .i64 4] from rfl) (Reps.one (show Kd.M (Kd.int .i64) _ _ _ 20 [.int .i64 20] from rfl) (Reps.one (show Kd.M (Kd.int .i64) _ _ _ 36 [.int .i64 36] from rfl) (Reps.one (show Kd.M (Kd.int .i64) _ _ _ 52 [.int .i64 52] from rfl) (Reps.one (show Kd.M (Kd.int .i64) _ _ _ 68 [.int .i64 68] from rfl) (Reps.one (show Kd.M (Kd.int .i64) _ _ _ 84 [.int .i64 84] from rfl) (Reps.one (show Kd.M (Kd.int .i64) _ _ _ 100 [.int .i64 100] from rfl) (Reps.one (show Kd.M (Kd.int .i64) _ _ _ 116 [.int .i64 116] from rfl) (Reps.one (show Kd.M (Kd.int .i64) _ _ _ 164 [.int .i64 164] from rfl) (Reps.one (show Kd.M (Kd.int .i64) _ _ _ 12 [.int .i64 12] from rfl) (Reps.one (show Kd.M (Kd.int .i64) _ _ _ 28 [.int .i64 28] from rfl) (Reps.one (show Kd.M (Kd.int .i64) _ _ _ 44 [.int .i64 44] from rfl) (Reps.one (show Kd.M (Kd.int .i64) _ _ _ 60 [.int .i64 60] from rfl) (Reps.one (show Kd.M (Kd.int .i64) _ _ _ 76 [.int .i64 76] from rfl) (Reps.one (show Kd.M (Kd.int .i64) _ _ _ 92 [.int .i64 92] from rfl) (Reps.one (show Kd.M (Kd.int .i64) _ _ _ 108 [.int .i64 108] from rfl) (Reps.one (show Kd.M (Kd.int .i64) _ _ _ 124 [.int .i64 124] from rfl) (Reps.one (show Kd.M (Kd.int .i64) _ _ _ 172 [.int .i64 172] from rfl) (Reps.one (show Kd.M (Kd.int .i64) _ _ _ 132 [.int .i64 132] from rfl) (Reps.one (show Kd.M (Kd.int .i64) _ _ _ 7 [.int .i64 7] from rfl) (Reps.one (show Kd.M (Kd.int .i64) _ _ _ 135 [.int .i64 135] from rfl) (Reps.one (show Kd.M (Kd.int .i64) _ _ _ 32 [.int .i64 32] from rfl) (Reps.one (show Kd.M (Kd.int .i64) _ _ _ 96 [.int .i64 96] from rfl) (Reps.one (show Kd.M (Kd.int .i64) _ _ _ 97 [.int .i64 97] from rfl) (Reps.one (show Kd.M (Kd.int .i64) _ _ _ 5 [.int .i64 5] from rfl) (Reps.one (show Kd.M (Kd.int .i64) _ _ _ 6 [.int .i64 6] from rfl) (Reps.one (show Kd.M (Kd.int .i64) _ _ _ 22 [.int .i64 22] from rfl) (Reps.one (show Kd.M (Kd.int .i64) _ _ _ 21 [.int .i64 21] from rfl) (Reps.one (show Kd.M (Kd.int .i64) _ _ _ 37 [.int .i64 37] from rfl) (Reps.one (show Kd.M (Kd.int .i64) _ _ _ 53 [.int .i64 53] from rfl) (Reps.one (show Kd.M (Kd.int .i64) _ _ _ 69 [.int .i64 69] from rfl) (Reps.one (show Kd.M (Kd.int .i64) _ _ _ 29 [.int .i64 29] from rfl) (Reps.one (show Kd.M (Kd.int .i64) _ _ _ 45 [.int .i64 45] from rfl) (Reps.one (show Kd.M (Kd.int .i64) _ _ _ 61 [.int .i64 61] from rfl) (Reps.one (show Kd.M (Kd.int .i64) _ _ _ 77 [.int .i64 77] from rfl) (Reps.none _ _))))))))))))))))))))))))))))))))))))))))); intro v413 w1 ho2 hb hg_ hnew_; clear hg_ hnew_; (first | rw [← Ny412.out] at ho2 | (simp only [Int.reduceToNat] at ho2; rw [← Ny412.out] at ho2)); have HO414 := Aside0.mk (Kd.R_lower ho2 (zZ (jH HB))); replace HB := Aside0.mk (zT (jH HB) hb); clear hb ho2))
 go_ret
 exact ⟨_, jE, by (with_reducible repeat (first | apply Kd.R_alloc | apply Kd.R_drewN | apply Kd.R_drew)); exact HO414.out, jH HB⟩
def l21_knows.f (k : Nat) : Option Bool := l21_knows0.f 80
theorem l21_knows.calls (k : Nat) (r : Bool) (w : World) (hG : Glob w) (h : l21_knows.f k = some r) : Calls Tryd.prog 11 #[] w fun e w' => e = .returned (.bool r) ∧ Below w.heap.size w w' := l21_knows0.calls 80 r w hG h
end Go.Proofs.YtahacmdhhfmhiaaDoor.M
