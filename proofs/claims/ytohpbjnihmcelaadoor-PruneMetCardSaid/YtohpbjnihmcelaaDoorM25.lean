/- What Go functions compute; their calls come to it. No condition. -/
import Derived.Test.YtohpbjnihmcelaaDoorM0
import Derived.Test.YtohpbjnihmcelaaDoorM19
import Derived.Test.YtohpbjnihmcelaaDoorM21
import Derived.Test.YtohpbjnihmcelaaDoorM24
namespace Go.Proofs.YtohpbjnihmcelaaDoor.M
open Go.RowKit Go.Proofs.YtohpbjnihmcelaaDoorW.PrintWords Go.Proofs.YtohpbjnihmcelaaDoorW.PrintLast Go.Proofs.YtohpbjnihmcelaaDoorW.PrintMore
attribute [local go_sem] max2_int min2_int max_two min_two max_three min_three max_four min_four   -- for this text's walks alone
set_option linter.unusedVariables false
set_option linter.unusedSimpArgs false
mutual
def r06_Step.j0 : Nat → Int → Int → Int → Int → List Int → Option (Int × Int × List Int × Bool)
 | 0, _, _, _, _, _ => none
 | k + 1, x8, x11, x243000, x243001, x243002 => (r01_Do.f k x8 x243000 x11).bind fun bt249 => (if bt249.2 = true then (some (bt249.1, x243001, x243002, true)) else (some (x243000, x243001, x243002, false)))
def r06_Step.l0 : Nat → Int → Int → Int → Int → List Int → Int → Int → Int → Int → Int → Int → Int → List Int → Option (Int × Int × List Int × Bool)
 | 0, _, _, _, _, _, _, _, _, _, _, _, _, _ => none
 | k + 1, x14, x15, x243000, x243001, x243002, x244000, x244001, x244002, x244003, x245000, x245001, x245002, x245003 => if x15 < 16 then (if ((x15) % 4294967296) = x244003 then (if 0 ≤ x15 then (if x244000 = 2 then (r06_Step.j2 k (rd x243002 x15) x15 x243000 x243001 (arU 16 x15 x243000 x243002) x244000 x244001 x244002 x244003 x245000 x245001 x245002 x245003) else (r06_Step.j2 k (rd x243002 x15) x15 x243000 x243001 x243002 x244000 x244001 x244002 x244003 x245000 x245001 x245002 x245003)) else (none)) else (r06_Step.l0 k x14 (wrap64 (x15 + 1)) x243000 x243001 x243002 x244000 x244001 x244002 x244003 x245000 x245001 x245002 x245003)) else (if x244000 = 0 then (some (x244003, x243001, x243002, true)) else (if x244000 = 1 then (some (x243000, x244003, x243002, true)) else (if x244000 = 32 then ((r04_Word.f k x245000 x245001 x245002 x245003 x244003).bind fun bt254 => (some (bt254.1, x243001, x243002, true))) else (if x244000 = 96 then (some (x14, x243001, x243002, true)) else (if x244000 = 97 then (some (x243000, x14, x243002, true)) else (if x244000 = 7 then (some (x243000, x243000, x243002, true)) else (if x244000 = 135 then (some (x243001, x243001, x243002, true)) else (if x244000 = 132 then ((r01_Neg.f x243000).bind fun t256 => (some (t256, x243001, x243002, true))) else (some (x243000, x243001, x243002, true))))))))))
def r06_Step.j2 : Nat → Int → Int → Int → Int → List Int → Int → Int → Int → Int → Int → Int → Int → List Int → Option (Int × Int × List Int × Bool)
 | 0, _, _, _, _, _, _, _, _, _, _, _, _, _ => none
 | k + 1, x14, x15, x243000, x243001, x243002, x244000, x244001, x244002, x244003, x245000, x245001, x245002, x245003 => if x244000 = 3 then (if 0 ≤ x15 then (if x15 < 16 then (r06_Step.l0 k x14 (wrap64 (x15 + 1)) x243000 x243001 (arU 16 x15 x243001 x243002) x244000 x244001 x244002 x244003 x245000 x245001 x245002 x245003) else (none)) else (none)) else (r06_Step.l0 k x14 (wrap64 (x15 + 1)) x243000 x243001 x243002 x244000 x244001 x244002 x244003 x245000 x245001 x245002 x245003)
end
def r06_Step.f (k : Nat) (a0_0 : Int) (a0_1 : Int) (a0_2 : List Int) (a1_0 : Int) (a1_1 : Int) (a1_2 : Int) (a1_3 : Int) (a2_0 : Int) (a2_1 : Int) (a2_2 : Int) (a2_3 : List Int) : Option (Int × Int × List Int × Bool) := (r02_Alu.f k a1_0 a1_1 a1_2 a1_3).bind fun bt246 => (if bt246.2.2 = true then (if bt246.2.1 = true then (r06_Step.j0 k bt246.1 a0_1 a0_0 a0_1 a0_2) else (r06_Step.j0 k bt246.1 a1_3 a0_0 a0_1 a0_2)) else (r06_Step.l0 k 0 0 a0_0 a0_1 a0_2 a1_0 a1_1 a1_2 a1_3 a2_0 a2_1 a2_2 a2_3))
theorem r06_Step.mono_l : ∀ k, (∀ y0 y1 y2 y3 y4, LeO (r06_Step.j0 k y0 y1 y2 y3 y4) (r06_Step.j0 (k + 1) y0 y1 y2 y3 y4)) ∧ (∀ y0 y1 y2 y3 y4 y5 y6 y7 y8 y9 y10 y11 y12, LeO (r06_Step.l0 k y0 y1 y2 y3 y4 y5 y6 y7 y8 y9 y10 y11 y12) (r06_Step.l0 (k + 1) y0 y1 y2 y3 y4 y5 y6 y7 y8 y9 y10 y11 y12)) ∧ (∀ y0 y1 y2 y3 y4 y5 y6 y7 y8 y9 y10 y11 y12, LeO (r06_Step.j2 k y0 y1 y2 y3 y4 y5 y6 y7 y8 y9 y10 y11 y12) (r06_Step.j2 (k + 1) y0 y1 y2 y3 y4 y5 y6 y7 y8 y9 y10 y11 y12))
 | 0 => ⟨fun _ _ _ _ _ r h => by simp [r06_Step.j0] at h, fun _ _ _ _ _ _ _ _ _ _ _ _ _ r h => by simp [r06_Step.l0] at h, fun _ _ _ _ _ _ _ _ _ _ _ _ _ r h => by simp [r06_Step.j2] at h⟩
 | k + 1 => by
  obtain ⟨ih0, ih1, ih2⟩ := r06_Step.mono_l k
  refine ⟨?_, ?_, ?_⟩
  all_goals intros
  all_goals first | unfold r06_Step.j0 | unfold r06_Step.l0 | unfold r06_Step.j2
  all_goals repeat' first
   | (with_reducible apply ih0)
   | (with_reducible apply ih1)
   | (with_reducible apply ih2)
   | (with_reducible apply r01_Do.mono)
   | (with_reducible apply r02_Alu.mono)
   | (with_reducible apply r04_Word.mono)
   | (with_reducible exact LeO.refl _)
   | (with_reducible exact LeO.none _)
   | (with_reducible refine LeO.ite ?_ ?_)
   | (with_reducible refine LeO.bind ?_ (fun _ => ?_))
   | apply ih0
   | apply ih1
   | apply ih2
   | apply r01_Do.mono
   | apply r02_Alu.mono
   | apply r04_Word.mono
   | exact LeO.none _
   | refine LeO.ite ?_ ?_
   | refine LeO.bind ?_ (fun _ => ?_)
theorem r06_Step.mono : ∀ a0 a1 a2 a3 a4 a5 a6 a7 a8 a9 a10 k, LeO (r06_Step.f k a0 a1 a2 a3 a4 a5 a6 a7 a8 a9 a10) (r06_Step.f (k + 1) a0 a1 a2 a3 a4 a5 a6 a7 a8 a9 a10) := by
 intro a0 a1 a2 a3 a4 a5 a6 a7 a8 a9 a10 k
 obtain ⟨ih0, ih1, ih2⟩ := r06_Step.mono_l k
 unfold r06_Step.f
 repeat' first
   | (with_reducible apply ih0)
   | (with_reducible apply ih1)
   | (with_reducible apply ih2)
   | (with_reducible apply r01_Do.mono)
   | (with_reducible apply r02_Alu.mono)
   | (with_reducible apply r04_Word.mono)
   | (with_reducible exact LeO.refl _)
   | (with_reducible exact LeO.none _)
   | (with_reducible refine LeO.ite ?_ ?_)
   | (with_reducible refine LeO.bind ?_ (fun _ => ?_))
   | apply ih0
   | apply ih1
   | apply ih2
   | apply r01_Do.mono
   | apply r02_Alu.mono
   | apply r04_Word.mono
   | exact LeO.none _
   | refine LeO.ite ?_ ?_
   | refine LeO.bind ?_ (fun _ => ?_)
set_option maxHeartbeats 8000000 in
set_option maxRecDepth 100000 in
theorem r06_Step.calls (k : Nat) (a0_0 : Int) (a0_1 : Int) (a0_2 : List Int) (a1_0 : Int) (a1_1 : Int) (a1_2 : Int) (a1_3 : Int) (a2_0 : Int) (a2_1 : Int) (a2_2 : Int) (a2_3 : List Int) (r1 : Int) (r2 : Int) (r3 : List Int) (r4 : Bool) (w : World) (h : r06_Step.f k a0_0 a0_1 a0_2 a1_0 a1_1 a1_2 a1_3 a2_0 a2_1 a2_2 a2_3 = some (r1, r2, r3, r4)) :
  Calls Tryd.prog 38 #[.agg (arC [.int .u32 a0_0, .int .u32 a0_1] .u32 16 a0_2), .agg #[.int .i64 a1_0, .int .i64 a1_1, .int .i64 a1_2, .int .u32 a1_3], .agg (arC [.int .u32 a2_0, .int .u32 a2_1, .int .u64 a2_2] .u64 6 a2_3)] w fun e w' => e = .returned (.tuple #[.agg (arC [.int .u32 r1, .int .u32 r2] .u32 16 r3), .bool r4]) ∧ Below w.heap.size w w' := by
 have hu59 := Tryd.underlying59
 have hu45 := Tryd.underlying45
 have hu38 := Tryd.underlying38
 have HB := Aside0.mk (Below.refl w.heap.size w)
 have H : ((r02_Alu.f k a1_0 a1_1 a1_2 a1_3).bind fun bt246 => (if bt246.2.2 = true then (if bt246.2.1 = true then (r06_Step.j0 k bt246.1 a0_1 a0_0 a0_1 a0_2) else (r06_Step.j0 k bt246.1 a1_3 a0_0 a0_1 a0_2)) else (r06_Step.l0 k 0 0 a0_0 a0_1 a0_2 a1_0 a1_1 a1_2 a1_3 a2_0 a2_1 a2_2 a2_3))) = some (r1, r2, r3, r4) := h
 clear h
 replace H := Option.bind_eq_some_iff.mp H
 obtain ⟨⟨t246, t247, t248⟩, A40, H⟩ := H
 try dsimp only at H
 have A4 := Aside0.mk A40
 clear A40
 by_cases c5 : t248 = true
 ·subst c5
  rw [if_pos rfl] at H
  have HC6 := Aside0.mk H
  clear H
  go_enter Tryd.func38, Tryd.ntmps38
  go_upto_if 27 with (first | ((with_reducible refine gate_dst (N := 3) rfl ?_); refine box_event rfl (N := 3) rfl (cs := (arC [.int .u32 a0_0, .int .u32 a0_1] .u32 16 a0_2)) (t := 59) jW ?_; intro gb242 hg w7 hbox hb; have n0_ := Aside0.mk (zT (jH HB) hb); have n1_ := Aside0.mk hbox; have n2_ := Aside0.mk (jG hg HB); have n3_ := Aside0.mk (jG hg HB); clear HB; have HB := n0_; have BK242 := n1_; have GW242 := n2_; have GE242 := n3_; clear n0_ n1_ n2_ n3_; clear hb hbox hg) | ((with_reducible refine gate_dst (N := 4) rfl ?_); refine box_event rfl (N := 4) rfl (cs := #[.int .i64 a1_0, .int .i64 a1_1, .int .i64 a1_2, .int .u32 a1_3]) (t := 45) jW ?_; intro gb243 hg w8 hbox hb; have n0_ := Aside0.mk (jB BK242 hb); have n1_ := Aside0.mk (zT (jH HB) hb); have n2_ := Aside0.mk hbox; have n3_ := Aside0.mk (jG hg HB); have n4_ := Aside0.mk (jG hg HB); have n5_ := Aside0.mk (jN hg BK242); have n6_ := Aside0.mk (jM hg BK242); clear BK242; clear HB; have BK242 := n0_; have HB := n1_; have BK243 := n2_; have GW243 := n3_; have GE243 := n4_; have NB242_243 := n5_; have NB243_242 := n6_; clear n0_ n1_ n2_ n3_ n4_ n5_ n6_; clear hb hbox hg) | ((with_reducible refine gate_dst (N := 5) rfl ?_); refine box_event rfl (N := 5) rfl (cs := (arC [.int .u32 a2_0, .int .u32 a2_1, .int .u64 a2_2] .u64 6 a2_3)) (t := 38) jW ?_; intro gb244 hg w9 hbox hb; have n0_ := Aside0.mk (jB BK242 hb); have n1_ := Aside0.mk (jB BK243 hb); have n2_ := Aside0.mk (zT (jH HB) hb); have n3_ := Aside0.mk hbox; have n4_ := Aside0.mk (jG hg HB); have n5_ := Aside0.mk (jG hg HB); have n6_ := Aside0.mk (jN hg BK242); have n7_ := Aside0.mk (jM hg BK242); have n8_ := Aside0.mk (jN hg BK243); have n9_ := Aside0.mk (jM hg BK243); clear BK242; clear BK243; clear HB; have BK242 := n0_; have BK243 := n1_; have HB := n2_; have BK244 := n3_; have GW244 := n4_; have GE244 := n5_; have NB242_244 := n6_; have NB244_242 := n7_; have NB243_244 := n8_; have NB244_243 := n9_; clear n0_ n1_ n2_ n3_ n4_ n5_ n6_ n7_ n8_ n9_; clear hb hbox hg) | ((with_reducible refine gate_dst (N := 6) rfl ?_); refine box_event rfl (N := 6) rfl (cs := (arC [.int .u32 0, .int .u32 0] .u32 16 ([] : List Int))) (t := 59) jW ?_; intro gb245 hg w10 hbox hb; have n0_ := Aside0.mk (jB BK242 hb); have n1_ := Aside0.mk (jB BK243 hb); have n2_ := Aside0.mk (jB BK244 hb); have n3_ := Aside0.mk (zT (jH HB) hb); have n4_ := Aside0.mk hbox; have n5_ := Aside0.mk (jG hg HB); have n6_ := Aside0.mk (jG hg HB); have n7_ := Aside0.mk (jN hg BK242); have n8_ := Aside0.mk (jM hg BK242); have n9_ := Aside0.mk (jN hg BK243); have n10_ := Aside0.mk (jM hg BK243); have n11_ := Aside0.mk (jN hg BK244); have n12_ := Aside0.mk (jM hg BK244); clear BK242; clear BK243; clear BK244; clear HB; have BK242 := n0_; have BK243 := n1_; have BK244 := n2_; have HB := n3_; have BK245 := n4_; have GW245 := n5_; have GE245 := n6_; have NB242_245 := n7_; have NB245_242 := n8_; have NB243_245 := n9_; have NB245_243 := n10_; have NB244_245 := n11_; have NB245_244 := n12_; clear n0_ n1_ n2_ n3_ n4_ n5_ n6_ n7_ n8_ n9_ n10_ n11_ n12_; clear hb hbox hg; have hnb11 := NB243_242.out; have hnc11 := NB242_243.out; have hnb12 := NB243_244.out; have hnc12 := NB244_243.out; have hnb13 := NB243_245.out; have hnc13 := NB245_243.out; have hcz14_0 : w10.cell? ⟨gb243, 0, none⟩ = some (.int .i64 a1_0) := (kC BK243.out 0).trans rfl; have hcz14_1 : w10.cell? ⟨gb243, 1, none⟩ = some (.int .i64 a1_1) := (kC BK243.out 1).trans rfl; have hcz14_2 : w10.cell? ⟨gb243, 2, none⟩ = some (.int .i64 a1_2) := (kC BK243.out 2).trans rfl; have hcz14_3 : w10.cell? ⟨gb243, 3, none⟩ = some (.int .u32 a1_3) := (kC BK243.out 3).trans rfl; have hfz14_0 := kF BK243.out 0; have hfz14_1 := kF BK243.out 1; have hfz14_2 := kF BK243.out 2; have hfz14_3 := kF BK243.out 3) | ((with_reducible refine gate_callee (f := 50) rfl ?_); refine goesL_ (some 20) rfl rfl Tryd.func50 (by kernel_rfl) rfl #[.agg #[.int .i64 a1_0, .int .i64 a1_1, .int .i64 a1_2, .int .u32 a1_3]] rfl jZ ?_; (with_reducible refine (r02_Alu.calls k a1_0 a1_1 a1_2 a1_3 t246 t247 true _ A4.out).mono ?_); rintro e w15 ⟨rfl, hb⟩; refine ⟨_, rfl, ?_⟩; have n0_ := Aside0.mk (jB BK242 hb); have n1_ := Aside0.mk (jB BK243 hb); have n2_ := Aside0.mk (jB BK244 hb); have n3_ := Aside0.mk (jB BK245 hb); have n4_ := Aside0.mk (zT (jH HB) hb); clear BK242; clear BK243; clear BK244; clear BK245; clear HB; have BK242 := n0_; have BK243 := n1_; have BK244 := n2_; have BK245 := n3_; have HB := n4_; clear n0_ n1_ n2_ n3_ n4_; (try clear hb); (try clear hb2); (try clear hk); (try clear hi); have hcz16_0 : w15.cell? ⟨gb243, 0, none⟩ = some (.int .i64 a1_0) := (kC BK243.out 0).trans rfl; have hcz16_1 : w15.cell? ⟨gb243, 1, none⟩ = some (.int .i64 a1_1) := (kC BK243.out 1).trans rfl; have hcz16_2 : w15.cell? ⟨gb243, 2, none⟩ = some (.int .i64 a1_2) := (kC BK243.out 2).trans rfl; have hcz16_3 : w15.cell? ⟨gb243, 3, none⟩ = some (.int .u32 a1_3) := (kC BK243.out 3).trans rfl; have hfz16_0 := kF BK243.out 0; have hfz16_1 := kF BK243.out 1; have hfz16_2 := kF BK243.out 2; have hfz16_3 := kF BK243.out 3))
  (try simp only [Act.put, List.setIfInBounds_toArray, List.set_cons_zero, List.set_cons_succ])
  go_cut [11] (fun v11 wc => ∃ (kq : Nat) (x11_5 : Int), v11 = .int .u32 x11_5 ∧ Aside0 (r06_Step.j0 kq t246 x11_5 a0_0 a0_1 a0_2 = some (r1, r2, r3, r4)) ∧ Aside0 (kq ≤ k) ∧ Aside0 (wc.heap[gb242]? = some (.cells (arC [.int .u32 a0_0, .int .u32 a0_1] .u32 16 a0_2) 59 (0, 0))) ∧ Aside0 (wc.heap[gb243]? = some (.cells #[.int .i64 a1_0, .int .i64 a1_1, .int .i64 a1_2, .int .u32 a1_3] 45 (0, 0))) ∧ Aside0 (wc.heap[gb244]? = some (.cells (arC [.int .u32 a2_0, .int .u32 a2_1, .int .u64 a2_2] .u64 6 a2_3) 38 (0, 0))) ∧ Aside0 (wc.heap[gb245]? = some (.cells (arC [.int .u32 0, .int .u32 0] .u32 16 ([] : List Int)) 59 (0, 0))) ∧ Aside0 (Below w.heap.size w wc))
  case first =>
   have H := HC6.out
   clear HC6
   by_cases c17 : t247 = true
   ·subst c17
    rw [if_pos rfl] at H
    have H' := Aside0.mk H
    clear H
    have hnb18 := NB242_243.out
    have hnc18 := NB243_242.out
    have hnb19 := NB242_244.out
    have hnc19 := NB244_242.out
    have hnb20 := NB242_245.out
    have hnc20 := NB245_242.out
    have hcz21_0 : w15.cell? ⟨gb242, 0, none⟩ = some (.int .u32 a0_0) := (kC BK242.out 0).trans rfl
    have hcz21_1 : w15.cell? ⟨gb242, 1, none⟩ = some (.int .u32 a0_1) := (kC BK242.out 1).trans rfl
    have hfz21_0 := kF BK242.out 0
    have hfz21_1 := kF BK242.out 1
    have hfz21_2 := kF BK242.out 2
    go_wp2
    go_meet
    case rel => exact ⟨_, (a0_1), (by first | rfl | (simp; done) | (simp [*]; done) | (congr 1; unfold wrap64; omega)), H', ⟨jO⟩, ⟨jK BK242⟩, ⟨jK BK243⟩, ⟨jK BK244⟩, ⟨jK BK245⟩, ⟨jH HB⟩⟩
   ·replace c17 := Bool.eq_false_iff.mpr c17
    subst c17
    rw [if_neg (show ¬ (false = true) by decide)] at H
    have H' := Aside0.mk H
    clear H
    go_wp2
    go_meet
    case rel => exact ⟨_, (a1_3), (by first | rfl | (simp; done) | (simp [*]; done) | (congr 1; unfold wrap64; omega)), H', ⟨jO⟩, ⟨jK BK242⟩, ⟨jK BK243⟩, ⟨jK BK244⟩, ⟨jK BK245⟩, ⟨jH HB⟩⟩
  case rest =>
   clear HC6
   obtain ⟨kq, x11_5, rfl, HA, HJ5, BK242, BK243, BK244, BK245, HB⟩ := hcut
   cases kq with
   | zero => exact absurd HA.out (by simp [r06_Step.j0])
   | succ kj5 =>
    have H := HA.out
    clear HA
    simp only [r06_Step.j0] at H
    replace H := Option.bind_eq_some_iff.mp H
    obtain ⟨⟨t249, t250⟩, A220, H⟩ := H
    try dsimp only at H
    have A22 := Aside0.mk A220
    clear A220
    by_cases c23 : t250 = true
    ·subst c23
     rw [if_pos rfl] at H
     simp only [Option.some.injEq, Prod.mk.injEq] at H
     obtain ⟨rfl, rfl, rfl, rfl⟩ := H
     have hnb24 := NB242_243.out
     have hnc24 := NB243_242.out
     have hnb25 := NB242_244.out
     have hnc25 := NB244_242.out
     have hnb26 := NB242_245.out
     have hnc26 := NB245_242.out
     have hcz27_0 : wc.cell? ⟨gb242, 0, none⟩ = some (.int .u32 a0_0) := (kC BK242.out 0).trans rfl
     have hcz27_1 : wc.cell? ⟨gb242, 1, none⟩ = some (.int .u32 a0_1) := (kC BK242.out 1).trans rfl
     have hfz27_0 := kF BK242.out 0
     have hfz27_1 := kF BK242.out 1
     have hfz27_2 := kF BK242.out 2
     go_wp2_with (first | ((with_reducible refine gate_callee (f := 49) rfl ?_); refine goesL_ (some 35) rfl rfl Tryd.func49 (by kernel_rfl) rfl #[.int .i64 t246, .int .u32 a0_0, .int .u32 x11_5] rfl jZ ?_; (with_reducible refine (r01_Do.calls kj5 t246 a0_0 x11_5 t249 true _ A22.out).mono ?_); rintro e w28 ⟨rfl, hb⟩; refine ⟨_, rfl, ?_⟩; have n0_ := Aside0.mk (jB BK242 hb); have n1_ := Aside0.mk (jB BK243 hb); have n2_ := Aside0.mk (jB BK244 hb); have n3_ := Aside0.mk (jB BK245 hb); have n4_ := Aside0.mk (zT (jH HB) hb); clear BK242; clear BK243; clear BK244; clear BK245; clear HB; have BK242 := n0_; have BK243 := n1_; have BK244 := n2_; have BK245 := n3_; have HB := n4_; clear n0_ n1_ n2_ n3_ n4_; (try clear hb); (try clear hb2); (try clear hk); (try clear hi); have hcz29_0 : w28.cell? ⟨gb242, 0, none⟩ = some (.int .u32 a0_0) := (kC BK242.out 0).trans rfl; have hcz29_1 : w28.cell? ⟨gb242, 1, none⟩ = some (.int .u32 a0_1) := (kC BK242.out 1).trans rfl; have hfz29_0 := kF BK242.out 0; have hfz29_1 := kF BK242.out 1; have hfz29_2 := kF BK242.out 2) | ((with_reducible refine gate_dst (N := 43) rfl ?_); refine wpList_load_row rfl 59 (.tmp 3) rfl gb242 rfl 59 (arC [.int .u32 t249, .int .u32 a0_1] .u32 16 a0_2) (0, 0) _ (by (with_reducible repeat (first | refine kN ?_ _ | refine kD ?_ | refine kA ?_ _)); refine kP (cs := (arC [.int .u32 a0_0, .int .u32 a0_1] .u32 16 a0_2)) ?_ 0 _ rfl; (with_reducible repeat (first | refine kN ?_ _ | refine kD ?_ | refine kA ?_ _)); exact BK242.out) Tryd.underlying59 rfl (by kernel_rfl) ?_) | ((with_reducible refine gate_store (t := 59) (p := 6) rfl ?_); refine stw_event rfl 59 (.tmp 6) _ rfl rfl gb245 (arC [.int .u32 t249, .int .u32 a0_1] .u32 16 a0_2) rfl rfl 59 (arC [.int .u32 0, .int .u32 0] .u32 16 ([] : List Int)) (by (with_reducible repeat (first | refine kN ?_ _ | refine kD ?_ | refine kA ?_ _)); refine kR ?_ NB245_242.out _; (with_reducible repeat (first | refine kN ?_ _ | refine kD ?_ | refine kA ?_ _)); exact BK245.out) (by kernel_rfl) (by kernel_rfl) (arC_one rfl) ?_; intro w30 hw1_ hw2_ hw3_; have n0_ : Aside0 (w30.heap[gb242]? = some (.cells (arC [.int .u32 t249, .int .u32 a0_1] .u32 16 a0_2) 59 (0, 0))) := ⟨hw2_ _ _ NB242_245.out (by (with_reducible repeat (first | refine kN ?_ _ | refine kD ?_ | refine kA ?_ _)); refine kP (cs := (arC [.int .u32 a0_0, .int .u32 a0_1] .u32 16 a0_2)) ?_ 0 _ rfl; (with_reducible repeat (first | refine kN ?_ _ | refine kD ?_ | refine kA ?_ _)); exact BK242.out)⟩; have n1_ : Aside0 (w30.heap[gb243]? = some (.cells #[.int .i64 a1_0, .int .i64 a1_1, .int .i64 a1_2, .int .u32 a1_3] 45 (0, 0))) := ⟨hw2_ _ _ NB243_245.out (by (with_reducible repeat (first | refine kN ?_ _ | refine kD ?_ | refine kA ?_ _)); refine kR ?_ NB243_242.out _; (with_reducible repeat (first | refine kN ?_ _ | refine kD ?_ | refine kA ?_ _)); exact BK243.out)⟩; have n2_ : Aside0 (w30.heap[gb244]? = some (.cells (arC [.int .u32 a2_0, .int .u32 a2_1, .int .u64 a2_2] .u64 6 a2_3) 38 (0, 0))) := ⟨hw2_ _ _ NB244_245.out (by (with_reducible repeat (first | refine kN ?_ _ | refine kD ?_ | refine kA ?_ _)); refine kR ?_ NB244_242.out _; (with_reducible repeat (first | refine kN ?_ _ | refine kD ?_ | refine kA ?_ _)); exact BK244.out)⟩; have n3_ : Aside0 (w30.heap[gb245]? = some (.cells (arC [.int .u32 t249, .int .u32 a0_1] .u32 16 a0_2) 59 (0, 0))) := ⟨hw1_⟩; have n4_ : Aside0 (Below w.heap.size w w30) := ⟨hw3_ _ _ (jH HB) GE245.out⟩; clear hw1_ hw2_ hw3_; clear BK242; clear BK243; clear BK244; clear BK245; clear HB; have BK242 := n0_; have BK243 := n1_; have BK244 := n2_; have BK245 := n3_; have HB := n4_; clear n0_ n1_ n2_ n3_ n4_))
     refine bodyPost_ret (results_ct rfl _ _ gb245 59 (arC [.int .u32 t249, .int .u32 a0_1] .u32 16 a0_2) (0, 0) _ rfl (jK BK245) Tryd.underlying59 rfl (by kernel_rfl)) rfl ?_
     exact ⟨jE, jH HB⟩
    ·replace c23 := Bool.eq_false_iff.mpr c23
     subst c23
     rw [if_neg (show ¬ (false = true) by decide)] at H
     simp only [Option.some.injEq, Prod.mk.injEq] at H
     obtain ⟨rfl, rfl, rfl, rfl⟩ := H
     have hnb31 := NB242_243.out
     have hnc31 := NB243_242.out
     have hnb32 := NB242_244.out
     have hnc32 := NB244_242.out
     have hnb33 := NB242_245.out
     have hnc33 := NB245_242.out
     have hcz34_0 : wc.cell? ⟨gb242, 0, none⟩ = some (.int .u32 a0_0) := (kC BK242.out 0).trans rfl
     have hcz34_1 : wc.cell? ⟨gb242, 1, none⟩ = some (.int .u32 a0_1) := (kC BK242.out 1).trans rfl
     have hfz34_0 := kF BK242.out 0
     have hfz34_1 := kF BK242.out 1
     have hfz34_2 := kF BK242.out 2
     go_wp2_with (first | ((with_reducible refine gate_callee (f := 49) rfl ?_); refine goesL_ (some 35) rfl rfl Tryd.func49 (by kernel_rfl) rfl #[.int .i64 t246, .int .u32 a0_0, .int .u32 x11_5] rfl jZ ?_; (with_reducible refine (r01_Do.calls kj5 t246 a0_0 x11_5 t249 false _ A22.out).mono ?_); rintro e w35 ⟨rfl, hb⟩; refine ⟨_, rfl, ?_⟩; have n0_ := Aside0.mk (jB BK242 hb); have n1_ := Aside0.mk (jB BK243 hb); have n2_ := Aside0.mk (jB BK244 hb); have n3_ := Aside0.mk (jB BK245 hb); have n4_ := Aside0.mk (zT (jH HB) hb); clear BK242; clear BK243; clear BK244; clear BK245; clear HB; have BK242 := n0_; have BK243 := n1_; have BK244 := n2_; have BK245 := n3_; have HB := n4_; clear n0_ n1_ n2_ n3_ n4_; (try clear hb); (try clear hb2); (try clear hk); (try clear hi)) | ((with_reducible refine gate_dst (N := 40) rfl ?_); refine wpList_load_row rfl 59 (.tmp 3) rfl gb242 rfl 59 (arC [.int .u32 a0_0, .int .u32 a0_1] .u32 16 a0_2) (0, 0) _ (jK BK242) Tryd.underlying59 rfl (by kernel_rfl) ?_) | ((with_reducible refine gate_store (t := 59) (p := 6) rfl ?_); refine stw_event rfl 59 (.tmp 6) _ rfl rfl gb245 (arC [.int .u32 a0_0, .int .u32 a0_1] .u32 16 a0_2) rfl rfl 59 (arC [.int .u32 0, .int .u32 0] .u32 16 ([] : List Int)) (jK BK245) (by kernel_rfl) (by kernel_rfl) (arC_one rfl) ?_; intro w36 hw1_ hw2_ hw3_; have n0_ : Aside0 (w36.heap[gb242]? = some (.cells (arC [.int .u32 a0_0, .int .u32 a0_1] .u32 16 a0_2) 59 (0, 0))) := ⟨hw2_ _ _ NB242_245.out (jK BK242)⟩; have n1_ : Aside0 (w36.heap[gb243]? = some (.cells #[.int .i64 a1_0, .int .i64 a1_1, .int .i64 a1_2, .int .u32 a1_3] 45 (0, 0))) := ⟨hw2_ _ _ NB243_245.out (jK BK243)⟩; have n2_ : Aside0 (w36.heap[gb244]? = some (.cells (arC [.int .u32 a2_0, .int .u32 a2_1, .int .u64 a2_2] .u64 6 a2_3) 38 (0, 0))) := ⟨hw2_ _ _ NB244_245.out (jK BK244)⟩; have n3_ : Aside0 (w36.heap[gb245]? = some (.cells (arC [.int .u32 a0_0, .int .u32 a0_1] .u32 16 a0_2) 59 (0, 0))) := ⟨hw1_⟩; have n4_ : Aside0 (Below w.heap.size w w36) := ⟨hw3_ _ _ (jH HB) GE245.out⟩; clear hw1_ hw2_ hw3_; clear BK242; clear BK243; clear BK244; clear BK245; clear HB; have BK242 := n0_; have BK243 := n1_; have BK244 := n2_; have BK245 := n3_; have HB := n4_; clear n0_ n1_ n2_ n3_ n4_))
     refine bodyPost_ret (results_ct rfl _ _ gb245 59 (arC [.int .u32 a0_0, .int .u32 a0_1] .u32 16 a0_2) (0, 0) _ rfl (jK BK245) Tryd.underlying59 rfl (by kernel_rfl)) rfl ?_
     exact ⟨jE, jH HB⟩
 ·replace c5 := Bool.eq_false_iff.mpr c5
  subst c5
  rw [if_neg (show ¬ (false = true) by decide)] at H
  have H' := Aside0.mk H
  clear H
  go_enter Tryd.func38, Tryd.ntmps38
  go_wp2_with (first | ((with_reducible refine gate_dst (N := 3) rfl ?_); refine box_event rfl (N := 3) rfl (cs := (arC [.int .u32 a0_0, .int .u32 a0_1] .u32 16 a0_2)) (t := 59) jW ?_; intro gb242 hg w37 hbox hb; have n0_ := Aside0.mk (zT (jH HB) hb); have n1_ := Aside0.mk hbox; have n2_ := Aside0.mk (jG hg HB); have n3_ := Aside0.mk (jG hg HB); clear HB; have HB := n0_; have BK242 := n1_; have GW242 := n2_; have GE242 := n3_; clear n0_ n1_ n2_ n3_; clear hb hbox hg) | ((with_reducible refine gate_dst (N := 4) rfl ?_); refine box_event rfl (N := 4) rfl (cs := #[.int .i64 a1_0, .int .i64 a1_1, .int .i64 a1_2, .int .u32 a1_3]) (t := 45) jW ?_; intro gb243 hg w38 hbox hb; have n0_ := Aside0.mk (jB BK242 hb); have n1_ := Aside0.mk (zT (jH HB) hb); have n2_ := Aside0.mk hbox; have n3_ := Aside0.mk (jG hg HB); have n4_ := Aside0.mk (jG hg HB); have n5_ := Aside0.mk (jN hg BK242); have n6_ := Aside0.mk (jM hg BK242); clear BK242; clear HB; have BK242 := n0_; have HB := n1_; have BK243 := n2_; have GW243 := n3_; have GE243 := n4_; have NB242_243 := n5_; have NB243_242 := n6_; clear n0_ n1_ n2_ n3_ n4_ n5_ n6_; clear hb hbox hg) | ((with_reducible refine gate_dst (N := 5) rfl ?_); refine box_event rfl (N := 5) rfl (cs := (arC [.int .u32 a2_0, .int .u32 a2_1, .int .u64 a2_2] .u64 6 a2_3)) (t := 38) jW ?_; intro gb244 hg w39 hbox hb; have n0_ := Aside0.mk (jB BK242 hb); have n1_ := Aside0.mk (jB BK243 hb); have n2_ := Aside0.mk (zT (jH HB) hb); have n3_ := Aside0.mk hbox; have n4_ := Aside0.mk (jG hg HB); have n5_ := Aside0.mk (jG hg HB); have n6_ := Aside0.mk (jN hg BK242); have n7_ := Aside0.mk (jM hg BK242); have n8_ := Aside0.mk (jN hg BK243); have n9_ := Aside0.mk (jM hg BK243); clear BK242; clear BK243; clear HB; have BK242 := n0_; have BK243 := n1_; have HB := n2_; have BK244 := n3_; have GW244 := n4_; have GE244 := n5_; have NB242_244 := n6_; have NB244_242 := n7_; have NB243_244 := n8_; have NB244_243 := n9_; clear n0_ n1_ n2_ n3_ n4_ n5_ n6_ n7_ n8_ n9_; clear hb hbox hg) | ((with_reducible refine gate_dst (N := 6) rfl ?_); refine box_event rfl (N := 6) rfl (cs := (arC [.int .u32 0, .int .u32 0] .u32 16 ([] : List Int))) (t := 59) jW ?_; intro gb245 hg w40 hbox hb; have n0_ := Aside0.mk (jB BK242 hb); have n1_ := Aside0.mk (jB BK243 hb); have n2_ := Aside0.mk (jB BK244 hb); have n3_ := Aside0.mk (zT (jH HB) hb); have n4_ := Aside0.mk hbox; have n5_ := Aside0.mk (jG hg HB); have n6_ := Aside0.mk (jG hg HB); have n7_ := Aside0.mk (jN hg BK242); have n8_ := Aside0.mk (jM hg BK242); have n9_ := Aside0.mk (jN hg BK243); have n10_ := Aside0.mk (jM hg BK243); have n11_ := Aside0.mk (jN hg BK244); have n12_ := Aside0.mk (jM hg BK244); clear BK242; clear BK243; clear BK244; clear HB; have BK242 := n0_; have BK243 := n1_; have BK244 := n2_; have HB := n3_; have BK245 := n4_; have GW245 := n5_; have GE245 := n6_; have NB242_245 := n7_; have NB245_242 := n8_; have NB243_245 := n9_; have NB245_243 := n10_; have NB244_245 := n11_; have NB245_244 := n12_; clear n0_ n1_ n2_ n3_ n4_ n5_ n6_ n7_ n8_ n9_ n10_ n11_ n12_; clear hb hbox hg; have hnb41 := NB243_242.out; have hnc41 := NB242_243.out; have hnb42 := NB243_244.out; have hnc42 := NB244_243.out; have hnb43 := NB243_245.out; have hnc43 := NB245_243.out; have hcz44_0 : w40.cell? ⟨gb243, 0, none⟩ = some (.int .i64 a1_0) := (kC BK243.out 0).trans rfl; have hcz44_1 : w40.cell? ⟨gb243, 1, none⟩ = some (.int .i64 a1_1) := (kC BK243.out 1).trans rfl; have hcz44_2 : w40.cell? ⟨gb243, 2, none⟩ = some (.int .i64 a1_2) := (kC BK243.out 2).trans rfl; have hcz44_3 : w40.cell? ⟨gb243, 3, none⟩ = some (.int .u32 a1_3) := (kC BK243.out 3).trans rfl; have hfz44_0 := kF BK243.out 0; have hfz44_1 := kF BK243.out 1; have hfz44_2 := kF BK243.out 2; have hfz44_3 := kF BK243.out 3) | ((with_reducible refine gate_callee (f := 50) rfl ?_); refine goesL_ (some 20) rfl rfl Tryd.func50 (by kernel_rfl) rfl #[.agg #[.int .i64 a1_0, .int .i64 a1_1, .int .i64 a1_2, .int .u32 a1_3]] rfl jZ ?_; (with_reducible refine (r02_Alu.calls k a1_0 a1_1 a1_2 a1_3 t246 t247 false _ A4.out).mono ?_); rintro e w45 ⟨rfl, hb⟩; refine ⟨_, rfl, ?_⟩; have n0_ := Aside0.mk (jB BK242 hb); have n1_ := Aside0.mk (jB BK243 hb); have n2_ := Aside0.mk (jB BK244 hb); have n3_ := Aside0.mk (jB BK245 hb); have n4_ := Aside0.mk (zT (jH HB) hb); clear BK242; clear BK243; clear BK244; clear BK245; clear HB; have BK242 := n0_; have BK243 := n1_; have BK244 := n2_; have BK245 := n3_; have HB := n4_; clear n0_ n1_ n2_ n3_ n4_; (try clear hb); (try clear hb2); (try clear hk); (try clear hi)))
  go_loopg [14, 15] k (fun kq v14 v15 w' => ∃ (x14_1 : Int) (x15_1 : Int) (x243002_1 : List Int), v14 = .int .u32 x14_1 ∧ v15 = .int .i64 x15_1 ∧ Aside0 (r06_Step.l0 kq x14_1 x15_1 a0_0 a0_1 x243002_1 a1_0 a1_1 a1_2 a1_3 a2_0 a2_1 a2_2 a2_3 = some (r1, r2, r3, r4)) ∧ Aside0 (kq ≤ k) ∧ Aside0 (w'.heap[gb242]? = some (.cells (arC [.int .u32 a0_0, .int .u32 a0_1] .u32 16 x243002_1) 59 (0, 0))) ∧ Aside0 (w'.heap[gb243]? = some (.cells #[.int .i64 a1_0, .int .i64 a1_1, .int .i64 a1_2, .int .u32 a1_3] 45 (0, 0))) ∧ Aside0 (w'.heap[gb244]? = some (.cells (arC [.int .u32 a2_0, .int .u32 a2_1, .int .u64 a2_2] .u64 6 a2_3) 38 (0, 0))) ∧ Aside0 (w'.heap[gb245]? = some (.cells (arC [.int .u32 0, .int .u32 0] .u32 16 ([] : List Int)) 59 (0, 0))) ∧ Aside0 (Below w.heap.size w w'))
  case atStart => exact ⟨(0), (0), (a0_2), (by first | rfl | (simp; done) | (simp [*]; done) | (congr 1; unfold wrap64; omega)), (by first | rfl | (simp; done) | (simp [*]; done) | (congr 1; unfold wrap64; omega)), H', ⟨Nat.le_refl _⟩, ⟨jK BK242⟩, ⟨jK BK243⟩, ⟨jK BK244⟩, ⟨jK BK245⟩, ⟨jH HB⟩⟩
  case round =>
   clear H'
   obtain ⟨x14_1, x15_1, x243002_1, rfl, rfl, HA, HK1, BK242, BK243, BK244, BK245, HB⟩ := hrel
   cases gk with
   | zero => exact absurd HA.out (by simp [r06_Step.l0])
   | succ k1 =>
    have H := HA.out
    clear HA
    simp only [r06_Step.l0] at H
    by_cases c46 : x15_1 < 16
    ·rw [if_pos c46] at H
     have c46b0 : decide (x15_1 < 16) = true := dT c46
     clear c46
     by_cases c47 : ((x15_1) % 4294967296) = a1_3
     ·rw [if_pos c47] at H
      have c47b0 : (((x15_1) % 4294967296) == a1_3) = true := bI.mpr c47
      have c47b1 : (((x15_1) % 4294967296) != a1_3) = false := nF.mpr c47
      clear c47
      by_cases c48 : 0 ≤ x15_1
      ·rw [if_pos c48] at H
       have c48b0 : decide (0 ≤ x15_1) = true := dT c48
       clear c48
       have HC49 := Aside0.mk H
       clear H
       have hnb50 := NB243_242.out
       have hnc50 := NB242_243.out
       have hnb51 := NB243_244.out
       have hnc51 := NB244_243.out
       have hnb52 := NB243_245.out
       have hnc52 := NB245_243.out
       have hcz53_0 : wr.cell? ⟨gb243, 0, none⟩ = some (.int .i64 a1_0) := (kC BK243.out 0).trans rfl
       have hcz53_1 : wr.cell? ⟨gb243, 1, none⟩ = some (.int .i64 a1_1) := (kC BK243.out 1).trans rfl
       have hcz53_2 : wr.cell? ⟨gb243, 2, none⟩ = some (.int .i64 a1_2) := (kC BK243.out 2).trans rfl
       have hcz53_3 : wr.cell? ⟨gb243, 3, none⟩ = some (.int .u32 a1_3) := (kC BK243.out 3).trans rfl
       have hfz53_0 := kF BK243.out 0
       have hfz53_1 := kF BK243.out 1
       have hfz53_2 := kF BK243.out 2
       have hfz53_3 := kF BK243.out 3
       have hnb54 := NB242_244.out
       have hnc54 := NB244_242.out
       have hnb55 := NB242_245.out
       have hnc55 := NB245_242.out
       have hcz56_0 : wr.cell? ⟨gb242, 0, none⟩ = some (.int .u32 a0_0) := (kC BK242.out 0).trans rfl
       have hcz56_1 : wr.cell? ⟨gb242, 1, none⟩ = some (.int .u32 a0_1) := (kC BK242.out 1).trans rfl
       have hfz56_0 := kF BK242.out 0
       have hfz56_1 := kF BK242.out 1
       have hfz56_2 := kF BK242.out 2
       have pa251 : 0 ≤ (x15_1 : Int) := oD (jA)
       have qa251 : (x15_1 : Int) < 16 := oD (jA)
       have ha251 : wr.cell? ⟨gb242, 2 + (x15_1 : Int).toNat, none⟩ = some (.int .u32 (rd x243002_1 x15_1)) := arC_get BK242.out 2 rfl x15_1 pa251 qa251
       go_upto_if 59 with (fail)
       go_cut [] (fun wc => ∃ (kq : Nat) (x243002_48 : List Int), Aside0 (r06_Step.j2 kq (rd x243002_1 x15_1) x15_1 a0_0 a0_1 x243002_48 a1_0 a1_1 a1_2 a1_3 a2_0 a2_1 a2_2 a2_3 = some (r1, r2, r3, r4)) ∧ Aside0 (kq ≤ k1) ∧ Aside0 (wc.heap[gb242]? = some (.cells (arC [.int .u32 a0_0, .int .u32 a0_1] .u32 16 x243002_48) 59 (0, 0))) ∧ Aside0 (wc.heap[gb243]? = some (.cells #[.int .i64 a1_0, .int .i64 a1_1, .int .i64 a1_2, .int .u32 a1_3] 45 (0, 0))) ∧ Aside0 (wc.heap[gb244]? = some (.cells (arC [.int .u32 a2_0, .int .u32 a2_1, .int .u64 a2_2] .u64 6 a2_3) 38 (0, 0))) ∧ Aside0 (wc.heap[gb245]? = some (.cells (arC [.int .u32 0, .int .u32 0] .u32 16 ([] : List Int)) 59 (0, 0))) ∧ Aside0 (Below w.heap.size w wc))
       case first =>
        have H := HC49.out
        clear HC49
        by_cases c57 : a1_0 = 2
        ·rw [if_pos c57] at H
         have c57b0 : (a1_0 == 2) = true := bI.mpr c57
         have c57b1 : (a1_0 != 2) = false := nF.mpr c57
         clear c57
         (first | rw [c57b0] | (simp only [i64_w, i32_w]; rw [c57b0]) | skip)
         have H' := Aside0.mk H
         clear H
         have hnb58 := NB242_243.out
         have hnc58 := NB243_242.out
         have hnb59 := NB242_244.out
         have hnc59 := NB244_242.out
         have hnb60 := NB242_245.out
         have hnc60 := NB245_242.out
         have hcz61_0 : wr.cell? ⟨gb242, 0, none⟩ = some (.int .u32 a0_0) := (kC BK242.out 0).trans rfl
         have hcz61_1 : wr.cell? ⟨gb242, 1, none⟩ = some (.int .u32 a0_1) := (kC BK242.out 1).trans rfl
         have hfz61_0 := kF BK242.out 0
         have hfz61_1 := kF BK242.out 1
         have hfz61_2 := kF BK242.out 2
         have pa252 : 0 ≤ (x15_1 : Int) := oD (jA)
         have qa252 : (x15_1 : Int) < 16 := oD (jA)
         have hf252_a := kF BK242.out (2 + (x15_1 : Int).toNat)
         obtain ⟨va252, ha252⟩ : ∃ v_, wr.cell? ⟨gb242, 2 + (x15_1 : Int).toNat, none⟩ = some v_ := ⟨_, arC_get BK242.out 2 rfl x15_1 pa252 qa252⟩
         go_wp2_with (first | ((with_reducible refine gate_store (t := 34) (p := 64) rfl ?_); refine store_event (t := 34) (p := 64) (v := ?vo_w62) (w1 := (wr.setCell ⟨gb242, 2 + (x15_1 : Int).toNat, none⟩ (.int .u32 a0_0))) ?hg ?ho ?hn ?hr ?_; (case ho => rfl); (case hg => rfl); (case hn => rfl); (case hr => first | (go_simp; done) | (go_simp; rfl)); intro w62 hw; have n0_ : Aside0 (w62.heap[gb243]? = some (.cells #[.int .i64 a1_0, .int .i64 a1_1, .int .i64 a1_2, .int .u32 a1_3] 45 (0, 0))) := ⟨(by rw [hw]; exact (kR BK243.out (p := ⟨gb242, 2 + (x15_1 : Int).toNat, none⟩) NB243_242.out _))⟩; have n1_ : Aside0 (w62.heap[gb244]? = some (.cells (arC [.int .u32 a2_0, .int .u32 a2_1, .int .u64 a2_2] .u64 6 a2_3) 38 (0, 0))) := ⟨(by rw [hw]; exact (kR BK244.out (p := ⟨gb242, 2 + (x15_1 : Int).toNat, none⟩) NB244_242.out _))⟩; have n2_ : Aside0 (w62.heap[gb245]? = some (.cells (arC [.int .u32 0, .int .u32 0] .u32 16 ([] : List Int)) 59 (0, 0))) := ⟨(by rw [hw]; exact (kR BK245.out (p := ⟨gb242, 2 + (x15_1 : Int).toNat, none⟩) NB245_242.out _))⟩; have n3_ : Aside0 (w62.heap[gb242]? = some (.cells (arC [.int .u32 a0_0, .int .u32 a0_1] .u32 16 (arU 16 x15_1 a0_0 x243002_1)) 59 (0, 0))) := ⟨(by rw [hw]; exact (arC_put BK242.out 2 rfl x15_1 pa252 qa252 a0_0))⟩; have n4_ : Aside0 (Below w.heap.size w w62) := ⟨(by rw [hw]; exact (zS HB.out GE242.out))⟩; clear hw; clear BK243; clear BK244; clear BK245; clear BK242; clear HB; have BK243 := n0_; have BK244 := n1_; have BK245 := n2_; have BK242 := n3_; have HB := n4_; clear n0_ n1_ n2_ n3_ n4_))
         go_meet
         case rel => exact ⟨_, (arU 16 x15_1 a0_0 x243002_1), H', ⟨by have := HK1.out; first | omega | exact Nat.le_refl _⟩, ⟨jK BK242⟩, ⟨jK BK243⟩, ⟨jK BK244⟩, ⟨jK BK245⟩, ⟨jH HB⟩⟩
        ·rw [if_neg c57] at H
         have c57b0 : (a1_0 == 2) = false := bF.mpr c57
         have c57b1 : (a1_0 != 2) = true := nI.mpr c57
         (first | rw [c57b0] | (simp only [i64_w, i32_w]; rw [c57b0]) | skip)
         have H' := Aside0.mk H
         clear H
         go_wp2
         go_meet
         case rel => exact ⟨_, (x243002_1), H', ⟨by have := HK1.out; first | omega | exact Nat.le_refl _⟩, ⟨jK BK242⟩, ⟨jK BK243⟩, ⟨jK BK244⟩, ⟨jK BK245⟩, ⟨jH HB⟩⟩
       case rest =>
        clear HC49
        obtain ⟨kq, x243002_48, HA, HJ48, BK242, BK243, BK244, BK245, HB⟩ := hcut
        cases kq with
        | zero => exact absurd HA.out (by simp [r06_Step.j2])
        | succ kj48 =>
         have H := HA.out
         clear HA
         simp only [r06_Step.j2] at H
         by_cases c63 : a1_0 = 3
         ·rw [if_pos c63] at H
          have c63b0 : (a1_0 == 3) = true := bI.mpr c63
          have c63b1 : (a1_0 != 3) = false := nF.mpr c63
          clear c63
          by_cases c64 : 0 ≤ x15_1
          ·rw [if_pos c64] at H
           have c64b0 : decide (0 ≤ x15_1) = true := dT c64
           clear c64
           by_cases c65 : x15_1 < 16
           ·rw [if_pos c65] at H
            have c65b0 : decide (x15_1 < 16) = true := dT c65
            clear c65
            have H' := Aside0.mk H
            clear H
            have hnb66 := NB243_242.out
            have hnc66 := NB242_243.out
            have hnb67 := NB243_244.out
            have hnc67 := NB244_243.out
            have hnb68 := NB243_245.out
            have hnc68 := NB245_243.out
            have hcz69_0 : wc.cell? ⟨gb243, 0, none⟩ = some (.int .i64 a1_0) := (kC BK243.out 0).trans rfl
            have hcz69_1 : wc.cell? ⟨gb243, 1, none⟩ = some (.int .i64 a1_1) := (kC BK243.out 1).trans rfl
            have hcz69_2 : wc.cell? ⟨gb243, 2, none⟩ = some (.int .i64 a1_2) := (kC BK243.out 2).trans rfl
            have hcz69_3 : wc.cell? ⟨gb243, 3, none⟩ = some (.int .u32 a1_3) := (kC BK243.out 3).trans rfl
            have hfz69_0 := kF BK243.out 0
            have hfz69_1 := kF BK243.out 1
            have hfz69_2 := kF BK243.out 2
            have hfz69_3 := kF BK243.out 3
            have hnb70 := NB242_244.out
            have hnc70 := NB244_242.out
            have hnb71 := NB242_245.out
            have hnc71 := NB245_242.out
            have hcz72_0 : wc.cell? ⟨gb242, 0, none⟩ = some (.int .u32 a0_0) := (kC BK242.out 0).trans rfl
            have hcz72_1 : wc.cell? ⟨gb242, 1, none⟩ = some (.int .u32 a0_1) := (kC BK242.out 1).trans rfl
            have hfz72_0 := kF BK242.out 0
            have hfz72_1 := kF BK242.out 1
            have hfz72_2 := kF BK242.out 2
            have pa253 : 0 ≤ (x15_1 : Int) := oD (jA)
            have qa253 : (x15_1 : Int) < 16 := oD (jA)
            have hf253_a := kF BK242.out (2 + (x15_1 : Int).toNat)
            obtain ⟨va253, ha253⟩ : ∃ v_, wc.cell? ⟨gb242, 2 + (x15_1 : Int).toNat, none⟩ = some v_ := ⟨_, arC_get BK242.out 2 rfl x15_1 pa253 qa253⟩
            go_wp2_with (first | ((with_reducible refine gate_store (t := 34) (p := 72) rfl ?_); refine store_event (t := 34) (p := 72) (v := ?vo_w73) (w1 := (wc.setCell ⟨gb242, 2 + (x15_1 : Int).toNat, none⟩ (.int .u32 a0_1))) ?hg ?ho ?hn ?hr ?_; (case ho => rfl); (case hg => rfl); (case hn => rfl); (case hr => first | (go_simp; done) | (go_simp; rfl)); intro w73 hw; have n0_ : Aside0 (w73.heap[gb243]? = some (.cells #[.int .i64 a1_0, .int .i64 a1_1, .int .i64 a1_2, .int .u32 a1_3] 45 (0, 0))) := ⟨(by rw [hw]; exact (kR BK243.out (p := ⟨gb242, 2 + (x15_1 : Int).toNat, none⟩) NB243_242.out _))⟩; have n1_ : Aside0 (w73.heap[gb244]? = some (.cells (arC [.int .u32 a2_0, .int .u32 a2_1, .int .u64 a2_2] .u64 6 a2_3) 38 (0, 0))) := ⟨(by rw [hw]; exact (kR BK244.out (p := ⟨gb242, 2 + (x15_1 : Int).toNat, none⟩) NB244_242.out _))⟩; have n2_ : Aside0 (w73.heap[gb245]? = some (.cells (arC [.int .u32 0, .int .u32 0] .u32 16 ([] : List Int)) 59 (0, 0))) := ⟨(by rw [hw]; exact (kR BK245.out (p := ⟨gb242, 2 + (x15_1 : Int).toNat, none⟩) NB245_242.out _))⟩; have n3_ : Aside0 (w73.heap[gb242]? = some (.cells (arC [.int .u32 a0_0, .int .u32 a0_1] .u32 16 (arU 16 x15_1 a0_1 x243002_48)) 59 (0, 0))) := ⟨(by rw [hw]; exact (arC_put BK242.out 2 rfl x15_1 pa253 qa253 a0_1))⟩; have n4_ : Aside0 (Below w.heap.size w w73) := ⟨(by rw [hw]; exact (zS HB.out GE242.out))⟩; clear hw; clear BK243; clear BK244; clear BK245; clear BK242; clear HB; have BK243 := n0_; have BK244 := n1_; have BK245 := n2_; have BK242 := n3_; have HB := n4_; clear n0_ n1_ n2_ n3_ n4_))
            go_roundg kj48
            case measure => have := HK1.out; have := HJ48.out; omega
            case rel => exact ⟨((rd x243002_1 x15_1)), (wrap64 (x15_1 + 1)), (arU 16 x15_1 a0_1 x243002_48), (by first | rfl | (simp; done) | (simp [*]; done) | (congr 1; unfold wrap64; omega)), (by first | rfl | (simp; done) | (simp [*]; done) | (congr 1; unfold wrap64; omega)), H', ⟨by have := HK1.out; have := HJ48.out; omega⟩, ⟨jK BK242⟩, ⟨jK BK243⟩, ⟨jK BK244⟩, ⟨jK BK245⟩, ⟨jH HB⟩⟩
           ·rw [if_neg c65] at H
            exact absurd H (by simp)
          ·rw [if_neg c64] at H
           exact absurd H (by simp)
         ·rw [if_neg c63] at H
          have c63b0 : (a1_0 == 3) = false := bF.mpr c63
          have c63b1 : (a1_0 != 3) = true := nI.mpr c63
          have H' := Aside0.mk H
          clear H
          have hnb74 := NB243_242.out
          have hnc74 := NB242_243.out
          have hnb75 := NB243_244.out
          have hnc75 := NB244_243.out
          have hnb76 := NB243_245.out
          have hnc76 := NB245_243.out
          have hcz77_0 : wc.cell? ⟨gb243, 0, none⟩ = some (.int .i64 a1_0) := (kC BK243.out 0).trans rfl
          have hcz77_1 : wc.cell? ⟨gb243, 1, none⟩ = some (.int .i64 a1_1) := (kC BK243.out 1).trans rfl
          have hcz77_2 : wc.cell? ⟨gb243, 2, none⟩ = some (.int .i64 a1_2) := (kC BK243.out 2).trans rfl
          have hcz77_3 : wc.cell? ⟨gb243, 3, none⟩ = some (.int .u32 a1_3) := (kC BK243.out 3).trans rfl
          have hfz77_0 := kF BK243.out 0
          have hfz77_1 := kF BK243.out 1
          have hfz77_2 := kF BK243.out 2
          have hfz77_3 := kF BK243.out 3
          go_wp2
          go_roundg kj48
          case measure => have := HK1.out; have := HJ48.out; omega
          case rel => exact ⟨((rd x243002_1 x15_1)), (wrap64 (x15_1 + 1)), (x243002_48), (by first | rfl | (simp; done) | (simp [*]; done) | (congr 1; unfold wrap64; omega)), (by first | rfl | (simp; done) | (simp [*]; done) | (congr 1; unfold wrap64; omega)), H', ⟨by have := HK1.out; have := HJ48.out; omega⟩, ⟨jK BK242⟩, ⟨jK BK243⟩, ⟨jK BK244⟩, ⟨jK BK245⟩, ⟨jH HB⟩⟩
      ·rw [if_neg c48] at H
       exact absurd H (by simp)
     ·rw [if_neg c47] at H
      have c47b0 : (((x15_1) % 4294967296) == a1_3) = false := bF.mpr c47
      have c47b1 : (((x15_1) % 4294967296) != a1_3) = true := nI.mpr c47
      have H' := Aside0.mk H
      clear H
      have hnb78 := NB243_242.out
      have hnc78 := NB242_243.out
      have hnb79 := NB243_244.out
      have hnc79 := NB244_243.out
      have hnb80 := NB243_245.out
      have hnc80 := NB245_243.out
      have hcz81_0 : wr.cell? ⟨gb243, 0, none⟩ = some (.int .i64 a1_0) := (kC BK243.out 0).trans rfl
      have hcz81_1 : wr.cell? ⟨gb243, 1, none⟩ = some (.int .i64 a1_1) := (kC BK243.out 1).trans rfl
      have hcz81_2 : wr.cell? ⟨gb243, 2, none⟩ = some (.int .i64 a1_2) := (kC BK243.out 2).trans rfl
      have hcz81_3 : wr.cell? ⟨gb243, 3, none⟩ = some (.int .u32 a1_3) := (kC BK243.out 3).trans rfl
      have hfz81_0 := kF BK243.out 0
      have hfz81_1 := kF BK243.out 1
      have hfz81_2 := kF BK243.out 2
      have hfz81_3 := kF BK243.out 3
      go_wp2
      go_roundg k1
      case measure => have := HK1.out; omega
      case rel => exact ⟨(x14_1), (wrap64 (x15_1 + 1)), (x243002_1), (by first | rfl | (simp; done) | (simp [*]; done) | (congr 1; unfold wrap64; omega)), (by first | rfl | (simp; done) | (simp [*]; done) | (congr 1; unfold wrap64; omega)), H', ⟨by have := HK1.out; omega⟩, ⟨jK BK242⟩, ⟨jK BK243⟩, ⟨jK BK244⟩, ⟨jK BK245⟩, ⟨jH HB⟩⟩
    ·rw [if_neg c46] at H
     have c46b0 : decide (x15_1 < 16) = false := dF c46
     clear c46
     by_cases c82 : a1_0 = 0
     ·rw [if_pos c82] at H
      have c82b0 : (a1_0 == 0) = true := bI.mpr c82
      have c82b1 : (a1_0 != 0) = false := nF.mpr c82
      clear c82
      simp only [Option.some.injEq, Prod.mk.injEq] at H
      obtain ⟨rfl, rfl, rfl, rfl⟩ := H
      have hnb83 := NB243_242.out
      have hnc83 := NB242_243.out
      have hnb84 := NB243_244.out
      have hnc84 := NB244_243.out
      have hnb85 := NB243_245.out
      have hnc85 := NB245_243.out
      have hcz86_0 : wr.cell? ⟨gb243, 0, none⟩ = some (.int .i64 a1_0) := (kC BK243.out 0).trans rfl
      have hcz86_1 : wr.cell? ⟨gb243, 1, none⟩ = some (.int .i64 a1_1) := (kC BK243.out 1).trans rfl
      have hcz86_2 : wr.cell? ⟨gb243, 2, none⟩ = some (.int .i64 a1_2) := (kC BK243.out 2).trans rfl
      have hcz86_3 : wr.cell? ⟨gb243, 3, none⟩ = some (.int .u32 a1_3) := (kC BK243.out 3).trans rfl
      have hfz86_0 := kF BK243.out 0
      have hfz86_1 := kF BK243.out 1
      have hfz86_2 := kF BK243.out 2
      have hfz86_3 := kF BK243.out 3
      have hnb87 := NB242_244.out
      have hnc87 := NB244_242.out
      have hnb88 := NB242_245.out
      have hnc88 := NB245_242.out
      have hcz89_0 : wr.cell? ⟨gb242, 0, none⟩ = some (.int .u32 a0_0) := (kC BK242.out 0).trans rfl
      have hcz89_1 : wr.cell? ⟨gb242, 1, none⟩ = some (.int .u32 a0_1) := (kC BK242.out 1).trans rfl
      have hfz89_0 := kF BK242.out 0
      have hfz89_1 := kF BK242.out 1
      have hfz89_2 := kF BK242.out 2
      go_wp2_with (first | ((with_reducible refine gate_dst (N := 120) rfl ?_); refine wpList_load_row rfl 59 (.tmp 3) rfl gb242 rfl 59 (arC [.int .u32 a1_3, .int .u32 a0_1] .u32 16 x243002_1) (0, 0) _ (by (with_reducible repeat (first | refine kN ?_ _ | refine kD ?_ | refine kA ?_ _)); refine kP (cs := (arC [.int .u32 a0_0, .int .u32 a0_1] .u32 16 x243002_1)) ?_ 0 _ rfl; (with_reducible repeat (first | refine kN ?_ _ | refine kD ?_ | refine kA ?_ _)); exact BK242.out) Tryd.underlying59 rfl (by kernel_rfl) ?_) | ((with_reducible refine gate_store (t := 59) (p := 6) rfl ?_); refine stw_event rfl 59 (.tmp 6) _ rfl rfl gb245 (arC [.int .u32 a1_3, .int .u32 a0_1] .u32 16 x243002_1) rfl rfl 59 (arC [.int .u32 0, .int .u32 0] .u32 16 ([] : List Int)) (by (with_reducible repeat (first | refine kN ?_ _ | refine kD ?_ | refine kA ?_ _)); refine kR ?_ NB245_242.out _; (with_reducible repeat (first | refine kN ?_ _ | refine kD ?_ | refine kA ?_ _)); exact BK245.out) (by kernel_rfl) (by kernel_rfl) (arC_one rfl) ?_; intro w90 hw1_ hw2_ hw3_; have n0_ : Aside0 (w90.heap[gb242]? = some (.cells (arC [.int .u32 a1_3, .int .u32 a0_1] .u32 16 x243002_1) 59 (0, 0))) := ⟨hw2_ _ _ NB242_245.out (by (with_reducible repeat (first | refine kN ?_ _ | refine kD ?_ | refine kA ?_ _)); refine kP (cs := (arC [.int .u32 a0_0, .int .u32 a0_1] .u32 16 x243002_1)) ?_ 0 _ rfl; (with_reducible repeat (first | refine kN ?_ _ | refine kD ?_ | refine kA ?_ _)); exact BK242.out)⟩; have n1_ : Aside0 (w90.heap[gb243]? = some (.cells #[.int .i64 a1_0, .int .i64 a1_1, .int .i64 a1_2, .int .u32 a1_3] 45 (0, 0))) := ⟨hw2_ _ _ NB243_245.out (by (with_reducible repeat (first | refine kN ?_ _ | refine kD ?_ | refine kA ?_ _)); refine kR ?_ NB243_242.out _; (with_reducible repeat (first | refine kN ?_ _ | refine kD ?_ | refine kA ?_ _)); exact BK243.out)⟩; have n2_ : Aside0 (w90.heap[gb244]? = some (.cells (arC [.int .u32 a2_0, .int .u32 a2_1, .int .u64 a2_2] .u64 6 a2_3) 38 (0, 0))) := ⟨hw2_ _ _ NB244_245.out (by (with_reducible repeat (first | refine kN ?_ _ | refine kD ?_ | refine kA ?_ _)); refine kR ?_ NB244_242.out _; (with_reducible repeat (first | refine kN ?_ _ | refine kD ?_ | refine kA ?_ _)); exact BK244.out)⟩; have n3_ : Aside0 (w90.heap[gb245]? = some (.cells (arC [.int .u32 a1_3, .int .u32 a0_1] .u32 16 x243002_1) 59 (0, 0))) := ⟨hw1_⟩; have n4_ : Aside0 (Below w.heap.size w w90) := ⟨hw3_ _ _ (jH HB) GE245.out⟩; clear hw1_ hw2_ hw3_; clear BK242; clear BK243; clear BK244; clear BK245; clear HB; have BK242 := n0_; have BK243 := n1_; have BK244 := n2_; have BK245 := n3_; have HB := n4_; clear n0_ n1_ n2_ n3_ n4_))
      refine bodyPost_ret (results_ct rfl _ _ gb245 59 (arC [.int .u32 a1_3, .int .u32 a0_1] .u32 16 x243002_1) (0, 0) _ rfl (jK BK245) Tryd.underlying59 rfl (by kernel_rfl)) rfl ?_
      exact ⟨jE, jH HB⟩
     ·rw [if_neg c82] at H
      have c82b0 : (a1_0 == 0) = false := bF.mpr c82
      have c82b1 : (a1_0 != 0) = true := nI.mpr c82
      by_cases c91 : a1_0 = 1
      ·rw [if_pos c91] at H
       have c91b0 : (a1_0 == 1) = true := bI.mpr c91
       have c91b1 : (a1_0 != 1) = false := nF.mpr c91
       clear c91
       simp only [Option.some.injEq, Prod.mk.injEq] at H
       obtain ⟨rfl, rfl, rfl, rfl⟩ := H
       have hnb92 := NB243_242.out
       have hnc92 := NB242_243.out
       have hnb93 := NB243_244.out
       have hnc93 := NB244_243.out
       have hnb94 := NB243_245.out
       have hnc94 := NB245_243.out
       have hcz95_0 : wr.cell? ⟨gb243, 0, none⟩ = some (.int .i64 a1_0) := (kC BK243.out 0).trans rfl
       have hcz95_1 : wr.cell? ⟨gb243, 1, none⟩ = some (.int .i64 a1_1) := (kC BK243.out 1).trans rfl
       have hcz95_2 : wr.cell? ⟨gb243, 2, none⟩ = some (.int .i64 a1_2) := (kC BK243.out 2).trans rfl
       have hcz95_3 : wr.cell? ⟨gb243, 3, none⟩ = some (.int .u32 a1_3) := (kC BK243.out 3).trans rfl
       have hfz95_0 := kF BK243.out 0
       have hfz95_1 := kF BK243.out 1
       have hfz95_2 := kF BK243.out 2
       have hfz95_3 := kF BK243.out 3
       have hnb96 := NB242_244.out
       have hnc96 := NB244_242.out
       have hnb97 := NB242_245.out
       have hnc97 := NB245_242.out
       have hcz98_0 : wr.cell? ⟨gb242, 0, none⟩ = some (.int .u32 a0_0) := (kC BK242.out 0).trans rfl
       have hcz98_1 : wr.cell? ⟨gb242, 1, none⟩ = some (.int .u32 a0_1) := (kC BK242.out 1).trans rfl
       have hfz98_0 := kF BK242.out 0
       have hfz98_1 := kF BK242.out 1
       have hfz98_2 := kF BK242.out 2
       go_wp2_with (first | ((with_reducible refine gate_dst (N := 120) rfl ?_); refine wpList_load_row rfl 59 (.tmp 3) rfl gb242 rfl 59 (arC [.int .u32 a0_0, .int .u32 a1_3] .u32 16 x243002_1) (0, 0) _ (by (with_reducible repeat (first | refine kN ?_ _ | refine kD ?_ | refine kA ?_ _)); refine kP (cs := (arC [.int .u32 a0_0, .int .u32 a0_1] .u32 16 x243002_1)) ?_ 1 _ rfl; (with_reducible repeat (first | refine kN ?_ _ | refine kD ?_ | refine kA ?_ _)); exact BK242.out) Tryd.underlying59 rfl (by kernel_rfl) ?_) | ((with_reducible refine gate_store (t := 59) (p := 6) rfl ?_); refine stw_event rfl 59 (.tmp 6) _ rfl rfl gb245 (arC [.int .u32 a0_0, .int .u32 a1_3] .u32 16 x243002_1) rfl rfl 59 (arC [.int .u32 0, .int .u32 0] .u32 16 ([] : List Int)) (by (with_reducible repeat (first | refine kN ?_ _ | refine kD ?_ | refine kA ?_ _)); refine kR ?_ NB245_242.out _; (with_reducible repeat (first | refine kN ?_ _ | refine kD ?_ | refine kA ?_ _)); exact BK245.out) (by kernel_rfl) (by kernel_rfl) (arC_one rfl) ?_; intro w99 hw1_ hw2_ hw3_; have n0_ : Aside0 (w99.heap[gb242]? = some (.cells (arC [.int .u32 a0_0, .int .u32 a1_3] .u32 16 x243002_1) 59 (0, 0))) := ⟨hw2_ _ _ NB242_245.out (by (with_reducible repeat (first | refine kN ?_ _ | refine kD ?_ | refine kA ?_ _)); refine kP (cs := (arC [.int .u32 a0_0, .int .u32 a0_1] .u32 16 x243002_1)) ?_ 1 _ rfl; (with_reducible repeat (first | refine kN ?_ _ | refine kD ?_ | refine kA ?_ _)); exact BK242.out)⟩; have n1_ : Aside0 (w99.heap[gb243]? = some (.cells #[.int .i64 a1_0, .int .i64 a1_1, .int .i64 a1_2, .int .u32 a1_3] 45 (0, 0))) := ⟨hw2_ _ _ NB243_245.out (by (with_reducible repeat (first | refine kN ?_ _ | refine kD ?_ | refine kA ?_ _)); refine kR ?_ NB243_242.out _; (with_reducible repeat (first | refine kN ?_ _ | refine kD ?_ | refine kA ?_ _)); exact BK243.out)⟩; have n2_ : Aside0 (w99.heap[gb244]? = some (.cells (arC [.int .u32 a2_0, .int .u32 a2_1, .int .u64 a2_2] .u64 6 a2_3) 38 (0, 0))) := ⟨hw2_ _ _ NB244_245.out (by (with_reducible repeat (first | refine kN ?_ _ | refine kD ?_ | refine kA ?_ _)); refine kR ?_ NB244_242.out _; (with_reducible repeat (first | refine kN ?_ _ | refine kD ?_ | refine kA ?_ _)); exact BK244.out)⟩; have n3_ : Aside0 (w99.heap[gb245]? = some (.cells (arC [.int .u32 a0_0, .int .u32 a1_3] .u32 16 x243002_1) 59 (0, 0))) := ⟨hw1_⟩; have n4_ : Aside0 (Below w.heap.size w w99) := ⟨hw3_ _ _ (jH HB) GE245.out⟩; clear hw1_ hw2_ hw3_; clear BK242; clear BK243; clear BK244; clear BK245; clear HB; have BK242 := n0_; have BK243 := n1_; have BK244 := n2_; have BK245 := n3_; have HB := n4_; clear n0_ n1_ n2_ n3_ n4_))
       refine bodyPost_ret (results_ct rfl _ _ gb245 59 (arC [.int .u32 a0_0, .int .u32 a1_3] .u32 16 x243002_1) (0, 0) _ rfl (jK BK245) Tryd.underlying59 rfl (by kernel_rfl)) rfl ?_
       exact ⟨jE, jH HB⟩
      ·rw [if_neg c91] at H
       have c91b0 : (a1_0 == 1) = false := bF.mpr c91
       have c91b1 : (a1_0 != 1) = true := nI.mpr c91
       by_cases c100 : a1_0 = 32
       ·rw [if_pos c100] at H
        have c100b0 : (a1_0 == 32) = true := bI.mpr c100
        have c100b1 : (a1_0 != 32) = false := nF.mpr c100
        clear c100
        replace H := Option.bind_eq_some_iff.mp H
        obtain ⟨⟨t254, t255⟩, A1010, H⟩ := H
        try dsimp only at H
        have A101 := Aside0.mk A1010
        clear A1010
        simp only [Option.some.injEq, Prod.mk.injEq] at H
        obtain ⟨rfl, rfl, rfl, rfl⟩ := H
        have hnb102 := NB243_242.out
        have hnc102 := NB242_243.out
        have hnb103 := NB243_244.out
        have hnc103 := NB244_243.out
        have hnb104 := NB243_245.out
        have hnc104 := NB245_243.out
        have hcz105_0 : wr.cell? ⟨gb243, 0, none⟩ = some (.int .i64 a1_0) := (kC BK243.out 0).trans rfl
        have hcz105_1 : wr.cell? ⟨gb243, 1, none⟩ = some (.int .i64 a1_1) := (kC BK243.out 1).trans rfl
        have hcz105_2 : wr.cell? ⟨gb243, 2, none⟩ = some (.int .i64 a1_2) := (kC BK243.out 2).trans rfl
        have hcz105_3 : wr.cell? ⟨gb243, 3, none⟩ = some (.int .u32 a1_3) := (kC BK243.out 3).trans rfl
        have hfz105_0 := kF BK243.out 0
        have hfz105_1 := kF BK243.out 1
        have hfz105_2 := kF BK243.out 2
        have hfz105_3 := kF BK243.out 3
        go_wp2_with (first | ((with_reducible refine gate_dst (N := 88) rfl ?_); refine wpList_load_row rfl 38 (.tmp 5) rfl gb244 rfl 38 (arC [.int .u32 a2_0, .int .u32 a2_1, .int .u64 a2_2] .u64 6 a2_3) (0, 0) _ (jK BK244) Tryd.underlying38 rfl (by kernel_rfl) ?_) | ((with_reducible refine gate_callee (f := 51) rfl ?_); refine goesL_ (some 91) rfl rfl Tryd.func51 (by kernel_rfl) rfl #[.agg (arC [.int .u32 a2_0, .int .u32 a2_1, .int .u64 a2_2] .u64 6 a2_3), .int .u32 a1_3] rfl jZ ?_; (with_reducible refine (r04_Word.calls k1 a2_0 a2_1 a2_2 a2_3 a1_3 t254 t255 _ A101.out).mono ?_); rintro e w106 ⟨rfl, hb⟩; refine ⟨_, rfl, ?_⟩; have n0_ := Aside0.mk (jB BK242 hb); have n1_ := Aside0.mk (jB BK243 hb); have n2_ := Aside0.mk (jB BK244 hb); have n3_ := Aside0.mk (jB BK245 hb); have n4_ := Aside0.mk (zT (jH HB) hb); clear BK242; clear BK243; clear BK244; clear BK245; clear HB; have BK242 := n0_; have BK243 := n1_; have BK244 := n2_; have BK245 := n3_; have HB := n4_; clear n0_ n1_ n2_ n3_ n4_; (try clear hb); (try clear hb2); (try clear hk); (try clear hi); have hnb107 := NB242_244.out; have hnc107 := NB244_242.out; have hnb108 := NB242_245.out; have hnc108 := NB245_242.out; have hcz109_0 : w106.cell? ⟨gb242, 0, none⟩ = some (.int .u32 a0_0) := (kC BK242.out 0).trans rfl; have hcz109_1 : w106.cell? ⟨gb242, 1, none⟩ = some (.int .u32 a0_1) := (kC BK242.out 1).trans rfl; have hfz109_0 := kF BK242.out 0; have hfz109_1 := kF BK242.out 1; have hfz109_2 := kF BK242.out 2) | ((with_reducible refine gate_dst (N := 120) rfl ?_); refine wpList_load_row rfl 59 (.tmp 3) rfl gb242 rfl 59 (arC [.int .u32 t254, .int .u32 a0_1] .u32 16 x243002_1) (0, 0) _ (by (with_reducible repeat (first | refine kN ?_ _ | refine kD ?_ | refine kA ?_ _)); refine kP (cs := (arC [.int .u32 a0_0, .int .u32 a0_1] .u32 16 x243002_1)) ?_ 0 _ rfl; (with_reducible repeat (first | refine kN ?_ _ | refine kD ?_ | refine kA ?_ _)); exact BK242.out) Tryd.underlying59 rfl (by kernel_rfl) ?_) | ((with_reducible refine gate_store (t := 59) (p := 6) rfl ?_); refine stw_event rfl 59 (.tmp 6) _ rfl rfl gb245 (arC [.int .u32 t254, .int .u32 a0_1] .u32 16 x243002_1) rfl rfl 59 (arC [.int .u32 0, .int .u32 0] .u32 16 ([] : List Int)) (by (with_reducible repeat (first | refine kN ?_ _ | refine kD ?_ | refine kA ?_ _)); refine kR ?_ NB245_242.out _; (with_reducible repeat (first | refine kN ?_ _ | refine kD ?_ | refine kA ?_ _)); exact BK245.out) (by kernel_rfl) (by kernel_rfl) (arC_one rfl) ?_; intro w110 hw1_ hw2_ hw3_; have n0_ : Aside0 (w110.heap[gb242]? = some (.cells (arC [.int .u32 t254, .int .u32 a0_1] .u32 16 x243002_1) 59 (0, 0))) := ⟨hw2_ _ _ NB242_245.out (by (with_reducible repeat (first | refine kN ?_ _ | refine kD ?_ | refine kA ?_ _)); refine kP (cs := (arC [.int .u32 a0_0, .int .u32 a0_1] .u32 16 x243002_1)) ?_ 0 _ rfl; (with_reducible repeat (first | refine kN ?_ _ | refine kD ?_ | refine kA ?_ _)); exact BK242.out)⟩; have n1_ : Aside0 (w110.heap[gb243]? = some (.cells #[.int .i64 a1_0, .int .i64 a1_1, .int .i64 a1_2, .int .u32 a1_3] 45 (0, 0))) := ⟨hw2_ _ _ NB243_245.out (by (with_reducible repeat (first | refine kN ?_ _ | refine kD ?_ | refine kA ?_ _)); refine kR ?_ NB243_242.out _; (with_reducible repeat (first | refine kN ?_ _ | refine kD ?_ | refine kA ?_ _)); exact BK243.out)⟩; have n2_ : Aside0 (w110.heap[gb244]? = some (.cells (arC [.int .u32 a2_0, .int .u32 a2_1, .int .u64 a2_2] .u64 6 a2_3) 38 (0, 0))) := ⟨hw2_ _ _ NB244_245.out (by (with_reducible repeat (first | refine kN ?_ _ | refine kD ?_ | refine kA ?_ _)); refine kR ?_ NB244_242.out _; (with_reducible repeat (first | refine kN ?_ _ | refine kD ?_ | refine kA ?_ _)); exact BK244.out)⟩; have n3_ : Aside0 (w110.heap[gb245]? = some (.cells (arC [.int .u32 t254, .int .u32 a0_1] .u32 16 x243002_1) 59 (0, 0))) := ⟨hw1_⟩; have n4_ : Aside0 (Below w.heap.size w w110) := ⟨hw3_ _ _ (jH HB) GE245.out⟩; clear hw1_ hw2_ hw3_; clear BK242; clear BK243; clear BK244; clear BK245; clear HB; have BK242 := n0_; have BK243 := n1_; have BK244 := n2_; have BK245 := n3_; have HB := n4_; clear n0_ n1_ n2_ n3_ n4_))
        refine bodyPost_ret (results_ct rfl _ _ gb245 59 (arC [.int .u32 t254, .int .u32 a0_1] .u32 16 x243002_1) (0, 0) _ rfl (jK BK245) Tryd.underlying59 rfl (by kernel_rfl)) rfl ?_
        exact ⟨jE, jH HB⟩
       ·rw [if_neg c100] at H
        have c100b0 : (a1_0 == 32) = false := bF.mpr c100
        have c100b1 : (a1_0 != 32) = true := nI.mpr c100
        by_cases c111 : a1_0 = 96
        ·rw [if_pos c111] at H
         have c111b0 : (a1_0 == 96) = true := bI.mpr c111
         have c111b1 : (a1_0 != 96) = false := nF.mpr c111
         clear c111
         simp only [Option.some.injEq, Prod.mk.injEq] at H
         obtain ⟨rfl, rfl, rfl, rfl⟩ := H
         have hnb112 := NB243_242.out
         have hnc112 := NB242_243.out
         have hnb113 := NB243_244.out
         have hnc113 := NB244_243.out
         have hnb114 := NB243_245.out
         have hnc114 := NB245_243.out
         have hcz115_0 : wr.cell? ⟨gb243, 0, none⟩ = some (.int .i64 a1_0) := (kC BK243.out 0).trans rfl
         have hcz115_1 : wr.cell? ⟨gb243, 1, none⟩ = some (.int .i64 a1_1) := (kC BK243.out 1).trans rfl
         have hcz115_2 : wr.cell? ⟨gb243, 2, none⟩ = some (.int .i64 a1_2) := (kC BK243.out 2).trans rfl
         have hcz115_3 : wr.cell? ⟨gb243, 3, none⟩ = some (.int .u32 a1_3) := (kC BK243.out 3).trans rfl
         have hfz115_0 := kF BK243.out 0
         have hfz115_1 := kF BK243.out 1
         have hfz115_2 := kF BK243.out 2
         have hfz115_3 := kF BK243.out 3
         have hnb116 := NB242_244.out
         have hnc116 := NB244_242.out
         have hnb117 := NB242_245.out
         have hnc117 := NB245_242.out
         have hcz118_0 : wr.cell? ⟨gb242, 0, none⟩ = some (.int .u32 a0_0) := (kC BK242.out 0).trans rfl
         have hcz118_1 : wr.cell? ⟨gb242, 1, none⟩ = some (.int .u32 a0_1) := (kC BK242.out 1).trans rfl
         have hfz118_0 := kF BK242.out 0
         have hfz118_1 := kF BK242.out 1
         have hfz118_2 := kF BK242.out 2
         go_wp2_with (first | ((with_reducible refine gate_dst (N := 120) rfl ?_); refine wpList_load_row rfl 59 (.tmp 3) rfl gb242 rfl 59 (arC [.int .u32 x14_1, .int .u32 a0_1] .u32 16 x243002_1) (0, 0) _ (by (with_reducible repeat (first | refine kN ?_ _ | refine kD ?_ | refine kA ?_ _)); refine kP (cs := (arC [.int .u32 a0_0, .int .u32 a0_1] .u32 16 x243002_1)) ?_ 0 _ rfl; (with_reducible repeat (first | refine kN ?_ _ | refine kD ?_ | refine kA ?_ _)); exact BK242.out) Tryd.underlying59 rfl (by kernel_rfl) ?_) | ((with_reducible refine gate_store (t := 59) (p := 6) rfl ?_); refine stw_event rfl 59 (.tmp 6) _ rfl rfl gb245 (arC [.int .u32 x14_1, .int .u32 a0_1] .u32 16 x243002_1) rfl rfl 59 (arC [.int .u32 0, .int .u32 0] .u32 16 ([] : List Int)) (by (with_reducible repeat (first | refine kN ?_ _ | refine kD ?_ | refine kA ?_ _)); refine kR ?_ NB245_242.out _; (with_reducible repeat (first | refine kN ?_ _ | refine kD ?_ | refine kA ?_ _)); exact BK245.out) (by kernel_rfl) (by kernel_rfl) (arC_one rfl) ?_; intro w119 hw1_ hw2_ hw3_; have n0_ : Aside0 (w119.heap[gb242]? = some (.cells (arC [.int .u32 x14_1, .int .u32 a0_1] .u32 16 x243002_1) 59 (0, 0))) := ⟨hw2_ _ _ NB242_245.out (by (with_reducible repeat (first | refine kN ?_ _ | refine kD ?_ | refine kA ?_ _)); refine kP (cs := (arC [.int .u32 a0_0, .int .u32 a0_1] .u32 16 x243002_1)) ?_ 0 _ rfl; (with_reducible repeat (first | refine kN ?_ _ | refine kD ?_ | refine kA ?_ _)); exact BK242.out)⟩; have n1_ : Aside0 (w119.heap[gb243]? = some (.cells #[.int .i64 a1_0, .int .i64 a1_1, .int .i64 a1_2, .int .u32 a1_3] 45 (0, 0))) := ⟨hw2_ _ _ NB243_245.out (by (with_reducible repeat (first | refine kN ?_ _ | refine kD ?_ | refine kA ?_ _)); refine kR ?_ NB243_242.out _; (with_reducible repeat (first | refine kN ?_ _ | refine kD ?_ | refine kA ?_ _)); exact BK243.out)⟩; have n2_ : Aside0 (w119.heap[gb244]? = some (.cells (arC [.int .u32 a2_0, .int .u32 a2_1, .int .u64 a2_2] .u64 6 a2_3) 38 (0, 0))) := ⟨hw2_ _ _ NB244_245.out (by (with_reducible repeat (first | refine kN ?_ _ | refine kD ?_ | refine kA ?_ _)); refine kR ?_ NB244_242.out _; (with_reducible repeat (first | refine kN ?_ _ | refine kD ?_ | refine kA ?_ _)); exact BK244.out)⟩; have n3_ : Aside0 (w119.heap[gb245]? = some (.cells (arC [.int .u32 x14_1, .int .u32 a0_1] .u32 16 x243002_1) 59 (0, 0))) := ⟨hw1_⟩; have n4_ : Aside0 (Below w.heap.size w w119) := ⟨hw3_ _ _ (jH HB) GE245.out⟩; clear hw1_ hw2_ hw3_; clear BK242; clear BK243; clear BK244; clear BK245; clear HB; have BK242 := n0_; have BK243 := n1_; have BK244 := n2_; have BK245 := n3_; have HB := n4_; clear n0_ n1_ n2_ n3_ n4_))
         refine bodyPost_ret (results_ct rfl _ _ gb245 59 (arC [.int .u32 x14_1, .int .u32 a0_1] .u32 16 x243002_1) (0, 0) _ rfl (jK BK245) Tryd.underlying59 rfl (by kernel_rfl)) rfl ?_
         exact ⟨jE, jH HB⟩
        ·rw [if_neg c111] at H
         have c111b0 : (a1_0 == 96) = false := bF.mpr c111
         have c111b1 : (a1_0 != 96) = true := nI.mpr c111
         by_cases c120 : a1_0 = 97
         ·rw [if_pos c120] at H
          have c120b0 : (a1_0 == 97) = true := bI.mpr c120
          have c120b1 : (a1_0 != 97) = false := nF.mpr c120
          clear c120
          simp only [Option.some.injEq, Prod.mk.injEq] at H
          obtain ⟨rfl, rfl, rfl, rfl⟩ := H
          have hnb121 := NB243_242.out
          have hnc121 := NB242_243.out
          have hnb122 := NB243_244.out
          have hnc122 := NB244_243.out
          have hnb123 := NB243_245.out
          have hnc123 := NB245_243.out
          have hcz124_0 : wr.cell? ⟨gb243, 0, none⟩ = some (.int .i64 a1_0) := (kC BK243.out 0).trans rfl
          have hcz124_1 : wr.cell? ⟨gb243, 1, none⟩ = some (.int .i64 a1_1) := (kC BK243.out 1).trans rfl
          have hcz124_2 : wr.cell? ⟨gb243, 2, none⟩ = some (.int .i64 a1_2) := (kC BK243.out 2).trans rfl
          have hcz124_3 : wr.cell? ⟨gb243, 3, none⟩ = some (.int .u32 a1_3) := (kC BK243.out 3).trans rfl
          have hfz124_0 := kF BK243.out 0
          have hfz124_1 := kF BK243.out 1
          have hfz124_2 := kF BK243.out 2
          have hfz124_3 := kF BK243.out 3
          have hnb125 := NB242_244.out
          have hnc125 := NB244_242.out
          have hnb126 := NB242_245.out
          have hnc126 := NB245_242.out
          have hcz127_0 : wr.cell? ⟨gb242, 0, none⟩ = some (.int .u32 a0_0) := (kC BK242.out 0).trans rfl
          have hcz127_1 : wr.cell? ⟨gb242, 1, none⟩ = some (.int .u32 a0_1) := (kC BK242.out 1).trans rfl
          have hfz127_0 := kF BK242.out 0
          have hfz127_1 := kF BK242.out 1
          have hfz127_2 := kF BK242.out 2
          go_wp2_with (first | ((with_reducible refine gate_dst (N := 120) rfl ?_); refine wpList_load_row rfl 59 (.tmp 3) rfl gb242 rfl 59 (arC [.int .u32 a0_0, .int .u32 x14_1] .u32 16 x243002_1) (0, 0) _ (by (with_reducible repeat (first | refine kN ?_ _ | refine kD ?_ | refine kA ?_ _)); refine kP (cs := (arC [.int .u32 a0_0, .int .u32 a0_1] .u32 16 x243002_1)) ?_ 1 _ rfl; (with_reducible repeat (first | refine kN ?_ _ | refine kD ?_ | refine kA ?_ _)); exact BK242.out) Tryd.underlying59 rfl (by kernel_rfl) ?_) | ((with_reducible refine gate_store (t := 59) (p := 6) rfl ?_); refine stw_event rfl 59 (.tmp 6) _ rfl rfl gb245 (arC [.int .u32 a0_0, .int .u32 x14_1] .u32 16 x243002_1) rfl rfl 59 (arC [.int .u32 0, .int .u32 0] .u32 16 ([] : List Int)) (by (with_reducible repeat (first | refine kN ?_ _ | refine kD ?_ | refine kA ?_ _)); refine kR ?_ NB245_242.out _; (with_reducible repeat (first | refine kN ?_ _ | refine kD ?_ | refine kA ?_ _)); exact BK245.out) (by kernel_rfl) (by kernel_rfl) (arC_one rfl) ?_; intro w128 hw1_ hw2_ hw3_; have n0_ : Aside0 (w128.heap[gb242]? = some (.cells (arC [.int .u32 a0_0, .int .u32 x14_1] .u32 16 x243002_1) 59 (0, 0))) := ⟨hw2_ _ _ NB242_245.out (by (with_reducible repeat (first | refine kN ?_ _ | refine kD ?_ | refine kA ?_ _)); refine kP (cs := (arC [.int .u32 a0_0, .int .u32 a0_1] .u32 16 x243002_1)) ?_ 1 _ rfl; (with_reducible repeat (first | refine kN ?_ _ | refine kD ?_ | refine kA ?_ _)); exact BK242.out)⟩; have n1_ : Aside0 (w128.heap[gb243]? = some (.cells #[.int .i64 a1_0, .int .i64 a1_1, .int .i64 a1_2, .int .u32 a1_3] 45 (0, 0))) := ⟨hw2_ _ _ NB243_245.out (by (with_reducible repeat (first | refine kN ?_ _ | refine kD ?_ | refine kA ?_ _)); refine kR ?_ NB243_242.out _; (with_reducible repeat (first | refine kN ?_ _ | refine kD ?_ | refine kA ?_ _)); exact BK243.out)⟩; have n2_ : Aside0 (w128.heap[gb244]? = some (.cells (arC [.int .u32 a2_0, .int .u32 a2_1, .int .u64 a2_2] .u64 6 a2_3) 38 (0, 0))) := ⟨hw2_ _ _ NB244_245.out (by (with_reducible repeat (first | refine kN ?_ _ | refine kD ?_ | refine kA ?_ _)); refine kR ?_ NB244_242.out _; (with_reducible repeat (first | refine kN ?_ _ | refine kD ?_ | refine kA ?_ _)); exact BK244.out)⟩; have n3_ : Aside0 (w128.heap[gb245]? = some (.cells (arC [.int .u32 a0_0, .int .u32 x14_1] .u32 16 x243002_1) 59 (0, 0))) := ⟨hw1_⟩; have n4_ : Aside0 (Below w.heap.size w w128) := ⟨hw3_ _ _ (jH HB) GE245.out⟩; clear hw1_ hw2_ hw3_; clear BK242; clear BK243; clear BK244; clear BK245; clear HB; have BK242 := n0_; have BK243 := n1_; have BK244 := n2_; have BK245 := n3_; have HB := n4_; clear n0_ n1_ n2_ n3_ n4_))
          refine bodyPost_ret (results_ct rfl _ _ gb245 59 (arC [.int .u32 a0_0, .int .u32 x14_1] .u32 16 x243002_1) (0, 0) _ rfl (jK BK245) Tryd.underlying59 rfl (by kernel_rfl)) rfl ?_
          exact ⟨jE, jH HB⟩
         ·rw [if_neg c120] at H
          have c120b0 : (a1_0 == 97) = false := bF.mpr c120
          have c120b1 : (a1_0 != 97) = true := nI.mpr c120
          by_cases c129 : a1_0 = 7
          ·rw [if_pos c129] at H
           have c129b0 : (a1_0 == 7) = true := bI.mpr c129
           have c129b1 : (a1_0 != 7) = false := nF.mpr c129
           clear c129
           simp only [Option.some.injEq, Prod.mk.injEq] at H
           obtain ⟨rfl, rfl, rfl, rfl⟩ := H
           have hnb130 := NB243_242.out
           have hnc130 := NB242_243.out
           have hnb131 := NB243_244.out
           have hnc131 := NB244_243.out
           have hnb132 := NB243_245.out
           have hnc132 := NB245_243.out
           have hcz133_0 : wr.cell? ⟨gb243, 0, none⟩ = some (.int .i64 a1_0) := (kC BK243.out 0).trans rfl
           have hcz133_1 : wr.cell? ⟨gb243, 1, none⟩ = some (.int .i64 a1_1) := (kC BK243.out 1).trans rfl
           have hcz133_2 : wr.cell? ⟨gb243, 2, none⟩ = some (.int .i64 a1_2) := (kC BK243.out 2).trans rfl
           have hcz133_3 : wr.cell? ⟨gb243, 3, none⟩ = some (.int .u32 a1_3) := (kC BK243.out 3).trans rfl
           have hfz133_0 := kF BK243.out 0
           have hfz133_1 := kF BK243.out 1
           have hfz133_2 := kF BK243.out 2
           have hfz133_3 := kF BK243.out 3
           have hnb134 := NB242_244.out
           have hnc134 := NB244_242.out
           have hnb135 := NB242_245.out
           have hnc135 := NB245_242.out
           have hcz136_0 : wr.cell? ⟨gb242, 0, none⟩ = some (.int .u32 a0_0) := (kC BK242.out 0).trans rfl
           have hcz136_1 : wr.cell? ⟨gb242, 1, none⟩ = some (.int .u32 a0_1) := (kC BK242.out 1).trans rfl
           have hfz136_0 := kF BK242.out 0
           have hfz136_1 := kF BK242.out 1
           have hfz136_2 := kF BK242.out 2
           go_wp2_with (first | ((with_reducible refine gate_dst (N := 120) rfl ?_); refine wpList_load_row rfl 59 (.tmp 3) rfl gb242 rfl 59 (arC [.int .u32 a0_0, .int .u32 a0_0] .u32 16 x243002_1) (0, 0) _ (by (with_reducible repeat (first | refine kN ?_ _ | refine kD ?_ | refine kA ?_ _)); refine kP (cs := (arC [.int .u32 a0_0, .int .u32 a0_1] .u32 16 x243002_1)) ?_ 1 _ rfl; (with_reducible repeat (first | refine kN ?_ _ | refine kD ?_ | refine kA ?_ _)); exact BK242.out) Tryd.underlying59 rfl (by kernel_rfl) ?_) | ((with_reducible refine gate_store (t := 59) (p := 6) rfl ?_); refine stw_event rfl 59 (.tmp 6) _ rfl rfl gb245 (arC [.int .u32 a0_0, .int .u32 a0_0] .u32 16 x243002_1) rfl rfl 59 (arC [.int .u32 0, .int .u32 0] .u32 16 ([] : List Int)) (by (with_reducible repeat (first | refine kN ?_ _ | refine kD ?_ | refine kA ?_ _)); refine kR ?_ NB245_242.out _; (with_reducible repeat (first | refine kN ?_ _ | refine kD ?_ | refine kA ?_ _)); exact BK245.out) (by kernel_rfl) (by kernel_rfl) (arC_one rfl) ?_; intro w137 hw1_ hw2_ hw3_; have n0_ : Aside0 (w137.heap[gb242]? = some (.cells (arC [.int .u32 a0_0, .int .u32 a0_0] .u32 16 x243002_1) 59 (0, 0))) := ⟨hw2_ _ _ NB242_245.out (by (with_reducible repeat (first | refine kN ?_ _ | refine kD ?_ | refine kA ?_ _)); refine kP (cs := (arC [.int .u32 a0_0, .int .u32 a0_1] .u32 16 x243002_1)) ?_ 1 _ rfl; (with_reducible repeat (first | refine kN ?_ _ | refine kD ?_ | refine kA ?_ _)); exact BK242.out)⟩; have n1_ : Aside0 (w137.heap[gb243]? = some (.cells #[.int .i64 a1_0, .int .i64 a1_1, .int .i64 a1_2, .int .u32 a1_3] 45 (0, 0))) := ⟨hw2_ _ _ NB243_245.out (by (with_reducible repeat (first | refine kN ?_ _ | refine kD ?_ | refine kA ?_ _)); refine kR ?_ NB243_242.out _; (with_reducible repeat (first | refine kN ?_ _ | refine kD ?_ | refine kA ?_ _)); exact BK243.out)⟩; have n2_ : Aside0 (w137.heap[gb244]? = some (.cells (arC [.int .u32 a2_0, .int .u32 a2_1, .int .u64 a2_2] .u64 6 a2_3) 38 (0, 0))) := ⟨hw2_ _ _ NB244_245.out (by (with_reducible repeat (first | refine kN ?_ _ | refine kD ?_ | refine kA ?_ _)); refine kR ?_ NB244_242.out _; (with_reducible repeat (first | refine kN ?_ _ | refine kD ?_ | refine kA ?_ _)); exact BK244.out)⟩; have n3_ : Aside0 (w137.heap[gb245]? = some (.cells (arC [.int .u32 a0_0, .int .u32 a0_0] .u32 16 x243002_1) 59 (0, 0))) := ⟨hw1_⟩; have n4_ : Aside0 (Below w.heap.size w w137) := ⟨hw3_ _ _ (jH HB) GE245.out⟩; clear hw1_ hw2_ hw3_; clear BK242; clear BK243; clear BK244; clear BK245; clear HB; have BK242 := n0_; have BK243 := n1_; have BK244 := n2_; have BK245 := n3_; have HB := n4_; clear n0_ n1_ n2_ n3_ n4_))
           refine bodyPost_ret (results_ct rfl _ _ gb245 59 (arC [.int .u32 a0_0, .int .u32 a0_0] .u32 16 x243002_1) (0, 0) _ rfl (jK BK245) Tryd.underlying59 rfl (by kernel_rfl)) rfl ?_
           exact ⟨jE, jH HB⟩
          ·rw [if_neg c129] at H
           have c129b0 : (a1_0 == 7) = false := bF.mpr c129
           have c129b1 : (a1_0 != 7) = true := nI.mpr c129
           by_cases c138 : a1_0 = 135
           ·rw [if_pos c138] at H
            have c138b0 : (a1_0 == 135) = true := bI.mpr c138
            have c138b1 : (a1_0 != 135) = false := nF.mpr c138
            clear c138
            simp only [Option.some.injEq, Prod.mk.injEq] at H
            obtain ⟨rfl, rfl, rfl, rfl⟩ := H
            have hnb139 := NB243_242.out
            have hnc139 := NB242_243.out
            have hnb140 := NB243_244.out
            have hnc140 := NB244_243.out
            have hnb141 := NB243_245.out
            have hnc141 := NB245_243.out
            have hcz142_0 : wr.cell? ⟨gb243, 0, none⟩ = some (.int .i64 a1_0) := (kC BK243.out 0).trans rfl
            have hcz142_1 : wr.cell? ⟨gb243, 1, none⟩ = some (.int .i64 a1_1) := (kC BK243.out 1).trans rfl
            have hcz142_2 : wr.cell? ⟨gb243, 2, none⟩ = some (.int .i64 a1_2) := (kC BK243.out 2).trans rfl
            have hcz142_3 : wr.cell? ⟨gb243, 3, none⟩ = some (.int .u32 a1_3) := (kC BK243.out 3).trans rfl
            have hfz142_0 := kF BK243.out 0
            have hfz142_1 := kF BK243.out 1
            have hfz142_2 := kF BK243.out 2
            have hfz142_3 := kF BK243.out 3
            have hnb143 := NB242_244.out
            have hnc143 := NB244_242.out
            have hnb144 := NB242_245.out
            have hnc144 := NB245_242.out
            have hcz145_0 : wr.cell? ⟨gb242, 0, none⟩ = some (.int .u32 a0_0) := (kC BK242.out 0).trans rfl
            have hcz145_1 : wr.cell? ⟨gb242, 1, none⟩ = some (.int .u32 a0_1) := (kC BK242.out 1).trans rfl
            have hfz145_0 := kF BK242.out 0
            have hfz145_1 := kF BK242.out 1
            have hfz145_2 := kF BK242.out 2
            go_wp2_with (first | ((with_reducible refine gate_dst (N := 120) rfl ?_); refine wpList_load_row rfl 59 (.tmp 3) rfl gb242 rfl 59 (arC [.int .u32 a0_1, .int .u32 a0_1] .u32 16 x243002_1) (0, 0) _ (by (with_reducible repeat (first | refine kN ?_ _ | refine kD ?_ | refine kA ?_ _)); refine kP (cs := (arC [.int .u32 a0_0, .int .u32 a0_1] .u32 16 x243002_1)) ?_ 0 _ rfl; (with_reducible repeat (first | refine kN ?_ _ | refine kD ?_ | refine kA ?_ _)); exact BK242.out) Tryd.underlying59 rfl (by kernel_rfl) ?_) | ((with_reducible refine gate_store (t := 59) (p := 6) rfl ?_); refine stw_event rfl 59 (.tmp 6) _ rfl rfl gb245 (arC [.int .u32 a0_1, .int .u32 a0_1] .u32 16 x243002_1) rfl rfl 59 (arC [.int .u32 0, .int .u32 0] .u32 16 ([] : List Int)) (by (with_reducible repeat (first | refine kN ?_ _ | refine kD ?_ | refine kA ?_ _)); refine kR ?_ NB245_242.out _; (with_reducible repeat (first | refine kN ?_ _ | refine kD ?_ | refine kA ?_ _)); exact BK245.out) (by kernel_rfl) (by kernel_rfl) (arC_one rfl) ?_; intro w146 hw1_ hw2_ hw3_; have n0_ : Aside0 (w146.heap[gb242]? = some (.cells (arC [.int .u32 a0_1, .int .u32 a0_1] .u32 16 x243002_1) 59 (0, 0))) := ⟨hw2_ _ _ NB242_245.out (by (with_reducible repeat (first | refine kN ?_ _ | refine kD ?_ | refine kA ?_ _)); refine kP (cs := (arC [.int .u32 a0_0, .int .u32 a0_1] .u32 16 x243002_1)) ?_ 0 _ rfl; (with_reducible repeat (first | refine kN ?_ _ | refine kD ?_ | refine kA ?_ _)); exact BK242.out)⟩; have n1_ : Aside0 (w146.heap[gb243]? = some (.cells #[.int .i64 a1_0, .int .i64 a1_1, .int .i64 a1_2, .int .u32 a1_3] 45 (0, 0))) := ⟨hw2_ _ _ NB243_245.out (by (with_reducible repeat (first | refine kN ?_ _ | refine kD ?_ | refine kA ?_ _)); refine kR ?_ NB243_242.out _; (with_reducible repeat (first | refine kN ?_ _ | refine kD ?_ | refine kA ?_ _)); exact BK243.out)⟩; have n2_ : Aside0 (w146.heap[gb244]? = some (.cells (arC [.int .u32 a2_0, .int .u32 a2_1, .int .u64 a2_2] .u64 6 a2_3) 38 (0, 0))) := ⟨hw2_ _ _ NB244_245.out (by (with_reducible repeat (first | refine kN ?_ _ | refine kD ?_ | refine kA ?_ _)); refine kR ?_ NB244_242.out _; (with_reducible repeat (first | refine kN ?_ _ | refine kD ?_ | refine kA ?_ _)); exact BK244.out)⟩; have n3_ : Aside0 (w146.heap[gb245]? = some (.cells (arC [.int .u32 a0_1, .int .u32 a0_1] .u32 16 x243002_1) 59 (0, 0))) := ⟨hw1_⟩; have n4_ : Aside0 (Below w.heap.size w w146) := ⟨hw3_ _ _ (jH HB) GE245.out⟩; clear hw1_ hw2_ hw3_; clear BK242; clear BK243; clear BK244; clear BK245; clear HB; have BK242 := n0_; have BK243 := n1_; have BK244 := n2_; have BK245 := n3_; have HB := n4_; clear n0_ n1_ n2_ n3_ n4_))
            refine bodyPost_ret (results_ct rfl _ _ gb245 59 (arC [.int .u32 a0_1, .int .u32 a0_1] .u32 16 x243002_1) (0, 0) _ rfl (jK BK245) Tryd.underlying59 rfl (by kernel_rfl)) rfl ?_
            exact ⟨jE, jH HB⟩
           ·rw [if_neg c138] at H
            have c138b0 : (a1_0 == 135) = false := bF.mpr c138
            have c138b1 : (a1_0 != 135) = true := nI.mpr c138
            by_cases c147 : a1_0 = 132
            ·rw [if_pos c147] at H
             have c147b0 : (a1_0 == 132) = true := bI.mpr c147
             have c147b1 : (a1_0 != 132) = false := nF.mpr c147
             clear c147
             replace H := Option.bind_eq_some_iff.mp H
             obtain ⟨t256, A1480, H⟩ := H
             try dsimp only at H
             have A148 := Aside0.mk A1480
             clear A1480
             simp only [Option.some.injEq, Prod.mk.injEq] at H
             obtain ⟨rfl, rfl, rfl, rfl⟩ := H
             have hnb149 := NB243_242.out
             have hnc149 := NB242_243.out
             have hnb150 := NB243_244.out
             have hnc150 := NB244_243.out
             have hnb151 := NB243_245.out
             have hnc151 := NB245_243.out
             have hcz152_0 : wr.cell? ⟨gb243, 0, none⟩ = some (.int .i64 a1_0) := (kC BK243.out 0).trans rfl
             have hcz152_1 : wr.cell? ⟨gb243, 1, none⟩ = some (.int .i64 a1_1) := (kC BK243.out 1).trans rfl
             have hcz152_2 : wr.cell? ⟨gb243, 2, none⟩ = some (.int .i64 a1_2) := (kC BK243.out 2).trans rfl
             have hcz152_3 : wr.cell? ⟨gb243, 3, none⟩ = some (.int .u32 a1_3) := (kC BK243.out 3).trans rfl
             have hfz152_0 := kF BK243.out 0
             have hfz152_1 := kF BK243.out 1
             have hfz152_2 := kF BK243.out 2
             have hfz152_3 := kF BK243.out 3
             have hnb153 := NB242_244.out
             have hnc153 := NB244_242.out
             have hnb154 := NB242_245.out
             have hnc154 := NB245_242.out
             have hcz155_0 : wr.cell? ⟨gb242, 0, none⟩ = some (.int .u32 a0_0) := (kC BK242.out 0).trans rfl
             have hcz155_1 : wr.cell? ⟨gb242, 1, none⟩ = some (.int .u32 a0_1) := (kC BK242.out 1).trans rfl
             have hfz155_0 := kF BK242.out 0
             have hfz155_1 := kF BK242.out 1
             have hfz155_2 := kF BK242.out 2
             go_wp2_with (first | ((with_reducible refine gate_callee (f := 52) rfl ?_); refine goesL_ (some 118) rfl rfl Tryd.func52 (by kernel_rfl) rfl #[.int .u32 a0_0] rfl jZ ?_; (with_reducible refine (r01_Neg.calls a0_0 t256 _ A148.out).mono ?_); rintro e w' ⟨rfl, ⟨nd, rfl⟩⟩; refine ⟨_, rfl, ?_⟩; (try (rw [drewN_self wr]; generalize hq_ : World.drewN wr _ = wr; have n0_ : Aside0 (wr.heap[gb242]? = some (.cells (arC [.int .u32 a0_0, .int .u32 a0_1] .u32 16 x243002_1) 59 (0, 0))) := ⟨by rw [← hq_]; exact (jK BK242)⟩; have n1_ : Aside0 (wr.heap[gb243]? = some (.cells #[.int .i64 a1_0, .int .i64 a1_1, .int .i64 a1_2, .int .u32 a1_3] 45 (0, 0))) := ⟨by rw [← hq_]; exact (jK BK243)⟩; have n2_ : Aside0 (wr.heap[gb244]? = some (.cells (arC [.int .u32 a2_0, .int .u32 a2_1, .int .u64 a2_2] .u64 6 a2_3) 38 (0, 0))) := ⟨by rw [← hq_]; exact (jK BK244)⟩; have n3_ : Aside0 (wr.heap[gb245]? = some (.cells (arC [.int .u32 0, .int .u32 0] .u32 16 ([] : List Int)) 59 (0, 0))) := ⟨by rw [← hq_]; exact (jK BK245)⟩; have n4_ : Aside0 (Below w.heap.size w wr) := ⟨by rw [← hq_]; exact (jH HB)⟩; clear BK242 BK243 BK244 BK245 HB hq_; have BK242 := n0_; have BK243 := n1_; have BK244 := n2_; have BK245 := n3_; have HB := n4_; clear n0_ n1_ n2_ n3_ n4_; have hqn0_ := kF BK242.out 0; have hqn1_ := kF BK242.out 1; have hqm0_ : wr.cell? ⟨gb242, 0, none⟩ = some (.int .u32 a0_0) := (kC BK242.out 0).trans rfl; have hqm1_ : wr.cell? ⟨gb242, 1, none⟩ = some (.int .u32 a0_1) := (kC BK242.out 1).trans rfl))) | ((with_reducible refine gate_dst (N := 120) rfl ?_); refine wpList_load_row rfl 59 (.tmp 3) rfl gb242 rfl 59 (arC [.int .u32 t256, .int .u32 a0_1] .u32 16 x243002_1) (0, 0) _ (by (with_reducible repeat (first | refine kN ?_ _ | refine kD ?_ | refine kA ?_ _)); refine kP (cs := (arC [.int .u32 a0_0, .int .u32 a0_1] .u32 16 x243002_1)) ?_ 0 _ rfl; (with_reducible repeat (first | refine kN ?_ _ | refine kD ?_ | refine kA ?_ _)); exact BK242.out) Tryd.underlying59 rfl (by kernel_rfl) ?_) | ((with_reducible refine gate_store (t := 59) (p := 6) rfl ?_); refine stw_event rfl 59 (.tmp 6) _ rfl rfl gb245 (arC [.int .u32 t256, .int .u32 a0_1] .u32 16 x243002_1) rfl rfl 59 (arC [.int .u32 0, .int .u32 0] .u32 16 ([] : List Int)) (by (with_reducible repeat (first | refine kN ?_ _ | refine kD ?_ | refine kA ?_ _)); refine kR ?_ NB245_242.out _; (with_reducible repeat (first | refine kN ?_ _ | refine kD ?_ | refine kA ?_ _)); exact BK245.out) (by kernel_rfl) (by kernel_rfl) (arC_one rfl) ?_; intro w156 hw1_ hw2_ hw3_; have n0_ : Aside0 (w156.heap[gb242]? = some (.cells (arC [.int .u32 t256, .int .u32 a0_1] .u32 16 x243002_1) 59 (0, 0))) := ⟨hw2_ _ _ NB242_245.out (by (with_reducible repeat (first | refine kN ?_ _ | refine kD ?_ | refine kA ?_ _)); refine kP (cs := (arC [.int .u32 a0_0, .int .u32 a0_1] .u32 16 x243002_1)) ?_ 0 _ rfl; (with_reducible repeat (first | refine kN ?_ _ | refine kD ?_ | refine kA ?_ _)); exact BK242.out)⟩; have n1_ : Aside0 (w156.heap[gb243]? = some (.cells #[.int .i64 a1_0, .int .i64 a1_1, .int .i64 a1_2, .int .u32 a1_3] 45 (0, 0))) := ⟨hw2_ _ _ NB243_245.out (by (with_reducible repeat (first | refine kN ?_ _ | refine kD ?_ | refine kA ?_ _)); refine kR ?_ NB243_242.out _; (with_reducible repeat (first | refine kN ?_ _ | refine kD ?_ | refine kA ?_ _)); exact BK243.out)⟩; have n2_ : Aside0 (w156.heap[gb244]? = some (.cells (arC [.int .u32 a2_0, .int .u32 a2_1, .int .u64 a2_2] .u64 6 a2_3) 38 (0, 0))) := ⟨hw2_ _ _ NB244_245.out (by (with_reducible repeat (first | refine kN ?_ _ | refine kD ?_ | refine kA ?_ _)); refine kR ?_ NB244_242.out _; (with_reducible repeat (first | refine kN ?_ _ | refine kD ?_ | refine kA ?_ _)); exact BK244.out)⟩; have n3_ : Aside0 (w156.heap[gb245]? = some (.cells (arC [.int .u32 t256, .int .u32 a0_1] .u32 16 x243002_1) 59 (0, 0))) := ⟨hw1_⟩; have n4_ : Aside0 (Below w.heap.size w w156) := ⟨hw3_ _ _ (jH HB) GE245.out⟩; clear hw1_ hw2_ hw3_; clear BK242; clear BK243; clear BK244; clear BK245; clear HB; have BK242 := n0_; have BK243 := n1_; have BK244 := n2_; have BK245 := n3_; have HB := n4_; clear n0_ n1_ n2_ n3_ n4_))
             refine bodyPost_ret (results_ct rfl _ _ gb245 59 (arC [.int .u32 t256, .int .u32 a0_1] .u32 16 x243002_1) (0, 0) _ rfl (jK BK245) Tryd.underlying59 rfl (by kernel_rfl)) rfl ?_
             exact ⟨jE, jH HB⟩
            ·rw [if_neg c147] at H
             have c147b0 : (a1_0 == 132) = false := bF.mpr c147
             have c147b1 : (a1_0 != 132) = true := nI.mpr c147
             simp only [Option.some.injEq, Prod.mk.injEq] at H
             obtain ⟨rfl, rfl, rfl, rfl⟩ := H
             have hnb157 := NB243_242.out
             have hnc157 := NB242_243.out
             have hnb158 := NB243_244.out
             have hnc158 := NB244_243.out
             have hnb159 := NB243_245.out
             have hnc159 := NB245_243.out
             have hcz160_0 : wr.cell? ⟨gb243, 0, none⟩ = some (.int .i64 a1_0) := (kC BK243.out 0).trans rfl
             have hcz160_1 : wr.cell? ⟨gb243, 1, none⟩ = some (.int .i64 a1_1) := (kC BK243.out 1).trans rfl
             have hcz160_2 : wr.cell? ⟨gb243, 2, none⟩ = some (.int .i64 a1_2) := (kC BK243.out 2).trans rfl
             have hcz160_3 : wr.cell? ⟨gb243, 3, none⟩ = some (.int .u32 a1_3) := (kC BK243.out 3).trans rfl
             have hfz160_0 := kF BK243.out 0
             have hfz160_1 := kF BK243.out 1
             have hfz160_2 := kF BK243.out 2
             have hfz160_3 := kF BK243.out 3
             go_wp2_with (first | ((with_reducible refine gate_dst (N := 120) rfl ?_); refine wpList_load_row rfl 59 (.tmp 3) rfl gb242 rfl 59 (arC [.int .u32 a0_0, .int .u32 a0_1] .u32 16 x243002_1) (0, 0) _ (jK BK242) Tryd.underlying59 rfl (by kernel_rfl) ?_) | ((with_reducible refine gate_store (t := 59) (p := 6) rfl ?_); refine stw_event rfl 59 (.tmp 6) _ rfl rfl gb245 (arC [.int .u32 a0_0, .int .u32 a0_1] .u32 16 x243002_1) rfl rfl 59 (arC [.int .u32 0, .int .u32 0] .u32 16 ([] : List Int)) (jK BK245) (by kernel_rfl) (by kernel_rfl) (arC_one rfl) ?_; intro w161 hw1_ hw2_ hw3_; have n0_ : Aside0 (w161.heap[gb242]? = some (.cells (arC [.int .u32 a0_0, .int .u32 a0_1] .u32 16 x243002_1) 59 (0, 0))) := ⟨hw2_ _ _ NB242_245.out (jK BK242)⟩; have n1_ : Aside0 (w161.heap[gb243]? = some (.cells #[.int .i64 a1_0, .int .i64 a1_1, .int .i64 a1_2, .int .u32 a1_3] 45 (0, 0))) := ⟨hw2_ _ _ NB243_245.out (jK BK243)⟩; have n2_ : Aside0 (w161.heap[gb244]? = some (.cells (arC [.int .u32 a2_0, .int .u32 a2_1, .int .u64 a2_2] .u64 6 a2_3) 38 (0, 0))) := ⟨hw2_ _ _ NB244_245.out (jK BK244)⟩; have n3_ : Aside0 (w161.heap[gb245]? = some (.cells (arC [.int .u32 a0_0, .int .u32 a0_1] .u32 16 x243002_1) 59 (0, 0))) := ⟨hw1_⟩; have n4_ : Aside0 (Below w.heap.size w w161) := ⟨hw3_ _ _ (jH HB) GE245.out⟩; clear hw1_ hw2_ hw3_; clear BK242; clear BK243; clear BK244; clear BK245; clear HB; have BK242 := n0_; have BK243 := n1_; have BK244 := n2_; have BK245 := n3_; have HB := n4_; clear n0_ n1_ n2_ n3_ n4_))
             refine bodyPost_ret (results_ct rfl _ _ gb245 59 (arC [.int .u32 a0_0, .int .u32 a0_1] .u32 16 x243002_1) (0, 0) _ rfl (jK BK245) Tryd.underlying59 rfl (by kernel_rfl)) rfl ?_
             exact ⟨jE, jH HB⟩
end Go.Proofs.YtohpbjnihmcelaaDoor.M
