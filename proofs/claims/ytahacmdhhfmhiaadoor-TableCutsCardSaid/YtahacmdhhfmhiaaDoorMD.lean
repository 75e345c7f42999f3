/- What Go functions compute; their calls come to it. No condition. -/
import Derived.Test.YtahacmdhhfmhiaaDoorM0
import Derived.Test.YtahacmdhhfmhiaaDoorMC
namespace Go.Proofs.YtahacmdhhfmhiaaDoor.M
open Go.RowKit Go.Proofs.YtahacmdhhfmhiaaDoorW.PrintWords Go.Proofs.YtahacmdhhfmhiaaDoorW.PrintLast Go.Proofs.YtahacmdhhfmhiaaDoorW.PrintMore
attribute [local go_sem] max2_int min2_int max_two min_two max_three min_three max_four min_four   -- for this text's walks alone
set_option linter.unusedVariables false
set_option linter.unusedSimpArgs false
def table_rule.l0 : Nat → List Int → Int → Int → Option ((List (S59)) × (List (S59)) × Int × List Int × Bool)
 | 0, _, _, _ => none
 | k + 1, x0, x15, x246002 => if x15 < 4 then (if 0 ≤ x15 then (if x15 < (x0.length : Int) then (if 0 ≤ (wrap64 (8 * x15)) then (table_rule.l0 k x0 (wrap64 (x15 + 1)) (Go.bits .or .u32 x246002 (shl .u32 ((rd x0 x15) % 4294967296) (wrap64 (8 * x15))))) else (none)) else (none)) else (none)) else (if 4 < (x0.length : Int) then (if 5 < (x0.length : Int) then (if 6 ≤ (x0.length : Int) then ((some (x0.drop 6 : List Int)).bind fun y249 => (if (y249.length : Int) < (wrap64 ((wrap64 (8 * (wrap64 (rd x0 4)))) + (wrap64 (8 * (wrap64 (rd x0 5)))))) then (some (([] : List (S59)), ([] : List (S59)), 0, ([] : List Int), false)) else (if 0 ≤ (wrap64 (8 * (wrap64 (rd x0 4)))) then (if (wrap64 (8 * (wrap64 (rd x0 4)))) ≤ (y249.length : Int) then ((codec_Decode.f k (y249.take ((wrap64 (8 * (wrap64 (rd x0 4)))) : Int).toNat)).bind fun bt259 => (if (wrap64 (8 * (wrap64 (rd x0 4)))) ≤ (wrap64 ((wrap64 (8 * (wrap64 (rd x0 4)))) + (wrap64 (8 * (wrap64 (rd x0 5)))))) then (if (wrap64 ((wrap64 (8 * (wrap64 (rd x0 4)))) + (wrap64 (8 * (wrap64 (rd x0 5)))))) ≤ (y249.length : Int) then ((codec_Decode.f k ((y249.take ((wrap64 ((wrap64 (8 * (wrap64 (rd x0 4)))) + (wrap64 (8 * (wrap64 (rd x0 5)))))) : Int).toNat).drop ((wrap64 (8 * (wrap64 (rd x0 4)))) : Int).toNat)).bind fun bt268 => (if 0 ≤ (wrap64 ((wrap64 (8 * (wrap64 (rd x0 4)))) + (wrap64 (8 * (wrap64 (rd x0 5)))))) then ((some (y249.drop ((wrap64 ((wrap64 (8 * (wrap64 (rd x0 4)))) + (wrap64 (8 * (wrap64 (rd x0 5)))))) : Int).toNat : List Int)).bind fun y272 => (if bt259.2 = 0 then (some (bt259.1, bt268.1, x246002, y272, (bt268.2 == 0))) else (some (bt259.1, bt268.1, x246002, y272, false)))) else (none))) else (none)) else (none))) else (none)) else (none)))) else (none)) else (none)) else (none))
def table_rule.f (k : Nat) (l0 : List Int) : Option ((List (S59)) × (List (S59)) × Int × List Int × Bool) := if (l0.length : Int) < 6 then (some (([] : List (S59)), ([] : List (S59)), 0, ([] : List Int), false)) else (table_rule.l0 k l0 0 0)
def table_rule.T7 : Bool × List (List Nat × List Nat) := (true, [([], []), ([0], [0]), ([], []), ([], []), ([2, 3], [2, 3]), ([4], [4]), ([5], [5]), ([], []), ([7], [7]), ([6, 8], [6, 8]), ([1, 9], [1, 9]), ([0, 1, 2, 3, 4, 5, 6, 7, 8, 9, 10], []), ([11, 10, 0, 1, 2, 3, 4, 5, 6, 7, 8, 9, 10], [10, 11])])
def table_rule.B7 : List Nat := [0, 1, 0, 0, 12, 28, 60, 0, 128, 508, 1023, 2047, 4095]
theorem table_rule.tab7 : rtab .any (opsOf Tryd.f35 7) = table_rule.T7 := by kernel_rfl
theorem table_rule.bits7 : waitsOk table_rule.T7.2 table_rule.B7 = true := by kernel_rfl
def table_rule.T9 : Bool × List (List Nat × List Nat) := (true, [([], []), ([0], [0]), ([1], [1]), ([2], [2]), ([3], [3]), ([], []), ([5], [5]), ([6], [6]), ([7], [7]), ([8], [8]), ([4, 0, 1, 2, 3, 4], [4]), ([9, 10, 0, 1, 2, 3, 4, 5, 6, 7, 8, 9, 10], [9])])
def table_rule.B9 : List Nat := [0, 1, 3, 7, 15, 0, 32, 96, 224, 480, 31, 2047]
theorem table_rule.tab9 : rtab .any (opsOf Tryd.f35 9) = table_rule.T9 := by kernel_rfl
theorem table_rule.bits9 : waitsOk table_rule.T9.2 table_rule.B9 = true := by kernel_rfl
def table_rule.T16 : Bool × List (List Nat × List Nat) := (true, [([], []), ([], []), ([], []), ([], []), ([2, 3], [2, 3]), ([1, 4], [1, 4]), ([], []), ([6], [6]), ([7], [7]), ([8], [8]), ([9, 8], [8, 9]), ([8, 10], [8, 10]), ([0, 8, 0], [0]), ([5, 12, 0, 1, 2, 3, 4, 5, 12], [5]), ([11, 13, 0, 1, 2, 3, 4, 5, 6, 7, 8, 9, 10, 11, 12, 13], [11])])
def table_rule.B16 : List Nat := [0, 0, 0, 0, 12, 30, 0, 64, 192, 448, 960, 1984, 449, 4607, 16383]
theorem table_rule.tab16 : rtab .any (opsOf Tryd.f35 16) = table_rule.T16 := by kernel_rfl
theorem table_rule.bits16 : waitsOk table_rule.T16.2 table_rule.B16 = true := by kernel_rfl
set_option maxHeartbeats 8000000 in
set_option maxRecDepth 100000 in
theorem table_rule.calls (k : Nat) (P0_ : Nat → Prop) (A0 : Option Addr) (c0 : Nat) (l0 : List Int) (r1 : List (S59)) (r2 : List (S59)) (r3 : Int) (r4 : List Int) (r5 : Bool) (w : World) (hs0 : Kd.V (Kd.int .u8) 5 w w.heap.size (fun k_ => P0_ k_) (.slice A0 l0.length c0) l0) (hG : Glob w) (h : table_rule.f k l0 = some (r1, r2, r3, r4, r5)) :
  Calls Tryd.prog 35 #[.slice A0 l0.length c0] w fun e w' => ∃ v0_ v1_ v3_ : Value, e = .returned (.tuple #[.agg #[v0_, v1_, .int .u32 r3], v3_, .bool r5]) ∧ Kd.R k59 59 w' w.heap.size (fun k_ => (w.heap.size ≤ k_) ∧ some k_ ≠ (v1_ : Value).ownBlock) v0_ r1 ∧ Kd.R k59 59 w' w.heap.size (fun k_ => (w.heap.size ≤ k_) ∧ some k_ ≠ (v0_ : Value).ownBlock) v1_ r2 ∧ Kd.V (Kd.int .u8) 5 w' w.heap.size (fun k_ => (P0_ k_ ∨ w.heap.size ≤ k_) ∧ some k_ ≠ (v0_ : Value).ownBlock ∧ some k_ ≠ (v1_ : Value).ownBlock) v3_ r4 ∧ Below w.heap.size w w' := by
 have hu42 := Tryd.underlying42
 have HG := Aside0.mk hG
 clear hG
 have HO0 := Aside0.mk (show Kd.V (Kd.int .u8) 5 w w.heap.size (fun k_ => (P0_ k_ ∨ w.heap.size ≤ k_)) (.slice A0 l0.length c0) l0 from Kd.V_mono hs0 (fun k_ hk => .inl hk))
 have HB := Aside0.mk (Below.refl w.heap.size w)
 have H : (if (l0.length : Int) < 6 then (some (([] : List (S59)), ([] : List (S59)), 0, ([] : List Int), false)) else (table_rule.l0 k l0 0 0)) = some (r1, r2, r3, r4, r5) := h
 clear h
 by_cases c2 : (l0.length : Int) < 6
 ·rw [if_pos c2] at H
  have c2b0 := dT c2
  have c2b1 : decide (l0.length < 6) = true := dT (by omega)
  clear c2
  simp only [Option.some.injEq, Prod.mk.injEq] at H
  obtain ⟨rfl, rfl, rfl, rfl, rfl⟩ := H
  go_enter Tryd.func35, Tryd.ntmps35
  go_wp2_with (first | ((with_reducible refine gate_dst (N := 2) rfl ?_); refine box_event rfl (N := 2) rfl (cs := #[.slice none 0 0, .slice none 0 0, .int .u32 0]) (t := 42) jW ?_; intro gb244 hg w3 hbox hb; have BK244 := Aside0.mk hbox; have GW244 := Aside0.mk (jG hg HB); have GE244 := Aside0.mk (jG hg HB); replace HO0 := Aside0.mk (Kd.V_below (Kd.V_elderB (jV HO0) gb244 (Nat.le_of_eq hg.symm)) hb); replace HB := Aside0.mk (zT (jH HB) hb); clear hb hbox hg; obtain ⟨hcz4_0, hcz4_1, hcz4_2, hfz4_0, hfz4_1, hfz4_2⟩ := kQ3 BK244.out))
  refine bodyPost_ret (results_ctt rfl _ _ gb244 42 #[.slice none 0 0, .slice none 0 0, .int .u32 0] (0, 0) _ rfl (by (with_reducible repeat (first | refine kN ?_ _ | refine kD ?_ | refine kA ?_ _)); refine kP (cs := #[.slice none 0 0, .slice none 0 0, .int .u32 0]) ?_ 2 _ rfl; (with_reducible repeat (first | refine kN ?_ _ | refine kD ?_ | refine kA ?_ _)); refine kP (cs := #[.slice none 0 0, .slice none 0 0, .int .u32 0]) ?_ 1 _ rfl; (with_reducible repeat (first | refine kN ?_ _ | refine kD ?_ | refine kA ?_ _)); refine kP (cs := #[.slice none 0 0, .slice none 0 0, .int .u32 0]) ?_ 0 _ rfl; (with_reducible repeat (first | refine kN ?_ _ | refine kD ?_ | refine kA ?_ _)); exact BK244.out) Tryd.underlying42 rfl (by kernel_rfl)) rfl ?_
  exact ⟨_, _, _, jE, by first | exact Kd.R_nil _ _ _ _ _ | exact Kd.N_nil _ _ _ _ _ | exact Kd.V_nil _ _ _ _ _ | exact Kd.Q_nil _ _ _ _ _ | exact Kd.S_nil _ _ _ _ _, by first | exact Kd.R_nil _ _ _ _ _ | exact Kd.N_nil _ _ _ _ _ | exact Kd.V_nil _ _ _ _ _ | exact Kd.Q_nil _ _ _ _ _ | exact Kd.S_nil _ _ _ _ _, by first | exact Kd.R_nil _ _ _ _ _ | exact Kd.N_nil _ _ _ _ _ | exact Kd.V_nil _ _ _ _ _ | exact Kd.Q_nil _ _ _ _ _ | exact Kd.S_nil _ _ _ _ _, jH HB⟩
 ·rw [if_neg c2] at H
  have c2b0 := dF c2
  have c2b1 : decide (l0.length < 6) = false := dF (by omega)
  clear c2
  have H' := Aside0.mk H
  clear H
  go_enter Tryd.func35, Tryd.ntmps35
  go_wp2_with (first | ((with_reducible refine gate_dst (N := 2) rfl ?_); refine box_event rfl (N := 2) rfl (cs := #[.slice none 0 0, .slice none 0 0, .int .u32 0]) (t := 42) jW ?_; intro gb244 hg w5 hbox hb; have BK244 := Aside0.mk hbox; have GW244 := Aside0.mk (jG hg HB); have GE244 := Aside0.mk (jG hg HB); replace HO0 := Aside0.mk (Kd.V_below (Kd.V_elderB (jV HO0) gb244 (Nat.le_of_eq hg.symm)) hb); replace HB := Aside0.mk (zT (jH HB) hb); clear hb hbox hg) | ((with_reducible refine gate_dst (N := 5) rfl ?_); refine box_event rfl (N := 5) rfl (cs := #[.slice none 0 0, .slice none 0 0, .int .u32 0]) (t := 42) jW ?_; intro gb245 hg w6 hbox hb; have BK245 := Aside0.mk hbox; have GW245 := Aside0.mk (jG hg HB); have GE245 := Aside0.mk (jG hg HB); have NB244_245 := Aside0.mk (jN hg BK244); have NB245_244 := Aside0.mk (jM hg BK244); replace HO0 := Aside0.mk (Kd.V_below (Kd.V_elderB (jV HO0) gb245 (Nat.le_of_eq hg.symm)) hb); replace BK244 := Aside0.mk (jB BK244 hb); replace HB := Aside0.mk (zT (jH HB) hb); clear hb hbox hg))
  go_loopg [15] k (fun kq v15 w' => ∃ (x15_1 : Int) (x246002_1 : Int), v15 = .int .i64 x15_1 ∧ Aside0 (table_rule.l0 kq l0 x15_1 x246002_1 = some (r1, r2, r3, r4, r5)) ∧ Aside0 (kq ≤ k) ∧ Aside0 (Kd.V (Kd.int .u8) 5 w' w.heap.size (fun k_ => (P0_ k_ ∨ w.heap.size ≤ k_) ∧ k_ ≠ gb244 ∧ k_ ≠ gb245) (.slice A0 l0.length c0) l0) ∧ Aside0 (w'.heap[gb244]? = some (.cells #[(.slice none 0 0), (.slice none 0 0), .int .u32 0] 42 (0, 0))) ∧ Aside0 (w'.heap[gb245]? = some (.cells #[(.slice none 0 0), (.slice none 0 0), .int .u32 x246002_1] 42 (0, 0))) ∧ Aside0 (Below w.heap.size w w'))
  case atStart => exact ⟨(0), (0), jS, H', ⟨Nat.le_refl _⟩, ⟨by (with_reducible repeat (first | apply Kd.V_alloc | apply Kd.V_drewN | apply Kd.V_drew)); exact Kd.V_mono HO0.out (fun _ hk => ⟨hk.1.1, ⟨hk.1.2, hk.2⟩⟩)⟩, ⟨jK BK244⟩, ⟨jK BK245⟩, ⟨jH HB⟩⟩
  case round =>
   clear H'
   obtain ⟨x15_1, x246002_1, rfl, HA, HK1, HO_0, BK244, BK245, HB⟩ := hrel
   cases gk with
   | zero => exact absurd HA.out (by simp [table_rule.l0])
   | succ k1 =>
    have H := HA.out
    clear HA
    simp only [table_rule.l0] at H
    by_cases c7 : x15_1 < 4
    ·rw [if_pos c7] at H
     have c7b0 := dT c7
     clear c7
     by_cases c8 : 0 ≤ x15_1
     ·rw [if_pos c8] at H
      have c8b0 := dT c8
      clear c8
      by_cases c9 : x15_1 < (l0.length : Int)
      ·rw [if_pos c9] at H
       have c9b0 := dT c9
       clear c9
       obtain ⟨ji10, hji10⟩ : ∃ j_ : Int, (wrap64 (8 * x15_1)) = j_ := ⟨_, rfl⟩
       first | rw [hji10] at H | simp only [hji10] at H
       have hji10w : (IntKind.i64.wrap (8 * x15_1)) = ji10 := (i64_w _).trans hji10
       by_cases c11 : 0 ≤ (ji10)
       ·rw [if_pos c11] at H
        have c11b0 := eq_true c11
        have c11b1 := dT c11
        clear c11
        obtain ⟨ji12, hji12⟩ : ∃ j_ : Int, (shl .u32 ((rd l0 x15_1) % 4294967296) (ji10)) = j_ := ⟨_, rfl⟩
        first | rw [hji12] at H | simp only [hji12] at H
        have hji12_ : (IntKind.u32.wrap (((rd l0 x15_1) % 4294967296) * 2 ^ min (ji10).toNat 32)) = ji12 := hji12
        have hji12z : (ji10) ≤ 32 → (IntKind.u32.wrap (((rd l0 x15_1) % 4294967296) * 2 ^ (ji10).toNat)) = ji12 := shl_small hji12
        have hji12m : ((((rd l0 x15_1) % 4294967296) * 2 ^ min (ji10).toNat 32) % 4294967296) = ji12 := (IntKind.wrap_u32 _).symm.trans hji12_
        have H' := Aside0.mk H
        clear H
        try go_wp2
        replace HO_0 := Aside0.mk (Kd.V_drew HO_0.out)
        replace BK244 := Aside0.mk (kD BK244.out)
        replace BK245 := Aside0.mk (kD BK245.out)
        replace HB := Aside0.mk (zD HB.out)
        have p246 : 0 ≤ (x15_1 : Int) := oD (jA)
        have q246 : x15_1 < (l0.length : Int) := oD (jA)
        obtain ⟨ad246, e246, hx246_0⟩ := Kd.at_int (Kd.V_reads' HO_0.out).2.2 x15_1 p246 q246
        cases e246
        replace p246 := eq_true p246
        replace q246 := eq_true q246
        refine start_ (n := 13) (S := fun w' => w'.cell? ⟨gb245, 0, none⟩ = some (.slice none 0 0) ∧ w'.cell? ⟨gb245, 1, none⟩ = some (.slice none 0 0) ∧ w'.cell? ⟨gb245, 2, none⟩ = some (.int .u32 x246002_1) ∧ w'.cell? (ad246.add (x15_1).toNat) = some (.int .u8 (rd l0 x15_1))) (ds := [12]) #[false, false, false, false, false, false, false, false, false, false, false, false, false] (by kernel_rfl) rfl rfl ⟨(kC BK245.out 0).trans rfl, (kC BK245.out 1).trans rfl, (kC BK245.out 2).trans rfl, hx246_0⟩ (fun hHeld => ?_); refine with_tabW table_rule.tab7 table_rule.bits7 (fun HT_ HW_ => ?_)
        generalize wr.drew = w13 at HO_0 BK244 BK245 HB hx246_0 hHeld ⊢
        refine qP 0 18 (tB 13 1) ?_
        refine qP 2 20 (tB 13 5) ?_
        refine qP 3 21 (tB 13 13) ?_
        refine qP 4 22 (tB 13 29) ?_
        refine qP 7 25 (tB 13 157) ?_
        refine qP 8 26 (tB 13 413) ?_
        refine qT 1 19 (tB 13 415) hHeld ?_ (hv := by rintro w' ⟨s0, s1, s2, s3⟩; go_simp; with_reducible rfl)
        refine qT 5 23 (tB 13 447) hHeld ?_ (hv := by rintro w' ⟨s0, s1, s2, s3⟩; go_simp; with_reducible rfl)
        refine qP 6 24 (tB 13 511) ?_
        refine qP 9 27 (tB 13 1023) ?_
        refine qP 10 28 (tB 13 2047) ?_
        refine qP 11 29 (tB 13 4095) ?_
        refine last_ (i := 12) (N := none) (tB 13 8191) rfl rfl (one_of HT_.out (by kernel_rfl)) (by decide) (fun K hK => ?_)
        have hs14 : w13.cell? ⟨gb245, 2, none⟩ = some (.int .u32 x246002_1) := (kC BK245.out 2).trans rfl
        have hfs14 := kF BK245.out 2
        have hns14_0 := NB244_245.out
        have hms14_0 := NB245_244.out
        refine skip_ (w1 := ?_) (by rfl) rfl ?_ ?_
        rotate_left
        ·go_simp
         rfl
        refine hK.out _ _ ?_
        clear hK K
        refine done_ (done_of HT_.out (by kernel_rfl)) ?_
        try go_wp2
        (try simp only [hji12m]); go_roundg k1
        case measure => have := HK1.out; omega
        case rel => exact ⟨(wrap64 (x15_1 + 1)), (Go.bits .or .u32 x246002_1 (ji12)), jS, H', ⟨by have := HK1.out; omega⟩, ⟨by (with_reducible repeat (first | apply Kd.V_alloc | apply Kd.V_drewN | apply Kd.V_drew)); exact Kd.V_mono (Kd.V_far (p := ⟨gb245, 2, none⟩) (Kd.V_mono HO_0.out (fun k_ hk => (⟨hk, hk.2.2⟩ : _ ∧ k_ ≠ gb245))) (fun _ hk => hk.2) (.int .u32 (Go.bits .or .u32 x246002_1 (ji12)))) (fun _ hk => ⟨hk.1.1, ⟨hk.1.2.1, hk.1.2.2⟩⟩)⟩, ⟨by (with_reducible repeat (first | refine kN ?_ _ | refine kD ?_ | refine kA ?_ _)); refine kR ?_ NB244_245.out _; (with_reducible repeat (first | refine kN ?_ _ | refine kD ?_ | refine kA ?_ _)); exact BK244.out⟩, ⟨by (with_reducible repeat (first | refine kN ?_ _ | refine kD ?_ | refine kA ?_ _)); refine kP (cs := #[.slice none 0 0, .slice none 0 0, .int .u32 x246002_1]) ?_ 2 _ rfl; (with_reducible repeat (first | refine kN ?_ _ | refine kD ?_ | refine kA ?_ _)); exact BK245.out⟩, ⟨jH HB⟩⟩
       ·rw [if_neg c11] at H
        exact absurd H (by simp)
      ·rw [if_neg c9] at H
       exact absurd H (by simp)
     ·rw [if_neg c8] at H
      exact absurd H (by simp)
    ·rw [if_neg c7] at H
     have c7b0 := dF c7
     clear c7
     by_cases c15 : 4 < (l0.length : Int)
     ·rw [if_pos c15] at H
      have c15b0 := dT c15
      have c15b1 : decide (4 < l0.length) = true := dT (by omega)
      clear c15
      by_cases c16 : 5 < (l0.length : Int)
      ·rw [if_pos c16] at H
       have c16b0 := dT c16
       have c16b1 : decide (5 < l0.length) = true := dT (by omega)
       clear c16
       by_cases c17 : 6 ≤ (l0.length : Int)
       ·rw [if_pos c17] at H
        have c17b0 := eq_true c17
        have c17b1 := dT c17
        clear c17
        obtain ⟨y249, hy249⟩ : ∃ y_ : List Int, y_ = (l0.drop 6) := ⟨_, rfl⟩
        simp only [Option.bind_some, ← hy249] at H
        have Ny249 := Aside0.mk hy249
        clear hy249
        by_cases c18 : (y249.length : Int) < (wrap64 ((wrap64 (8 * (wrap64 (rd l0 4)))) + (wrap64 (8 * (wrap64 (rd l0 5))))))
        ·rw [if_pos c18] at H
         have c18b0 := dT c18
         clear c18
         simp only [Option.some.injEq, Prod.mk.injEq] at H
         obtain ⟨rfl, rfl, rfl, rfl, rfl⟩ := H
         try go_wp2
         replace HO_0 := Aside0.mk (Kd.V_drew HO_0.out)
         replace BK244 := Aside0.mk (kD BK244.out)
         replace BK245 := Aside0.mk (kD BK245.out)
         replace HB := Aside0.mk (zD HB.out)
         have p247 : 0 ≤ (4 : Int) := (by omega)
         have q247 : 4 < (l0.length : Int) := oD (jA)
         obtain ⟨ad247, e247, hx247_0⟩ := Kd.at_int (Kd.V_reads' HO_0.out).2.2 4 p247 q247
         cases e247
         (try simp only [show (4 : Int).toNat = 4 from rfl, Nat.reduceMul, Nat.reduceEqDiff, Go.Addr.add, ↓reduceIte] at hx247_0)
         have qi247 : (4 < l0.length) = True := eq_true (by omega)
         (try rw [show ((4 : Int)).toNat = 4 from rfl] at hx247_0)
         replace p247 := eq_true p247
         replace q247 := eq_true q247
         have p248 : 0 ≤ (5 : Int) := (by omega)
         have q248 : 5 < (l0.length : Int) := oD (jA)
         obtain ⟨ad248, e248, hx248_0⟩ := Kd.at_int (Kd.V_reads' HO_0.out).2.2 5 p248 q248
         obtain rfl : ad247 = ad248 := (by injection e248)
         (try simp only [show (5 : Int).toNat = 5 from rfl, Nat.reduceMul, Nat.reduceEqDiff, Go.Addr.add, ↓reduceIte] at hx248_0)
         have qi248 : (5 < l0.length) = True := eq_true (by omega)
         (try rw [show ((5 : Int)).toNat = 5 from rfl] at hx248_0)
         replace p248 := eq_true p248
         replace q248 := eq_true q248
         refine start_ (n := 12) (S := fun w' => w'.cell? ⟨ad247.block, ad247.off + 4, none⟩ = some (.int .u8 (rd l0 4)) ∧ w'.cell? ⟨ad247.block, ad247.off + 5, none⟩ = some (.int .u8 (rd l0 5))) (ds := []) #[false, false, false, false, false, false, false, false, false, false, false, false] (by kernel_rfl) rfl rfl ⟨hx247_0, hx248_0⟩ (fun hHeld => ?_); refine with_tabW table_rule.tab9 table_rule.bits9 (fun HT_ HW_ => ?_)
         generalize wr.drew = w19 at HO_0 BK244 BK245 HB hx247_0 hx248_0 hHeld ⊢
         refine qP 0 31 (tB 12 1) ?_
         refine qP 1 32 (tB 12 3) ?_
         refine qP 5 36 (tB 12 35) ?_
         refine qP 6 37 (tB 12 99) ?_
         refine qT 2 33 (tB 12 103) hHeld ?_ (hv := by rintro w' ⟨s0, s1⟩; go_simp; with_reducible rfl)
         refine qP 3 34 (tB 12 111) ?_
         refine qP 4 35 (tB 12 127) ?_
         refine qP 10 7 (tB 12 1151) ?_
         refine qT 7 38 (tB 12 1279) hHeld ?_ (hv := by rintro w' ⟨s0, s1⟩; go_simp; with_reducible rfl)
         refine qP 8 39 (tB 12 1535) ?_
         refine qP 9 40 (tB 12 2047) ?_
         refine qP 11 8 (tB 12 4095) ?_
         refine done_ (done_of HT_.out (by kernel_rfl)) ?_
         have q20 : (6 : Int) ≤ ((l0.length : Int) : Int) := oD (jA)
         obtain ⟨i020, hi020, _, hsz20, _⟩ := info_parts info5
         have hroom20 : l0.length ≤ c0 := (Kd.V_reads' HO_0.out).2.1
         have hC20 : Kd.F (Kd.int .u8) _ _ (some ad247) l0.length l0 := (Kd.V_at (base := w.heap.size) HO_0.out).2.2
         have hcut20 := cut_from (P := Tryd.prog) 25 5 .i64 Tryd.underlying25 hi020 1 hsz20 (some ad247) l0.length c0 6 (by omega) q20
         have hr20 := Kd.F_cut (m := (6 : Int).toNat) (c := c0) hC20 (by omega) hroom20
         obtain ⟨A20, hA20⟩ : ∃ A1, A1 = (if c0 = (6 : Int).toNat then (some ad247) else ((some ad247) : Option Addr).map (·.add ((6 : Int).toNat * 1))) := ⟨_, rfl⟩
         obtain ⟨c20, hc20⟩ : ∃ c1, c1 = c0 - (6 : Int).toNat := ⟨_, rfl⟩
         have hy20 : y249.length = l0.length - (6 : Int).toNat := (by rw [Ny249.out, List.length_drop] <;> omega)
         rw [show (l0).drop (6 : Int).toNat = y249 from Ny249.out.symm] at hr20
         replace hr20 : Kd.F (Kd.int .u8) _ _ A20 y249.length y249 := (by rw [hA20]; exact hr20)
         rw [← hy20, ← hA20, ← hc20] at hcut20
         have HO253 := Aside0.mk (show Kd.V (Kd.int .u8) 5 _ w.heap.size _ (.slice A20 y249.length c20) y249 from Kd.V_mk (by rw [hy20, hc20]; exact Nat.sub_le_sub_right hroom20 _) hr20)
         have HC253 := Aside0.mk (show y249.length ≤ c20 from by rw [hy20, hc20]; exact Nat.sub_le_sub_right hroom20 _)
         clear hr20 hC20 hroom20 hi020 hsz20 hc20
         have KY20 := Aside0.mk hy20
         have KA20 := Aside0.mk hA20
         clear hy20 hA20
         replace q20 := eq_true q20
         have hnb21 := NB244_245.out
         have hnc21 := NB245_244.out
         obtain ⟨hcz22_0, hcz22_1, hcz22_2, hfz22_0, hfz22_1, hfz22_2⟩ := kQ3 BK244.out
         try go_wp2
         refine bodyPost_ret (results_ctt rfl _ _ gb244 42 #[.slice none 0 0, .slice none 0 0, .int .u32 0] (0, 0) _ rfl (by (with_reducible repeat (first | refine kN ?_ _ | refine kD ?_ | refine kA ?_ _)); refine kP (cs := #[.slice none 0 0, .slice none 0 0, .int .u32 0]) ?_ 2 _ rfl; (with_reducible repeat (first | refine kN ?_ _ | refine kD ?_ | refine kA ?_ _)); refine kP (cs := #[.slice none 0 0, .slice none 0 0, .int .u32 0]) ?_ 1 _ rfl; (with_reducible repeat (first | refine kN ?_ _ | refine kD ?_ | refine kA ?_ _)); refine kP (cs := #[.slice none 0 0, .slice none 0 0, .int .u32 0]) ?_ 0 _ rfl; (with_reducible repeat (first | refine kN ?_ _ | refine kD ?_ | refine kA ?_ _)); exact BK244.out) Tryd.underlying42 rfl (by kernel_rfl)) rfl ?_
         exact ⟨_, _, _, jE, by first | exact Kd.R_nil _ _ _ _ _ | exact Kd.N_nil _ _ _ _ _ | exact Kd.V_nil _ _ _ _ _ | exact Kd.Q_nil _ _ _ _ _ | exact Kd.S_nil _ _ _ _ _, by first | exact Kd.R_nil _ _ _ _ _ | exact Kd.N_nil _ _ _ _ _ | exact Kd.V_nil _ _ _ _ _ | exact Kd.Q_nil _ _ _ _ _ | exact Kd.S_nil _ _ _ _ _, by first | exact Kd.R_nil _ _ _ _ _ | exact Kd.N_nil _ _ _ _ _ | exact Kd.V_nil _ _ _ _ _ | exact Kd.Q_nil _ _ _ _ _ | exact Kd.S_nil _ _ _ _ _, jH HB⟩
        ·rw [if_neg c18] at H
         have c18b0 := dF c18
         clear c18
         obtain ⟨ji23, hji23⟩ : ∃ j_ : Int, (wrap64 (8 * (wrap64 (rd l0 4)))) = j_ := ⟨_, rfl⟩
         first | rw [hji23] at H | simp only [hji23] at H
         (try rw [hji23] at c18b0)
         have hji23w : (IntKind.i64.wrap (8 * (wrap64 (rd l0 4)))) = ji23 := (i64_w _).trans hji23
         by_cases c24 : 0 ≤ (ji23)
         ·rw [if_pos c24] at H
          have c24b0 := eq_true c24
          have c24b1 := dT c24
          clear c24
          by_cases c25 : (ji23) ≤ (y249.length : Int)
          ·rw [if_pos c25] at H
           have c25b0 := eq_true c25
           have c25b1 := dT c25
           clear c25
           obtain ⟨y254, hy254⟩ : ∃ y_ : List Int, y_ = (y249.take ((ji23) : Int).toNat) := ⟨_, rfl⟩
           simp only [Option.bind_some, ← hy254] at H
           have Ny254 := Aside0.mk hy254
           clear hy254
           replace H := Option.bind_eq_some_iff.mp H
           obtain ⟨⟨t259, t262⟩, A260, H⟩ := H
           try dsimp only at H
           have A26 := Aside0.mk A260
           clear A260
           have c27b0 := eq_true (oD (jA) : 0 ≤ (ji23))
           by_cases c28 : (ji23) ≤ (wrap64 ((ji23) + (wrap64 (8 * (wrap64 (rd l0 5))))))
           ·rw [if_pos c28] at H
            have c28b0 := eq_true c28
            have c28b1 := dT c28
            by_cases c29 : (wrap64 ((ji23) + (wrap64 (8 * (wrap64 (rd l0 5)))))) ≤ (y249.length : Int)
            ·rw [if_pos c29] at H
             have c29b0 := eq_true c29
             have c29b1 := dT c29
             obtain ⟨y263, hy263⟩ : ∃ y_ : List Int, y_ = ((y249.take ((wrap64 ((ji23) + (wrap64 (8 * (wrap64 (rd l0 5)))))) : Int).toNat).drop ((ji23) : Int).toNat) := ⟨_, rfl⟩
             simp only [Option.bind_some, ← hy263] at H
             have Ny263 := Aside0.mk hy263
             clear hy263
             replace H := Option.bind_eq_some_iff.mp H
             obtain ⟨⟨t268, t271⟩, A300, H⟩ := H
             try dsimp only at H
             have A30 := Aside0.mk A300
             clear A300
             obtain ⟨ji31, hji31⟩ : ∃ j_ : Int, (wrap64 ((ji23) + (wrap64 (8 * (wrap64 (rd l0 5)))))) = j_ := ⟨_, rfl⟩
             first | rw [hji31] at H | simp only [hji31] at H
             (try rw [hji31] at c28b0)
             (try rw [hji31] at c28b1)
             (try rw [hji31] at c28)
             (try rw [hji31] at c29b0)
             (try rw [hji31] at c29b1)
             (try rw [hji31] at c29)
             (try rw [hji31] at A26)
             (try rw [hji31] at Ny263)
             (try rw [hji31] at A30)
             have hji31w : (IntKind.i64.wrap ((ji23) + (wrap64 (8 * (wrap64 (rd l0 5)))))) = ji31 := (i64_w _).trans hji31
             by_cases c32 : 0 ≤ (ji31)
             ·rw [if_pos c32] at H
              have c32b0 := eq_true c32
              have c32b1 := dT c32
              clear c32
              have c33b0 := eq_true (oD (jA) : (ji31) ≤ (y249.length : Int))
              obtain ⟨y272, hy272⟩ : ∃ y_ : List Int, y_ = (y249.drop ((ji31) : Int).toNat) := ⟨_, rfl⟩
              simp only [Option.bind_some, ← hy272] at H
              have Ny272 := Aside0.mk hy272
              clear hy272
              by_cases c34 : t262 = 0
              ·rw [if_pos c34] at H
               have c34b0 : (t262 == 0) = true := bI.mpr c34
               have c34b1 : (t262 != 0) = false := nF.mpr c34
               clear c34
               simp only [Option.some.injEq, Prod.mk.injEq] at H
               obtain ⟨rfl, rfl, rfl, rfl, rfl⟩ := H
               try go_wp2
               replace HO_0 := Aside0.mk (Kd.V_drew HO_0.out)
               replace BK244 := Aside0.mk (kD BK244.out)
               replace BK245 := Aside0.mk (kD BK245.out)
               replace HB := Aside0.mk (zD HB.out)
               have p247 : 0 ≤ (4 : Int) := (by omega)
               have q247 : 4 < (l0.length : Int) := oD (jA)
               obtain ⟨ad247, e247, hx247_0⟩ := Kd.at_int (Kd.V_reads' HO_0.out).2.2 4 p247 q247
               cases e247
               (try simp only [show (4 : Int).toNat = 4 from rfl, Nat.reduceMul, Nat.reduceEqDiff, Go.Addr.add, ↓reduceIte] at hx247_0)
               have qi247 : (4 < l0.length) = True := eq_true (by omega)
               (try rw [show ((4 : Int)).toNat = 4 from rfl] at hx247_0)
               replace p247 := eq_true p247
               replace q247 := eq_true q247
               have p248 : 0 ≤ (5 : Int) := (by omega)
               have q248 : 5 < (l0.length : Int) := oD (jA)
               obtain ⟨ad248, e248, hx248_0⟩ := Kd.at_int (Kd.V_reads' HO_0.out).2.2 5 p248 q248
               obtain rfl : ad247 = ad248 := (by injection e248)
               (try simp only [show (5 : Int).toNat = 5 from rfl, Nat.reduceMul, Nat.reduceEqDiff, Go.Addr.add, ↓reduceIte] at hx248_0)
               have qi248 : (5 < l0.length) = True := eq_true (by omega)
               (try rw [show ((5 : Int)).toNat = 5 from rfl] at hx248_0)
               replace p248 := eq_true p248
               replace q248 := eq_true q248
               refine start_ (n := 12) (S := fun w' => w'.cell? ⟨ad247.block, ad247.off + 4, none⟩ = some (.int .u8 (rd l0 4)) ∧ w'.cell? ⟨ad247.block, ad247.off + 5, none⟩ = some (.int .u8 (rd l0 5))) (ds := []) #[false, false, false, false, false, false, false, false, false, false, false, false] (by kernel_rfl) rfl rfl ⟨hx247_0, hx248_0⟩ (fun hHeld => ?_); refine with_tabW table_rule.tab9 table_rule.bits9 (fun HT_ HW_ => ?_)
               generalize wr.drew = w35 at HO_0 BK244 BK245 HB hx247_0 hx248_0 hHeld ⊢
               refine qP 0 31 (tB 12 1) ?_
               refine qP 1 32 (tB 12 3) ?_
               refine qP 5 36 (tB 12 35) ?_
               refine qP 6 37 (tB 12 99) ?_
               refine qT 2 33 (tB 12 103) hHeld ?_ (hv := by rintro w' ⟨s0, s1⟩; go_simp; with_reducible rfl)
               refine qP 3 34 (tB 12 111) ?_
               refine qP 4 35 (tB 12 127) ?_
               refine qP 10 7 (tB 12 1151) ?_
               refine qT 7 38 (tB 12 1279) hHeld ?_ (hv := by rintro w' ⟨s0, s1⟩; go_simp; with_reducible rfl)
               refine qP 8 39 (tB 12 1535) ?_
               refine qP 9 40 (tB 12 2047) ?_
               refine qP 11 8 (tB 12 4095) ?_
               refine done_ (done_of HT_.out (by kernel_rfl)) ?_
               have q36 : (6 : Int) ≤ ((l0.length : Int) : Int) := oD (jA)
               obtain ⟨i036, hi036, _, hsz36, _⟩ := info_parts info5
               have hroom36 : l0.length ≤ c0 := (Kd.V_reads' HO_0.out).2.1
               have hC36 : Kd.F (Kd.int .u8) _ _ (some ad247) l0.length l0 := (Kd.V_at (base := w.heap.size) HO_0.out).2.2
               have hcut36 := cut_from (P := Tryd.prog) 25 5 .i64 Tryd.underlying25 hi036 1 hsz36 (some ad247) l0.length c0 6 (by omega) q36
               have hr36 := Kd.F_cut (m := (6 : Int).toNat) (c := c0) hC36 (by omega) hroom36
               obtain ⟨A36, hA36⟩ : ∃ A1, A1 = (if c0 = (6 : Int).toNat then (some ad247) else ((some ad247) : Option Addr).map (·.add ((6 : Int).toNat * 1))) := ⟨_, rfl⟩
               obtain ⟨c36, hc36⟩ : ∃ c1, c1 = c0 - (6 : Int).toNat := ⟨_, rfl⟩
               have hy36 : y249.length = l0.length - (6 : Int).toNat := (by rw [Ny249.out, List.length_drop] <;> omega)
               rw [show (l0).drop (6 : Int).toNat = y249 from Ny249.out.symm] at hr36
               replace hr36 : Kd.F (Kd.int .u8) _ _ A36 y249.length y249 := (by rw [hA36]; exact hr36)
               rw [← hy36, ← hA36, ← hc36] at hcut36
               have HO253 := Aside0.mk (show Kd.V (Kd.int .u8) 5 _ w.heap.size _ (.slice A36 y249.length c36) y249 from Kd.V_mk (by rw [hy36, hc36]; exact Nat.sub_le_sub_right hroom36 _) hr36)
               have HC253 := Aside0.mk (show y249.length ≤ c36 from by rw [hy36, hc36]; exact Nat.sub_le_sub_right hroom36 _)
               clear hr36 hC36 hroom36 hi036 hsz36 hc36
               have KY36 := Aside0.mk hy36
               have KA36 := Aside0.mk hA36
               clear hy36 hA36
               replace q36 := eq_true q36
               have q37 : ((ji23) : Int) ≤ ((y249.length : Int) : Int) := oD (jA)
               obtain ⟨i037, hi037, _, hsz37, _⟩ := info_parts info5
               have hroom37 : y249.length ≤ c36 := (Kd.V_reads' HO253.out).2.1
               have hC37 : Kd.F (Kd.int .u8) _ _ A36 y249.length y249 := (Kd.V_at (base := w.heap.size) HO253.out).2.2
               have hcut37 := cut_to (P := Tryd.prog) 25 5 .i64 Tryd.underlying25 hi037 A36 y249.length c36 (ji23) (oD (jA)) q37 hroom37
               have hr37 := Kd.F_take (m := ((ji23) : Int).toNat) hC37 (by omega)
               have hy37 : y254.length = ((ji23) : Int).toNat := (by rw [Ny254.out, List.length_take]; omega)
               rw [← Ny254.out] at hr37
               rw [← hy37] at hcut37
               have HO258 := Aside0.mk (show Kd.V (Kd.int .u8) 5 _ w.heap.size _ (.slice A36 y254.length c36) y254 from Kd.V_mk (by omega) hr37)
               have HC258 := Aside0.mk (show y254.length ≤ c36 from by omega)
               clear hr37 hC37 hroom37 hi037 hsz37
               have KY37 := Aside0.mk hy37
               clear hy37
               replace q37 := eq_true q37
               try go_wp2_with (first | ((with_reducible refine gate_callee (f := 46) rfl ?_); refine goesL_ (some 54) rfl rfl Tryd.func46 (by kernel_rfl) rfl #[.slice A36 y254.length c36] rfl jZ ?_; (with_reducible refine (codec_Decode.calls k1 (fun k_ => ((P0_ k_ ∨ w.heap.size ≤ k_) ∧ (k_ ≠ gb244 ∧ k_ ≠ gb245))) _ _ y254 t259 t262 _ ?side1 ?side2 A26.out).mono ?_); (case side1 => exact HO258.out); (case side2 => exact Glob.below HG.out (jH HB)); rintro e w38 ⟨v260, rfl, ho0, hb⟩; refine ⟨_, rfl, ?_⟩; have HO261 := Aside0.mk (Kd.R_lower (Kd.R_newM (M := fun k_ => (w.heap.size ≤ k_)) (Kd.R_mono (ok' := fun k_ => True) ho0 (fun _ hk_ => trivial)) (zZ (jH HB)) (fun k_ h_ => h_)) (zZ (jH HB))); replace HO_0 := Aside0.mk (Kd.V_elder' (jV HO_0) (Kd.R_base ho0) hb); replace HO253 := Aside0.mk (Kd.V_elder' (jV HO253) (Kd.R_base ho0) hb); replace HO258 := Aside0.mk (Kd.V_elder' (jV HO258) (Kd.R_base ho0) hb); replace BK244 := Aside0.mk (jB BK244 hb); replace BK245 := Aside0.mk (jB BK245 hb); replace HB := Aside0.mk (zT (jH HB) hb); (try clear hb); (try clear hb2); (try clear hk); (try clear hi); (try clear ho0); obtain ⟨Ao39, co39, eo39⟩ := Kd.R_slice HO261.out; subst eo39; have hnb40 := NB245_244.out; have hnc40 := NB244_245.out; obtain ⟨hcz41_0, hcz41_1, hcz41_2, hfz41_0, hfz41_1, hfz41_2⟩ := kQ3 BK245.out) | ((with_reducible refine gate_store (t := 39) (p := 57) rfl ?_); refine store_event (t := 39) (p := 57) (v := ?vo_w42) (w1 := (w38.setCell ⟨gb245, 0, none⟩ (.slice Ao39 t259.length co39))) ?hg ?ho ?hn ?hr ?_; (case ho => rfl); (case hg => rfl); (case hn => rfl); (case hr => first | (go_simp; done) | (go_simp; rfl)); intro w42 hw; have n0_ : Aside0 (Kd.V (Kd.int .u8) 5 w42 w.heap.size (fun k_ => (P0_ k_ ∨ w.heap.size ≤ k_) ∧ some k_ ≠ (.slice Ao39 t259.length co39 : Value).ownBlock ∧ k_ ≠ gb244 ∧ k_ ≠ gb245) (.slice (some ad247) l0.length c0) l0) := ⟨(by rw [hw]; exact (by (with_reducible repeat (first | apply Kd.V_alloc | apply Kd.V_drewN | apply Kd.V_drew)); exact Kd.V_mono (Kd.V_far (p := ⟨gb245, 0, none⟩) (Kd.V_mono HO_0.out (fun k_ hk => (⟨hk, hk.1.2.2⟩ : _ ∧ k_ ≠ gb245))) (fun _ hk => hk.2) (.slice Ao39 t259.length co39)) (fun _ hk => ⟨hk.1.1.1, ⟨hk.1.2, ⟨hk.1.1.2.1, hk.1.1.2.2⟩⟩⟩)))⟩; have n1_ : Aside0 (Kd.V (Kd.int .u8) 5 w42 w.heap.size (fun k_ => (P0_ k_ ∨ w.heap.size ≤ k_) ∧ some k_ ≠ (.slice Ao39 t259.length co39 : Value).ownBlock ∧ k_ ≠ gb244 ∧ k_ ≠ gb245) (.slice A36 y249.length c36) y249) := ⟨(by rw [hw]; exact (by (with_reducible repeat (first | apply Kd.V_alloc | apply Kd.V_drewN | apply Kd.V_drew)); exact Kd.V_mono (Kd.V_far (p := ⟨gb245, 0, none⟩) (Kd.V_mono HO253.out (fun k_ hk => (⟨hk, hk.1.2.2⟩ : _ ∧ k_ ≠ gb245))) (fun _ hk => hk.2) (.slice Ao39 t259.length co39)) (fun _ hk => ⟨hk.1.1.1, ⟨hk.1.2, ⟨hk.1.1.2.1, hk.1.1.2.2⟩⟩⟩)))⟩; have n2_ : Aside0 (Kd.V (Kd.int .u8) 5 w42 w.heap.size (fun k_ => (P0_ k_ ∨ w.heap.size ≤ k_) ∧ some k_ ≠ (.slice Ao39 t259.length co39 : Value).ownBlock ∧ k_ ≠ gb244 ∧ k_ ≠ gb245) (.slice A36 y254.length c36) y254) := ⟨(by rw [hw]; exact (by (with_reducible repeat (first | apply Kd.V_alloc | apply Kd.V_drewN | apply Kd.V_drew)); exact Kd.V_mono (Kd.V_far (p := ⟨gb245, 0, none⟩) (Kd.V_mono HO258.out (fun k_ hk => (⟨hk, hk.1.2.2⟩ : _ ∧ k_ ≠ gb245))) (fun _ hk => hk.2) (.slice Ao39 t259.length co39)) (fun _ hk => ⟨hk.1.1.1, ⟨hk.1.2, ⟨hk.1.1.2.1, hk.1.1.2.2⟩⟩⟩)))⟩; have n3_ : Aside0 (Kd.R k59 59 w42 w.heap.size (fun k_ => (w.heap.size ≤ k_)) (.slice Ao39 t259.length co39) t259) := ⟨(by rw [hw]; exact (by (with_reducible repeat (first | apply Kd.R_alloc | apply Kd.R_drewN | apply Kd.R_drew)); exact Kd.R_mono (Kd.R_far (p := ⟨gb245, 0, none⟩) (Kd.R_types HO261.out BK245.out (by decide)) (fun _ hk => hk.2) (.slice Ao39 t259.length co39)) (fun _ hk => hk.1.1)))⟩; have n4_ : Aside0 (w42.heap[gb244]? = some (.cells #[.slice none 0 0, .slice none 0 0, .int .u32 0] 42 (0, 0))) := ⟨(by rw [hw]; exact (by (with_reducible repeat (first | refine kN ?_ _ | refine kD ?_ | refine kA ?_ _)); refine kR ?_ NB244_245.out _; (with_reducible repeat (first | refine kN ?_ _ | refine kD ?_ | refine kA ?_ _)); exact BK244.out))⟩; have n5_ : Aside0 (w42.heap[gb245]? = some (.cells #[.slice Ao39 t259.length co39, .slice none 0 0, .int .u32 x246002_1] 42 (0, 0))) := ⟨(by rw [hw]; exact (by (with_reducible repeat (first | refine kN ?_ _ | refine kD ?_ | refine kA ?_ _)); refine kP (cs := #[.slice none 0 0, .slice none 0 0, .int .u32 x246002_1]) ?_ 0 _ rfl; (with_reducible repeat (first | refine kN ?_ _ | refine kD ?_ | refine kA ?_ _)); exact BK245.out))⟩; have n6_ : Aside0 (Below w.heap.size w w42) := ⟨(by rw [hw]; exact (jH HB))⟩; clear hw; clear HO_0; clear HO253; clear HO258; clear HO261; clear BK244; clear BK245; clear HB; have HO_0 := n0_; have HO253 := n1_; have HO258 := n2_; have HO261 := n3_; have BK244 := n4_; have BK245 := n5_; have HB := n6_; clear n0_ n1_ n2_ n3_ n4_ n5_ n6_; have q43 : ((ji31) : Int) ≤ ((y249.length : Int) : Int) := oD (jA); obtain ⟨i043, hi043, _, hsz43, _⟩ := info_parts info5; have hroom43 : y249.length ≤ c36 := (Kd.V_reads' HO253.out).2.1; have hC43 : Kd.F (Kd.int .u8) _ _ A36 y249.length y249 := (Kd.V_at (base := w.heap.size) HO253.out).2.2; have ql43 : ((ji23) : Int) ≤ ((ji31) : Int) := oD (jA); have q043 : (0 : Int) ≤ ((ji23) : Int) := oD (jA); have hcut43 := cut_mid (P := Tryd.prog) 25 5 .i64 .i64 Tryd.underlying25 hi043 1 hsz43 A36 y249.length c36 (ji23) (ji31) q043 ql43 q43 hroom43; have hr43 := Kd.F_mid (lo := ((ji23) : Int).toNat) (hi := ((ji31) : Int).toNat) (c := c36) hC43 (by omega) (by omega) hroom43; obtain ⟨A43, hA43⟩ : ∃ A1, A1 = (if c36 = ((ji23) : Int).toNat then A36 else (A36 : Option Addr).map (·.add (((ji23) : Int).toNat * 1))) := ⟨_, rfl⟩; obtain ⟨c43, hc43⟩ : ∃ c1, c1 = c36 - ((ji23) : Int).toNat := ⟨_, rfl⟩; have hy43 : y263.length = ((ji31) : Int).toNat - ((ji23) : Int).toNat := (by rw [Ny263.out, List.length_drop, List.length_take] <;> omega); rw [show ((y249).take ((ji31) : Int).toNat).drop ((ji23) : Int).toNat = y263 from Ny263.out.symm] at hr43; replace hr43 : Kd.F (Kd.int .u8) _ _ A43 y263.length y263 := (by rw [hA43]; exact hr43); rw [← hy43, ← hA43, ← hc43] at hcut43; have HO267 := Aside0.mk (show Kd.V (Kd.int .u8) 5 _ w.heap.size _ (.slice A43 y263.length c43) y263 from Kd.V_mk (by rw [hy43, hc43]; exact Nat.sub_le_sub_right (Nat.le_trans (by omega) hroom43) _) hr43); have HC267 := Aside0.mk (show y263.length ≤ c43 from by rw [hy43, hc43]; exact Nat.sub_le_sub_right (Nat.le_trans (by omega) hroom43) _); clear hr43 hC43 hroom43 hi043 hsz43 hc43; have KY43 := Aside0.mk hy43; have KA43 := Aside0.mk hA43; clear hy43 hA43; replace q43 := eq_true q43) | ((with_reducible refine gate_callee (f := 46) rfl ?_); refine goesL_ (some 65) rfl rfl Tryd.func46 (by kernel_rfl) rfl #[.slice A43 y263.length c43] rfl jZ ?_; (with_reducible refine (codec_Decode.calls k1 (fun k_ => ((P0_ k_ ∨ w.heap.size ≤ k_) ∧ (some k_ ≠ (.slice Ao39 t259.length co39 : Value).ownBlock ∧ (k_ ≠ gb244 ∧ k_ ≠ gb245)))) _ _ y263 t268 t271 _ ?side1 ?side2 A30.out).mono ?_); (case side1 => exact HO267.out); (case side2 => exact Glob.below HG.out (jH HB)); rintro e w44 ⟨v269, rfl, ho0, hb⟩; refine ⟨_, rfl, ?_⟩; have HO270 := Aside0.mk (Kd.R_lower (Kd.R_new' (Kd.R_newM (M := fun k_ => (w.heap.size ≤ k_)) (Kd.R_mono (ok' := fun k_ => True) ho0 (fun _ hk_ => trivial)) (zZ (jH HB)) (fun k_ h_ => h_)) (Kd.R_lt (jR HO261))) (zZ (jH HB))); replace HO_0 := Aside0.mk (Kd.V_elder' (jV HO_0) (Kd.R_base ho0) hb); replace HO253 := Aside0.mk (Kd.V_elder' (jV HO253) (Kd.R_base ho0) hb); replace HO258 := Aside0.mk (Kd.V_elder' (jV HO258) (Kd.R_base ho0) hb); replace HO261 := Aside0.mk (Kd.R_elder' (jR HO261) (Kd.R_base ho0) hb); replace HO267 := Aside0.mk (Kd.V_elder' (jV HO267) (Kd.R_base ho0) hb); replace BK244 := Aside0.mk (jB BK244 hb); replace BK245 := Aside0.mk (jB BK245 hb); replace HB := Aside0.mk (zT (jH HB) hb); (try clear hb); (try clear hb2); (try clear hk); (try clear hi); (try clear ho0); obtain ⟨Ao45, co45, eo45⟩ := Kd.R_slice HO270.out; subst eo45; obtain ⟨hcz46_0, hcz46_1, hcz46_2, hfz46_0, hfz46_1, hfz46_2⟩ := kQ3 BK245.out))
               have n0_ : Aside0 (Kd.V (Kd.int .u8) 5 (w44.setCell ⟨gb245, 1, none⟩ (.slice Ao45 t268.length co45)) w.heap.size (fun k_ => (P0_ k_ ∨ w.heap.size ≤ k_) ∧ some k_ ≠ (.slice Ao39 t259.length co39 : Value).ownBlock ∧ some k_ ≠ (.slice Ao45 t268.length co45 : Value).ownBlock ∧ k_ ≠ gb244 ∧ k_ ≠ gb245) (.slice (some ad247) l0.length c0) l0) := ⟨by (with_reducible repeat (first | apply Kd.V_alloc | apply Kd.V_drewN | apply Kd.V_drew)); exact Kd.V_mono (Kd.V_far (p := ⟨gb245, 1, none⟩) (Kd.V_mono HO_0.out (fun k_ hk => (⟨hk, hk.1.2.2.2⟩ : _ ∧ k_ ≠ gb245))) (fun _ hk => hk.2) (.slice Ao45 t268.length co45)) (fun _ hk => ⟨hk.1.1.1, ⟨hk.1.1.2.1, ⟨hk.1.2, ⟨hk.1.1.2.2.1, hk.1.1.2.2.2⟩⟩⟩⟩)⟩
               have n1_ : Aside0 (Kd.V (Kd.int .u8) 5 (w44.setCell ⟨gb245, 1, none⟩ (.slice Ao45 t268.length co45)) w.heap.size (fun k_ => (P0_ k_ ∨ w.heap.size ≤ k_) ∧ some k_ ≠ (.slice Ao39 t259.length co39 : Value).ownBlock ∧ some k_ ≠ (.slice Ao45 t268.length co45 : Value).ownBlock ∧ k_ ≠ gb244 ∧ k_ ≠ gb245) (.slice A36 y249.length c36) y249) := ⟨by (with_reducible repeat (first | apply Kd.V_alloc | apply Kd.V_drewN | apply Kd.V_drew)); exact Kd.V_mono (Kd.V_far (p := ⟨gb245, 1, none⟩) (Kd.V_mono HO253.out (fun k_ hk => (⟨hk, hk.1.2.2.2⟩ : _ ∧ k_ ≠ gb245))) (fun _ hk => hk.2) (.slice Ao45 t268.length co45)) (fun _ hk => ⟨hk.1.1.1, ⟨hk.1.1.2.1, ⟨hk.1.2, ⟨hk.1.1.2.2.1, hk.1.1.2.2.2⟩⟩⟩⟩)⟩
               have n2_ : Aside0 (Kd.V (Kd.int .u8) 5 (w44.setCell ⟨gb245, 1, none⟩ (.slice Ao45 t268.length co45)) w.heap.size (fun k_ => (P0_ k_ ∨ w.heap.size ≤ k_) ∧ some k_ ≠ (.slice Ao39 t259.length co39 : Value).ownBlock ∧ some k_ ≠ (.slice Ao45 t268.length co45 : Value).ownBlock ∧ k_ ≠ gb244 ∧ k_ ≠ gb245) (.slice A36 y254.length c36) y254) := ⟨by (with_reducible repeat (first | apply Kd.V_alloc | apply Kd.V_drewN | apply Kd.V_drew)); exact Kd.V_mono (Kd.V_far (p := ⟨gb245, 1, none⟩) (Kd.V_mono HO258.out (fun k_ hk => (⟨hk, hk.1.2.2.2⟩ : _ ∧ k_ ≠ gb245))) (fun _ hk => hk.2) (.slice Ao45 t268.length co45)) (fun _ hk => ⟨hk.1.1.1, ⟨hk.1.1.2.1, ⟨hk.1.2, ⟨hk.1.1.2.2.1, hk.1.1.2.2.2⟩⟩⟩⟩)⟩
               have n3_ : Aside0 (Kd.R k59 59 (w44.setCell ⟨gb245, 1, none⟩ (.slice Ao45 t268.length co45)) w.heap.size (fun k_ => (w.heap.size ≤ k_) ∧ some k_ ≠ (.slice Ao45 t268.length co45 : Value).ownBlock) (.slice Ao39 t259.length co39) t259) := ⟨by (with_reducible repeat (first | apply Kd.R_alloc | apply Kd.R_drewN | apply Kd.R_drew)); exact Kd.R_mono (Kd.R_far (p := ⟨gb245, 1, none⟩) (Kd.R_types HO261.out BK245.out (by decide)) (fun _ hk => hk.2) (.slice Ao45 t268.length co45)) (fun _ hk => ⟨hk.1.1, hk.1.2⟩)⟩
               have n4_ : Aside0 (Kd.V (Kd.int .u8) 5 (w44.setCell ⟨gb245, 1, none⟩ (.slice Ao45 t268.length co45)) w.heap.size (fun k_ => (P0_ k_ ∨ w.heap.size ≤ k_) ∧ some k_ ≠ (.slice Ao39 t259.length co39 : Value).ownBlock ∧ some k_ ≠ (.slice Ao45 t268.length co45 : Value).ownBlock ∧ k_ ≠ gb244 ∧ k_ ≠ gb245) (.slice A43 y263.length c43) y263) := ⟨by (with_reducible repeat (first | apply Kd.V_alloc | apply Kd.V_drewN | apply Kd.V_drew)); exact Kd.V_mono (Kd.V_far (p := ⟨gb245, 1, none⟩) (Kd.V_mono HO267.out (fun k_ hk => (⟨hk, hk.1.2.2.2⟩ : _ ∧ k_ ≠ gb245))) (fun _ hk => hk.2) (.slice Ao45 t268.length co45)) (fun _ hk => ⟨hk.1.1.1, ⟨hk.1.1.2.1, ⟨hk.1.2, ⟨hk.1.1.2.2.1, hk.1.1.2.2.2⟩⟩⟩⟩)⟩
               have n5_ : Aside0 (Kd.R k59 59 (w44.setCell ⟨gb245, 1, none⟩ (.slice Ao45 t268.length co45)) w.heap.size (fun k_ => (w.heap.size ≤ k_) ∧ some k_ ≠ (.slice Ao39 t259.length co39 : Value).ownBlock) (.slice Ao45 t268.length co45) t268) := ⟨by (with_reducible repeat (first | apply Kd.R_alloc | apply Kd.R_drewN | apply Kd.R_drew)); exact Kd.R_mono (Kd.R_far (p := ⟨gb245, 1, none⟩) (Kd.R_types HO270.out BK245.out (by decide)) (fun _ hk => hk.2) (.slice Ao45 t268.length co45)) (fun _ hk => ⟨hk.1.1.1, hk.1.2⟩)⟩
               have n6_ : Aside0 ((w44.setCell ⟨gb245, 1, none⟩ (.slice Ao45 t268.length co45)).heap[gb244]? = some (.cells #[.slice none 0 0, .slice none 0 0, .int .u32 0] 42 (0, 0))) := ⟨by (with_reducible repeat (first | refine kN ?_ _ | refine kD ?_ | refine kA ?_ _)); refine kR ?_ NB244_245.out _; (with_reducible repeat (first | refine kN ?_ _ | refine kD ?_ | refine kA ?_ _)); exact BK244.out⟩
               have n7_ : Aside0 ((w44.setCell ⟨gb245, 1, none⟩ (.slice Ao45 t268.length co45)).heap[gb245]? = some (.cells #[.slice Ao39 t259.length co39, .slice Ao45 t268.length co45, .int .u32 x246002_1] 42 (0, 0))) := ⟨by (with_reducible repeat (first | refine kN ?_ _ | refine kD ?_ | refine kA ?_ _)); refine kP (cs := #[.slice Ao39 t259.length co39, .slice none 0 0, .int .u32 x246002_1]) ?_ 1 _ rfl; (with_reducible repeat (first | refine kN ?_ _ | refine kD ?_ | refine kA ?_ _)); exact BK245.out⟩
               have n8_ : Aside0 (Below w.heap.size w (w44.setCell ⟨gb245, 1, none⟩ (.slice Ao45 t268.length co45))) := ⟨jH HB⟩
               (try clear HO_0)
               (try clear HO253)
               (try clear HO258)
               (try clear HO261)
               (try clear HO267)
               (try clear HO270)
               (try clear BK244)
               (try clear BK245)
               (try clear HB)
               generalize (w44.setCell ⟨gb245, 1, none⟩ (.slice Ao45 t268.length co45)) = w47 at n0_ n1_ n2_ n3_ n4_ n5_ n6_ n7_ n8_ ⊢
               have HO_0 := n0_
               have HO253 := n1_
               have HO258 := n2_
               have HO261 := n3_
               have HO267 := n4_
               have HO270 := n5_
               have BK244 := n6_
               have BK245 := n7_
               have HB := n8_
               clear n0_ n1_ n2_ n3_ n4_ n5_ n6_ n7_ n8_
               replace HO_0 := Aside0.mk (Kd.V_drew HO_0.out)
               replace HO253 := Aside0.mk (Kd.V_drew HO253.out)
               replace HO258 := Aside0.mk (Kd.V_drew HO258.out)
               replace HO261 := Aside0.mk (Kd.R_drew HO261.out)
               replace HO267 := Aside0.mk (Kd.V_drew HO267.out)
               replace HO270 := Aside0.mk (Kd.R_drew HO270.out)
               replace BK244 := Aside0.mk (kD BK244.out)
               replace BK245 := Aside0.mk (kD BK245.out)
               replace HB := Aside0.mk (zD HB.out)
               have q49 : ((ji31) : Int) ≤ ((y249.length : Int) : Int) := oD (jA)
               obtain ⟨i049, hi049, _, hsz49, _⟩ := info_parts info5
               have hroom49 : y249.length ≤ c36 := (Kd.V_reads' HO253.out).2.1
               have hC49 : Kd.F (Kd.int .u8) _ _ A36 y249.length y249 := (Kd.V_at (base := w.heap.size) HO253.out).2.2
               have q049 : (0 : Int) ≤ ((ji31) : Int) := oD (jA)
               have hcut49 := cut_from (P := Tryd.prog) 25 5 .i64 Tryd.underlying25 hi049 1 hsz49 A36 y249.length c36 (ji31) q049 q49
               have hr49 := Kd.F_cut (m := ((ji31) : Int).toNat) (c := c36) hC49 (by omega) hroom49
               obtain ⟨A49, hA49⟩ : ∃ A1, A1 = (if c36 = ((ji31) : Int).toNat then A36 else (A36 : Option Addr).map (·.add (((ji31) : Int).toNat * 1))) := ⟨_, rfl⟩
               obtain ⟨c49, hc49⟩ : ∃ c1, c1 = c36 - ((ji31) : Int).toNat := ⟨_, rfl⟩
               have hy49 : y272.length = y249.length - ((ji31) : Int).toNat := (by rw [Ny272.out, List.length_drop] <;> omega)
               rw [show (y249).drop ((ji31) : Int).toNat = y272 from Ny272.out.symm] at hr49
               replace hr49 : Kd.F (Kd.int .u8) _ _ A49 y272.length y272 := (by rw [hA49]; exact hr49)
               rw [← hy49, ← hA49, ← hc49] at hcut49
               have HO276 := Aside0.mk (show Kd.V (Kd.int .u8) 5 _ w.heap.size _ (.slice A49 y272.length c49) y272 from Kd.V_mk (by rw [hy49, hc49]; exact Nat.sub_le_sub_right hroom49 _) hr49)
               have HC276 := Aside0.mk (show y272.length ≤ c49 from by rw [hy49, hc49]; exact Nat.sub_le_sub_right hroom49 _)
               clear hr49 hC49 hroom49 hi049 hsz49 hc49
               have KY49 := Aside0.mk hy49
               have KA49 := Aside0.mk hA49
               clear hy49 hA49
               replace q49 := eq_true q49
               refine start_ (n := 15) (S := fun w' => w'.cell? ⟨gb245, 0, none⟩ = some (.slice Ao39 t259.length co39) ∧ w'.cell? ⟨gb245, 1, none⟩ = some (.slice Ao45 t268.length co45) ∧ w'.cell? ⟨gb245, 2, none⟩ = some (.int .u32 x246002_1)) (ds := []) #[false, false, false, false, false, false, false, false, false, false, false, false, false, false, false] (by kernel_rfl) rfl rfl ⟨(kC BK245.out 0).trans rfl, (kC BK245.out 1).trans rfl, (kC BK245.out 2).trans rfl⟩ (fun hHeld => ?_); refine with_tabW table_rule.tab16 table_rule.bits16 (fun HT_ HW_ => ?_)
               generalize w47.drew = w48 at HO_0 HO253 HO258 HO261 HO267 HO270 BK244 BK245 HB HO276 hHeld ⊢
               refine qP 1 70 (tB 15 2) ?_
               refine qP 2 71 (tB 15 6) ?_
               refine qP 3 72 (tB 15 14) ?_
               refine qP 4 73 (tB 15 30) ?_
               refine qP 5 74 (tB 15 62) ?_
               refine qP 6 75 (tB 15 126) ?_
               refine qP 7 76 (tB 15 254) ?_
               refine qP 8 77 (tB 15 510) ?_
               refine qP 9 78 (tB 15 1022) ?_
               refine qP 10 79 (tB 15 2046) ?_
               refine qP 11 80 (tB 15 4094) ?_
               refine qT 0 69 (tB 15 4095) hHeld ?_ (hv := by rintro w' ⟨s0, s1, s2⟩; go_simp; with_reducible rfl)
               refine one_ (i := 12) (N := none) (tB 15 8191) rfl rfl (one_of HT_.out (by kernel_rfl)) (by decide) (fun K hK => ?_)
               have hs50 : w48.cell? ⟨gb244, 0, none⟩ = some (.slice none 0 0) := (kC BK244.out 0).trans rfl
               have hfs50 := kF BK244.out 0
               have hns50_1 := NB245_244.out
               have hms50_1 := NB244_245.out
               have hs51 : w48.cell? ⟨gb244, 1, none⟩ = some (.slice none 0 0) := (kC BK244.out 1).trans rfl
               have hfs51 := kF BK244.out 1
               have hns51_1 := NB245_244.out
               have hms51_1 := NB244_245.out
               have hs52 : w48.cell? ⟨gb244, 2, none⟩ = some (.int .u32 0) := (kC BK244.out 2).trans rfl
               have hfs52 := kF BK244.out 2
               have hns52_1 := NB245_244.out
               have hms52_1 := NB244_245.out
               refine skip_ (w1 := ?_) (by rfl) rfl ?_ ?_
               rotate_left
               ·go_simp
                rfl
               refine hK.out _ _ ⟨((cell_far (p := ⟨gb244, _, none⟩) NB245_244.out _).trans (((cell_far (p := ⟨gb244, _, none⟩) NB245_244.out _).trans (((cell_far (p := ⟨gb244, _, none⟩) NB245_244.out _).trans (hHeld.1)))))), ((cell_far (p := ⟨gb244, _, none⟩) NB245_244.out _).trans (((cell_far (p := ⟨gb244, _, none⟩) NB245_244.out _).trans (((cell_far (p := ⟨gb244, _, none⟩) NB245_244.out _).trans (hHeld.2.1)))))), ((cell_far (p := ⟨gb244, _, none⟩) NB245_244.out _).trans (((cell_far (p := ⟨gb244, _, none⟩) NB245_244.out _).trans (((cell_far (p := ⟨gb244, _, none⟩) NB245_244.out _).trans (hHeld.2.2))))))⟩ (fun hHeld => ?_)
               clear hK K
               refine qP 13 3 (tB 15 16383) ?_
               refine qP 14 4 (tB 15 32767) ?_
               refine done_ (done_of HT_.out (by kernel_rfl)) ?_
               try go_wp2
               refine bodyPost_ret (results_ctt rfl _ _ gb244 42 #[.slice Ao39 t259.length co39, .slice Ao45 t268.length co45, .int .u32 x246002_1] (0, 0) _ rfl (by (with_reducible repeat (first | refine kN ?_ _ | refine kD ?_ | refine kA ?_ _)); refine kP (cs := #[.slice Ao39 t259.length co39, .slice Ao45 t268.length co45, .int .u32 0]) ?_ 2 _ rfl; (with_reducible repeat (first | refine kN ?_ _ | refine kD ?_ | refine kA ?_ _)); refine kP (cs := #[.slice Ao39 t259.length co39, .slice none 0 0, .int .u32 0]) ?_ 1 _ rfl; (with_reducible repeat (first | refine kN ?_ _ | refine kD ?_ | refine kA ?_ _)); refine kP (cs := #[.slice none 0 0, .slice none 0 0, .int .u32 0]) ?_ 0 _ rfl; (with_reducible repeat (first | refine kN ?_ _ | refine kD ?_ | refine kA ?_ _)); exact BK244.out) Tryd.underlying42 rfl (by kernel_rfl)) rfl ?_
               exact ⟨_, _, _, by first | rfl | (simp [errW_none, errW_some] <;> rfl) | (simp only [← hji23, ← hji31]; first | rfl | (simp [errW_none, errW_some] <;> rfl)) | (simp [*, errW_none, errW_some] <;> rfl), by (with_reducible repeat (first | apply Kd.R_alloc | apply Kd.R_drewN | apply Kd.R_drew)); exact Kd.R_mono (Kd.R_far (p := ⟨gb244, 2, none⟩) (Kd.R_far (p := ⟨gb244, 1, none⟩) (Kd.R_far (p := ⟨gb244, 0, none⟩) (Kd.R_types HO261.out BK244.out (by decide)) (fun _ hk => hk.2) (.slice Ao39 t259.length co39)) (fun _ hk => hk.2) (.slice Ao45 t268.length co45)) (fun _ hk => hk.2) (.int .u32 x246002_1)) (fun _ hk => ⟨hk.1.1, hk.1.2⟩), by (with_reducible repeat (first | apply Kd.R_alloc | apply Kd.R_drewN | apply Kd.R_drew)); exact Kd.R_mono (Kd.R_far (p := ⟨gb244, 2, none⟩) (Kd.R_far (p := ⟨gb244, 1, none⟩) (Kd.R_far (p := ⟨gb244, 0, none⟩) (Kd.R_types HO270.out BK244.out (by decide)) (fun _ hk => hk.2) (.slice Ao39 t259.length co39)) (fun _ hk => hk.2) (.slice Ao45 t268.length co45)) (fun _ hk => hk.2) (.int .u32 x246002_1)) (fun _ hk => ⟨hk.1.1, hk.1.2⟩), by (with_reducible repeat (first | apply Kd.V_alloc | apply Kd.V_drewN | apply Kd.V_drew)); exact Kd.V_mono (Kd.V_far (p := ⟨gb244, 2, none⟩) (Kd.V_far (p := ⟨gb244, 1, none⟩) (Kd.V_far (p := ⟨gb244, 0, none⟩) (Kd.V_mono HO276.out (fun k_ hk => (⟨hk, hk.2.2.2.1⟩ : _ ∧ k_ ≠ gb244))) (fun _ hk => hk.2) (.slice Ao39 t259.length co39)) (fun _ hk => hk.2) (.slice Ao45 t268.length co45)) (fun _ hk => hk.2) (.int .u32 x246002_1)) (fun _ hk => ⟨hk.1.1, ⟨hk.1.2.1, hk.1.2.2.1⟩⟩), jH HB⟩
              ·rw [if_neg c34] at H
               have c34b0 : (t262 == 0) = false := bF.mpr c34
               have c34b1 : (t262 != 0) = true := nI.mpr c34
               simp only [Option.some.injEq, Prod.mk.injEq] at H
               obtain ⟨rfl, rfl, rfl, rfl, rfl⟩ := H
               try go_wp2
               replace HO_0 := Aside0.mk (Kd.V_drew HO_0.out)
               replace BK244 := Aside0.mk (kD BK244.out)
               replace BK245 := Aside0.mk (kD BK245.out)
               replace HB := Aside0.mk (zD HB.out)
               have p247 : 0 ≤ (4 : Int) := (by omega)
               have q247 : 4 < (l0.length : Int) := oD (jA)
               obtain ⟨ad247, e247, hx247_0⟩ := Kd.at_int (Kd.V_reads' HO_0.out).2.2 4 p247 q247
               cases e247
               (try simp only [show (4 : Int).toNat = 4 from rfl, Nat.reduceMul, Nat.reduceEqDiff, Go.Addr.add, ↓reduceIte] at hx247_0)
               have qi247 : (4 < l0.length) = True := eq_true (by omega)
               (try rw [show ((4 : Int)).toNat = 4 from rfl] at hx247_0)
               replace p247 := eq_true p247
               replace q247 := eq_true q247
               have p248 : 0 ≤ (5 : Int) := (by omega)
               have q248 : 5 < (l0.length : Int) := oD (jA)
               obtain ⟨ad248, e248, hx248_0⟩ := Kd.at_int (Kd.V_reads' HO_0.out).2.2 5 p248 q248
               obtain rfl : ad247 = ad248 := (by injection e248)
               (try simp only [show (5 : Int).toNat = 5 from rfl, Nat.reduceMul, Nat.reduceEqDiff, Go.Addr.add, ↓reduceIte] at hx248_0)
               have qi248 : (5 < l0.length) = True := eq_true (by omega)
               (try rw [show ((5 : Int)).toNat = 5 from rfl] at hx248_0)
               replace p248 := eq_true p248
               replace q248 := eq_true q248
               refine start_ (n := 12) (S := fun w' => w'.cell? ⟨ad247.block, ad247.off + 4, none⟩ = some (.int .u8 (rd l0 4)) ∧ w'.cell? ⟨ad247.block, ad247.off + 5, none⟩ = some (.int .u8 (rd l0 5))) (ds := []) #[false, false, false, false, false, false, false, false, false, false, false, false] (by kernel_rfl) rfl rfl ⟨hx247_0, hx248_0⟩ (fun hHeld => ?_); refine with_tabW table_rule.tab9 table_rule.bits9 (fun HT_ HW_ => ?_)
               generalize wr.drew = w53 at HO_0 BK244 BK245 HB hx247_0 hx248_0 hHeld ⊢
               refine qP 0 31 (tB 12 1) ?_
               refine qP 1 32 (tB 12 3) ?_
               refine qP 5 36 (tB 12 35) ?_
               refine qP 6 37 (tB 12 99) ?_
               refine qT 2 33 (tB 12 103) hHeld ?_ (hv := by rintro w' ⟨s0, s1⟩; go_simp; with_reducible rfl)
               refine qP 3 34 (tB 12 111) ?_
               refine qP 4 35 (tB 12 127) ?_
               refine qP 10 7 (tB 12 1151) ?_
               refine qT 7 38 (tB 12 1279) hHeld ?_ (hv := by rintro w' ⟨s0, s1⟩; go_simp; with_reducible rfl)
               refine qP 8 39 (tB 12 1535) ?_
               refine qP 9 40 (tB 12 2047) ?_
               refine qP 11 8 (tB 12 4095) ?_
               refine done_ (done_of HT_.out (by kernel_rfl)) ?_
               have q54 : (6 : Int) ≤ ((l0.length : Int) : Int) := oD (jA)
               obtain ⟨i054, hi054, _, hsz54, _⟩ := info_parts info5
               have hroom54 : l0.length ≤ c0 := (Kd.V_reads' HO_0.out).2.1
               have hC54 : Kd.F (Kd.int .u8) _ _ (some ad247) l0.length l0 := (Kd.V_at (base := w.heap.size) HO_0.out).2.2
               have hcut54 := cut_from (P := Tryd.prog) 25 5 .i64 Tryd.underlying25 hi054 1 hsz54 (some ad247) l0.length c0 6 (by omega) q54
               have hr54 := Kd.F_cut (m := (6 : Int).toNat) (c := c0) hC54 (by omega) hroom54
               obtain ⟨A54, hA54⟩ : ∃ A1, A1 = (if c0 = (6 : Int).toNat then (some ad247) else ((some ad247) : Option Addr).map (·.add ((6 : Int).toNat * 1))) := ⟨_, rfl⟩
               obtain ⟨c54, hc54⟩ : ∃ c1, c1 = c0 - (6 : Int).toNat := ⟨_, rfl⟩
               have hy54 : y249.length = l0.length - (6 : Int).toNat := (by rw [Ny249.out, List.length_drop] <;> omega)
               rw [show (l0).drop (6 : Int).toNat = y249 from Ny249.out.symm] at hr54
               replace hr54 : Kd.F (Kd.int .u8) _ _ A54 y249.length y249 := (by rw [hA54]; exact hr54)
               rw [← hy54, ← hA54, ← hc54] at hcut54
               have HO253 := Aside0.mk (show Kd.V (Kd.int .u8) 5 _ w.heap.size _ (.slice A54 y249.length c54) y249 from Kd.V_mk (by rw [hy54, hc54]; exact Nat.sub_le_sub_right hroom54 _) hr54)
               have HC253 := Aside0.mk (show y249.length ≤ c54 from by rw [hy54, hc54]; exact Nat.sub_le_sub_right hroom54 _)
               clear hr54 hC54 hroom54 hi054 hsz54 hc54
               have KY54 := Aside0.mk hy54
               have KA54 := Aside0.mk hA54
               clear hy54 hA54
               replace q54 := eq_true q54
               have q55 : ((ji23) : Int) ≤ ((y249.length : Int) : Int) := oD (jA)
               obtain ⟨i055, hi055, _, hsz55, _⟩ := info_parts info5
               have hroom55 : y249.length ≤ c54 := (Kd.V_reads' HO253.out).2.1
               have hC55 : Kd.F (Kd.int .u8) _ _ A54 y249.length y249 := (Kd.V_at (base := w.heap.size) HO253.out).2.2
               have hcut55 := cut_to (P := Tryd.prog) 25 5 .i64 Tryd.underlying25 hi055 A54 y249.length c54 (ji23) (oD (jA)) q55 hroom55
               have hr55 := Kd.F_take (m := ((ji23) : Int).toNat) hC55 (by omega)
               have hy55 : y254.length = ((ji23) : Int).toNat := (by rw [Ny254.out, List.length_take]; omega)
               rw [← Ny254.out] at hr55
               rw [← hy55] at hcut55
               have HO258 := Aside0.mk (show Kd.V (Kd.int .u8) 5 _ w.heap.size _ (.slice A54 y254.length c54) y254 from Kd.V_mk (by omega) hr55)
               have HC258 := Aside0.mk (show y254.length ≤ c54 from by omega)
               clear hr55 hC55 hroom55 hi055 hsz55
               have KY55 := Aside0.mk hy55
               clear hy55
               replace q55 := eq_true q55
               try go_wp2_with (first | ((with_reducible refine gate_callee (f := 46) rfl ?_); refine goesL_ (some 54) rfl rfl Tryd.func46 (by kernel_rfl) rfl #[.slice A54 y254.length c54] rfl jZ ?_; (with_reducible refine (codec_Decode.calls k1 (fun k_ => ((P0_ k_ ∨ w.heap.size ≤ k_) ∧ (k_ ≠ gb244 ∧ k_ ≠ gb245))) _ _ y254 t259 t262 _ ?side1 ?side2 A26.out).mono ?_); (case side1 => exact HO258.out); (case side2 => exact Glob.below HG.out (jH HB)); rintro e w56 ⟨v260, rfl, ho0, hb⟩; refine ⟨_, rfl, ?_⟩; have HO261 := Aside0.mk (Kd.R_lower (Kd.R_newM (M := fun k_ => (w.heap.size ≤ k_)) (Kd.R_mono (ok' := fun k_ => True) ho0 (fun _ hk_ => trivial)) (zZ (jH HB)) (fun k_ h_ => h_)) (zZ (jH HB))); replace HO_0 := Aside0.mk (Kd.V_elder' (jV HO_0) (Kd.R_base ho0) hb); replace HO253 := Aside0.mk (Kd.V_elder' (jV HO253) (Kd.R_base ho0) hb); replace HO258 := Aside0.mk (Kd.V_elder' (jV HO258) (Kd.R_base ho0) hb); replace BK244 := Aside0.mk (jB BK244 hb); replace BK245 := Aside0.mk (jB BK245 hb); replace HB := Aside0.mk (zT (jH HB) hb); (try clear hb); (try clear hb2); (try clear hk); (try clear hi); (try clear ho0); obtain ⟨Ao57, co57, eo57⟩ := Kd.R_slice HO261.out; subst eo57; have hnb58 := NB245_244.out; have hnc58 := NB244_245.out; obtain ⟨hcz59_0, hcz59_1, hcz59_2, hfz59_0, hfz59_1, hfz59_2⟩ := kQ3 BK245.out) | ((with_reducible refine gate_store (t := 39) (p := 57) rfl ?_); refine store_event (t := 39) (p := 57) (v := ?vo_w60) (w1 := (w56.setCell ⟨gb245, 0, none⟩ (.slice Ao57 t259.length co57))) ?hg ?ho ?hn ?hr ?_; (case ho => rfl); (case hg => rfl); (case hn => rfl); (case hr => first | (go_simp; done) | (go_simp; rfl)); intro w60 hw; have n0_ : Aside0 (Kd.V (Kd.int .u8) 5 w60 w.heap.size (fun k_ => (P0_ k_ ∨ w.heap.size ≤ k_) ∧ some k_ ≠ (.slice Ao57 t259.length co57 : Value).ownBlock ∧ k_ ≠ gb244 ∧ k_ ≠ gb245) (.slice (some ad247) l0.length c0) l0) := ⟨(by rw [hw]; exact (by (with_reducible repeat (first | apply Kd.V_alloc | apply Kd.V_drewN | apply Kd.V_drew)); exact Kd.V_mono (Kd.V_far (p := ⟨gb245, 0, none⟩) (Kd.V_mono HO_0.out (fun k_ hk => (⟨hk, hk.1.2.2⟩ : _ ∧ k_ ≠ gb245))) (fun _ hk => hk.2) (.slice Ao57 t259.length co57)) (fun _ hk => ⟨hk.1.1.1, ⟨hk.1.2, ⟨hk.1.1.2.1, hk.1.1.2.2⟩⟩⟩)))⟩; have n1_ : Aside0 (Kd.V (Kd.int .u8) 5 w60 w.heap.size (fun k_ => (P0_ k_ ∨ w.heap.size ≤ k_) ∧ some k_ ≠ (.slice Ao57 t259.length co57 : Value).ownBlock ∧ k_ ≠ gb244 ∧ k_ ≠ gb245) (.slice A54 y249.length c54) y249) := ⟨(by rw [hw]; exact (by (with_reducible repeat (first | apply Kd.V_alloc | apply Kd.V_drewN | apply Kd.V_drew)); exact Kd.V_mono (Kd.V_far (p := ⟨gb245, 0, none⟩) (Kd.V_mono HO253.out (fun k_ hk => (⟨hk, hk.1.2.2⟩ : _ ∧ k_ ≠ gb245))) (fun _ hk => hk.2) (.slice Ao57 t259.length co57)) (fun _ hk => ⟨hk.1.1.1, ⟨hk.1.2, ⟨hk.1.1.2.1, hk.1.1.2.2⟩⟩⟩)))⟩; have n2_ : Aside0 (Kd.V (Kd.int .u8) 5 w60 w.heap.size (fun k_ => (P0_ k_ ∨ w.heap.size ≤ k_) ∧ some k_ ≠ (.slice Ao57 t259.length co57 : Value).ownBlock ∧ k_ ≠ gb244 ∧ k_ ≠ gb245) (.slice A54 y254.length c54) y254) := ⟨(by rw [hw]; exact (by (with_reducible repeat (first | apply Kd.V_alloc | apply Kd.V_drewN | apply Kd.V_drew)); exact Kd.V_mono (Kd.V_far (p := ⟨gb245, 0, none⟩) (Kd.V_mono HO258.out (fun k_ hk => (⟨hk, hk.1.2.2⟩ : _ ∧ k_ ≠ gb245))) (fun _ hk => hk.2) (.slice Ao57 t259.length co57)) (fun _ hk => ⟨hk.1.1.1, ⟨hk.1.2, ⟨hk.1.1.2.1, hk.1.1.2.2⟩⟩⟩)))⟩; have n3_ : Aside0 (Kd.R k59 59 w60 w.heap.size (fun k_ => (w.heap.size ≤ k_)) (.slice Ao57 t259.length co57) t259) := ⟨(by rw [hw]; exact (by (with_reducible repeat (first | apply Kd.R_alloc | apply Kd.R_drewN | apply Kd.R_drew)); exact Kd.R_mono (Kd.R_far (p := ⟨gb245, 0, none⟩) (Kd.R_types HO261.out BK245.out (by decide)) (fun _ hk => hk.2) (.slice Ao57 t259.length co57)) (fun _ hk => hk.1.1)))⟩; have n4_ : Aside0 (w60.heap[gb244]? = some (.cells #[.slice none 0 0, .slice none 0 0, .int .u32 0] 42 (0, 0))) := ⟨(by rw [hw]; exact (by (with_reducible repeat (first | refine kN ?_ _ | refine kD ?_ | refine kA ?_ _)); refine kR ?_ NB244_245.out _; (with_reducible repeat (first | refine kN ?_ _ | refine kD ?_ | refine kA ?_ _)); exact BK244.out))⟩; have n5_ : Aside0 (w60.heap[gb245]? = some (.cells #[.slice Ao57 t259.length co57, .slice none 0 0, .int .u32 x246002_1] 42 (0, 0))) := ⟨(by rw [hw]; exact (by (with_reducible repeat (first | refine kN ?_ _ | refine kD ?_ | refine kA ?_ _)); refine kP (cs := #[.slice none 0 0, .slice none 0 0, .int .u32 x246002_1]) ?_ 0 _ rfl; (with_reducible repeat (first | refine kN ?_ _ | refine kD ?_ | refine kA ?_ _)); exact BK245.out))⟩; have n6_ : Aside0 (Below w.heap.size w w60) := ⟨(by rw [hw]; exact (jH HB))⟩; clear hw; clear HO_0; clear HO253; clear HO258; clear HO261; clear BK244; clear BK245; clear HB; have HO_0 := n0_; have HO253 := n1_; have HO258 := n2_; have HO261 := n3_; have BK244 := n4_; have BK245 := n5_; have HB := n6_; clear n0_ n1_ n2_ n3_ n4_ n5_ n6_; have q61 : ((ji31) : Int) ≤ ((y249.length : Int) : Int) := oD (jA); obtain ⟨i061, hi061, _, hsz61, _⟩ := info_parts info5; have hroom61 : y249.length ≤ c54 := (Kd.V_reads' HO253.out).2.1; have hC61 : Kd.F (Kd.int .u8) _ _ A54 y249.length y249 := (Kd.V_at (base := w.heap.size) HO253.out).2.2; have ql61 : ((ji23) : Int) ≤ ((ji31) : Int) := oD (jA); have q061 : (0 : Int) ≤ ((ji23) : Int) := oD (jA); have hcut61 := cut_mid (P := Tryd.prog) 25 5 .i64 .i64 Tryd.underlying25 hi061 1 hsz61 A54 y249.length c54 (ji23) (ji31) q061 ql61 q61 hroom61; have hr61 := Kd.F_mid (lo := ((ji23) : Int).toNat) (hi := ((ji31) : Int).toNat) (c := c54) hC61 (by omega) (by omega) hroom61; obtain ⟨A61, hA61⟩ : ∃ A1, A1 = (if c54 = ((ji23) : Int).toNat then A54 else (A54 : Option Addr).map (·.add (((ji23) : Int).toNat * 1))) := ⟨_, rfl⟩; obtain ⟨c61, hc61⟩ : ∃ c1, c1 = c54 - ((ji23) : Int).toNat := ⟨_, rfl⟩; have hy61 : y263.length = ((ji31) : Int).toNat - ((ji23) : Int).toNat := (by rw [Ny263.out, List.length_drop, List.length_take] <;> omega); rw [show ((y249).take ((ji31) : Int).toNat).drop ((ji23) : Int).toNat = y263 from Ny263.out.symm] at hr61; replace hr61 : Kd.F (Kd.int .u8) _ _ A61 y263.length y263 := (by rw [hA61]; exact hr61); rw [← hy61, ← hA61, ← hc61] at hcut61; have HO267 := Aside0.mk (show Kd.V (Kd.int .u8) 5 _ w.heap.size _ (.slice A61 y263.length c61) y263 from Kd.V_mk (by rw [hy61, hc61]; exact Nat.sub_le_sub_right (Nat.le_trans (by omega) hroom61) _) hr61); have HC267 := Aside0.mk (show y263.length ≤ c61 from by rw [hy61, hc61]; exact Nat.sub_le_sub_right (Nat.le_trans (by omega) hroom61) _); clear hr61 hC61 hroom61 hi061 hsz61 hc61; have KY61 := Aside0.mk hy61; have KA61 := Aside0.mk hA61; clear hy61 hA61; replace q61 := eq_true q61) | ((with_reducible refine gate_callee (f := 46) rfl ?_); refine goesL_ (some 65) rfl rfl Tryd.func46 (by kernel_rfl) rfl #[.slice A61 y263.length c61] rfl jZ ?_; (with_reducible refine (codec_Decode.calls k1 (fun k_ => ((P0_ k_ ∨ w.heap.size ≤ k_) ∧ (some k_ ≠ (.slice Ao57 t259.length co57 : Value).ownBlock ∧ (k_ ≠ gb244 ∧ k_ ≠ gb245)))) _ _ y263 t268 t271 _ ?side1 ?side2 A30.out).mono ?_); (case side1 => exact HO267.out); (case side2 => exact Glob.below HG.out (jH HB)); rintro e w62 ⟨v269, rfl, ho0, hb⟩; refine ⟨_, rfl, ?_⟩; have HO270 := Aside0.mk (Kd.R_lower (Kd.R_new' (Kd.R_newM (M := fun k_ => (w.heap.size ≤ k_)) (Kd.R_mono (ok' := fun k_ => True) ho0 (fun _ hk_ => trivial)) (zZ (jH HB)) (fun k_ h_ => h_)) (Kd.R_lt (jR HO261))) (zZ (jH HB))); replace HO_0 := Aside0.mk (Kd.V_elder' (jV HO_0) (Kd.R_base ho0) hb); replace HO253 := Aside0.mk (Kd.V_elder' (jV HO253) (Kd.R_base ho0) hb); replace HO258 := Aside0.mk (Kd.V_elder' (jV HO258) (Kd.R_base ho0) hb); replace HO261 := Aside0.mk (Kd.R_elder' (jR HO261) (Kd.R_base ho0) hb); replace HO267 := Aside0.mk (Kd.V_elder' (jV HO267) (Kd.R_base ho0) hb); replace BK244 := Aside0.mk (jB BK244 hb); replace BK245 := Aside0.mk (jB BK245 hb); replace HB := Aside0.mk (zT (jH HB) hb); (try clear hb); (try clear hb2); (try clear hk); (try clear hi); (try clear ho0); obtain ⟨Ao63, co63, eo63⟩ := Kd.R_slice HO270.out; subst eo63; obtain ⟨hcz64_0, hcz64_1, hcz64_2, hfz64_0, hfz64_1, hfz64_2⟩ := kQ3 BK245.out))
               have n0_ : Aside0 (Kd.V (Kd.int .u8) 5 (w62.setCell ⟨gb245, 1, none⟩ (.slice Ao63 t268.length co63)) w.heap.size (fun k_ => (P0_ k_ ∨ w.heap.size ≤ k_) ∧ some k_ ≠ (.slice Ao57 t259.length co57 : Value).ownBlock ∧ some k_ ≠ (.slice Ao63 t268.length co63 : Value).ownBlock ∧ k_ ≠ gb244 ∧ k_ ≠ gb245) (.slice (some ad247) l0.length c0) l0) := ⟨by (with_reducible repeat (first | apply Kd.V_alloc | apply Kd.V_drewN | apply Kd.V_drew)); exact Kd.V_mono (Kd.V_far (p := ⟨gb245, 1, none⟩) (Kd.V_mono HO_0.out (fun k_ hk => (⟨hk, hk.1.2.2.2⟩ : _ ∧ k_ ≠ gb245))) (fun _ hk => hk.2) (.slice Ao63 t268.length co63)) (fun _ hk => ⟨hk.1.1.1, ⟨hk.1.1.2.1, ⟨hk.1.2, ⟨hk.1.1.2.2.1, hk.1.1.2.2.2⟩⟩⟩⟩)⟩
               have n1_ : Aside0 (Kd.V (Kd.int .u8) 5 (w62.setCell ⟨gb245, 1, none⟩ (.slice Ao63 t268.length co63)) w.heap.size (fun k_ => (P0_ k_ ∨ w.heap.size ≤ k_) ∧ some k_ ≠ (.slice Ao57 t259.length co57 : Value).ownBlock ∧ some k_ ≠ (.slice Ao63 t268.length co63 : Value).ownBlock ∧ k_ ≠ gb244 ∧ k_ ≠ gb245) (.slice A54 y249.length c54) y249) := ⟨by (with_reducible repeat (first | apply Kd.V_alloc | apply Kd.V_drewN | apply Kd.V_drew)); exact Kd.V_mono (Kd.V_far (p := ⟨gb245, 1, none⟩) (Kd.V_mono HO253.out (fun k_ hk => (⟨hk, hk.1.2.2.2⟩ : _ ∧ k_ ≠ gb245))) (fun _ hk => hk.2) (.slice Ao63 t268.length co63)) (fun _ hk => ⟨hk.1.1.1, ⟨hk.1.1.2.1, ⟨hk.1.2, ⟨hk.1.1.2.2.1, hk.1.1.2.2.2⟩⟩⟩⟩)⟩
               have n2_ : Aside0 (Kd.V (Kd.int .u8) 5 (w62.setCell ⟨gb245, 1, none⟩ (.slice Ao63 t268.length co63)) w.heap.size (fun k_ => (P0_ k_ ∨ w.heap.size ≤ k_) ∧ some k_ ≠ (.slice Ao57 t259.length co57 : Value).ownBlock ∧ some k_ ≠ (.slice Ao63 t268.length co63 : Value).ownBlock ∧ k_ ≠ gb244 ∧ k_ ≠ gb245) (.slice A54 y254.length c54) y254) := ⟨by (with_reducible repeat (first | apply Kd.V_alloc | apply Kd.V_drewN | apply Kd.V_drew)); exact Kd.V_mono (Kd.V_far (p := ⟨gb245, 1, none⟩) (Kd.V_mono HO258.out (fun k_ hk => (⟨hk, hk.1.2.2.2⟩ : _ ∧ k_ ≠ gb245))) (fun _ hk => hk.2) (.slice Ao63 t268.length co63)) (fun _ hk => ⟨hk.1.1.1, ⟨hk.1.1.2.1, ⟨hk.1.2, ⟨hk.1.1.2.2.1, hk.1.1.2.2.2⟩⟩⟩⟩)⟩
               have n3_ : Aside0 (Kd.R k59 59 (w62.setCell ⟨gb245, 1, none⟩ (.slice Ao63 t268.length co63)) w.heap.size (fun k_ => (w.heap.size ≤ k_) ∧ some k_ ≠ (.slice Ao63 t268.length co63 : Value).ownBlock) (.slice Ao57 t259.length co57) t259) := ⟨by (with_reducible repeat (first | apply Kd.R_alloc | apply Kd.R_drewN | apply Kd.R_drew)); exact Kd.R_mono (Kd.R_far (p := ⟨gb245, 1, none⟩) (Kd.R_types HO261.out BK245.out (by decide)) (fun _ hk => hk.2) (.slice Ao63 t268.length co63)) (fun _ hk => ⟨hk.1.1, hk.1.2⟩)⟩
               have n4_ : Aside0 (Kd.V (Kd.int .u8) 5 (w62.setCell ⟨gb245, 1, none⟩ (.slice Ao63 t268.length co63)) w.heap.size (fun k_ => (P0_ k_ ∨ w.heap.size ≤ k_) ∧ some k_ ≠ (.slice Ao57 t259.length co57 : Value).ownBlock ∧ some k_ ≠ (.slice Ao63 t268.length co63 : Value).ownBlock ∧ k_ ≠ gb244 ∧ k_ ≠ gb245) (.slice A61 y263.length c61) y263) := ⟨by (with_reducible repeat (first | apply Kd.V_alloc | apply Kd.V_drewN | apply Kd.V_drew)); exact Kd.V_mono (Kd.V_far (p := ⟨gb245, 1, none⟩) (Kd.V_mono HO267.out (fun k_ hk => (⟨hk, hk.1.2.2.2⟩ : _ ∧ k_ ≠ gb245))) (fun _ hk => hk.2) (.slice Ao63 t268.length co63)) (fun _ hk => ⟨hk.1.1.1, ⟨hk.1.1.2.1, ⟨hk.1.2, ⟨hk.1.1.2.2.1, hk.1.1.2.2.2⟩⟩⟩⟩)⟩
               have n5_ : Aside0 (Kd.R k59 59 (w62.setCell ⟨gb245, 1, none⟩ (.slice Ao63 t268.length co63)) w.heap.size (fun k_ => (w.heap.size ≤ k_) ∧ some k_ ≠ (.slice Ao57 t259.length co57 : Value).ownBlock) (.slice Ao63 t268.length co63) t268) := ⟨by (with_reducible repeat (first | apply Kd.R_alloc | apply Kd.R_drewN | apply Kd.R_drew)); exact Kd.R_mono (Kd.R_far (p := ⟨gb245, 1, none⟩) (Kd.R_types HO270.out BK245.out (by decide)) (fun _ hk => hk.2) (.slice Ao63 t268.length co63)) (fun _ hk => ⟨hk.1.1.1, hk.1.2⟩)⟩
               have n6_ : Aside0 ((w62.setCell ⟨gb245, 1, none⟩ (.slice Ao63 t268.length co63)).heap[gb244]? = some (.cells #[.slice none 0 0, .slice none 0 0, .int .u32 0] 42 (0, 0))) := ⟨by (with_reducible repeat (first | refine kN ?_ _ | refine kD ?_ | refine kA ?_ _)); refine kR ?_ NB244_245.out _; (with_reducible repeat (first | refine kN ?_ _ | refine kD ?_ | refine kA ?_ _)); exact BK244.out⟩
               have n7_ : Aside0 ((w62.setCell ⟨gb245, 1, none⟩ (.slice Ao63 t268.length co63)).heap[gb245]? = some (.cells #[.slice Ao57 t259.length co57, .slice Ao63 t268.length co63, .int .u32 x246002_1] 42 (0, 0))) := ⟨by (with_reducible repeat (first | refine kN ?_ _ | refine kD ?_ | refine kA ?_ _)); refine kP (cs := #[.slice Ao57 t259.length co57, .slice none 0 0, .int .u32 x246002_1]) ?_ 1 _ rfl; (with_reducible repeat (first | refine kN ?_ _ | refine kD ?_ | refine kA ?_ _)); exact BK245.out⟩
               have n8_ : Aside0 (Below w.heap.size w (w62.setCell ⟨gb245, 1, none⟩ (.slice Ao63 t268.length co63))) := ⟨jH HB⟩
               (try clear HO_0)
               (try clear HO253)
               (try clear HO258)
               (try clear HO261)
               (try clear HO267)
               (try clear HO270)
               (try clear BK244)
               (try clear BK245)
               (try clear HB)
               generalize (w62.setCell ⟨gb245, 1, none⟩ (.slice Ao63 t268.length co63)) = w65 at n0_ n1_ n2_ n3_ n4_ n5_ n6_ n7_ n8_ ⊢
               have HO_0 := n0_
               have HO253 := n1_
               have HO258 := n2_
               have HO261 := n3_
               have HO267 := n4_
               have HO270 := n5_
               have BK244 := n6_
               have BK245 := n7_
               have HB := n8_
               clear n0_ n1_ n2_ n3_ n4_ n5_ n6_ n7_ n8_
               replace HO_0 := Aside0.mk (Kd.V_drew HO_0.out)
               replace HO253 := Aside0.mk (Kd.V_drew HO253.out)
               replace HO258 := Aside0.mk (Kd.V_drew HO258.out)
               replace HO261 := Aside0.mk (Kd.R_drew HO261.out)
               replace HO267 := Aside0.mk (Kd.V_drew HO267.out)
               replace HO270 := Aside0.mk (Kd.R_drew HO270.out)
               replace BK244 := Aside0.mk (kD BK244.out)
               replace BK245 := Aside0.mk (kD BK245.out)
               replace HB := Aside0.mk (zD HB.out)
               have q67 : ((ji31) : Int) ≤ ((y249.length : Int) : Int) := oD (jA)
               obtain ⟨i067, hi067, _, hsz67, _⟩ := info_parts info5
               have hroom67 : y249.length ≤ c54 := (Kd.V_reads' HO253.out).2.1
               have hC67 : Kd.F (Kd.int .u8) _ _ A54 y249.length y249 := (Kd.V_at (base := w.heap.size) HO253.out).2.2
               have q067 : (0 : Int) ≤ ((ji31) : Int) := oD (jA)
               have hcut67 := cut_from (P := Tryd.prog) 25 5 .i64 Tryd.underlying25 hi067 1 hsz67 A54 y249.length c54 (ji31) q067 q67
               have hr67 := Kd.F_cut (m := ((ji31) : Int).toNat) (c := c54) hC67 (by omega) hroom67
               obtain ⟨A67, hA67⟩ : ∃ A1, A1 = (if c54 = ((ji31) : Int).toNat then A54 else (A54 : Option Addr).map (·.add (((ji31) : Int).toNat * 1))) := ⟨_, rfl⟩
               obtain ⟨c67, hc67⟩ : ∃ c1, c1 = c54 - ((ji31) : Int).toNat := ⟨_, rfl⟩
               have hy67 : y272.length = y249.length - ((ji31) : Int).toNat := (by rw [Ny272.out, List.length_drop] <;> omega)
               rw [show (y249).drop ((ji31) : Int).toNat = y272 from Ny272.out.symm] at hr67
               replace hr67 : Kd.F (Kd.int .u8) _ _ A67 y272.length y272 := (by rw [hA67]; exact hr67)
               rw [← hy67, ← hA67, ← hc67] at hcut67
               have HO276 := Aside0.mk (show Kd.V (Kd.int .u8) 5 _ w.heap.size _ (.slice A67 y272.length c67) y272 from Kd.V_mk (by rw [hy67, hc67]; exact Nat.sub_le_sub_right hroom67 _) hr67)
               have HC276 := Aside0.mk (show y272.length ≤ c67 from by rw [hy67, hc67]; exact Nat.sub_le_sub_right hroom67 _)
               clear hr67 hC67 hroom67 hi067 hsz67 hc67
               have KY67 := Aside0.mk hy67
               have KA67 := Aside0.mk hA67
               clear hy67 hA67
               replace q67 := eq_true q67
               refine start_ (n := 15) (S := fun w' => w'.cell? ⟨gb245, 0, none⟩ = some (.slice Ao57 t259.length co57) ∧ w'.cell? ⟨gb245, 1, none⟩ = some (.slice Ao63 t268.length co63) ∧ w'.cell? ⟨gb245, 2, none⟩ = some (.int .u32 x246002_1)) (ds := []) #[false, false, false, false, false, false, false, false, false, false, false, false, false, false, false] (by kernel_rfl) rfl rfl ⟨(kC BK245.out 0).trans rfl, (kC BK245.out 1).trans rfl, (kC BK245.out 2).trans rfl⟩ (fun hHeld => ?_); refine with_tabW table_rule.tab16 table_rule.bits16 (fun HT_ HW_ => ?_)
               generalize w65.drew = w66 at HO_0 HO253 HO258 HO261 HO267 HO270 BK244 BK245 HB HO276 hHeld ⊢
               refine qP 1 70 (tB 15 2) ?_
               refine qP 2 71 (tB 15 6) ?_
               refine qP 3 72 (tB 15 14) ?_
               refine qP 4 73 (tB 15 30) ?_
               refine qP 5 74 (tB 15 62) ?_
               refine qP 6 75 (tB 15 126) ?_
               refine qP 7 76 (tB 15 254) ?_
               refine qP 8 77 (tB 15 510) ?_
               refine qU 9 78 (tB 15 1022) ?_
               refine qU 10 79 (tB 15 2046) ?_
               refine qP 11 80 (tB 15 4094) ?_
               refine qT 0 69 (tB 15 4095) hHeld ?_ (hv := by rintro w' ⟨s0, s1, s2⟩; go_simp; with_reducible rfl)
               refine one_ (i := 12) (N := none) (tB 15 8191) rfl rfl (one_of HT_.out (by kernel_rfl)) (by decide) (fun K hK => ?_)
               have hs68 : w66.cell? ⟨gb244, 0, none⟩ = some (.slice none 0 0) := (kC BK244.out 0).trans rfl
               have hfs68 := kF BK244.out 0
               have hns68_1 := NB245_244.out
               have hms68_1 := NB244_245.out
               have hs69 : w66.cell? ⟨gb244, 1, none⟩ = some (.slice none 0 0) := (kC BK244.out 1).trans rfl
               have hfs69 := kF BK244.out 1
               have hns69_1 := NB245_244.out
               have hms69_1 := NB244_245.out
               have hs70 : w66.cell? ⟨gb244, 2, none⟩ = some (.int .u32 0) := (kC BK244.out 2).trans rfl
               have hfs70 := kF BK244.out 2
               have hns70_1 := NB245_244.out
               have hms70_1 := NB244_245.out
               refine skip_ (w1 := ?_) (by rfl) rfl ?_ ?_
               rotate_left
               ·go_simp
                rfl
               refine hK.out _ _ ⟨((cell_far (p := ⟨gb244, _, none⟩) NB245_244.out _).trans (((cell_far (p := ⟨gb244, _, none⟩) NB245_244.out _).trans (((cell_far (p := ⟨gb244, _, none⟩) NB245_244.out _).trans (hHeld.1)))))), ((cell_far (p := ⟨gb244, _, none⟩) NB245_244.out _).trans (((cell_far (p := ⟨gb244, _, none⟩) NB245_244.out _).trans (((cell_far (p := ⟨gb244, _, none⟩) NB245_244.out _).trans (hHeld.2.1)))))), ((cell_far (p := ⟨gb244, _, none⟩) NB245_244.out _).trans (((cell_far (p := ⟨gb244, _, none⟩) NB245_244.out _).trans (((cell_far (p := ⟨gb244, _, none⟩) NB245_244.out _).trans (hHeld.2.2))))))⟩ (fun hHeld => ?_)
               clear hK K
               refine qP 13 3 (tB 15 16383) ?_
               refine qP 14 4 (tB 15 32767) ?_
               refine done_ (done_of HT_.out (by kernel_rfl)) ?_
               try go_wp2
               refine bodyPost_ret (results_ctt rfl _ _ gb244 42 #[.slice Ao57 t259.length co57, .slice Ao63 t268.length co63, .int .u32 x246002_1] (0, 0) _ rfl (by (with_reducible repeat (first | refine kN ?_ _ | refine kD ?_ | refine kA ?_ _)); refine kP (cs := #[.slice Ao57 t259.length co57, .slice Ao63 t268.length co63, .int .u32 0]) ?_ 2 _ rfl; (with_reducible repeat (first | refine kN ?_ _ | refine kD ?_ | refine kA ?_ _)); refine kP (cs := #[.slice Ao57 t259.length co57, .slice none 0 0, .int .u32 0]) ?_ 1 _ rfl; (with_reducible repeat (first | refine kN ?_ _ | refine kD ?_ | refine kA ?_ _)); refine kP (cs := #[.slice none 0 0, .slice none 0 0, .int .u32 0]) ?_ 0 _ rfl; (with_reducible repeat (first | refine kN ?_ _ | refine kD ?_ | refine kA ?_ _)); exact BK244.out) Tryd.underlying42 rfl (by kernel_rfl)) rfl ?_
               exact ⟨_, _, _, by first | rfl | (simp [errW_none, errW_some] <;> rfl) | (simp only [← hji23, ← hji31]; first | rfl | (simp [errW_none, errW_some] <;> rfl)) | (simp [*, errW_none, errW_some] <;> rfl), by (with_reducible repeat (first | apply Kd.R_alloc | apply Kd.R_drewN | apply Kd.R_drew)); exact Kd.R_mono (Kd.R_far (p := ⟨gb244, 2, none⟩) (Kd.R_far (p := ⟨gb244, 1, none⟩) (Kd.R_far (p := ⟨gb244, 0, none⟩) (Kd.R_types HO261.out BK244.out (by decide)) (fun _ hk => hk.2) (.slice Ao57 t259.length co57)) (fun _ hk => hk.2) (.slice Ao63 t268.length co63)) (fun _ hk => hk.2) (.int .u32 x246002_1)) (fun _ hk => ⟨hk.1.1, hk.1.2⟩), by (with_reducible repeat (first | apply Kd.R_alloc | apply Kd.R_drewN | apply Kd.R_drew)); exact Kd.R_mono (Kd.R_far (p := ⟨gb244, 2, none⟩) (Kd.R_far (p := ⟨gb244, 1, none⟩) (Kd.R_far (p := ⟨gb244, 0, none⟩) (Kd.R_types HO270.out BK244.out (by decide)) (fun _ hk => hk.2) (.slice Ao57 t259.length co57)) (fun _ hk => hk.2) (.slice Ao63 t268.length co63)) (fun _ hk => hk.2) (.int .u32 x246002_1)) (fun _ hk => ⟨hk.1.1, hk.1.2⟩), by (with_reducible repeat (first | apply Kd.V_alloc | apply Kd.V_drewN | apply Kd.V_drew)); exact Kd.V_mono (Kd.V_far (p := ⟨gb244, 2, none⟩) (Kd.V_far (p := ⟨gb244, 1, none⟩) (Kd.V_far (p := ⟨gb244, 0, none⟩) (Kd.V_mono HO276.out (fun k_ hk => (⟨hk, hk.2.2.2.1⟩ : _ ∧ k_ ≠ gb244))) (fun _ hk => hk.2) (.slice Ao57 t259.length co57)) (fun _ hk => hk.2) (.slice Ao63 t268.length co63)) (fun _ hk => hk.2) (.int .u32 x246002_1)) (fun _ hk => ⟨hk.1.1, ⟨hk.1.2.1, hk.1.2.2.1⟩⟩), jH HB⟩
             ·rw [if_neg c32] at H
              exact absurd H (by simp)
            ·rw [if_neg c29] at H
             exact absurd H (by simp)
           ·rw [if_neg c28] at H
            exact absurd H (by simp)
          ·rw [if_neg c25] at H
           exact absurd H (by simp)
         ·rw [if_neg c24] at H
          exact absurd H (by simp)
       ·rw [if_neg c17] at H
        exact absurd H (by simp)
      ·rw [if_neg c16] at H
       exact absurd H (by simp)
     ·rw [if_neg c15] at H
      exact absurd H (by simp)
mutual
def table_Decode.j0 : Nat → List Int → Bool → Option ((List (S42)) × Int)
 | 0, _, _ => none
 | k + 1, x0, x26 => if x26 = true then (some (([] : List (S42)), 2)) else (if 4 < (x0.length : Int) then (if 5 ≤ (x0.length : Int) then (table_Decode.l0 k (x0.drop (5 : Int).toNat) ([] : List (S42)) (wrap64 (rd x0 4)) 0) else (none)) else (none))
def table_Decode.l0 : Nat → List Int → List (S42) → Int → Int → Option ((List (S42)) × Int)
 | 0, _, _, _, _ => none
 | k + 1, x0, x5, x33, x34 => if x34 < x33 then ((table_rule.f k x0).bind fun bt289 => (if bt289.2.2.2.2 = true then (if x5.length < 2513169434916 then (table_Decode.l0 k bt289.2.2.2.1 (x5 ++ [(⟨bt289.1, bt289.2.1, bt289.2.2.1⟩ : S42)]) x33 (wrap64 (x34 + 1))) else (none)) else (some (([] : List (S42)), 2)))) else (if (x0.length : Int) > 0 then (some (([] : List (S42)), 2)) else ((table_Right.f k x5).bind fun t304 => (if t304 = true then (some (x5, 0)) else (some (([] : List (S42)), 2)))))
end
def table_Decode.f (k : Nat) (l0 : List Int) : Option ((List (S42)) × Int) := (crc_Open.f k l0).bind fun bt277 => (if bt277.2 = 0 then (if (bt277.1.length : Int) ≤ 4 then (table_Decode.j0 k bt277.1 true) else (if 4 ≤ (bt277.1.length : Int) then (table_Decode.j0 k bt277.1 ((strOfNums (bt277.1.take 4)).toList != ([72, 82, 84, 49] : List UInt8))) else (none))) else (some (([] : List (S42)), bt277.2)))
set_option maxHeartbeats 8000000 in
set_option maxRecDepth 100000 in
theorem table_Decode.calls (k : Nat) (A0 : Option Addr) (c0 : Nat) (l0 : List Int) (r1 : List (S42)) (r2 : Int) (w : World) (hr0 : Kd.C (Kd.int .u8) w A0 l0.length l0) (hc0 : l0.length ≤ c0) (hG : Glob w) (h : table_Decode.f k l0 = some (r1, r2)) :
  Calls Tryd.prog 17 #[.slice A0 l0.length c0] w fun e w' => ∃ v0_ : Value, e = .returned (.tuple #[v0_, .int .i64 r2]) ∧ Kd.S k42 42 w' w.heap.size (fun _ => True) v0_ r1 ∧ Below w.heap.size w w' := by
 have hu42 := Tryd.underlying42
 have HG := Aside0.mk hG
 clear hG
 have HR0 := Aside0.mk hr0
 have HC0 := Aside0.mk hc0
 clear hr0 hc0
 have HB := Aside0.mk (Below.refl w.heap.size w)
 have H : ((crc_Open.f k l0).bind fun bt277 => (if bt277.2 = 0 then (if (bt277.1.length : Int) ≤ 4 then (table_Decode.j0 k bt277.1 true) else (if 4 ≤ (bt277.1.length : Int) then (table_Decode.j0 k bt277.1 ((strOfNums (bt277.1.take 4)).toList != ([72, 82, 84, 49] : List UInt8))) else (none))) else (some (([] : List (S42)), bt277.2)))) = some (r1, r2) := h
 clear h
 replace H := Option.bind_eq_some_iff.mp H
 obtain ⟨⟨t277, t278⟩, A20, H⟩ := H
 try dsimp only at H
 have A2 := Aside0.mk A20
 clear A20
 by_cases c3 : t278 = 0
 ·rw [if_pos c3] at H
  have c3b0 : (t278 == 0) = true := bI.mpr c3
  have c3b1 : (t278 != 0) = false := nF.mpr c3
  clear c3
  have HC4 := Aside0.mk H
  clear H
  go_enter Tryd.func17, Tryd.ntmps17
  go_upto_region 4 with (first | ((with_reducible refine gate_callee (f := 34) rfl ?_); refine goesL_ (some 12) rfl rfl Tryd.func34 (by kernel_rfl) rfl #[.slice A0 l0.length c0] rfl jZ ?_; (with_reducible refine (crc_Open.calls k _ _ l0 t277 t278 _ ?side1 ?side2 A2.out).mono ?_); (case side1 => repeat (first | exact HR0.out | (with_reducible refine Kd.C_alloc ?_ _) | (with_reducible refine Kd.C_drewN ?_ _) | (with_reducible refine Kd.C_drew ?_))); (case side2 => exact HC0.out); rintro e w5 ⟨v279, rfl, ho0, hb⟩; refine ⟨_, rfl, ?_⟩; have HO280 := Aside0.mk (Kd.R_lower ho0 (zZ (jH HB))); replace HB := Aside0.mk (zT (jH HB) hb); (try clear hb); (try clear hb2); (try clear hk); (try clear hi); (try clear ho0)))
  (try simp only [Act.put, List.setIfInBounds_toArray, List.set_cons_zero, List.set_cons_succ])
  go_cut [26] (fun v26 wc => ∃ (kq : Nat) (x26_3 : Bool), v26 = .bool x26_3 ∧ Aside0 (table_Decode.j0 kq t277 x26_3 = some (r1, r2)) ∧ Aside0 (kq ≤ k) ∧ Aside0 (Kd.Q (Kd.int .u8) 5 wc w.heap.size (fun _ => True) v279 t277) ∧ Aside0 (Below w.heap.size w wc))
  case first =>
   have H := HC4.out
   clear HC4
   by_cases c6 : (t277.length : Int) ≤ 4
   ·rw [if_pos c6] at H
    have c6b0 := dT c6
    have c6b1 : decide (t277.length ≤ 4) = true := dT (by omega)
    clear c6
    (first | rw [c6b0] | (simp only [i64_w, i32_w]; rw [c6b0]) | skip)
    have H' := Aside0.mk H
    clear H
    obtain ⟨Ao7, co7, eo7⟩ := Kd.R_slice HO280.out
    subst eo7
    go_wp2
    go_meet
    case rel => exact ⟨_, (true), jS, H', ⟨jO⟩, ⟨Kd.Q_of_R (jR HO280)⟩, ⟨jH HB⟩⟩
   ·rw [if_neg c6] at H
    have c6b0 := dF c6
    have c6b1 : decide (t277.length ≤ 4) = false := dF (by omega)
    clear c6
    (first | rw [c6b0] | (simp only [i64_w, i32_w]; rw [c6b0]) | skip)
    by_cases c8 : 4 ≤ (t277.length : Int)
    ·rw [if_pos c8] at H
     have c8b0 := eq_true c8
     have c8b1 := dT c8
     clear c8
     obtain ⟨y281, hy281⟩ : ∃ y_ : List Int, y_ = (t277.take 4) := ⟨_, rfl⟩
     simp only [Option.bind_some, ← hy281] at H
     have Ny281 := Aside0.mk hy281
     clear hy281
     have H' := Aside0.mk H
     clear H
     obtain ⟨Ao9, co9, eo9⟩ := Kd.R_slice HO280.out
     subst eo9
     have q10 : (4 : Int) ≤ ((t277.length : Int) : Int) := oD (jA)
     obtain ⟨i010, hi010, _, hsz10, _⟩ := info_parts info5
     have hroom10 : t277.length ≤ co9 := (Kd.R_reads' HO280.out).2.1
     have hC10 : Kd.C (Kd.int .u8) _ Ao9 t277.length t277 := (Kd.R_reads' HO280.out).2.2
     have hcut10 := cut_to (P := Tryd.prog) 25 5 .i64 Tryd.underlying25 hi010 Ao9 t277.length co9 4 (by omega) q10 hroom10
     have hr10 := Kd.C_take (m := 4) hC10 (by omega)
     have hy10 : y281.length = (4 : Int).toNat := (by rw [Ny281.out, List.length_take]; omega)
     rw [← Ny281.out] at hr10
     rw [← hy10] at hcut10
     have HR284 := Aside0.mk hr10
     have HC284 := Aside0.mk (show y281.length ≤ co9 from by omega)
     clear hr10 hC10 hroom10 hi010 hsz10
     have KY10 := Aside0.mk hy10
     clear hy10
     have KL10 := Aside0.mk (show 4 ≤ t277.length from by omega)
     replace q10 := eq_true q10
     have hcv11 := Kd.C_string (P := Tryd.prog) (A := Ao9) (c := co9) Tryd.underlying25 Tryd.underlying5 Tryd.underlying9 (by repeat (first | (with_reducible exact HR284.out) | (with_reducible refine Kd.C_alloc ?_ _) | (with_reducible refine Kd.C_drewN ?_ _) | (with_reducible refine Kd.C_drew ?_) | exact HR284.out))
     go_wp2
     go_meet
     case rel => exact ⟨_, (((strOfNums y281).toList != ([72, 82, 84, 49] : List UInt8))), jS, H', ⟨jO⟩, ⟨Kd.Q_of_R (jR HO280)⟩, ⟨jH HB⟩⟩
    ·rw [if_neg c8] at H
     exact absurd H (by simp)
  case rest =>
   clear HC4
   obtain ⟨kq, x26_3, rfl, HA, HJ3, HO_0, HB⟩ := hcut
   cases kq with
   | zero => exact absurd HA.out (by simp [table_Decode.j0])
   | succ kj3 =>
    have H := HA.out
    clear HA
    simp only [table_Decode.j0] at H
    by_cases c12 : x26_3 = true
    ·subst c12
     rw [if_pos rfl] at H
     simp only [Option.some.injEq, Prod.mk.injEq] at H
     obtain ⟨rfl, rfl⟩ := H
     go_wp2
     go_ret2
     exact ⟨_, jE, by first | exact Kd.S_nil _ _ _ _ _ | exact Kd.N_nil _ _ _ _ _ | exact Kd.V_nil _ _ _ _ _ | exact Kd.Q_nil _ _ _ _ _ | exact Kd.R_nil _ _ _ _ _, jH HB⟩
    ·replace c12 := Bool.eq_false_iff.mpr c12
     subst c12
     rw [if_neg (show ¬ (false = true) by decide)] at H
     by_cases c13 : 4 < (t277.length : Int)
     ·rw [if_pos c13] at H
      have c13b0 := dT c13
      have c13b1 : decide (4 < t277.length) = true := dT (by omega)
      clear c13
      by_cases c14 : 5 ≤ (t277.length : Int)
      ·rw [if_pos c14] at H
       have c14b0 := eq_true c14
       have c14b1 := dT c14
       clear c14
       obtain ⟨y286, hy286⟩ : ∃ y_ : List Int, y_ = (t277.drop (5 : Int).toNat) := ⟨_, rfl⟩
       simp only [Option.bind_some, ← hy286] at H
       have Ny286 := Aside0.mk hy286
       clear hy286
       have H' := Aside0.mk H
       clear H
       obtain ⟨Ao15, co15, eo15, _⟩ := Kd.Q_slice HO_0.out
       subst eo15
       have p285 : 0 ≤ (4 : Int) := (by omega)
       have q285 : 4 < (t277.length : Int) := oD (jA)
       obtain ⟨ad285, e285, hx285_0⟩ := Kd.at_int (Kd.Q_reads' HO_0.out).2.2 4 p285 q285
       cases e285
       (try simp only [show (4 : Int).toNat = 4 from rfl, Nat.reduceMul, Nat.reduceEqDiff, Go.Addr.add, ↓reduceIte] at hx285_0)
       have qi285 : (4 < t277.length) = True := eq_true (by omega)
       (try rw [show ((4 : Int)).toNat = 4 from rfl] at hx285_0)
       replace p285 := eq_true p285
       replace q285 := eq_true q285
       have q16 : (5 : Int) ≤ ((t277.length : Int) : Int) := oD (jA)
       obtain ⟨i016, hi016, _, hsz16, _⟩ := info_parts info5
       have hcut16 := cut_from (P := Tryd.prog) 25 5 .i64 Tryd.underlying25 hi016 1 hsz16 (some ad285) t277.length co15 5 (by omega) q16
       have hr16 := Kd.Q_drop (k := (5 : Int).toNat) HO_0.out (by omega)
       obtain ⟨A16, hA16⟩ : ∃ A1, A1 = (if co15 = (5 : Int).toNat then (some ad285) else ((some ad285) : Option Addr).map (·.add ((5 : Int).toNat * 1))) := ⟨_, rfl⟩
       obtain ⟨c16, hc16⟩ : ∃ c1, c1 = co15 - (5 : Int).toNat := ⟨_, rfl⟩
       have hy16 : y286.length = t277.length - (5 : Int).toNat := (by rw [Ny286.out, List.length_drop])
       rw [← Ny286.out] at hr16
       rw [← hy16, ← hA16, ← hc16] at hcut16
       replace hr16 : Kd.Q (Kd.int .u8) 5 wc w.heap.size (fun _ => True) (.slice A16 y286.length c16) y286 := (by rw [hA16, hc16, hy16]; exact hr16)
       have HE16 : Aside0 ((Value.slice A16 y286.length c16).ownBlock = (.slice (some ad285) t277.length co15 : Value).ownBlock) := ⟨by rw [hA16]; split <;> (cases ((some ad285) : Option Addr) <;> rfl)⟩
       clear hy16 hi016 hsz16 HO_0 hA16 hc16
       have HO288 := Aside0.mk hr16
       clear hr16
       replace q16 := eq_true q16
       go_wp2
       go_loopg [0, 5, 34] kj3 (fun kq v0 v5 v34 w' => ∃ (x0_2 : List Int) (x5_2 : List (S42)) (x34_2 : Int), v34 = .int .i64 x34_2 ∧ Aside0 (table_Decode.l0 kq x0_2 x5_2 (wrap64 (rd t277 4)) x34_2 = some (r1, r2)) ∧ Aside0 (kq ≤ kj3) ∧ Aside0 (Kd.V (Kd.int .u8) 5 w' w.heap.size (fun k_ => some k_ ≠ (v5 : Value).ownBlock) v0 x0_2) ∧ Aside0 (Kd.S k42 42 w' w.heap.size (fun _ => True) v5 x5_2) ∧ Aside0 (Below w.heap.size w w'))
       case atStart => exact ⟨(y286), (([] : List (S42))), (0), jS, H', ⟨Nat.le_refl _⟩, ⟨Kd.Q_V (by (with_reducible repeat (first | apply Kd.Q_alloc | apply Kd.Q_drewN | apply Kd.Q_drew)); exact Kd.Q_mono HO288.out (fun _ hk => (by simp [Value.ownBlock])))⟩, ⟨by first | exact Kd.S_nil _ _ _ _ _ | exact Kd.N_nil _ _ _ _ _ | exact Kd.V_nil _ _ _ _ _ | exact Kd.Q_nil _ _ _ _ _ | exact Kd.R_nil _ _ _ _ _⟩, ⟨jH HB⟩⟩
       case round =>
        clear H'
        obtain ⟨x0_2, x5_2, x34_2, rfl, HA, HK2, HO_0, HO_5, HB⟩ := hrel
        cases gk with
        | zero => exact absurd HA.out (by simp [table_Decode.l0])
        | succ k2 =>
         have H := HA.out
         clear HA
         simp only [table_Decode.l0] at H
         by_cases c17 : x34_2 < (wrap64 (rd t277 4))
         ·rw [if_pos c17] at H
          have c17b0 := dT c17
          clear c17
          replace H := Option.bind_eq_some_iff.mp H
          obtain ⟨⟨t289, t292, t295, t296, t299⟩, A180, H⟩ := H
          try dsimp only at H
          have A18 := Aside0.mk A180
          clear A180
          by_cases c19 : t299 = true
          ·subst c19
           rw [if_pos rfl] at H
           by_cases c20 : x5_2.length < 2513169434916
           ·rw [if_pos c20] at H
            have LMc20 := Aside0.mk c20
            clear c20
            obtain ⟨y301, hy301⟩ : ∃ y_ : List (S42), y_ = (x5_2 ++ [(⟨t289, t292, t295⟩ : S42)]) := ⟨_, rfl⟩
            simp only [Option.bind_some, ← hy301] at H
            have Ny301 := Aside0.mk hy301
            clear hy301
            have H' := Aside0.mk H
            clear H
            obtain ⟨Ao21, co21, eo21⟩ := Kd.V_slice HO_0.out
            subst eo21
            go_wp2_with (first | ((with_reducible refine gate_callee (f := 35) rfl ?_); refine goesL_ (some 38) rfl rfl Tryd.func35 (by kernel_rfl) rfl #[.slice Ao21 x0_2.length co21] rfl jZ ?_; (with_reducible refine (table_rule.calls k2 (fun k_ => some k_ ≠ (u5 : Value).ownBlock) _ _ x0_2 t289 t292 t295 t296 true _ ?side1 ?side2 A18.out).mono ?_); (case side1 => exact HO_0.out); (case side2 => exact Glob.below HG.out (jH HB)); rintro e w22 ⟨v290, v293, v297, rfl, ho0, ho1, ho2, hb⟩; refine ⟨_, rfl, ?_⟩; have HO291 := Aside0.mk (Kd.R_lower (Kd.R_mono (ok' := fun k_ => some k_ ≠ (v293 : Value).ownBlock) ho0 (fun _ hk_ => hk_.2)) (zZ (jH HB))); have HO294 := Aside0.mk (Kd.R_lower (Kd.R_mono (ok' := fun k_ => some k_ ≠ (v290 : Value).ownBlock) ho1 (fun _ hk_ => hk_.2)) (zZ (jH HB))); have HO298 := Aside0.mk (Kd.V_lower (Kd.V_mono (ok' := fun k_ => some k_ ≠ (v290 : Value).ownBlock ∧ some k_ ≠ (v293 : Value).ownBlock ∧ some k_ ≠ (u5 : Value).ownBlock) ho2 (fun k_ hk_ => ⟨hk_.2.1, hk_.2.2, Or.elim hk_.1 (fun hs_ => hs_) (fun hn_ => (Kd.fresh' (Kd.S_lt (by (with_reducible repeat (first | apply Kd.S_alloc | apply Kd.S_drewN | apply Kd.S_drew)); exact HO_5.out)) k_ hn_))⟩)) (zZ (jH HB))); replace HO_0 := Aside0.mk (Kd.V_mono (Kd.V_told (Kd.V_told (Kd.V_old (jV HO_0) hb) (Kd.R_base ho0)) (Kd.R_base ho1)) (fun _ h_ => h_.1)); replace HO_5 := Aside0.mk (Kd.S_mono (Kd.S_told (Kd.S_told (Kd.S_old (by (with_reducible repeat (first | apply Kd.S_alloc | apply Kd.S_drewN | apply Kd.S_drew)); exact HO_5.out) hb) (Kd.R_base ho0)) (Kd.R_base ho1)) (fun _ h_ => h_.1)); replace HB := Aside0.mk (zT (jH HB) hb); (try clear hb); (try clear hb2); (try clear hk); (try clear hi); (try clear ho0); (try clear ho1); (try clear ho2)) | ((with_reducible refine gate_dst (N := 7) rfl ?_); refine box_event rfl (N := 7) rfl (cs := #[.slice none 0 0, .slice none 0 0, .int .u32 0]) (t := 42) jW ?_; intro gb300 hg w23 hbox hb; have BK300 := Aside0.mk hbox; have GW300 := Aside0.mk (jG hg HB); have GE300 := Aside0.mk (jG hg HB); replace HO_0 := Aside0.mk (Kd.V_below (Kd.V_elderB (jV HO_0) gb300 (Nat.le_of_eq hg.symm)) hb); replace HO_5 := Aside0.mk (Kd.S_below (Kd.S_elderB (by (with_reducible repeat (first | apply Kd.S_alloc | apply Kd.S_drewN | apply Kd.S_drew)); exact HO_5.out) gb300 (Nat.le_of_eq hg.symm)) hb); replace HO291 := Aside0.mk (Kd.R_below (jR HO291) hb); replace HO294 := Aside0.mk (Kd.R_below (jR HO294) hb); replace HO298 := Aside0.mk (Kd.V_below (Kd.V_elderB (jV HO298) gb300 (Nat.le_of_eq hg.symm)) hb); replace HB := Aside0.mk (zT (jH HB) hb); clear hb hbox hg; obtain ⟨Ao24, co24, eo24⟩ := Kd.R_slice HO291.out; subst eo24; obtain ⟨hcz25_0, hcz25_1, hcz25_2, hfz25_0, hfz25_1, hfz25_2⟩ := kQ3 BK300.out; obtain ⟨Ao26, co26, eo26⟩ := Kd.R_slice HO294.out; subst eo26) | ((with_reducible refine gate_store (t := 42) (p := 7) rfl ?_); refine store_event (t := 42) (p := 7) (v := ?vo_w27) (w1 := (((w23.setCell ⟨gb300, 0, none⟩ (.slice Ao24 t289.length co24)).setCell ⟨gb300, 1, none⟩ (.slice Ao26 t292.length co26)).setCell ⟨gb300, 2, none⟩ (.int .u32 t295))) ?hg ?ho ?hn ?hr ?_; (case ho => rfl); (case hg => rfl); (case hn => rfl); (case hr => first | (go_simp; done) | (go_simp; rfl)); intro w27 hw; have n0_ : Aside0 (Kd.V (Kd.int .u8) 5 w27 w.heap.size (fun k_ => some k_ ≠ (u5 : Value).ownBlock ∧ some k_ ≠ (.slice Ao24 t289.length co24 : Value).ownBlock ∧ some k_ ≠ (.slice Ao26 t292.length co26 : Value).ownBlock ∧ k_ ≠ gb300) (.slice Ao21 x0_2.length co21) x0_2) := ⟨(by rw [hw]; exact (by (with_reducible repeat (first | apply Kd.V_alloc | apply Kd.V_drewN | apply Kd.V_drew)); exact Kd.V_mono (Kd.V_far (p := ⟨gb300, 2, none⟩) (Kd.V_far (p := ⟨gb300, 1, none⟩) (Kd.V_far (p := ⟨gb300, 0, none⟩) (Kd.V_mono HO_0.out (fun k_ hk => (⟨hk, hk.2⟩ : _ ∧ k_ ≠ gb300))) (fun _ hk => hk.2) (.slice Ao24 t289.length co24)) (fun _ hk => hk.2) (.slice Ao26 t292.length co26)) (fun _ hk => hk.2) (.int .u32 t295)) (fun _ hk => ⟨hk.1.1.1.1, ⟨hk.1.1.1.2, ⟨hk.1.1.2, hk.1.2⟩⟩⟩)))⟩; have n1_ : Aside0 (Kd.S k42 42 w27 w.heap.size (fun k_ => some k_ ≠ (.slice Ao24 t289.length co24 : Value).ownBlock ∧ some k_ ≠ (.slice Ao26 t292.length co26 : Value).ownBlock ∧ k_ ≠ gb300) u5 x5_2) := ⟨(by rw [hw]; exact (by (with_reducible repeat (first | apply Kd.S_alloc | apply Kd.S_drewN | apply Kd.S_drew)); exact Kd.S_mono (Kd.S_far (p := ⟨gb300, 2, none⟩) (Kd.S_far (p := ⟨gb300, 1, none⟩) (Kd.S_far (p := ⟨gb300, 0, none⟩) (Kd.S_mono HO_5.out (fun k_ hk => (⟨hk, hk.2⟩ : _ ∧ k_ ≠ gb300))) (fun _ hk => hk.2) (.slice Ao24 t289.length co24)) (fun _ hk => hk.2) (.slice Ao26 t292.length co26)) (fun _ hk => hk.2) (.int .u32 t295)) (fun _ hk => ⟨hk.1.1.1.2, ⟨hk.1.1.2, hk.1.2⟩⟩)))⟩; have n2_ : Aside0 (Kd.R k59 59 w27 w.heap.size (fun k_ => some k_ ≠ (.slice Ao26 t292.length co26 : Value).ownBlock) (.slice Ao24 t289.length co24) t289) := ⟨(by rw [hw]; exact (by (with_reducible repeat (first | apply Kd.R_alloc | apply Kd.R_drewN | apply Kd.R_drew)); exact Kd.R_mono (Kd.R_far (p := ⟨gb300, 2, none⟩) (Kd.R_far (p := ⟨gb300, 1, none⟩) (Kd.R_far (p := ⟨gb300, 0, none⟩) (Kd.R_types HO291.out BK300.out (by decide)) (fun _ hk => hk.2) (.slice Ao24 t289.length co24)) (fun _ hk => hk.2) (.slice Ao26 t292.length co26)) (fun _ hk => hk.2) (.int .u32 t295)) (fun _ hk => hk.1)))⟩; have n3_ : Aside0 (Kd.R k59 59 w27 w.heap.size (fun k_ => some k_ ≠ (.slice Ao24 t289.length co24 : Value).ownBlock) (.slice Ao26 t292.length co26) t292) := ⟨(by rw [hw]; exact (by (with_reducible repeat (first | apply Kd.R_alloc | apply Kd.R_drewN | apply Kd.R_drew)); exact Kd.R_mono (Kd.R_far (p := ⟨gb300, 2, none⟩) (Kd.R_far (p := ⟨gb300, 1, none⟩) (Kd.R_far (p := ⟨gb300, 0, none⟩) (Kd.R_types HO294.out BK300.out (by decide)) (fun _ hk => hk.2) (.slice Ao24 t289.length co24)) (fun _ hk => hk.2) (.slice Ao26 t292.length co26)) (fun _ hk => hk.2) (.int .u32 t295)) (fun _ hk => hk.1)))⟩; have n4_ : Aside0 (Kd.V (Kd.int .u8) 5 w27 w.heap.size (fun k_ => some k_ ≠ (u5 : Value).ownBlock ∧ some k_ ≠ (.slice Ao24 t289.length co24 : Value).ownBlock ∧ some k_ ≠ (.slice Ao26 t292.length co26 : Value).ownBlock ∧ k_ ≠ gb300) v297 t296) := ⟨(by rw [hw]; exact (by (with_reducible repeat (first | apply Kd.V_alloc | apply Kd.V_drewN | apply Kd.V_drew)); exact Kd.V_mono (Kd.V_far (p := ⟨gb300, 2, none⟩) (Kd.V_far (p := ⟨gb300, 1, none⟩) (Kd.V_far (p := ⟨gb300, 0, none⟩) (Kd.V_mono HO298.out (fun k_ hk => (⟨hk, hk.2⟩ : _ ∧ k_ ≠ gb300))) (fun _ hk => hk.2) (.slice Ao24 t289.length co24)) (fun _ hk => hk.2) (.slice Ao26 t292.length co26)) (fun _ hk => hk.2) (.int .u32 t295)) (fun _ hk => ⟨hk.1.1.2.2, ⟨hk.1.1.1, ⟨hk.1.1.2.1, hk.1.2⟩⟩⟩)))⟩; have n5_ : Aside0 (w27.heap[gb300]? = some (.cells #[.slice Ao24 t289.length co24, .slice Ao26 t292.length co26, .int .u32 t295] 42 (0, 0))) := ⟨(by rw [hw]; exact (by (with_reducible repeat (first | refine kN ?_ _ | refine kD ?_ | refine kA ?_ _)); refine kP (cs := #[.slice Ao24 t289.length co24, .slice Ao26 t292.length co26, .int .u32 0]) ?_ 2 _ rfl; (with_reducible repeat (first | refine kN ?_ _ | refine kD ?_ | refine kA ?_ _)); refine kP (cs := #[.slice Ao24 t289.length co24, .slice none 0 0, .int .u32 0]) ?_ 1 _ rfl; (with_reducible repeat (first | refine kN ?_ _ | refine kD ?_ | refine kA ?_ _)); refine kP (cs := #[.slice none 0 0, .slice none 0 0, .int .u32 0]) ?_ 0 _ rfl; (with_reducible repeat (first | refine kN ?_ _ | refine kD ?_ | refine kA ?_ _)); exact BK300.out))⟩; have n6_ : Aside0 (Below w.heap.size w w27) := ⟨(by rw [hw]; exact (jH HB))⟩; clear hw; clear HO_0; clear HO_5; clear HO291; clear HO294; clear HO298; clear BK300; clear HB; have HO_0 := n0_; have HO_5 := n1_; have HO291 := n2_; have HO294 := n3_; have HO298 := n4_; have BK300 := n5_; have HB := n6_; clear n0_ n1_ n2_ n3_ n4_ n5_ n6_; obtain ⟨hcz28_0, hcz28_1, hcz28_2, hfz28_0, hfz28_1, hfz28_2⟩ := kQ3 BK300.out) | ((with_reducible refine gate_builtin (b := .append) (xs := #[.tmp 44, .tmp 46]) rfl ?_); at_builtin; refine Kd.S_append k42 (w0 := w) w.heap.size rfl (.tmp 44) (.tmp 46) 22 42 (.agg #[(.slice none 0 0), (.slice none 0 0), (.int .u32 0)]) 56 rfl Tryd.underlying22 info42 rfl (by decide) (by omega) u5 x5_2 (⟨t289, t292, t295⟩ : S42) [.slice Ao24 t289.length co24, .slice Ao26 t292.length co26, .int .u32 t295] (fun k_ => k_ ≠ gb300) (fun k_ => some k_ = (.slice Ao24 t289.length co24 : Value).ownBlock ∨ some k_ = (.slice Ao26 t292.length co26 : Value).ownBlock) rfl rfl ?aP (fun k_ hk_ => hk_.elim (fun h_ => ((Kd.R_mono (ok' := fun k_ => ((fun k_ => k_ ≠ gb300)) k_ ∧ some k_ ≠ (u5 : Value).ownBlock) (Kd.R_types (Kd.R_apart' (HO291.out) (Kd.S_typed HO_5.out) (by decide)) BK300.out (by decide)) (fun k_ hk => ⟨hk.2, hk.1.2⟩))).1 k_ h_.symm) (fun h_ => ((Kd.R_mono (ok' := fun k_ => ((fun k_ => k_ ≠ gb300)) k_ ∧ some k_ ≠ (u5 : Value).ownBlock) (Kd.R_types (Kd.R_apart' (HO294.out) (Kd.S_typed HO_5.out) (by decide)) BK300.out (by decide)) (fun k_ hk => ⟨hk.2, hk.1.2⟩))).1 k_ h_.symm)) ?aF ?aO ?aB ?aS ?aL ?_; (case aP => exact k42_mkM _ _ _ (⟨t289, t292, t295⟩ : S42) (Kd.R_mono (Kd.R_tight rfl (Kd.R_mono (ok' := fun k_ => ((fun k_ => k_ ≠ gb300)) k_ ∧ some k_ ≠ (u5 : Value).ownBlock) (Kd.R_types (Kd.R_apart' (HO291.out) (Kd.S_typed HO_5.out) (by decide)) BK300.out (by decide)) (fun k_ hk => ⟨hk.2, hk.1.2⟩))) (fun _ h_ => Or.inl h_)) (Kd.R_mono (Kd.R_tight rfl (Kd.R_mono (ok' := fun k_ => ((fun k_ => k_ ≠ gb300)) k_ ∧ some k_ ≠ (u5 : Value).ownBlock) (Kd.R_types (Kd.R_apart' (HO294.out) (Kd.S_typed HO_5.out) (by decide)) BK300.out (by decide)) (fun k_ hk => ⟨hk.2, hk.1.2⟩))) (fun _ h_ => Or.inr (h_)))); (case aB => exact (jH HB)); (case aF => exact (fun k_ hk => Kd.freshB (g := gb300) (o := .cells #[.slice Ao24 t289.length co24, .slice Ao26 t292.length co26, .int .u32 t295] 42 (0, 0)) (jK BK300) k_ hk)); (case aO => exact (by (with_reducible repeat (first | apply Kd.S_alloc | apply Kd.S_drewN | apply Kd.S_drew)); exact Kd.S_mono HO_5.out (fun k_ hk => ⟨hk.2.2, fun e_ => e_.elim (fun h_ => hk.1 h_) (fun h_ => hk.2.1 h_)⟩))); (case aS => exact (zZ (jH HB))); (case aL => have := LMc20.out; omega); intro v302 w29 ho hb hg hat; rw [← Ny301.out] at ho; have HO303 := Aside0.mk (ho); replace HO_0 := Aside0.mk (Kd.V_afterv (ok := (fun k_ => some k_ ≠ (.slice Ao24 t289.length co24 : Value).ownBlock ∧ some k_ ≠ (.slice Ao26 t292.length co26 : Value).ownBlock ∧ k_ ≠ gb300)) (by (with_reducible repeat (first | apply Kd.V_alloc | apply Kd.V_drewN | apply Kd.V_drew)); exact Kd.V_mono HO_0.out (fun _ hk => ⟨⟨hk.2.1, ⟨hk.2.2.1, hk.2.2.2⟩⟩, hk.1⟩)) hg hat); replace HO298 := Aside0.mk (Kd.V_afterv (ok := (fun k_ => some k_ ≠ (.slice Ao24 t289.length co24 : Value).ownBlock ∧ some k_ ≠ (.slice Ao26 t292.length co26 : Value).ownBlock ∧ k_ ≠ gb300)) (by (with_reducible repeat (first | apply Kd.V_alloc | apply Kd.V_drewN | apply Kd.V_drew)); exact Kd.V_mono HO298.out (fun _ hk => ⟨⟨hk.2.1, ⟨hk.2.2.1, hk.2.2.2⟩⟩, hk.1⟩)) hg hat); replace BK300 := Aside0.mk (kG (g := gb300) (o := .cells #[.slice Ao24 t289.length co24, .slice Ao26 t292.length co26, .int .u32 t295] 42 (0, 0)) (jK BK300) hg (Kd.S_away HO_5.out (fun _ hk => hk.2.2))); replace HB := Aside0.mk (hb); clear HO_5; clear HO291; clear HO294; clear ho hb hg hat))
            go_roundg k2
            case measure => have := HJ3.out; have := HK2.out; omega
            case rel => exact ⟨(t296), (y301), (wrap64 (x34_2 + 1)), jS, H', ⟨by have := HJ3.out; have := HK2.out; omega⟩, ⟨by (with_reducible repeat (first | apply Kd.V_alloc | apply Kd.V_drewN | apply Kd.V_drew)); exact Kd.V_mono HO298.out (fun _ hk => hk.2)⟩, ⟨by (with_reducible repeat (first | apply Kd.S_alloc | apply Kd.S_drewN | apply Kd.S_drew)); exact Kd.S_mono HO303.out (fun _ hk => trivial)⟩, ⟨jH HB⟩⟩
           ·rw [if_neg c20] at H
            exact absurd H (by simp)
          ·replace c19 := Bool.eq_false_iff.mpr c19
           subst c19
           rw [if_neg (show ¬ (false = true) by decide)] at H
           simp only [Option.some.injEq, Prod.mk.injEq] at H
           obtain ⟨rfl, rfl⟩ := H
           obtain ⟨Ao30, co30, eo30⟩ := Kd.V_slice HO_0.out
           subst eo30
           go_wp2_with (first | ((with_reducible refine gate_callee (f := 35) rfl ?_); refine goesL_ (some 38) rfl rfl Tryd.func35 (by kernel_rfl) rfl #[.slice Ao30 x0_2.length co30] rfl jZ ?_; (with_reducible refine (table_rule.calls k2 (fun k_ => some k_ ≠ (u5 : Value).ownBlock) _ _ x0_2 t289 t292 t295 t296 false _ ?side1 ?side2 A18.out).mono ?_); (case side1 => exact HO_0.out); (case side2 => exact Glob.below HG.out (jH HB)); rintro e w31 ⟨v290, v293, v297, rfl, ho0, ho1, ho2, hb⟩; refine ⟨_, rfl, ?_⟩; have HO291 := Aside0.mk (Kd.R_lower (Kd.R_mono (ok' := fun k_ => some k_ ≠ (v293 : Value).ownBlock) ho0 (fun _ hk_ => hk_.2)) (zZ (jH HB))); have HO294 := Aside0.mk (Kd.R_lower (Kd.R_mono (ok' := fun k_ => some k_ ≠ (v290 : Value).ownBlock) ho1 (fun _ hk_ => hk_.2)) (zZ (jH HB))); have HO298 := Aside0.mk (Kd.V_lower (Kd.V_mono (ok' := fun k_ => some k_ ≠ (v290 : Value).ownBlock ∧ some k_ ≠ (v293 : Value).ownBlock ∧ some k_ ≠ (u5 : Value).ownBlock) ho2 (fun k_ hk_ => ⟨hk_.2.1, hk_.2.2, Or.elim hk_.1 (fun hs_ => hs_) (fun hn_ => (Kd.fresh' (Kd.S_lt (by (with_reducible repeat (first | apply Kd.S_alloc | apply Kd.S_drewN | apply Kd.S_drew)); exact HO_5.out)) k_ hn_))⟩)) (zZ (jH HB))); replace HO_0 := Aside0.mk (Kd.V_mono (Kd.V_told (Kd.V_told (Kd.V_old (jV HO_0) hb) (Kd.R_base ho0)) (Kd.R_base ho1)) (fun _ h_ => h_.1)); replace HO_5 := Aside0.mk (Kd.S_mono (Kd.S_told (Kd.S_told (Kd.S_old (by (with_reducible repeat (first | apply Kd.S_alloc | apply Kd.S_drewN | apply Kd.S_drew)); exact HO_5.out) hb) (Kd.R_base ho0)) (Kd.R_base ho1)) (fun _ h_ => h_.1)); replace HB := Aside0.mk (zT (jH HB) hb); (try clear hb); (try clear hb2); (try clear hk); (try clear hi); (try clear ho0); (try clear ho1); (try clear ho2)) | ((with_reducible refine gate_dst (N := 7) rfl ?_); refine box_event rfl (N := 7) rfl (cs := #[.slice none 0 0, .slice none 0 0, .int .u32 0]) (t := 42) jW ?_; intro gb300 hg w32 hbox hb; have BK300 := Aside0.mk hbox; have GW300 := Aside0.mk (jG hg HB); have GE300 := Aside0.mk (jG hg HB); replace HO_0 := Aside0.mk (Kd.V_below (Kd.V_elderB (jV HO_0) gb300 (Nat.le_of_eq hg.symm)) hb); replace HO_5 := Aside0.mk (Kd.S_below (Kd.S_elderB (by (with_reducible repeat (first | apply Kd.S_alloc | apply Kd.S_drewN | apply Kd.S_drew)); exact HO_5.out) gb300 (Nat.le_of_eq hg.symm)) hb); replace HO291 := Aside0.mk (Kd.R_below (jR HO291) hb); replace HO294 := Aside0.mk (Kd.R_below (jR HO294) hb); replace HO298 := Aside0.mk (Kd.V_below (Kd.V_elderB (jV HO298) gb300 (Nat.le_of_eq hg.symm)) hb); replace HB := Aside0.mk (zT (jH HB) hb); clear hb hbox hg; obtain ⟨Ao33, co33, eo33⟩ := Kd.R_slice HO291.out; subst eo33; obtain ⟨hcz34_0, hcz34_1, hcz34_2, hfz34_0, hfz34_1, hfz34_2⟩ := kQ3 BK300.out; obtain ⟨Ao35, co35, eo35⟩ := Kd.R_slice HO294.out; subst eo35))
           go_ret2
           exact ⟨_, jE, by first | exact Kd.S_nil _ _ _ _ _ | exact Kd.N_nil _ _ _ _ _ | exact Kd.V_nil _ _ _ _ _ | exact Kd.Q_nil _ _ _ _ _ | exact Kd.R_nil _ _ _ _ _, jH HB⟩
         ·rw [if_neg c17] at H
          have c17b0 := dF c17
          clear c17
          by_cases c36 : (x0_2.length : Int) > 0
          ·rw [if_pos c36] at H
           have c36b0 : decide (0 < (x0_2.length : Int)) = true := dT c36
           have c36b1 : decide (0 < x0_2.length) = true := dT (by omega)
           clear c36
           simp only [Option.some.injEq, Prod.mk.injEq] at H
           obtain ⟨rfl, rfl⟩ := H
           obtain ⟨Ao37, co37, eo37⟩ := Kd.V_slice HO_0.out
           subst eo37
           go_wp2
           go_ret2
           exact ⟨_, jE, by first | exact Kd.S_nil _ _ _ _ _ | exact Kd.N_nil _ _ _ _ _ | exact Kd.V_nil _ _ _ _ _ | exact Kd.Q_nil _ _ _ _ _ | exact Kd.R_nil _ _ _ _ _, jH HB⟩
          ·rw [if_neg c36] at H
           have c36b0 : decide (0 < (x0_2.length : Int)) = false := dF c36
           have c36b1 : decide (0 < x0_2.length) = false := dF (by omega)
           clear c36
           replace H := Option.bind_eq_some_iff.mp H
           obtain ⟨t304, A380, H⟩ := H
           try dsimp only at H
           have A38 := Aside0.mk A380
           clear A380
           by_cases c39 : t304 = true
           ·subst c39
            rw [if_pos rfl] at H
            simp only [Option.some.injEq, Prod.mk.injEq] at H
            obtain ⟨rfl, rfl⟩ := H
            obtain ⟨Ao40, co40, eo40⟩ := Kd.V_slice HO_0.out
            subst eo40
            obtain ⟨Ao41, co41, eo41⟩ := Kd.S_slice HO_5.out
            subst eo41
            go_wp2_with (first | (go_at_call 15; (with_reducible refine (table_Right.calls k2 _ _ x5_2 true _ ?side1 ?side2 ?side3 A38.out).mono ?_); (case side1 => exact jC (Kd.S_reads' HO_5.out).2.2); (case side2 => exact (Kd.S_reads' HO_5.out).2.1); (case side3 => exact Glob.below HG.out (jH HB)); rintro e w42 ⟨rfl, hb⟩; replace HO_0 := Aside0.mk (Kd.V_below (jV HO_0) hb); replace HO_5 := Aside0.mk (Kd.S_below (by (with_reducible repeat (first | apply Kd.S_alloc | apply Kd.S_drewN | apply Kd.S_drew)); exact HO_5.out) hb); replace HB := Aside0.mk (zT (jH HB) hb); (try clear hb); (try clear hb2); (try clear hk); (try clear hi)))
            go_ret2
            exact ⟨_, jE, by (with_reducible repeat (first | apply Kd.S_alloc | apply Kd.S_drewN | apply Kd.S_drew)); exact HO_5.out, jH HB⟩
           ·replace c39 := Bool.eq_false_iff.mpr c39
            subst c39
            rw [if_neg (show ¬ (false = true) by decide)] at H
            simp only [Option.some.injEq, Prod.mk.injEq] at H
            obtain ⟨rfl, rfl⟩ := H
            obtain ⟨Ao43, co43, eo43⟩ := Kd.V_slice HO_0.out
            subst eo43
            obtain ⟨Ao44, co44, eo44⟩ := Kd.S_slice HO_5.out
            subst eo44
            go_wp2_with (first | (go_at_call 15; (with_reducible refine (table_Right.calls k2 _ _ x5_2 false _ ?side1 ?side2 ?side3 A38.out).mono ?_); (case side1 => exact jC (Kd.S_reads' HO_5.out).2.2); (case side2 => exact (Kd.S_reads' HO_5.out).2.1); (case side3 => exact Glob.below HG.out (jH HB)); rintro e w45 ⟨rfl, hb⟩; replace HO_0 := Aside0.mk (Kd.V_below (jV HO_0) hb); replace HO_5 := Aside0.mk (Kd.S_below (by (with_reducible repeat (first | apply Kd.S_alloc | apply Kd.S_drewN | apply Kd.S_drew)); exact HO_5.out) hb); replace HB := Aside0.mk (zT (jH HB) hb); (try clear hb); (try clear hb2); (try clear hk); (try clear hi)))
            go_ret2
            exact ⟨_, jE, by first | exact Kd.S_nil _ _ _ _ _ | exact Kd.N_nil _ _ _ _ _ | exact Kd.V_nil _ _ _ _ _ | exact Kd.Q_nil _ _ _ _ _ | exact Kd.R_nil _ _ _ _ _, jH HB⟩
      ·rw [if_neg c14] at H
       exact absurd H (by simp)
     ·rw [if_neg c13] at H
      exact absurd H (by simp)
 ·rw [if_neg c3] at H
  have c3b0 : (t278 == 0) = false := bF.mpr c3
  have c3b1 : (t278 != 0) = true := nI.mpr c3
  simp only [Option.some.injEq, Prod.mk.injEq] at H
  obtain ⟨rfl, rfl⟩ := H
  go_enter Tryd.func17, Tryd.ntmps17
  go_wp2_with (first | ((with_reducible refine gate_callee (f := 34) rfl ?_); refine goesL_ (some 12) rfl rfl Tryd.func34 (by kernel_rfl) rfl #[.slice A0 l0.length c0] rfl jZ ?_; (with_reducible refine (crc_Open.calls k _ _ l0 t277 t278 _ ?side1 ?side2 A2.out).mono ?_); (case side1 => repeat (first | exact HR0.out | (with_reducible refine Kd.C_alloc ?_ _) | (with_reducible refine Kd.C_drewN ?_ _) | (with_reducible refine Kd.C_drew ?_))); (case side2 => exact HC0.out); rintro e w46 ⟨v279, rfl, ho0, hb⟩; refine ⟨_, rfl, ?_⟩; have HO280 := Aside0.mk (Kd.R_lower ho0 (zZ (jH HB))); replace HB := Aside0.mk (zT (jH HB) hb); (try clear hb); (try clear hb2); (try clear hk); (try clear hi); (try clear ho0)))
  go_ret2
  exact ⟨_, jE, by first | exact Kd.S_nil _ _ _ _ _ | exact Kd.N_nil _ _ _ _ _ | exact Kd.V_nil _ _ _ _ _ | exact Kd.Q_nil _ _ _ _ _ | exact Kd.R_nil _ _ _ _ _, jH HB⟩
end Go.Proofs.YtahacmdhhfmhiaaDoor.M
