/- What Go functions compute; their calls come to it. No condition. -/
import Derived.Test.YtahacmdhhfmhiaaDoorM0
import Derived.Test.YtahacmdhhfmhiaaDoorM16
namespace Go.Proofs.YtahacmdhhfmhiaaDoor.M
open Go.RowKit Go.Proofs.YtahacmdhhfmhiaaDoorW.PrintWords Go.Proofs.YtahacmdhhfmhiaaDoorW.PrintLast Go.Proofs.YtahacmdhhfmhiaaDoorW.PrintMore
attribute [local go_sem] max2_int min2_int max_two min_two max_three min_three max_four min_four   -- for this text's walks alone
set_option linter.unusedVariables false
set_option linter.unusedSimpArgs false
def table_rule.l0 : Nat → List Int → Int → Int → Option ((List (S59)) × (List (S59)) × Int × List Int × Bool)
 | 0, _, _, _ => none
 | k + 1, x0, x15, x246002 => if x15 < 4 then (if 0 ≤ x15 then (if x15 < (x0.length : Int) then (if 0 ≤ (wrap64 (8 * x15)) then (table_rule.l0 k x0 (wrap64 (x15 + 1)) (Go.bits .or .u32 x246002 (shl .u32 ((rd x0 x15) % 4294967296) (wrap64 (8 * x15))))) else (none)) else (none)) else (none)) else (if 4 < (x0.length : Int) then (if 5 < (x0.length : Int) then (if 6 ≤ (x0.length : Int) then ((some (x0.drop 6 : List Int)).bind fun y249 => (if (y249.length : Int) < (wrap64 ((wrap64 (8 * (wrap64 (rd x0 4)))) + (wrap64 (8 * (wrap64 (rd x0 5)))))) then (some (([] : List (S59)), ([] : List (S59)), 0, ([] : List Int), false)) else (if 0 ≤ (wrap64 (8 * (wrap64 (rd x0 4)))) then (if (wrap64 (8 * (wrap64 (rd x0 4)))) ≤ (y249.length : Int) then ((codec_Decode.f k (y249.take ((wrap64 (8 * (wrap64 (rd x0 4)))) : Int).toNat)).bind fun bt259 => (if (wrap64 (8 * (wrap64 (rd x0 4)))) ≤ (wrap64 ((wrap64 (8 * (wrap64 (rd x0 4)))) + (wrap64 (8 * (wrap64 (rd x0 5)))))) then (if (wrap64 ((wrap64 (8 * (wrap64 (rd x0 4)))) + (wrap64 (8 * (wrap64 (rd x0 5)))))) ≤ (y249.length : Int) then ((codec_Decode.f k ((y249.take ((wrap64 ((wrap64 (8 * (wrap64 (rd x0 4)))) + (wrap64 (8 * (wrap64 (rd x0 5)))))) : Int).toNat).drop ((wrap64 (8 * (wrap64 (rd x0 4)))) : Int).toNat)).bind fun bt268 => (if 0 ≤ (wrap64 ((wrap64 (8 * (wrap64 (rd x0 4)))) + (wrap64 (8 * (wrap64 (rd x0 5)))))) then ((some (y249.drop ((wrap64 ((wrap64 (8 * (wrap64 (rd x0 4)))) + (wrap64 (8 * (wrap64 (rd x0 5)))))) : Int).toNat : List Int)).bind fun y272 => (if bt259.2 = 0 then (some (bt259.1, bt268.1, x246002, y272, (bt268.2 == 0))) else (some (bt259.1, bt268.1, x246002, y272, false)))) else (none))) else (none)) else (none))) else (none)) else (none)))) else (none)) else (none)) else (none))
def table_rule.f (k : Nat) (l0 : List Int) : Option ((List (S59)) × (List (S59)) × Int × List Int × Bool) := if (l0.length : Int) < 6 then (some (([] : List (S59)), ([] : List (S59)), 0, ([] : List Int), false)) else (table_rule.l0 k l0 0 0)
theorem table_rule.mono_l : ∀ k, (∀ y0 y1 y2, LeO (table_rule.l0 k y0 y1 y2) (table_rule.l0 (k + 1) y0 y1 y2))
 | 0 => fun _ _ _ r h => by simp [table_rule.l0] at h
 | k + 1 => by
  have ih0 := table_rule.mono_l k
  ·intro y0 y1 y2
   unfold table_rule.l0
   repeat' first
   | (with_reducible apply ih0)
   | (with_reducible apply codec_Decode.mono)
   | (with_reducible exact LeO.refl _)
   | (with_reducible exact LeO.none _)
   | (with_reducible refine LeO.ite ?_ ?_)
   | (with_reducible refine LeO.bind ?_ (fun _ => ?_))
   | apply ih0
   | apply codec_Decode.mono
   | exact LeO.none _
   | refine LeO.ite ?_ ?_
   | refine LeO.bind ?_ (fun _ => ?_)
theorem table_rule.mono : ∀ a0 k, LeO (table_rule.f k a0) (table_rule.f (k + 1) a0) := by
 intro a0 k
 have ih0 := table_rule.mono_l k
 unfold table_rule.f
 repeat' first
   | (with_reducible apply ih0)
   | (with_reducible apply codec_Decode.mono)
   | (with_reducible exact LeO.refl _)
   | (with_reducible exact LeO.none _)
   | (with_reducible refine LeO.ite ?_ ?_)
   | (with_reducible refine LeO.bind ?_ (fun _ => ?_))
   | apply ih0
   | apply codec_Decode.mono
   | exact LeO.none _
   | refine LeO.ite ?_ ?_
   | refine LeO.bind ?_ (fun _ => ?_)
def table_rule.T7 : Bool × List (List Nat × List Nat) := (true, [([], []), ([0], [0]), ([], []), ([], []), ([2, 3], [2, 3]), ([4], [4]), ([5], [5]), ([], []), ([7], [7]), ([6, 8], [6, 8]), ([1, 9], [1, 9]), ([0, 1, 2, 3, 4, 5, 6, 7, 8, 9, 10], []), ([11, 10, 0, 1, 2, 3, 4, 5, 6, 7, 8, 9, 10], [10, 11])])
def table_rule.B7 : List Nat := [0, 1, 0, 0, 12, 28, 60, 0, 128, 508, 1023, 2047, 4095]
theorem table_rule.tab7 : rtab .any (opsOf Tryd.f35 7) = table_rule.T7 := by kernel_rfl
theorem table_rule.bits7 : waitsOk table_rule.T7.2 table_rule.B7 = true := by kernel_rfl
def table_rule.T9 : Bool × List (List Nat × List Nat) := (true, [([], []), ([0], [0]), ([1], [1]), ([2], [2]), ([3], [3]), ([], []), ([5], [5]), ([6], [6]), ([7], [7]), ([8], [8]), ([4, 0, 1, 2, 3, 4], [4]), ([9, 10, 0, 1, 2, 3, 4, 5, 6, 7, 8, 9, 10], [9])])
def table_rule.B9 : List Nat := [0, 1, 3, 7, 15, 0, 32, 96, 224, 480, 31, 2047]
theorem table_rule.tab9 : rtab .any (opsOf Tryd.f35 9) = table_rule.T9 := by kernel_rfl
theorem table_rule.bits9 : waitsOk table_rule.T9.2 table_rule.B9 = true := by kernel_rfl
def table_rule.T16 : Bool × List (List Nat × List Nat) := (true, [([], []), ([], []), ([], []), ([], []), ([2, 3], [2, 3]), ([1, 4], [1, 4]), ([], []), ([6], [6]), ([7], [7]), ([8], [8]), ([9, 8], [8, 9]), ([8, 10], [8, 10]), ([0, 8, 0], [0]), ([5, 12, 0, 1, 2, 3, 4, 5, 12], [5]), ([11, 13, 0, 1, 2, 3, 4, 5, 6, 7, 8, 9, 10, 11, 12, 13], [11])])
def table_rule.B16 : List Nat := [0, 0, 0, 0, 12, 30, 0, 64, 192, 448, 960, 1984, 449, 4607, 16383]
theorem table_rule.tab16 : rtab .any (opsOf Tryd.f35 16) = table_rule.T16 := by kernel_rfl
theorem table_rule.bits16 : waitsOk table_rule.T16.2 table_rule.B16 = true := by kernel_rfl
set_option maxHeartbeats 8000000 in
set_option maxRecDepth 100000 in
theorem table_rule.calls (k : Nat) (P0_ : Nat → Prop) (A0 : Option Addr) (c0 : Nat) (l0 : List Int) (r1 : List (S59)) (r2 : List (S59)) (r3 : Int) (r4 : List Int) (r5 : Bool) (w : World) (hs0 : Kd.V (Kd.int .u8) 5 w w.heap.size (fun k_ => P0_ k_) (.slice A0 l0.length c0) l0) (hG : Glob w) (h : table_rule.f k l0 = some (r1, r2, r3, r4, r5)) :
  Calls Tryd.prog 35 #[.slice A0 l0.length c0] w fun e w' => ∃ v0_ v1_ v3_ : Value, e = .returned (.tuple #[.agg #[v0_, v1_, .int .u32 r3], v3_, .bool r5]) ∧ Kd.R k59 59 w' w.heap.size (fun k_ => (w.heap.size ≤ k_) ∧ some k_ ≠ (v1_ : Value).ownBlock) v0_ r1 ∧ Kd.R k59 59 w' w.heap.size (fun k_ => (w.heap.size ≤ k_) ∧ some k_ ≠ (v0_ : Value).ownBlock) v1_ r2 ∧ Kd.V (Kd.int .u8) 5 w' w.heap.size (fun k_ => (P0_ k_ ∨ w.heap.size ≤ k_) ∧ some k_ ≠ (v0_ : Value).ownBlock ∧ some k_ ≠ (v1_ : Value).ownBlock) v3_ r4 ∧ Below w.heap.size w w' := by
 have hu42 := Tryd.underlying42
 have HG := Aside0.mk hG
 clear hG
 have HO0 := Aside0.mk (show Kd.V (Kd.int .u8) 5 w w.heap.size (fun k_ => (P0_ k_ ∨ w.heap.size ≤ k_)) (.slice A0 l0.length c0) l0 from Kd.V_mono hs0 (fun k_ hk => .inl hk))
 have HB := Aside0.mk (Below.refl w.heap.size w)
 have H : (if (l0.length : Int) < 6 then (some (([] : List (S59)), ([] : List (S59)), 0, ([] : List Int), false)) else (table_rule.l0 k l0 0 0)) = some (r1, r2, r3, r4, r5) := h
 clear h
 by_cases c2 : (l0.length : Int) < 6
 ·rw [if_pos c2] at H
  have c2b0 : decide ((l0.length : Int) < 6) = true := dT c2
  have c2b1 : decide (l0.length < 6) = true := dT (by omega)
  clear c2
  simp only [Option.some.injEq, Prod.mk.injEq] at H
  obtain ⟨rfl, rfl, rfl, rfl, rfl⟩ := H
  go_enter Tryd.func35, Tryd.ntmps35
  go_wp2_with (first | ((with_reducible refine gate_dst (N := 2) rfl ?_); refine box_event rfl (N := 2) rfl (cs := #[.slice none 0 0, .slice none 0 0, .int .u32 0]) (t := 42) jW ?_; intro gb244 hg w3 hbox hb; have BK244 := Aside0.mk hbox; have GW244 := Aside0.mk (jG hg HB); have GE244 := Aside0.mk (jG hg HB); replace HO0 := Aside0.mk (Kd.V_below (Kd.V_elderB (jV HO0) gb244 (Nat.le_of_eq hg.symm)) hb); replace HB := Aside0.mk (zT (jH HB) hb); clear hb hbox hg; obtain ⟨hcz4_0, hcz4_1, hcz4_2, hfz4_0, hfz4_1, hfz4_2⟩ := kQ3 BK244.out))
  refine bodyPost_ret (results_ctt rfl _ _ gb244 42 #[.slice none 0 0, .slice none 0 0, .int .u32 0] (0, 0) _ rfl (by (with_reducible repeat (first | refine kN ?_ _ | refine kD ?_ | refine kA ?_ _)); refine kP (cs := #[.slice none 0 0, .slice none 0 0, .int .u32 0]) ?_ 2 _ rfl; (with_reducible repeat (first | refine kN ?_ _ | refine kD ?_ | refine kA ?_ _)); refine kP (cs := #[.slice none 0 0, .slice none 0 0, .int .u32 0]) ?_ 1 _ rfl; (with_reducible repeat (first | refine kN ?_ _ | refine kD ?_ | refine kA ?_ _)); refine kP (cs := #[.slice none 0 0, .slice none 0 0, .int .u32 0]) ?_ 0 _ rfl; (with_reducible repeat (first | refine kN ?_ _ | refine kD ?_ | refine kA ?_ _)); exact BK244.out) Tryd.underlying42 rfl (by kernel_rfl)) rfl ?_
  exact ⟨_, _, _, jE, by first | exact Kd.R_nil _ _ _ _ _ | exact Kd.N_nil _ _ _ _ _ | exact Kd.V_nil _ _ _ _ _ | exact Kd.Q_nil _ _ _ _ _ | exact Kd.S_nil _ _ _ _ _, by first | exact Kd.R_nil _ _ _ _ _ | exact Kd.N_nil _ _ _ _ _ | exact Kd.V_nil _ _ _ _ _ | exact Kd.Q_nil _ _ _ _ _ | exact Kd.S_nil _ _ _ _ _, by first | exact Kd.R_nil _ _ _ _ _ | exact Kd.N_nil _ _ _ _ _ | exact Kd.V_nil _ _ _ _ _ | exact Kd.Q_nil _ _ _ _ _ | exact Kd.S_nil _ _ _ _ _, jH HB⟩
 ·rw [if_neg c2] at H
  have c2b0 : decide ((l0.length : Int) < 6) = false := dF c2
  have c2b1 : decide (l0.length < 6) = false := dF (by omega)
  clear c2
  have H' := Aside0.mk H
  clear H
  go_enter Tryd.func35, Tryd.ntmps35
  go_wp2_with (first | ((with_reducible refine gate_dst (N := 2) rfl ?_); refine box_event rfl (N := 2) rfl (cs := #[.slice none 0 0, .slice none 0 0, .int .u32 0]) (t := 42) jW ?_; intro gb244 hg w5 hbox hb; have BK244 := Aside0.mk hbox; have GW244 := Aside0.mk (jG hg HB); have GE244 := Aside0.mk (jG hg HB); replace HO0 := Aside0.mk (Kd.V_below (Kd.V_elderB (jV HO0) gb244 (Nat.le_of_eq hg.symm)) hb); replace HB := Aside0.mk (zT (jH HB) hb); clear hb hbox hg) | ((with_reducible refine gate_dst (N := 5) rfl ?_); refine box_event rfl (N := 5) rfl (cs := #[.slice none 0 0, .slice none 0 0, .int .u32 0]) (t := 42) jW ?_; intro gb245 hg w6 hbox hb; have BK245 := Aside0.mk hbox; have GW245 := Aside0.mk (jG hg HB); have GE245 := Aside0.mk (jG hg HB); have NB244_245 := Aside0.mk (jN hg BK244); have NB245_244 := Aside0.mk (jM hg BK244); replace HO0 := Aside0.mk (Kd.V_below (Kd.V_elderB (jV HO0) gb245 (Nat.le_of_eq hg.symm)) hb); replace BK244 := Aside0.mk (jB BK244 hb); replace HB := Aside0.mk (zT (jH HB) hb); clear hb hbox hg))
  go_loopg [15] k (fun kq v15 w' => ∃ (x15_1 : Int) (x246002_1 : Int), v15 = .int .i64 x15_1 ∧ Aside0 (table_rule.l0 kq l0 x15_1 x246002_1 = some (r1, r2, r3, r4, r5)) ∧ Aside0 (kq ≤ k) ∧ Aside0 (Kd.V (Kd.int .u8) 5 w' w.heap.size (fun k_ => (P0_ k_ ∨ w.heap.size ≤ k_) ∧ k_ ≠ gb244 ∧ k_ ≠ gb245) (.slice A0 l0.length c0) l0) ∧ Aside0 (w'.heap[gb244]? = some (.cells #[(.slice none 0 0), (.slice none 0 0), .int .u32 0] 42 (0, 0))) ∧ Aside0 (w'.heap[gb245]? = some (.cells #[(.slice none 0 0), (.slice none 0 0), .int .u32 x246002_1] 42 (0, 0))) ∧ Aside0 (Below w.heap.size w w'))
  case atStart => exact ⟨(0), (0), jS, H', ⟨Nat.le_refl _⟩, ⟨by (with_reducible repeat (first | apply Kd.V_alloc | apply Kd.V_drewN | apply Kd.V_drew)); exact Kd.V_mono HO0.out (fun _ hk => ⟨hk.1.1, ⟨hk.1.2, hk.2⟩⟩)⟩, ⟨jK BK244⟩, ⟨jK BK245⟩, ⟨jH HB⟩⟩
  case round =>
   clear H'
   obtain ⟨x15_1, x246002_1, rfl, HA, HK1, HO_0, BK244, BK245, HB⟩ := hrel
   cases gk with
   | zero => exact absurd HA.out (by simp [table_rule.l0])
   | succ k1 =>
    have H := HA.out
    clear HA
    simp only [table_rule.l0] at H
    by_cases c7 : x15_1 < 4
    ·rw [if_pos c7] at H
     have c7b0 : decide (x15_1 < 4) = true := dT c7
     clear c7
     by_cases c8 : 0 ≤ x15_1
     ·rw [if_pos c8] at H
      have c8b0 : decide (0 ≤ x15_1) = true := dT c8
      clear c8
      by_cases c9 : x15_1 < (l0.length : Int)
      ·rw [if_pos c9] at H
       have c9b0 : decide (x15_1 < (l0.length : Int)) = true := dT c9
       clear c9
       obtain ⟨ji10, hji10⟩ : ∃ j_ : Int, (wrap64 (8 * x15_1)) = j_ := ⟨_, rfl⟩
       replace H : (if 0 ≤ (ji10) then (table_rule.l0 k1 l0 (wrap64 (x15_1 + 1)) (Go.bits .or .u32 x246002_1 (shl .u32 ((rd l0 x15_1) % 4294967296) (ji10)))) else (none)) = some (r1, r2, r3, r4, r5) := by first | (rw [hji10] at H; exact H) | (simp only [hji10] at H ⊢; exact H)
       have hji10w : (IntKind.i64.wrap (8 * x15_1)) = ji10 := (i64_w _).trans hji10
       by_cases c11 : 0 ≤ (ji10)
       ·rw [if_pos c11] at H
        have c11b0 := eq_true c11
        have c11b1 : decide (0 ≤ (ji10)) = true := dT c11
        clear c11
        obtain ⟨ji12, hji12⟩ : ∃ j_ : Int, (shl .u32 ((rd l0 x15_1) % 4294967296) (ji10)) = j_ := ⟨_, rfl⟩
        replace H : (table_rule.l0 k1 l0 (wrap64 (x15_1 + 1)) (Go.bits .or .u32 x246002_1 (ji12))) = some (r1, r2, r3, r4, r5) := by first | (rw [hji12] at H; exact H) | (simp only [hji12] at H ⊢; exact H)
        have hji12_ : (IntKind.u32.wrap (((rd l0 x15_1) % 4294967296) * 2 ^ min (ji10).toNat 32)) = ji12 := hji12
        have hji12z : (ji10) ≤ 32 → (IntKind.u32.wrap (((rd l0 x15_1) % 4294967296) * 2 ^ (ji10).toNat)) = ji12 := shl_small hji12
        have hji12m : ((((rd l0 x15_1) % 4294967296) * 2 ^ min (ji10).toNat 32) % 4294967296) = ji12 := (IntKind.wrap_u32 _).symm.trans hji12_
        have H' := Aside0.mk H
        clear H
        try go_wp2
        replace HO_0 := Aside0.mk (Kd.V_drew HO_0.out)
        replace BK244 := Aside0.mk (kD BK244.out)
        replace BK245 := Aside0.mk (kD BK245.out)
        replace HB := Aside0.mk (zD HB.out)
        have p246 : 0 ≤ (x15_1 : Int) := oD (jA)
        have q246 : x15_1 < (l0.length : Int) := oD (jA)
        obtain ⟨ad246, e246, hx246_0⟩ := Kd.at_int (Kd.V_reads' HO_0.out).2.2 x15_1 p246 q246
        cases e246
        replace p246 := eq_true p246
        replace q246 := eq_true q246
        refine start_ (n := 13) (S := fun w' => w'.cell? ⟨gb245, 0, none⟩ = some (.slice none 0 0) ∧ w'.cell? ⟨gb245, 1, none⟩ = some (.slice none 0 0) ∧ w'.cell? ⟨gb245, 2, none⟩ = some (.int .u32 x246002_1) ∧ w'.cell? (ad246.add (x15_1).toNat) = some (.int .u8 (rd l0 x15_1))) (ds := [12]) #[false, false, false, false, false, false, false, false, false, false, false, false, false] (by kernel_rfl) rfl rfl ⟨(kC BK245.out 0).trans rfl, (kC BK245.out 1).trans rfl, (kC BK245.out 2).trans rfl, hx246_0⟩ (fun hHeld => ?_); refine with_tabW table_rule.tab7 table_rule.bits7 (fun HT_ HW_ => ?_)
        generalize wr.drew = w13 at HO_0 BK244 BK245 HB hx246_0 hHeld ⊢
        refine qP 0 18 (tB 13 1) ?_
        refine qP 2 20 (tB 13 5) ?_
        refine qP 3 21 (tB 13 13) ?_
        refine qP 4 22 (tB 13 29) ?_
        refine qP 7 25 (tB 13 157) ?_
        refine qP 8 26 (tB 13 413) ?_
        refine qT 1 19 (tB 13 415) hHeld ?_ (hv := by rintro w' ⟨s0, s1, s2, s3⟩; go_simp; with_reducible rfl)
        refine qT 5 23 (tB 13 447) hHeld ?_ (hv := by rintro w' ⟨s0, s1, s2, s3⟩; go_simp; with_reducible rfl)
        refine qP 6 24 (tB 13 511) ?_
        refine qP 9 27 (tB 13 1023) ?_
        refine qP 10 28 (tB 13 2047) ?_
        refine qP 11 29 (tB 13 4095) ?_
        refine last_ (i := 12) (N := none) (tB 13 8191) rfl rfl (one_of HT_.out (by kernel_rfl)) (by decide) (fun K hK => ?_)
        have hs14 : w13.cell? ⟨gb245, 2, none⟩ = some (.int .u32 x246002_1) := (kC BK245.out 2).trans rfl
        have hfs14 := kF BK245.out 2
        have hns14_0 := NB244_245.out
        have hms14_0 := NB245_244.out
        refine skip_ (w1 := ?_) (by rfl) rfl ?_ ?_
        rotate_left
        ·go_simp
         rfl
        refine hK.out _ _ ?_
        clear hK K
        refine done_ (done_of HT_.out (by kernel_rfl)) ?_
        try go_wp2
        (try simp only [hji12m]); go_roundg k1
        case measure => have := HK1.out; omega
        case rel => exact ⟨(wrap64 (x15_1 + 1)), (Go.bits .or .u32 x246002_1 (ji12)), jS, H', ⟨by have := HK1.out; omega⟩, ⟨by (with_reducible repeat (first | apply Kd.V_alloc | apply Kd.V_drewN | apply Kd.V_drew)); exact Kd.V_mono (Kd.V_far (p := ⟨gb245, 2, none⟩) (Kd.V_mono HO_0.out (fun k_ hk => (⟨hk, hk.2.2⟩ : _ ∧ k_ ≠ gb245))) (fun _ hk => hk.2) (.int .u32 (Go.bits .or .u32 x246002_1 (ji12)))) (fun _ hk => ⟨hk.1.1, ⟨hk.1.2.1, hk.1.2.2⟩⟩)⟩, ⟨by (with_reducible repeat (first | refine kN ?_ _ | refine kD ?_ | refine kA ?_ _)); refine kR ?_ NB244_245.out _; (with_reducible repeat (first | refine kN ?_ _ | refine kD ?_ | refine kA ?_ _)); exact BK244.out⟩, ⟨by (with_reducible repeat (first | refine kN ?_ _ | refine kD ?_ | refine kA ?_ _)); refine kP (cs := #[.slice none 0 0, .slice none 0 0, .int .u32 x246002_1]) ?_ 2 _ rfl; (with_reducible repeat (first | refine kN ?_ _ | refine kD ?_ | refine kA ?_ _)); exact BK245.out⟩, ⟨jH HB⟩⟩
       ·rw [if_neg c11] at H
        exact absurd H (by simp)
      ·rw [if_neg c9] at H
       exact absurd H (by simp)
     ·rw [if_neg c8] at H
      exact absurd H (by simp)
    ·rw [if_neg c7] at H
     have c7b0 : decide (x15_1 < 4) = false := dF c7
     clear c7
     by_cases c15 : 4 < (l0.length : Int)
     ·rw [if_pos c15] at H
      have c15b0 : decide (4 < (l0.length : Int)) = true := dT c15
      have c15b1 : decide (4 < l0.length) = true := dT (by omega)
      clear c15
      by_cases c16 : 5 < (l0.length : Int)
      ·rw [if_pos c16] at H
       have c16b0 : decide (5 < (l0.length : Int)) = true := dT c16
       have c16b1 : decide (5 < l0.length) = true := dT (by omega)
       clear c16
       by_cases c17 : 6 ≤ (l0.length : Int)
       ·rw [if_pos c17] at H
        have c17b0 := eq_true c17
        have c17b1 : decide (6 ≤ (l0.length : Int)) = true := dT c17
        clear c17
        obtain ⟨y249, hy249⟩ : ∃ y_ : List Int, y_ = (l0.drop 6) := ⟨_, rfl⟩
        simp only [Option.bind_some, ← hy249] at H
        have Ny249 := Aside0.mk hy249
        clear hy249
        by_cases c18 : (y249.length : Int) < (wrap64 ((wrap64 (8 * (wrap64 (rd l0 4)))) + (wrap64 (8 * (wrap64 (rd l0 5))))))
        ·rw [if_pos c18] at H
         have c18b0 : decide ((y249.length : Int) < (wrap64 ((wrap64 (8 * (wrap64 (rd l0 4)))) + (wrap64 (8 * (wrap64 (rd l0 5))))))) = true := dT c18
         clear c18
         simp only [Option.some.injEq, Prod.mk.injEq] at H
         obtain ⟨rfl, rfl, rfl, rfl, rfl⟩ := H
         try go_wp2
         replace HO_0 := Aside0.mk (Kd.V_drew HO_0.out)
         replace BK244 := Aside0.mk (kD BK244.out)
         replace BK245 := Aside0.mk (kD BK245.out)
         replace HB := Aside0.mk (zD HB.out)
         have p247 : 0 ≤ (4 : Int) := (by omega)
         have q247 : 4 < (l0.length : Int) := oD (jA)
         obtain ⟨ad247, e247, hx247_0⟩ := Kd.at_int (Kd.V_reads' HO_0.out).2.2 4 p247 q247
         cases e247
         (try simp only [show (4 : Int).toNat = 4 from rfl, Nat.reduceMul, Nat.reduceEqDiff, Go.Addr.add, ↓reduceIte] at hx247_0)
         have qi247 : (4 < l0.length) = True := eq_true (by omega)
         (try rw [show ((4 : Int)).toNat = 4 from rfl] at hx247_0)
         replace p247 := eq_true p247
         replace q247 := eq_true q247
         have p248 : 0 ≤ (5 : Int) := (by omega)
         have q248 : 5 < (l0.length : Int) := oD (jA)
         obtain ⟨ad248, e248, hx248_0⟩ := Kd.at_int (Kd.V_reads' HO_0.out).2.2 5 p248 q248
         obtain rfl : ad247 = ad248 := (by injection e248)
         (try simp only [show (5 : Int).toNat = 5 from rfl, Nat.reduceMul, Nat.reduceEqDiff, Go.Addr.add, ↓reduceIte] at hx248_0)
         have qi248 : (5 < l0.length) = True := eq_true (by omega)
         (try rw [show ((5 : Int)).toNat = 5 from rfl] at hx248_0)
         replace p248 := eq_true p248
         replace q248 := eq_true q248
         refine start_ (n := 12) (S := fun w' => w'.cell? ⟨ad247.block, ad247.off + 4, none⟩ = some (.int .u8 (rd l0 4)) ∧ w'.cell? ⟨ad247.block, ad247.off + 5, none⟩ = some (.int .u8 (rd l0 5))) (ds := []) #[false, false, false, false, false, false, false, false, false, false, false, false] (by kernel_rfl) rfl rfl ⟨hx247_0, hx248_0⟩ (fun hHeld => ?_); refine with_tabW table_rule.tab9 table_rule.bits9 (fun HT_ HW_ => ?_)
         generalize wr.drew = w19 at HO_0 BK244 BK245 HB hx247_0 hx248_0 hHeld ⊢
         refine qP 0 31 (tB 12 1) ?_
         refine qP 1 32 (tB 12 3) ?_
         refine qP 5 36 (tB 12 35) ?_
         refine qP 6 37 (tB 12 99) ?_
         refine qT 2 33 (tB 12 103) hHeld ?_ (hv := by rintro w' ⟨s0, s1⟩; go_simp; with_reducible rfl)
         refine qP 3 34 (tB 12 111) ?_
         refine qP 4 35 (tB 12 127) ?_
         refine qP 10 7 (tB 12 1151) ?_
         refine qT 7 38 (tB 12 1279) hHeld ?_ (hv := by rintro w' ⟨s0, s1⟩; go_simp; with_reducible rfl)
         refine qP 8 39 (tB 12 1535) ?_
         refine qP 9 40 (tB 12 2047) ?_
         refine qP 11 8 (tB 12 4095) ?_
         refine done_ (done_of HT_.out (by kernel_rfl)) ?_
         have q20 : (6 : Int) ≤ ((l0.length : Int) : Int) := oD (jA)
         obtain ⟨i020, hi020, _, hsz20, _⟩ := info_parts info5
         have hroom20 : l0.length ≤ c0 := (Kd.V_reads' HO_0.out).2.1
         have hC20 : Kd.F (Kd.int .u8) _ _ (some ad247) l0.length l0 := (Kd.V_at (base := w.heap.size) HO_0.out).2.2
         have hcut20 := cut_from (P := Tryd.prog) 25 5 .i64 Tryd.underlying25 hi020 1 hsz20 (some ad247) l0.length c0 6 (by omega) q20
         have hr20 := Kd.F_cut (m := (6 : Int).toNat) (c := c0) hC20 (by omega) hroom20
         obtain ⟨A20, hA20⟩ : ∃ A1, A1 = (if c0 = (6 : Int).toNat then (some ad247) else ((some ad247) : Option Addr).map (·.add ((6 : Int).toNat * 1))) := ⟨_, rfl⟩
         obtain ⟨c20, hc20⟩ : ∃ c1, c1 = c0 - (6 : Int).toNat := ⟨_, rfl⟩
         have hy20 : y249.length = l0.length - (6 : Int).toNat := (by rw [Ny249.out, List.length_drop] <;> omega)
         rw [show (l0).drop (6 : Int).toNat = y249 from Ny249.out.symm] at hr20
         replace hr20 : Kd.F (Kd.int .u8) _ _ A20 y249.length y249 := (by rw [hA20]; exact hr20)
         rw [← hy20, ← hA20, ← hc20] at hcut20
         have HO253 := Aside0.mk (show Kd.V (Kd.int .u8) 5 _ w.heap.size _ (.slice A20 y249.length c20) y249 from Kd.V_mk (by rw [hy20, hc20]; exact Nat.sub_le_sub_right hroom20 _) hr20)
         have HC253 := Aside0.mk (show y249.length ≤ c20 from by rw [hy20, hc20]; exact Nat.sub_le_sub_right hroom20 _)
         clear hr20 hC20 hroom20 hi020 hsz20 hc20
         have KY20 := Aside0.mk hy20
         have KA20 := Aside0.mk hA20
         clear hy20 hA20
         replace q20 := eq_true q20
         have hnb21 := NB244_245.out
         have hnc21 := NB245_244.out
         obtain ⟨hcz22_0, hcz22_1, hcz22_2, hfz22_0, hfz22_1, hfz22_2⟩ := kQ3 BK244.out
         try go_wp2
         refine bodyPost_ret (results_ctt rfl _ _ gb244 42 #[.slice none 0 0, .slice none 0 0, .int .u32 0] (0, 0) _ rfl (by (with_reducible repeat (first | refine kN ?_ _ | refine kD ?_ | refine kA ?_ _)); refine kP (cs := #[.slice none 0 0, .slice none 0 0, .int .u32 0]) ?_ 2 _ rfl; (with_reducible repeat (first | refine kN ?_ _ | refine kD ?_ | refine kA ?_ _)); refine kP (cs := #[.slice none 0 0, .slice none 0 0, .int .u32 0]) ?_ 1 _ rfl; (with_reducible repeat (first | refine kN ?_ _ | refine kD ?_ | refine kA ?_ _)); refine kP (cs := #[.slice none 0 0, .slice none 0 0, .int .u32 0]) ?_ 0 _ rfl; (with_reducible repeat (first | refine kN ?_ _ | refine kD ?_ | refine kA ?_ _)); exact BK244.out) Tryd.underlying42 rfl (by kernel_rfl)) rfl ?_
         exact ⟨_, _, _, jE, by first | exact Kd.R_nil _ _ _ _ _ | exact Kd.N_nil _ _ _ _ _ | exact Kd.V_nil _ _ _ _ _ | exact Kd.Q_nil _ _ _ _ _ | exact Kd.S_nil _ _ _ _ _, by first | exact Kd.R_nil _ _ _ _ _ | exact Kd.N_nil _ _ _ _ _ | exact Kd.V_nil _ _ _ _ _ | exact Kd.Q_nil _ _ _ _ _ | exact Kd.S_nil _ _ _ _ _, by first | exact Kd.R_nil _ _ _ _ _ | exact Kd.N_nil _ _ _ _ _ | exact Kd.V_nil _ _ _ _ _ | exact Kd.Q_nil _ _ _ _ _ | exact Kd.S_nil _ _ _ _ _, jH HB⟩
        ·rw [if_neg c18] at H
         have c18b0 : decide ((y249.length : Int) < (wrap64 ((wrap64 (8 * (wrap64 (rd l0 4)))) + (wrap64 (8 * (wrap64 (rd l0 5))))))) = false := dF c18
         clear c18
         obtain ⟨ji23, hji23⟩ : ∃ j_ : Int, (wrap64 (8 * (wrap64 (rd l0 4)))) = j_ := ⟨_, rfl⟩
         replace H : (if 0 ≤ (ji23) then (if (ji23) ≤ (y249.length : Int) then ((codec_Decode.f k1 (y249.take ((ji23) : Int).toNat)).bind fun bt259 => (if (ji23) ≤ (wrap64 ((ji23) + (wrap64 (8 * (wrap64 (rd l0 5)))))) then (if (wrap64 ((ji23) + (wrap64 (8 * (wrap64 (rd l0 5)))))) ≤ (y249.length : Int) then ((codec_Decode.f k1 ((y249.take ((wrap64 ((ji23) + (wrap64 (8 * (wrap64 (rd l0 5)))))) : Int).toNat).drop ((ji23) : Int).toNat)).bind fun bt268 => (if 0 ≤ (wrap64 ((ji23) + (wrap64 (8 * (wrap64 (rd l0 5)))))) then ((some (y249.drop ((wrap64 ((ji23) + (wrap64 (8 * (wrap64 (rd l0 5)))))) : Int).toNat : List Int)).bind fun y272 => (if bt259.2 = 0 then (some (bt259.1, bt268.1, x246002_1, y272, (bt268.2 == 0))) else (some (bt259.1, bt268.1, x246002_1, y272, false)))) else (none))) else (none)) else (none))) else (none)) else (none)) = some (r1, r2, r3, r4, r5) := by first | (rw [hji23] at H; exact H) | (simp only [hji23] at H ⊢; exact H)
         (try rw [hji23] at c18b0)
         have hji23w : (IntKind.i64.wrap (8 * (wrap64 (rd l0 4)))) = ji23 := (i64_w _).trans hji23
         by_cases c24 : 0 ≤ (ji23)
         ·rw [if_pos c24] at H
          have c24b0 := eq_true c24
          have c24b1 : decide (0 ≤ (ji23)) = true := dT c24
          clear c24
          by_cases c25 : (ji23) ≤ (y249.length : Int)
          ·rw [if_pos c25] at H
           have c25b0 := eq_true c25
           have c25b1 : decide ((ji23) ≤ (y249.length : Int)) = true := dT c25
           clear c25
           obtain ⟨y254, hy254⟩ : ∃ y_ : List Int, y_ = (y249.take ((ji23) : Int).toNat) := ⟨_, rfl⟩
           simp only [Option.bind_some, ← hy254] at H
           have Ny254 := Aside0.mk hy254
           clear hy254
           replace H := Option.bind_eq_some_iff.mp H
           obtain ⟨⟨t259, t262⟩, A260, H⟩ := H
           try dsimp only at H
           have A26 := Aside0.mk A260
           clear A260
           have c27b0 := eq_true (oD (jA) : 0 ≤ (ji23))
           by_cases c28 : (ji23) ≤ (wrap64 ((ji23) + (wrap64 (8 * (wrap64 (rd l0 5))))))
           ·rw [if_pos c28] at H
            have c28b0 := eq_true c28
            have c28b1 : decide ((ji23) ≤ (wrap64 ((ji23) + (wrap64 (8 * (wrap64 (rd l0 5))))))) = true := dT c28
            by_cases c29 : (wrap64 ((ji23) + (wrap64 (8 * (wrap64 (rd l0 5)))))) ≤ (y249.length : Int)
            ·rw [if_pos c29] at H
             have c29b0 := eq_true c29
             have c29b1 : decide ((wrap64 ((ji23) + (wrap64 (8 * (wrap64 (rd l0 5)))))) ≤ (y249.length : Int)) = true := dT c29
             obtain ⟨y263, hy263⟩ : ∃ y_ : List Int, y_ = ((y249.take ((wrap64 ((ji23) + (wrap64 (8 * (wrap64 (rd l0 5)))))) : Int).toNat).drop ((ji23) : Int).toNat) := ⟨_, rfl⟩
             simp only [Option.bind_some, ← hy263] at H
             have Ny263 := Aside0.mk hy263
             clear hy263
             replace H := Option.bind_eq_some_iff.mp H
             obtain ⟨⟨t268, t271⟩, A300, H⟩ := H
             try dsimp only at H
             have A30 := Aside0.mk A300
             clear A300
             obtain ⟨ji31, hji31⟩ : ∃ j_ : Int, (wrap64 ((ji23) + (wrap64 (8 * (wrap64 (rd l0 5)))))) = j_ := ⟨_, rfl⟩
             replace H : (if 0 ≤ (ji31) then ((some (y249.drop ((ji31) : Int).toNat : List Int)).bind fun y272 => (if t262 = 0 then (some (t259, t268, x246002_1, y272, (t271 == 0))) else (some (t259, t268, x246002_1, y272, false)))) else (none)) = some (r1, r2, r3, r4, r5) := by first | (rw [hji31] at H; exact H) | (simp only [hji31] at H ⊢; exact H)
             (try rw [hji31] at c28b0)
             (try rw [hji31] at c28b1)
             (try rw [hji31] at c28)
             (try rw [hji31] at c29b0)
             (try rw [hji31] at c29b1)
             (try rw [hji31] at c29)
             (try rw [hji31] at A26)
             (try rw [hji31] at Ny263)
             (try rw [hji31] at A30)
             have hji31w : (IntKind.i64.wrap ((ji23) + (wrap64 (8 * (wrap64 (rd l0 5)))))) = ji31 := (i64_w _).trans hji31
             by_cases c32 : 0 ≤ (ji31)
             ·rw [if_pos c32] at H
              have c32b0 := eq_true c32
              have c32b1 : decide (0 ≤ (ji31)) = true := dT c32
              clear c32
              have c33b0 := eq_true (oD (jA) : (ji31) ≤ (y249.length : Int))
              obtain ⟨y272, hy272⟩ : ∃ y_ : List Int, y_ = (y249.drop ((ji31) : Int).toNat) := ⟨_, rfl⟩
              simp only [Option.bind_some, ← hy272] at H
              have Ny272 := Aside0.mk hy272
              clear hy272
              by_cases c34 : t262 = 0
              ·rw [if_pos c34] at H
               have c34b0 : (t262 == 0) = true := bI.mpr c34
               have c34b1 : (t262 != 0) = false := nF.mpr c34
               clear c34
               simp only [Option.some.injEq, Prod.mk.injEq] at H
               obtain ⟨rfl, rfl, rfl, rfl, rfl⟩ := H
               try go_wp2
               replace HO_0 := Aside0.mk (Kd.V_drew HO_0.out)
               replace BK244 := Aside0.mk (kD BK244.out)
               replace BK245 := Aside0.mk (kD BK245.out)
               replace HB := Aside0.mk (zD HB.out)
               have p247 : 0 ≤ (4 : Int) := (by omega)
               have q247 : 4 < (l0.length : Int) := oD (jA)
               obtain ⟨ad247, e247, hx247_0⟩ := Kd.at_int (Kd.V_reads' HO_0.out).2.2 4 p247 q247
               cases e247
               (try simp only [show (4 : Int).toNat = 4 from rfl, Nat.reduceMul, Nat.reduceEqDiff, Go.Addr.add, ↓reduceIte] at hx247_0)
               have qi247 : (4 < l0.length) = True := eq_true (by omega)
               (try rw [show ((4 : Int)).toNat = 4 from rfl] at hx247_0)
               replace p247 := eq_true p247
               replace q247 := eq_true q247
               have p248 : 0 ≤ (5 : Int) := (by omega)
               have q248 : 5 < (l0.length : Int) := oD (jA)
               obtain ⟨ad248, e248, hx248_0⟩ := Kd.at_int (Kd.V_reads' HO_0.out).2.2 5 p248 q248
               obtain rfl : ad247 = ad248 := (by injection e248)
               (try simp only [show (5 : Int).toNat = 5 from rfl, Nat.reduceMul, Nat.reduceEqDiff, Go.Addr.add, ↓reduceIte] at hx248_0)
               have qi248 : (5 < l0.length) = True := eq_true (by omega)
               (try rw [show ((5 : Int)).toNat = 5 from rfl] at hx248_0)
               replace p248 := eq_true p248
               replace q248 := eq_true q248
               refine start_ (n := 12) (S := fun w' => w'.cell? ⟨ad247.block, ad247.off + 4, none⟩ = some (.int .u8 (rd l0 4)) ∧ w'.cell? ⟨ad247.block, ad247.off + 5, none⟩ = some (.int .u8 (rd l0 5))) (ds := []) #[false, false, false, false, false, false, false, false, false, false, false, false] (by kernel_rfl) rfl rfl ⟨hx247_0, hx248_0⟩ (fun hHeld => ?_); refine with_tabW table_rule.tab9 table_rule.bits9 (fun HT_ HW_ => ?_)
               generalize wr.drew = w35 at HO_0 BK244 BK245 HB hx247_0 hx248_0 hHeld ⊢
               refine qP 0 31 (tB 12 1) ?_
               refine qP 1 32 (tB 12 3) ?_
               refine qP 5 36 (tB 12 35) ?_
               refine qP 6 37 (tB 12 99) ?_
               refine qT 2 33 (tB 12 103) hHeld ?_ (hv := by rintro w' ⟨s0, s1⟩; go_simp; with_reducible rfl)
               refine qP 3 34 (tB 12 111) ?_
               refine qP 4 35 (tB 12 127) ?_
               refine qP 10 7 (tB 12 1151) ?_
               refine qT 7 38 (tB 12 1279) hHeld ?_ (hv := by rintro w' ⟨s0, s1⟩; go_simp; with_reducible rfl)
               refine qP 8 39 (tB 12 1535) ?_
               refine qP 9 40 (tB 12 2047) ?_
               refine qP 11 8 (tB 12 4095) ?_
               refine done_ (done_of HT_.out (by kernel_rfl)) ?_
               have q36 : (6 : Int) ≤ ((l0.length : Int) : Int) := oD (jA)
               obtain ⟨i036, hi036, _, hsz36, _⟩ := info_parts info5
               have hroom36 : l0.length ≤ c0 := (Kd.V_reads' HO_0.out).2.1
               have hC36 : Kd.F (Kd.int .u8) _ _ (some ad247) l0.length l0 := (Kd.V_at (base := w.heap.size) HO_0.out).2.2
               have hcut36 := cut_from (P := Tryd.prog) 25 5 .i64 Tryd.underlying25 hi036 1 hsz36 (some ad247) l0.length c0 6 (by omega) q36
               have hr36 := Kd.F_cut (m := (6 : Int).toNat) (c := c0) hC36 (by omega) hroom36
               obtain ⟨A36, hA36⟩ : ∃ A1, A1 = (if c0 = (6 : Int).toNat then (some ad247) else ((some ad247) : Option Addr).map (·.add ((6 : Int).toNat * 1))) := ⟨_, rfl⟩
               obtain ⟨c36, hc36⟩ : ∃ c1, c1 = c0 - (6 : Int).toNat := ⟨_, rfl⟩
               have hy36 : y249.length = l0.length - (6 : Int).toNat := (by rw [Ny249.out, List.length_drop] <;> omega)
               rw [show (l0).drop (6 : Int).toNat = y249 from Ny249.out.symm] at hr36
               replace hr36 : Kd.F (Kd.int .u8) _ _ A36 y249.length y249 := (by rw [hA36]; exact hr36)
               rw [← hy36, ← hA36, ← hc36] at hcut36
               have HO253 := Aside0.mk (show Kd.V (Kd.int .u8) 5 _ w.heap.size _ (.slice A36 y249.length c36) y249 from Kd.V_mk (by rw [hy36, hc36]; exact Nat.sub_le_sub_right hroom36 _) hr36)
               have HC253 := Aside0.mk (show y249.length ≤ c36 from by rw [hy36, hc36]; exact Nat.sub_le_sub_right hroom36 _)
               clear hr36 hC36 hroom36 hi036 hsz36 hc36
               have KY36 := Aside0.mk hy36
               have KA36 := Aside0.mk hA36
               clear hy36 hA36
               replace q36 := eq_true q36
               have q37 : ((ji23) : Int) ≤ ((y249.length : Int) : Int) := oD (jA)
               obtain ⟨i037, hi037, _, hsz37, _⟩ := info_parts info5
               have hroom37 : y249.length ≤ c36 := (Kd.V_reads' HO253.out).2.1
               have hC37 : Kd.F (Kd.int .u8) _ _ A36 y249.length y249 := (Kd.V_at (base := w.heap.size) HO253.out).2.2
               have hcut37 := cut_to (P := Tryd.prog) 25 5 .i64 Tryd.underlying25 hi037 A36 y249.length c36 (ji23) (oD (jA)) q37 hroom37
               have hr37 := Kd.F_take (m := ((ji23) : Int).toNat) hC37 (by omega)
               have hy37 : y254.length = ((ji23) : Int).toNat := (by rw [Ny254.out, List.length_take]; omega)
               rw [← Ny254.out] at hr37
               rw [← hy37] at hcut37
               have HO258 := Aside0.mk (show Kd.V (Kd.int .u8) 5 _ w.heap.size _ (.slice A36 y254.length c36) y254 from Kd.V_mk (by omega) hr37)
               have HC258 := Aside0.mk (show y254.length ≤ c36 from by omega)
               clear hr37 hC37 hroom37 hi037 hsz37
               have KY37 := Aside0.mk hy37
               clear hy37
               replace q37 := eq_true q37
               try go_wp2_with (first | ((with_reducible refine gate_callee (f := 46) rfl ?_); refine goesL_ (some 54) rfl rfl Tryd.func46 (by kernel_rfl) rfl #[.slice A36 y254.length c36] rfl jZ ?_; (with_reducible refine (codec_Decode.calls k1 (fun k_ => ((P0_ k_ ∨ w.heap.size ≤ k_) ∧ (k_ ≠ gb244 ∧ k_ ≠ gb245))) _ _ y254 t259 t262 _ ?side1 ?side2 A26.out).mono ?_); (case side1 => exact HO258.out); (case side2 => exact Glob.below HG.out (jH HB)); rintro e w38 ⟨v260, rfl, ho0, hb⟩; refine ⟨_, rfl, ?_⟩; have HO261 := Aside0.mk (Kd.R_lower (Kd.R_newM (M := fun k_ => (w.heap.size ≤ k_)) (Kd.R_mono (ok' := fun k_ => True) ho0 (fun _ hk_ => trivial)) (zZ (jH HB)) (fun k_ h_ => h_)) (zZ (jH HB))); replace HO_0 := Aside0.mk (Kd.V_elder' (jV HO_0) (Kd.R_base ho0) hb); replace HO253 := Aside0.mk (Kd.V_elder' (jV HO253) (Kd.R_base ho0) hb); replace HO258 := Aside0.mk (Kd.V_elder' (jV HO258) (Kd.R_base ho0) hb); replace BK244 := Aside0.mk (jB BK244 hb); replace BK245 := Aside0.mk (jB BK245 hb); replace HB := Aside0.mk (zT (jH HB) hb); (try clear hb); (try clear hb2); (try clear hk); (try clear hi); (try clear ho0); obtain ⟨Ao39, co39, eo39⟩ := Kd.R_slice HO261.out; subst eo39; have hnb40 := NB245_244.out; have hnc40 := NB244_245.out; obtain ⟨hcz41_0, hcz41_1, hcz41_2, hfz41_0, hfz41_1, hfz41_2⟩ := kQ3 BK245.out) | ((with_reducible refine gate_store (t := 39) (p := 57) rfl ?_); refine store_event (t := 39) (p := 57) (v := ?vo_w42) (w1 := (w38.setCell ⟨gb245, 0, none⟩ (.slice Ao39 t259.length co39))) ?hg ?ho ?hn ?hr ?_; (case ho => rfl); (case hg => rfl); (case hn => rfl); (case hr => first | (go_simp; done) | (go_simp; rfl)); intro w42 hw; have n0_ : Aside0 (Kd.V (Kd.int .u8) 5 w42 w.heap.size (fun k_ => (P0_ k_ ∨ w.heap.size ≤ k_) ∧ some k_ ≠ (.slice Ao39 t259.length co39 : Value).ownBlock ∧ k_ ≠ gb244 ∧ k_ ≠ gb245) (.slice (some ad247) l0.length c0) l0) := ⟨(by rw [hw]; exact (by (with_reducible repeat (first | apply Kd.V_alloc | apply Kd.V_drewN | apply Kd.V_drew)); exact Kd.V_mono (Kd.V_far (p := ⟨gb245, 0, none⟩) (Kd.V_mono HO_0.out (fun k_ hk => (⟨hk, hk.1.2.2⟩ : _ ∧ k_ ≠ gb245))) (fun _ hk => hk.2) (.slice Ao39 t259.length co39)) (fun _ hk => ⟨hk.1.1.1, ⟨hk.1.2, ⟨hk.1.1.2.1, hk.1.1.2.2⟩⟩⟩)))⟩; have n1_ : Aside0 (Kd.V (Kd.int .u8) 5 w42 w.heap.size (fun k_ => (P0_ k_ ∨ w.heap.size ≤ k_) ∧ some k_ ≠ (.slice Ao39 t259.length co39 : Value).ownBlock ∧ k_ ≠ gb244 ∧ k_ ≠ gb245) (.slice A36 y249.length c36) y249) := ⟨(by rw [hw]; exact (by (with_reducible repeat (first | apply Kd.V_alloc | apply Kd.V_drewN | apply Kd.V_drew)); exact Kd.V_mono (Kd.V_far (p := ⟨gb245, 0, none⟩) (Kd.V_mono HO253.out (fun k_ hk => (⟨hk, hk.1.2.2⟩ : _ ∧ k_ ≠ gb245))) (fun _ hk => hk.2) (.slice Ao39 t259.length co39)) (fun _ hk => ⟨hk.1.1.1, ⟨hk.1.2, ⟨hk.1.1.2.1, hk.1.1.2.2⟩⟩⟩)))⟩; have n2_ : Aside0 (Kd.V (Kd.int .u8) 5 w42 w.heap.size (fun k_ => (P0_ k_ ∨ w.heap.size ≤ k_) ∧ some k_ ≠ (.slice Ao39 t259.length co39 : Value).ownBlock ∧ k_ ≠ gb244 ∧ k_ ≠ gb245) (.slice A36 y254.length c36) y254) := ⟨(by rw [hw]; exact (by (with_reducible repeat (first | apply Kd.V_alloc | apply Kd.V_drewN | apply Kd.V_drew)); exact Kd.V_mono (Kd.V_far (p := ⟨gb245, 0, none⟩) (Kd.V_mono HO258.out (fun k_ hk => (⟨hk, hk.1.2.2⟩ : _ ∧ k_ ≠ gb245))) (fun _ hk => hk.2) (.slice Ao39 t259.length co39)) (fun _ hk => ⟨hk.1.1.1, ⟨hk.1.2, ⟨hk.1.1.2.1, hk.1.1.2.2⟩⟩⟩)))⟩; have n3_ : Aside0 (Kd.R k59 59 w42 w.heap.size (fun k_ => (w.heap.size ≤ k_)) (.slice Ao39 t259.length co39) t259) := ⟨(by rw [hw]; exact (by (with_reducible repeat (first | apply Kd.R_alloc | apply Kd.R_drewN | apply Kd.R_drew)); exact Kd.R_mono (Kd.R_far (p := ⟨gb245, 0, none⟩) (Kd.R_types HO261.out BK245.out (by decide)) (fun _ hk => hk.2) (.slice Ao39 t259.length co39)) (fun _ hk => hk.1.1)))⟩; have n4_ : Aside0 (w42.heap[gb244]? = some (.cells #[.slice none 0 0, .slice none 0 0, .int .u32 0] 42 (0, 0))) := ⟨(by rw [hw]; exact (by (with_reducible repeat (first | refine kN ?_ _ | refine kD ?_ | refine kA ?_ _)); refine kR ?_ NB244_245.out _; (with_reducible repeat (first | refine kN ?_ _ | refine kD ?_ | refine kA ?_ _)); exact BK244.out))⟩; have n5_ : Aside0 (w42.heap[gb245]? = some (.cells #[.slice Ao39 t259.length co39, .slice none 0 0, .int .u32 x246002_1] 42 (0, 0))) := ⟨(by rw [hw]; exact (by (with_reducible repeat (first | refine kN ?_ _ | refine kD ?_ | refine kA ?_ _)); refine kP (cs := #[.slice none 0 0, .slice none 0 0, .int .u32 x246002_1]) ?_ 0 _ rfl; (with_reducible repeat (first | refine kN ?_ _ | refine kD ?_ | refine kA ?_ _)); exact BK245.out))⟩; have n6_ : Aside0 (Below w.heap.size w w42) := ⟨(by rw [hw]; exact (jH HB))⟩; clear hw; clear HO_0; clear HO253; clear HO258; clear HO261; clear BK244; clear BK245; clear HB; have HO_0 := n0_; have HO253 := n1_; have HO258 := n2_; have HO261 := n3_; have BK244 := n4_; have BK245 := n5_; have HB := n6_; clear n0_ n1_ n2_ n3_ n4_ n5_ n6_; have q43 : ((ji31) : Int) ≤ ((y249.length : Int) : Int) := oD (jA); obtain ⟨i043, hi043, _, hsz43, _⟩ := info_parts info5; have hroom43 : y249.length ≤ c36 := (Kd.V_reads' HO253.out).2.1; have hC43 : Kd.F (Kd.int .u8) _ _ A36 y249.length y249 := (Kd.V_at (base := w.heap.size) HO253.out).2.2; have ql43 : ((ji23) : Int) ≤ ((ji31) : Int) := oD (jA); have q043 : (0 : Int) ≤ ((ji23) : Int) := oD (jA); have hcut43 := cut_mid (P := Tryd.prog) 25 5 .i64 .i64 Tryd.underlying25 hi043 1 hsz43 A36 y249.length c36 (ji23) (ji31) q043 ql43 q43 hroom43; have hr43 := Kd.F_mid (lo := ((ji23) : Int).toNat) (hi := ((ji31) : Int).toNat) (c := c36) hC43 (by omega) (by omega) hroom43; obtain ⟨A43, hA43⟩ : ∃ A1, A1 = (if c36 = ((ji23) : Int).toNat then A36 else (A36 : Option Addr).map (·.add (((ji23) : Int).toNat * 1))) := ⟨_, rfl⟩; obtain ⟨c43, hc43⟩ : ∃ c1, c1 = c36 - ((ji23) : Int).toNat := ⟨_, rfl⟩; have hy43 : y263.length = ((ji31) : Int).toNat - ((ji23) : Int).toNat := (by rw [Ny263.out, List.length_drop, List.length_take] <;> omega); rw [show ((y249).take ((ji31) : Int).toNat).drop ((ji23) : Int).toNat = y263 from Ny263.out.symm] at hr43; replace hr43 : Kd.F (Kd.int .u8) _ _ A43 y263.length y263 := (by rw [hA43]; exact hr43); rw [← hy43, ← hA43, ← hc43] at hcut43; have HO267 := Aside0.mk (show Kd.V (Kd.int .u8) 5 _ w.heap.size _ (.slice A43 y263.length c43) y263 from Kd.V_mk (by rw [hy43, hc43]; exact Nat.sub_le_sub_right (Nat.le_trans (by omega) hroom43) _) hr43); have HC267 := Aside0.mk (show y263.length ≤ c43 from by rw [hy43, hc43]; exact Nat.sub_le_sub_right (Nat.le_trans (by omega) hroom43) _); clear hr43 hC43 hroom43 hi043 hsz43 hc43; have KY43 := Aside0.mk hy43; have KA43 := Aside0.mk hA43; clear hy43 hA43; replace q43 := eq_true q43) | ((with_reducible refine gate_callee (f := 46) rfl ?_); refine goesL_ (some 65) rfl rfl Tryd.func46 (by kernel_rfl) rfl #[.slice A43 y263.length c43] rfl jZ ?_; (with_reducible refine (codec_Decode.calls k1 (fun k_ => ((P0_ k_ ∨ w.heap.size ≤ k_) ∧ (some k_ ≠ (.slice Ao39 t259.length co39 : Value).ownBlock ∧ (k_ ≠ gb244 ∧ k_ ≠ gb245)))) _ _ y263 t268 t271 _ ?side1 ?side2 A30.out).mono ?_); (case side1 => exact HO267.out); (case side2 => exact Glob.below HG.out (jH HB)); rintro e w44 ⟨v269, rfl, ho0, hb⟩; refine ⟨_, rfl, ?_⟩; have HO270 := Aside0.mk (Kd.R_lower (Kd.R_new' (Kd.R_newM (M := fun k_ => (w.heap.size ≤ k_)) (Kd.R_mono (ok' := fun k_ => True) ho0 (fun _ hk_ => trivial)) (zZ (jH HB)) (fun k_ h_ => h_)) (Kd.R_lt (jR HO261))) (zZ (jH HB))); replace HO_0 := Aside0.mk (Kd.V_elder' (jV HO_0) (Kd.R_base ho0) hb); replace HO253 := Aside0.mk (Kd.V_elder' (jV HO253) (Kd.R_base ho0) hb); replace HO258 := Aside0.mk (Kd.V_elder' (jV HO258) (Kd.R_base ho0) hb); replace HO261 := Aside0.mk (Kd.R_elder' (jR HO261) (Kd.R_base ho0) hb); replace HO267 := Aside0.mk (Kd.V_elder' (jV HO267) (Kd.R_base ho0) hb); replace BK244 := Aside0.mk (jB BK244 hb); replace BK245 := Aside0.mk (jB BK245 hb); replace HB := Aside0.mk (zT (jH HB) hb); (try clear hb); (try clear hb2); (try clear hk); (try clear hi); (try clear ho0); obtain ⟨Ao45, co45, eo45⟩ := Kd.R_slice HO270.out; subst eo45; obtain ⟨hcz46_0, hcz46_1, hcz46_2, hfz46_0, hfz46_1, hfz46_2⟩ := kQ3 BK245.out))
               have n0_ : Aside0 (Kd.V (Kd.int .u8) 5 (w44.setCell ⟨gb245, 1, none⟩ (.slice Ao45 t268.length co45)) w.heap.size (fun k_ => (P0_ k_ ∨ w.heap.size ≤ k_) ∧ some k_ ≠ (.slice Ao39 t259.length co39 : Value).ownBlock ∧ some k_ ≠ (.slice Ao45 t268.length co45 : Value).ownBlock ∧ k_ ≠ gb244 ∧ k_ ≠ gb245) (.slice (some ad247) l0.length c0) l0) := ⟨by (with_reducible repeat (first | apply Kd.V_alloc | apply Kd.V_drewN | apply Kd.V_drew)); exact Kd.V_mono (Kd.V_far (p := ⟨gb245, 1, none⟩) (Kd.V_mono HO_0.out (fun k_ hk => (⟨hk, hk.1.2.2.2⟩ : _ ∧ k_ ≠ gb245))) (fun _ hk => hk.2) (.slice Ao45 t268.length co45)) (fun _ hk => ⟨hk.1.1.1, ⟨hk.1.1.2.1, ⟨hk.1.2, ⟨hk.1.1.2.2.1, hk.1.1.2.2.2⟩⟩⟩⟩)⟩
               have n1_ : Aside0 (Kd.V (Kd.int .u8) 5 (w44.setCell ⟨gb245, 1, none⟩ (.slice Ao45 t268.length co45)) w.heap.size (fun k_ => (P0_ k_ ∨ w.heap.size ≤ k_) ∧ some k_ ≠ (.slice Ao39 t259.length co39 : Value).ownBlock ∧ some k_ ≠ (.slice Ao45 t268.length co45 : Value).ownBlock ∧ k_ ≠ gb244 ∧ k_ ≠ gb245) (.slice A36 y249.length c36) y249) := ⟨by (with_reducible repeat (first | apply Kd.V_alloc | apply Kd.V_drewN | apply Kd.V_drew)); exact Kd.V_mono (Kd.V_far (p := ⟨gb245, 1, none⟩) (Kd.V_mono HO253.out (fun k_ hk => (⟨hk, hk.1.2.2.2⟩ : _ ∧ k_ ≠ gb245))) (fun _ hk => hk.2) (.slice Ao45 t268.length co45)) (fun _ hk => ⟨hk.1.1.1, ⟨hk.1.1.2.1, ⟨hk.1.2, ⟨hk.1.1.2.2.1, hk.1.1.2.2.2⟩⟩⟩⟩)⟩
               have n2_ : Aside0 (Kd.V (Kd.int .u8) 5 (w44.setCell ⟨gb245, 1, none⟩ (.slice Ao45 t268.length co45)) w.heap.size (fun k_ => (P0_ k_ ∨ w.heap.size ≤ k_) ∧ some k_ ≠ (.slice Ao39 t259.length co39 : Value).ownBlock ∧ some k_ ≠ (.slice Ao45 t268.length co45 : Value).ownBlock ∧ k_ ≠ gb244 ∧ k_ ≠ gb245) (.slice A36 y254.length c36) y254) := ⟨by (with_reducible repeat (first | apply Kd.V_alloc | apply Kd.V_drewN | apply Kd.V_drew)); exact Kd.V_mono (Kd.V_far (p := ⟨gb245, 1, none⟩) (Kd.V_mono HO258.out (fun k_ hk => (⟨hk, hk.1.2.2.2⟩ : _ ∧ k_ ≠ gb245))) (fun _ hk => hk.2) (.slice Ao45 t268.length co45)) (fun _ hk => ⟨hk.1.1.1, ⟨hk.1.1.2.1, ⟨hk.1.2, ⟨hk.1.1.2.2.1, hk.1.1.2.2.2⟩⟩⟩⟩)⟩
               have n3_ : Aside0 (Kd.R k59 59 (w44.setCell ⟨gb245, 1, none⟩ (.slice Ao45 t268.length co45)) w.heap.size (fun k_ => (w.heap.size ≤ k_) ∧ some k_ ≠ (.slice Ao45 t268.length co45 : Value).ownBlock) (.slice Ao39 t259.length co39) t259) := ⟨by (with_reducible repeat (first | apply Kd.R_alloc | apply Kd.R_drewN | apply Kd.R_drew)); exact Kd.R_mono (Kd.R_far (p := ⟨gb245, 1, none⟩) (Kd.R_types HO261.out BK245.out (by decide)) (fun _ hk => hk.2) (.slice Ao45 t268.length co45)) (fun _ hk => ⟨hk.1.1, hk.1.2⟩)⟩
               have n4_ : Aside0 (Kd.V (Kd.int .u8) 5 (w44.setCell ⟨gb245, 1, none⟩ (.slice Ao45 t268.length co45)) w.heap.size (fun k_ => (P0_ k_ ∨ w.heap.size ≤ k_) ∧ some k_ ≠ (.slice Ao39 t259.length co39 : Value).ownBlock ∧ some k_ ≠ (.slice Ao45 t268.length co45 : Value).ownBlock ∧ k_ ≠ gb244 ∧ k_ ≠ gb245) (.slice A43 y263.length c43) y263) := ⟨by (with_reducible repeat (first | apply Kd.V_alloc | apply Kd.V_drewN | apply Kd.V_drew)); exact Kd.V_mono (Kd.V_far (p := ⟨gb245, 1, none⟩) (Kd.V_mono HO267.out (fun k_ hk => (⟨hk, hk.1.2.2.2⟩ : _ ∧ k_ ≠ gb245))) (fun _ hk => hk.2) (.slice Ao45 t268.length co45)) (fun _ hk => ⟨hk.1.1.1, ⟨hk.1.1.2.1, ⟨hk.1.2, ⟨hk.1.1.2.2.1, hk.1.1.2.2.2⟩⟩⟩⟩)⟩
               have n5_ : Aside0 (Kd.R k59 59 (w44.setCell ⟨gb245, 1, none⟩ (.slice Ao45 t268.length co45)) w.heap.size (fun k_ => (w.heap.size ≤ k_) ∧ some k_ ≠ (.slice Ao39 t259.length co39 : Value).ownBlock) (.slice Ao45 t268.length co45) t268) := ⟨by (with_reducible repeat (first | apply Kd.R_alloc | apply Kd.R_drewN | apply Kd.R_drew)); exact Kd.R_mono (Kd.R_far (p := ⟨gb245, 1, none⟩) (Kd.R_types HO270.out BK245.out (by decide)) (fun _ hk => hk.2) (.slice Ao45 t268.length co45)) (fun _ hk => ⟨hk.1.1.1, hk.1.2⟩)⟩
               have n6_ : Aside0 ((w44.setCell ⟨gb245, 1, none⟩ (.slice Ao45 t268.length co45)).heap[gb244]? = some (.cells #[.slice none 0 0, .slice none 0 0, .int .u32 0] 42 (0, 0))) := ⟨by (with_reducible repeat (first | refine kN ?_ _ | refine kD ?_ | refine kA ?_ _)); refine kR ?_ NB244_245.out _; (with_reducible repeat (first | refine kN ?_ _ | refine kD ?_ | refine kA ?_ _)); exact BK244.out⟩
               have n7_ : Aside0 ((w44.setCell ⟨gb245, 1, none⟩ (.slice Ao45 t268.length co45)).heap[gb245]? = some (.cells #[.slice Ao39 t259.length co39, .slice Ao45 t268.length co45, .int .u32 x246002_1] 42 (0, 0))) := ⟨by (with_reducible repeat (first | refine kN ?_ _ | refine kD ?_ | refine kA ?_ _)); refine kP (cs := #[.slice Ao39 t259.length co39, .slice none 0 0, .int .u32 x246002_1]) ?_ 1 _ rfl; (with_reducible repeat (first | refine kN ?_ _ | refine kD ?_ | refine kA ?_ _)); exact BK245.out⟩
               have n8_ : Aside0 (Below w.heap.size w (w44.setCell ⟨gb245, 1, none⟩ (.slice Ao45 t268.length co45))) := ⟨jH HB⟩
               (try clear HO_0)
               (try clear HO253)
               (try clear HO258)
               (try clear HO261)
               (try clear HO267)
               (try clear HO270)
               (try clear BK244)
               (try clear BK245)
               (try clear HB)
               generalize (w44.setCell ⟨gb245, 1, none⟩ (.slice Ao45 t268.length co45)) = w47 at n0_ n1_ n2_ n3_ n4_ n5_ n6_ n7_ n8_ ⊢
               have HO_0 := n0_
               have HO253 := n1_
               have HO258 := n2_
               have HO261 := n3_
               have HO267 := n4_
               have HO270 := n5_
               have BK244 := n6_
               have BK245 := n7_
               have HB := n8_
               clear n0_ n1_ n2_ n3_ n4_ n5_ n6_ n7_ n8_
               replace HO_0 := Aside0.mk (Kd.V_drew HO_0.out)
               replace HO253 := Aside0.mk (Kd.V_drew HO253.out)
               replace HO258 := Aside0.mk (Kd.V_drew HO258.out)
               replace HO261 := Aside0.mk (Kd.R_drew HO261.out)
               replace HO267 := Aside0.mk (Kd.V_drew HO267.out)
               replace HO270 := Aside0.mk (Kd.R_drew HO270.out)
               replace BK244 := Aside0.mk (kD BK244.out)
               replace BK245 := Aside0.mk (kD BK245.out)
               replace HB := Aside0.mk (zD HB.out)
               have q49 : ((ji31) : Int) ≤ ((y249.length : Int) : Int) := oD (jA)
               obtain ⟨i049, hi049, _, hsz49, _⟩ := info_parts info5
               have hroom49 : y249.length ≤ c36 := (Kd.V_reads' HO253.out).2.1
               have hC49 : Kd.F (Kd.int .u8) _ _ A36 y249.length y249 := (Kd.V_at (base := w.heap.size) HO253.out).2.2
               have q049 : (0 : Int) ≤ ((ji31) : Int) := oD (jA)
               have hcut49 := cut_from (P := Tryd.prog) 25 5 .i64 Tryd.underlying25 hi049 1 hsz49 A36 y249.length c36 (ji31) q049 q49
               have hr49 := Kd.F_cut (m := ((ji31) : Int).toNat) (c := c36) hC49 (by omega) hroom49
               obtain ⟨A49, hA49⟩ : ∃ A1, A1 = (if c36 = ((ji31) : Int).toNat then A36 else (A36 : Option Addr).map (·.add (((ji31) : Int).toNat * 1))) := ⟨_, rfl⟩
               obtain ⟨c49, hc49⟩ : ∃ c1, c1 = c36 - ((ji31) : Int).toNat := ⟨_, rfl⟩
               have hy49 : y272.length = y249.length - ((ji31) : Int).toNat := (by rw [Ny272.out, List.length_drop] <;> omega)
               rw [show (y249).drop ((ji31) : Int).toNat = y272 from Ny272.out.symm] at hr49
               replace hr49 : Kd.F (Kd.int .u8) _ _ A49 y272.length y272 := (by rw [hA49]; exact hr49)
               rw [← hy49, ← hA49, ← hc49] at hcut49
               have HO276 := Aside0.mk (show Kd.V (Kd.int .u8) 5 _ w.heap.size _ (.slice A49 y272.length c49) y272 from Kd.V_mk (by rw [hy49, hc49]; exact Nat.sub_le_sub_right hroom49 _) hr49)
               have HC276 := Aside0.mk (show y272.length ≤ c49 from by rw [hy49, hc49]; exact Nat.sub_le_sub_right hroom49 _)
               clear hr49 hC49 hroom49 hi049 hsz49 hc49
               have KY49 := Aside0.mk hy49
               have KA49 := Aside0.mk hA49
               clear hy49 hA49
               replace q49 := eq_true q49
               refine start_ (n := 15) (S := fun w' => w'.cell? ⟨gb245, 0, none⟩ = some (.slice Ao39 t259.length co39) ∧ w'.cell? ⟨gb245, 1, none⟩ = some (.slice Ao45 t268.length co45) ∧ w'.cell? ⟨gb245, 2, none⟩ = some (.int .u32 x246002_1)) (ds := []) #[false, false, false, false, false, false, false, false, false, false, false, false, false, false, false] (by kernel_rfl) rfl rfl ⟨(kC BK245.out 0).trans rfl, (kC BK245.out 1).trans rfl, (kC BK245.out 2).trans rfl⟩ (fun hHeld => ?_); refine with_tabW table_rule.tab16 table_rule.bits16 (fun HT_ HW_ => ?_)
               generalize w47.drew = w48 at HO_0 HO253 HO258 HO261 HO267 HO270 BK244 BK245 HB HO276 hHeld ⊢
               refine qP 1 70 (tB 15 2) ?_
               refine qP 2 71 (tB 15 6) ?_
               refine qP 3 72 (tB 15 14) ?_
               refine qP 4 73 (tB 15 30) ?_
               refine qP 5 74 (tB 15 62) ?_
               refine qP 6 75 (tB 15 126) ?_
               refine qP 7 76 (tB 15 254) ?_
               refine qP 8 77 (tB 15 510) ?_
               refine qP 9 78 (tB 15 1022) ?_
               refine qP 10 79 (tB 15 2046) ?_
               refine qP 11 80 (tB 15 4094) ?_
               refine qT 0 69 (tB 15 4095) hHeld ?_ (hv := by rintro w' ⟨s0, s1, s2⟩; go_simp; with_reducible rfl)
               refine one_ (i := 12) (N := none) (tB 15 8191) rfl rfl (one_of HT_.out (by kernel_rfl)) (by decide) (fun K hK => ?_)
               have hs50 : w48.cell? ⟨gb244, 0, none⟩ = some (.slice none 0 0) := (kC BK244.out 0).trans rfl
               have hfs50 := kF BK244.out 0
               have hns50_1 := NB245_244.out
               have hms50_1 := NB244_245.out
               have hs51 : w48.cell? ⟨gb244, 1, none⟩ = some (.slice none 0 0) := (kC BK244.out 1).trans rfl
               have hfs51 := kF BK244.out 1
               have hns51_1 := NB245_244.out
               have hms51_1 := NB244_245.out
               have hs52 : w48.cell? ⟨gb244, 2, none⟩ = some (.int .u32 0) := (kC BK244.out 2).trans rfl
               have hfs52 := kF BK244.out 2
               have hns52_1 := NB245_244.out
               have hms52_1 := NB244_245.out
               refine skip_ (w1 := ?_) (by rfl) rfl ?_ ?_
               rotate_left
               ·go_simp
                rfl
               refine hK.out _ _ ⟨((cell_far (p := ⟨gb244, _, none⟩) NB245_244.out _).trans (((cell_far (p := ⟨gb244, _, none⟩) NB245_244.out _).trans (((cell_far (p := ⟨gb244, _, none⟩) NB245_244.out _).trans (hHeld.1)))))), ((cell_far (p := ⟨gb244, _, none⟩) NB245_244.out _).trans (((cell_far (p := ⟨gb244, _, none⟩) NB245_244.out _).trans (((cell_far (p := ⟨gb244, _, none⟩) NB245_244.out _).trans (hHeld.2.1)))))), ((cell_far (p := ⟨gb244, _, none⟩) NB245_244.out _).trans (((cell_far (p := ⟨gb244, _, none⟩) NB245_244.out _).trans (((cell_far (p := ⟨gb244, _, none⟩) NB245_244.out _).trans (hHeld.2.2))))))⟩ (fun hHeld => ?_)
               clear hK K
               refine qP 13 3 (tB 15 16383) ?_
               refine qP 14 4 (tB 15 32767) ?_
               refine done_ (done_of HT_.out (by kernel_rfl)) ?_
               try go_wp2
               refine bodyPost_ret (results_ctt rfl _ _ gb244 42 #[.slice Ao39 t259.length co39, .slice Ao45 t268.length co45, .int .u32 x246002_1] (0, 0) _ rfl (by (with_reducible repeat (first | refine kN ?_ _ | refine kD ?_ | refine kA ?_ _)); refine kP (cs := #[.slice Ao39 t259.length co39, .slice Ao45 t268.length co45, .int .u32 0]) ?_ 2 _ rfl; (with_reducible repeat (first | refine kN ?_ _ | refine kD ?_ | refine kA ?_ _)); refine kP (cs := #[.slice Ao39 t259.length co39, .slice none 0 0, .int .u32 0]) ?_ 1 _ rfl; (with_reducible repeat (first | refine kN ?_ _ | refine kD ?_ | refine kA ?_ _)); refine kP (cs := #[.slice none 0 0, .slice none 0 0, .int .u32 0]) ?_ 0 _ rfl; (with_reducible repeat (first | refine kN ?_ _ | refine kD ?_ | refine kA ?_ _)); exact BK244.out) Tryd.underlying42 rfl (by kernel_rfl)) rfl ?_
               exact ⟨_, _, _, by first | rfl | (simp [errW_none, errW_some] <;> rfl) | (simp only [← hji23, ← hji31]; first | rfl | (simp [errW_none, errW_some] <;> rfl)) | (simp [*, errW_none, errW_some] <;> rfl), by (with_reducible repeat (first | apply Kd.R_alloc | apply Kd.R_drewN | apply Kd.R_drew)); exact Kd.R_mono (Kd.R_far (p := ⟨gb244, 2, none⟩) (Kd.R_far (p := ⟨gb244, 1, none⟩) (Kd.R_far (p := ⟨gb244, 0, none⟩) (Kd.R_types HO261.out BK244.out (by decide)) (fun _ hk => hk.2) (.slice Ao39 t259.length co39)) (fun _ hk => hk.2) (.slice Ao45 t268.length co45)) (fun _ hk => hk.2) (.int .u32 x246002_1)) (fun _ hk => ⟨hk.1.1, hk.1.2⟩), by (with_reducible repeat (first | apply Kd.R_alloc | apply Kd.R_drewN | apply Kd.R_drew)); exact Kd.R_mono (Kd.R_far (p := ⟨gb244, 2, none⟩) (Kd.R_far (p := ⟨gb244, 1, none⟩) (Kd.R_far (p := ⟨gb244, 0, none⟩) (Kd.R_types HO270.out BK244.out (by decide)) (fun _ hk => hk.2) (.slice Ao39 t259.length co39)) (fun _ hk => hk.2) (.slice Ao45 t268.length co45)) (fun _ hk => hk.2) (.int .u32 x246002_1)) (fun _ hk => ⟨hk.1.1, hk.1.2⟩), by (with_reducible repeat (first | apply Kd.V_alloc | apply Kd.V_drewN | apply Kd.V_drew)); exact Kd.V_mono (Kd.V_far (p := ⟨gb244, 2, none⟩) (Kd.V_far (p := ⟨gb244, 1, none⟩) (Kd.V_far (p := ⟨gb244, 0, none⟩) (Kd.V_mono HO276.out (fun k_ hk => (⟨hk, hk.2.2.2.1⟩ : _ ∧ k_ ≠ gb244))) (fun _ hk => hk.2) (.slice Ao39 t259.length co39)) (fun _ hk => hk.2) (.slice Ao45 t268.length co45)) (fun _ hk => hk.2) (.int .u32 x246002_1)) (fun _ hk => ⟨hk.1.1, ⟨hk.1.2.1, hk.1.2.2.1⟩⟩), jH HB⟩
              ·rw [if_neg c34] at H
               have c34b0 : (t262 == 0) = false := bF.mpr c34
               have c34b1 : (t262 != 0) = true := nI.mpr c34
               simp only [Option.some.injEq, Prod.mk.injEq] at H
               obtain ⟨rfl, rfl, rfl, rfl, rfl⟩ := H
               try go_wp2
               replace HO_0 := Aside0.mk (Kd.V_drew HO_0.out)
               replace BK244 := Aside0.mk (kD BK244.out)
               replace BK245 := Aside0.mk (kD BK245.out)
               replace HB := Aside0.mk (zD HB.out)
               have p247 : 0 ≤ (4 : Int) := (by omega)
               have q247 : 4 < (l0.length : Int) := oD (jA)
               obtain ⟨ad247, e247, hx247_0⟩ := Kd.at_int (Kd.V_reads' HO_0.out).2.2 4 p247 q247
               cases e247
               (try simp only [show (4 : Int).toNat = 4 from rfl, Nat.reduceMul, Nat.reduceEqDiff, Go.Addr.add, ↓reduceIte] at hx247_0)
               have qi247 : (4 < l0.length) = True := eq_true (by omega)
               (try rw [show ((4 : Int)).toNat = 4 from rfl] at hx247_0)
               replace p247 := eq_true p247
               replace q247 := eq_true q247
               have p248 : 0 ≤ (5 : Int) := (by omega)
               have q248 : 5 < (l0.length : Int) := oD (jA)
               obtain ⟨ad248, e248, hx248_0⟩ := Kd.at_int (Kd.V_reads' HO_0.out).2.2 5 p248 q248
               obtain rfl : ad247 = ad248 := (by injection e248)
               (try simp only [show (5 : Int).toNat = 5 from rfl, Nat.reduceMul, Nat.reduceEqDiff, Go.Addr.add, ↓reduceIte] at hx248_0)
               have qi248 : (5 < l0.length) = True := eq_true (by omega)
               (try rw [show ((5 : Int)).toNat = 5 from rfl] at hx248_0)
               replace p248 := eq_true p248
               replace q248 := eq_true q248
               refine start_ (n := 12) (S := fun w' => w'.cell? ⟨ad247.block, ad247.off + 4, none⟩ = some (.int .u8 (rd l0 4)) ∧ w'.cell? ⟨ad247.block, ad247.off + 5, none⟩ = some (.int .u8 (rd l0 5))) (ds := []) #[false, false, false, false, false, false, false, false, false, false, false, false] (by kernel_rfl) rfl rfl ⟨hx247_0, hx248_0⟩ (fun hHeld => ?_); refine with_tabW table_rule.tab9 table_rule.bits9 (fun HT_ HW_ => ?_)
               generalize wr.drew = w53 at HO_0 BK244 BK245 HB hx247_0 hx248_0 hHeld ⊢
               refine qP 0 31 (tB 12 1) ?_
               refine qP 1 32 (tB 12 3) ?_
               refine qP 5 36 (tB 12 35) ?_
               refine qP 6 37 (tB 12 99) ?_
               refine qT 2 33 (tB 12 103) hHeld ?_ (hv := by rintro w' ⟨s0, s1⟩; go_simp; with_reducible rfl)
               refine qP 3 34 (tB 12 111) ?_
               refine qP 4 35 (tB 12 127) ?_
               refine qP 10 7 (tB 12 1151) ?_
               refine qT 7 38 (tB 12 1279) hHeld ?_ (hv := by rintro w' ⟨s0, s1⟩; go_simp; with_reducible rfl)
               refine qP 8 39 (tB 12 1535) ?_
               refine qP 9 40 (tB 12 2047) ?_
               refine qP 11 8 (tB 12 4095) ?_
               refine done_ (done_of HT_.out (by kernel_rfl)) ?_
               have q54 : (6 : Int) ≤ ((l0.length : Int) : Int) := oD (jA)
               obtain ⟨i054, hi054, _, hsz54, _⟩ := info_parts info5
               have hroom54 : l0.length ≤ c0 := (Kd.V_reads' HO_0.out).2.1
               have hC54 : Kd.F (Kd.int .u8) _ _ (some ad247) l0.length l0 := (Kd.V_at (base := w.heap.size) HO_0.out).2.2
               have hcut54 := cut_from (P := Tryd.prog) 25 5 .i64 Tryd.underlying25 hi054 1 hsz54 (some ad247) l0.length c0 6 (by omega) q54
               have hr54 := Kd.F_cut (m := (6 : Int).toNat) (c := c0) hC54 (by omega) hroom54
               obtain ⟨A54, hA54⟩ : ∃ A1, A1 = (if c0 = (6 : Int).toNat then (some ad247) else ((some ad247) : Option Addr).map (·.add ((6 : Int).toNat * 1))) := ⟨_, rfl⟩
               obtain ⟨c54, hc54⟩ : ∃ c1, c1 = c0 - (6 : Int).toNat := ⟨_, rfl⟩
               have hy54 : y249.length = l0.length - (6 : Int).toNat := (by rw [Ny249.out, List.length_drop] <;> omega)
               rw [show (l0).drop (6 : Int).toNat = y249 from Ny249.out.symm] at hr54
               replace hr54 : Kd.F (Kd.int .u8) _ _ A54 y249.length y249 := (by rw [hA54]; exact hr54)
               rw [← hy54, ← hA54, ← hc54] at hcut54
               have HO253 := Aside0.mk (show Kd.V (Kd.int .u8) 5 _ w.heap.size _ (.slice A54 y249.length c54) y249 from Kd.V_mk (by rw [hy54, hc54]; exact Nat.sub_le_sub_right hroom54 _) hr54)
               have HC253 := Aside0.mk (show y249.length ≤ c54 from by rw [hy54, hc54]; exact Nat.sub_le_sub_right hroom54 _)
               clear hr54 hC54 hroom54 hi054 hsz54 hc54
               have KY54 := Aside0.mk hy54
               have KA54 := Aside0.mk hA54
               clear hy54 hA54
               replace q54 := eq_true q54
               have q55 : ((ji23) : Int) ≤ ((y249.length : Int) : Int) := oD (jA)
               obtain ⟨i055, hi055, _, hsz55, _⟩ := info_parts info5
               have hroom55 : y249.length ≤ c54 := (Kd.V_reads' HO253.out).2.1
               have hC55 : Kd.F (Kd.int .u8) _ _ A54 y249.length y249 := (Kd.V_at (base := w.heap.size) HO253.out).2.2
               have hcut55 := cut_to (P := Tryd.prog) 25 5 .i64 Tryd.underlying25 hi055 A54 y249.length c54 (ji23) (oD (jA)) q55 hroom55
               have hr55 := Kd.F_take (m := ((ji23) : Int).toNat) hC55 (by omega)
               have hy55 : y254.length = ((ji23) : Int).toNat := (by rw [Ny254.out, List.length_take]; omega)
               rw [← Ny254.out] at hr55
               rw [← hy55] at hcut55
               have HO258 := Aside0.mk (show Kd.V (Kd.int .u8) 5 _ w.heap.size _ (.slice A54 y254.length c54) y254 from Kd.V_mk (by omega) hr55)
               have HC258 := Aside0.mk (show y254.length ≤ c54 from by omega)
               clear hr55 hC55 hroom55 hi055 hsz55
               have KY55 := Aside0.mk hy55
               clear hy55
               replace q55 := eq_true q55
               try go_wp2_with (first | ((with_reducible refine gate_callee (f := 46) rfl ?_); refine goesL_ (some 54) rfl rfl Tryd.func46 (by kernel_rfl) rfl #[.slice A54 y254.length c54] rfl jZ ?_; (with_reducible refine (codec_Decode.calls k1 (fun k_ => ((P0_ k_ ∨ w.heap.size ≤ k_) ∧ (k_ ≠ gb244 ∧ k_ ≠ gb245))) _ _ y254 t259 t262 _ ?side1 ?side2 A26.out).mono ?_); (case side1 => exact HO258.out); (case side2 => exact Glob.below HG.out (jH HB)); rintro e w56 ⟨v260, rfl, ho0, hb⟩; refine ⟨_, rfl, ?_⟩; have HO261 := Aside0.mk (Kd.R_lower (Kd.R_newM (M := fun k_ => (w.heap.size ≤ k_)) (Kd.R_mono (ok' := fun k_ => True) ho0 (fun _ hk_ => trivial)) (zZ (jH HB)) (fun k_ h_ => h_)) (zZ (jH HB))); replace HO_0 := Aside0.mk (Kd.V_elder' (jV HO_0) (Kd.R_base ho0) hb); replace HO253 := Aside0.mk (Kd.V_elder' (jV HO253) (Kd.R_base ho0) hb); replace HO258 := Aside0.mk (Kd.V_elder' (jV HO258) (Kd.R_base ho0) hb); replace BK244 := Aside0.mk (jB BK244 hb); replace BK245 := Aside0.mk (jB BK245 hb); replace HB := Aside0.mk (zT (jH HB) hb); (try clear hb); (try clear hb2); (try clear hk); (try clear hi); (try clear ho0); obtain ⟨Ao57, co57, eo57⟩ := Kd.R_slice HO261.out; subst eo57; have hnb58 := NB245_244.out; have hnc58 := NB244_245.out; obtain ⟨hcz59_0, hcz59_1, hcz59_2, hfz59_0, hfz59_1, hfz59_2⟩ := kQ3 BK245.out) | ((with_reducible refine gate_store (t := 39) (p := 57) rfl ?_); refine store_event (t := 39) (p := 57) (v := ?vo_w60) (w1 := (w56.setCell ⟨gb245, 0, none⟩ (.slice Ao57 t259.length co57))) ?hg ?ho ?hn ?hr ?_; (case ho => rfl); (case hg => rfl); (case hn => rfl); (case hr => first | (go_simp; done) | (go_simp; rfl)); intro w60 hw; have n0_ : Aside0 (Kd.V (Kd.int .u8) 5 w60 w.heap.size (fun k_ => (P0_ k_ ∨ w.heap.size ≤ k_) ∧ some k_ ≠ (.slice Ao57 t259.length co57 : Value).ownBlock ∧ k_ ≠ gb244 ∧ k_ ≠ gb245) (.slice (some ad247) l0.length c0) l0) := ⟨(by rw [hw]; exact (by (with_reducible repeat (first | apply Kd.V_alloc | apply Kd.V_drewN | apply Kd.V_drew)); exact Kd.V_mono (Kd.V_far (p := ⟨gb245, 0, none⟩) (Kd.V_mono HO_0.out (fun k_ hk => (⟨hk, hk.1.2.2⟩ : _ ∧ k_ ≠ gb245))) (fun _ hk => hk.2) (.slice Ao57 t259.length co57)) (fun _ hk => ⟨hk.1.1.1, ⟨hk.1.2, ⟨hk.1.1.2.1, hk.1.1.2.2⟩⟩⟩)))⟩; have n1_ : Aside0 (Kd.V (Kd.int .u8) 5 w60 w.heap.size (fun k_ => (P0_ k_ ∨ w.heap.size ≤ k_) ∧ some k_ ≠ (.slice Ao57 t259.length co57 : Value).ownBlock ∧ k_ ≠ gb244 ∧ k_ ≠ gb245) (.slice A54 y249.length c54) y249) := ⟨(by rw [hw]; exact (by (with_reducible repeat (first | apply Kd.V_alloc | apply Kd.V_drewN | apply Kd.V_drew)); exact Kd.V_mono (Kd.V_far (p := ⟨gb245, 0, none⟩) (Kd.V_mono HO253.out (fun k_ hk => (⟨hk, hk.1.2.2⟩ : _ ∧ k_ ≠ gb245))) (fun _ hk => hk.2) (.slice Ao57 t259.length co57)) (fun _ hk => ⟨hk.1.1.1, ⟨hk.1.2, ⟨hk.1.1.2.1, hk.1.1.2.2⟩⟩⟩)))⟩; have n2_ : Aside0 (Kd.V (Kd.int .u8) 5 w60 w.heap.size (fun k_ => (P0_ k_ ∨ w.heap.size ≤ k_) ∧ some k_ ≠ (.slice Ao57 t259.length co57 : Value).ownBlock ∧ k_ ≠ gb244 ∧ k_ ≠ gb245) (.slice A54 y254.length c54) y254) := ⟨(by rw [hw]; exact (by (with_reducible repeat (first | apply Kd.V_alloc | apply Kd.V_drewN | apply Kd.V_drew)); exact Kd.V_mono (Kd.V_far (p := ⟨gb245, 0, none⟩) (Kd.V_mono HO258.out (fun k_ hk => (⟨hk, hk.1.2.2⟩ : _ ∧ k_ ≠ gb245))) (fun _ hk => hk.2) (.slice Ao57 t259.length co57)) (fun _ hk => ⟨hk.1.1.1, ⟨hk.1.2, ⟨hk.1.1.2.1, hk.1.1.2.2⟩⟩⟩)))⟩; have n3_ : Aside0 (Kd.R k59 59 w60 w.heap.size (fun k_ => (w.heap.size ≤ k_)) (.slice Ao57 t259.length co57) t259) := ⟨(by rw [hw]; exact (by (with_reducible repeat (first | apply Kd.R_alloc | apply Kd.R_drewN | apply Kd.R_drew)); exact Kd.R_mono (Kd.R_far (p := ⟨gb245, 0, none⟩) (Kd.R_types HO261.out BK245.out (by decide)) (fun _ hk => hk.2) (.slice Ao57 t259.length co57)) (fun _ hk => hk.1.1)))⟩; have n4_ : Aside0 (w60.heap[gb244]? = some (.cells #[.slice none 0 0, .slice none 0 0, .int .u32 0] 42 (0, 0))) := ⟨(by rw [hw]; exact (by (with_reducible repeat (first | refine kN ?_ _ | refine kD ?_ | refine kA ?_ _)); refine kR ?_ NB244_245.out _; (with_reducible repeat (first | refine kN ?_ _ | refine kD ?_ | refine kA ?_ _)); exact BK244.out))⟩; have n5_ : Aside0 (w60.heap[gb245]? = some (.cells #[.slice Ao57 t259.length co57, .slice none 0 0, .int .u32 x246002_1] 42 (0, 0))) := ⟨(by rw [hw]; exact (by (with_reducible repeat (first | refine kN ?_ _ | refine kD ?_ | refine kA ?_ _)); refine kP (cs := #[.slice none 0 0, .slice none 0 0, .int .u32 x246002_1]) ?_ 0 _ rfl; (with_reducible repeat (first | refine kN ?_ _ | refine kD ?_ | refine kA ?_ _)); exact BK245.out))⟩; have n6_ : Aside0 (Below w.heap.size w w60) := ⟨(by rw [hw]; exact (jH HB))⟩; clear hw; clear HO_0; clear HO253; clear HO258; clear HO261; clear BK244; clear BK245; clear HB; have HO_0 := n0_; have HO253 := n1_; have HO258 := n2_; have HO261 := n3_; have BK244 := n4_; have BK245 := n5_; have HB := n6_; clear n0_ n1_ n2_ n3_ n4_ n5_ n6_; have q61 : ((ji31) : Int) ≤ ((y249.length : Int) : Int) := oD (jA); obtain ⟨i061, hi061, _, hsz61, _⟩ := info_parts info5; have hroom61 : y249.length ≤ c54 := (Kd.V_reads' HO253.out).2.1; have hC61 : Kd.F (Kd.int .u8) _ _ A54 y249.length y249 := (Kd.V_at (base := w.heap.size) HO253.out).2.2; have ql61 : ((ji23) : Int) ≤ ((ji31) : Int) := oD (jA); have q061 : (0 : Int) ≤ ((ji23) : Int) := oD (jA); have hcut61 := cut_mid (P := Tryd.prog) 25 5 .i64 .i64 Tryd.underlying25 hi061 1 hsz61 A54 y249.length c54 (ji23) (ji31) q061 ql61 q61 hroom61; have hr61 := Kd.F_mid (lo := ((ji23) : Int).toNat) (hi := ((ji31) : Int).toNat) (c := c54) hC61 (by omega) (by omega) hroom61; obtain ⟨A61, hA61⟩ : ∃ A1, A1 = (if c54 = ((ji23) : Int).toNat then A54 else (A54 : Option Addr).map (·.add (((ji23) : Int).toNat * 1))) := ⟨_, rfl⟩; obtain ⟨c61, hc61⟩ : ∃ c1, c1 = c54 - ((ji23) : Int).toNat := ⟨_, rfl⟩; have hy61 : y263.length = ((ji31) : Int).toNat - ((ji23) : Int).toNat := (by rw [Ny263.out, List.length_drop, List.length_take] <;> omega); rw [show ((y249).take ((ji31) : Int).toNat).drop ((ji23) : Int).toNat = y263 from Ny263.out.symm] at hr61; replace hr61 : Kd.F (Kd.int .u8) _ _ A61 y263.length y263 := (by rw [hA61]; exact hr61); rw [← hy61, ← hA61, ← hc61] at hcut61; have HO267 := Aside0.mk (show Kd.V (Kd.int .u8) 5 _ w.heap.size _ (.slice A61 y263.length c61) y263 from Kd.V_mk (by rw [hy61, hc61]; exact Nat.sub_le_sub_right (Nat.le_trans (by omega) hroom61) _) hr61); have HC267 := Aside0.mk (show y263.length ≤ c61 from by rw [hy61, hc61]; exact Nat.sub_le_sub_right (Nat.le_trans (by omega) hroom61) _); clear hr61 hC61 hroom61 hi061 hsz61 hc61; have KY61 := Aside0.mk hy61; have KA61 := Aside0.mk hA61; clear hy61 hA61; replace q61 := eq_true q61) | ((with_reducible refine gate_callee (f := 46) rfl ?_); refine goesL_ (some 65) rfl rfl Tryd.func46 (by kernel_rfl) rfl #[.slice A61 y263.length c61] rfl jZ ?_; (with_reducible refine (codec_Decode.calls k1 (fun k_ => ((P0_ k_ ∨ w.heap.size ≤ k_) ∧ (some k_ ≠ (.slice Ao57 t259.length co57 : Value).ownBlock ∧ (k_ ≠ gb244 ∧ k_ ≠ gb245)))) _ _ y263 t268 t271 _ ?side1 ?side2 A30.out).mono ?_); (case side1 => exact HO267.out); (case side2 => exact Glob.below HG.out (jH HB)); rintro e w62 ⟨v269, rfl, ho0, hb⟩; refine ⟨_, rfl, ?_⟩; have HO270 := Aside0.mk (Kd.R_lower (Kd.R_new' (Kd.R_newM (M := fun k_ => (w.heap.size ≤ k_)) (Kd.R_mono (ok' := fun k_ => True) ho0 (fun _ hk_ => trivial)) (zZ (jH HB)) (fun k_ h_ => h_)) (Kd.R_lt (jR HO261))) (zZ (jH HB))); replace HO_0 := Aside0.mk (Kd.V_elder' (jV HO_0) (Kd.R_base ho0) hb); replace HO253 := Aside0.mk (Kd.V_elder' (jV HO253) (Kd.R_base ho0) hb); replace HO258 := Aside0.mk (Kd.V_elder' (jV HO258) (Kd.R_base ho0) hb); replace HO261 := Aside0.mk (Kd.R_elder' (jR HO261) (Kd.R_base ho0) hb); replace HO267 := Aside0.mk (Kd.V_elder' (jV HO267) (Kd.R_base ho0) hb); replace BK244 := Aside0.mk (jB BK244 hb); replace BK245 := Aside0.mk (jB BK245 hb); replace HB := Aside0.mk (zT (jH HB) hb); (try clear hb); (try clear hb2); (try clear hk); (try clear hi); (try clear ho0); obtain ⟨Ao63, co63, eo63⟩ := Kd.R_slice HO270.out; subst eo63; obtain ⟨hcz64_0, hcz64_1, hcz64_2, hfz64_0, hfz64_1, hfz64_2⟩ := kQ3 BK245.out))
               have n0_ : Aside0 (Kd.V (Kd.int .u8) 5 (w62.setCell ⟨gb245, 1, none⟩ (.slice Ao63 t268.length co63)) w.heap.size (fun k_ => (P0_ k_ ∨ w.heap.size ≤ k_) ∧ some k_ ≠ (.slice Ao57 t259.length co57 : Value).ownBlock ∧ some k_ ≠ (.slice Ao63 t268.length co63 : Value).ownBlock ∧ k_ ≠ gb244 ∧ k_ ≠ gb245) (.slice (some ad247) l0.length c0) l0) := ⟨by (with_reducible repeat (first | apply Kd.V_alloc | apply Kd.V_drewN | apply Kd.V_drew)); exact Kd.V_mono (Kd.V_far (p := ⟨gb245, 1, none⟩) (Kd.V_mono HO_0.out (fun k_ hk => (⟨hk, hk.1.2.2.2⟩ : _ ∧ k_ ≠ gb245))) (fun _ hk => hk.2) (.slice Ao63 t268.length co63)) (fun _ hk => ⟨hk.1.1.1, ⟨hk.1.1.2.1, ⟨hk.1.2, ⟨hk.1.1.2.2.1, hk.1.1.2.2.2⟩⟩⟩⟩)⟩
               have n1_ : Aside0 (Kd.V (Kd.int .u8) 5 (w62.setCell ⟨gb245, 1, none⟩ (.slice Ao63 t268.length co63)) w.heap.size (fun k_ => (P0_ k_ ∨ w.heap.size ≤ k_) ∧ some k_ ≠ (.slice Ao57 t259.length co57 : Value).ownBlock ∧ some k_ ≠ (.slice Ao63 t268.length co63 : Value).ownBlock ∧ k_ ≠ gb244 ∧ k_ ≠ gb245) (.slice A54 y249.length c54) y249) := ⟨by (with_reducible repeat (first | apply Kd.V_alloc | apply Kd.V_drewN | apply Kd.V_drew)); exact Kd.V_mono (Kd.V_far (p := ⟨gb245, 1, none⟩) (Kd.V_mono HO253.out (fun k_ hk => (⟨hk, hk.1.2.2.2⟩ : _ ∧ k_ ≠ gb245))) (fun _ hk => hk.2) (.slice Ao63 t268.length co63)) (fun _ hk => ⟨hk.1.1.1, ⟨hk.1.1.2.1, ⟨hk.1.2, ⟨hk.1.1.2.2.1, hk.1.1.2.2.2⟩⟩⟩⟩)⟩
               have n2_ : Aside0 (Kd.V (Kd.int .u8) 5 (w62.setCell ⟨gb245, 1, none⟩ (.slice Ao63 t268.length co63)) w.heap.size (fun k_ => (P0_ k_ ∨ w.heap.size ≤ k_) ∧ some k_ ≠ (.slice Ao57 t259.length co57 : Value).ownBlock ∧ some k_ ≠ (.slice Ao63 t268.length co63 : Value).ownBlock ∧ k_ ≠ gb244 ∧ k_ ≠ gb245) (.slice A54 y254.length c54) y254) := ⟨by (with_reducible repeat (first | apply Kd.V_alloc | apply Kd.V_drewN | apply Kd.V_drew)); exact Kd.V_mono (Kd.V_far (p := ⟨gb245, 1, none⟩) (Kd.V_mono HO258.out (fun k_ hk => (⟨hk, hk.1.2.2.2⟩ : _ ∧ k_ ≠ gb245))) (fun _ hk => hk.2) (.slice Ao63 t268.length co63)) (fun _ hk => ⟨hk.1.1.1, ⟨hk.1.1.2.1, ⟨hk.1.2, ⟨hk.1.1.2.2.1, hk.1.1.2.2.2⟩⟩⟩⟩)⟩
               have n3_ : Aside0 (Kd.R k59 59 (w62.setCell ⟨gb245, 1, none⟩ (.slice Ao63 t268.length co63)) w.heap.size (fun k_ => (w.heap.size ≤ k_) ∧ some k_ ≠ (.slice Ao63 t268.length co63 : Value).ownBlock) (.slice Ao57 t259.length co57) t259) := ⟨by (with_reducible repeat (first | apply Kd.R_alloc | apply Kd.R_drewN | apply Kd.R_drew)); exact Kd.R_mono (Kd.R_far (p := ⟨gb245, 1, none⟩) (Kd.R_types HO261.out BK245.out (by decide)) (fun _ hk => hk.2) (.slice Ao63 t268.length co63)) (fun _ hk => ⟨hk.1.1, hk.1.2⟩)⟩
               have n4_ : Aside0 (Kd.V (Kd.int .u8) 5 (w62.setCell ⟨gb245, 1, none⟩ (.slice Ao63 t268.length co63)) w.heap.size (fun k_ => (P0_ k_ ∨ w.heap.size ≤ k_) ∧ some k_ ≠ (.slice Ao57 t259.length co57 : Value).ownBlock ∧ some k_ ≠ (.slice Ao63 t268.length co63 : Value).ownBlock ∧ k_ ≠ gb244 ∧ k_ ≠ gb245) (.slice A61 y263.length c61) y263) := ⟨by (with_reducible repeat (first | apply Kd.V_alloc | apply Kd.V_drewN | apply Kd.V_drew)); exact Kd.V_mono (Kd.V_far (p := ⟨gb245, 1, none⟩) (Kd.V_mono HO267.out (fun k_ hk => (⟨hk, hk.1.2.2.2⟩ : _ ∧ k_ ≠ gb245))) (fun _ hk => hk.2) (.slice Ao63 t268.length co63)) (fun _ hk => ⟨hk.1.1.1, ⟨hk.1.1.2.1, ⟨hk.1.2, ⟨hk.1.1.2.2.1, hk.1.1.2.2.2⟩⟩⟩⟩)⟩
               have n5_ : Aside0 (Kd.R k59 59 (w62.setCell ⟨gb245, 1, none⟩ (.slice Ao63 t268.length co63)) w.heap.size (fun k_ => (w.heap.size ≤ k_) ∧ some k_ ≠ (.slice Ao57 t259.length co57 : Value).ownBlock) (.slice Ao63 t268.length co63) t268) := ⟨by (with_reducible repeat (first | apply Kd.R_alloc | apply Kd.R_drewN | apply Kd.R_drew)); exact Kd.R_mono (Kd.R_far (p := ⟨gb245, 1, none⟩) (Kd.R_types HO270.out BK245.out (by decide)) (fun _ hk => hk.2) (.slice Ao63 t268.length co63)) (fun _ hk => ⟨hk.1.1.1, hk.1.2⟩)⟩
               have n6_ : Aside0 ((w62.setCell ⟨gb245, 1, none⟩ (.slice Ao63 t268.length co63)).heap[gb244]? = some (.cells #[.slice none 0 0, .slice none 0 0, .int .u32 0] 42 (0, 0))) := ⟨by (with_reducible repeat (first | refine kN ?_ _ | refine kD ?_ | refine kA ?_ _)); refine kR ?_ NB244_245.out _; (with_reducible repeat (first | refine kN ?_ _ | refine kD ?_ | refine kA ?_ _)); exact BK244.out⟩
               have n7_ : Aside0 ((w62.setCell ⟨gb245, 1, none⟩ (.slice Ao63 t268.length co63)).heap[gb245]? = some (.cells #[.slice Ao57 t259.length co57, .slice Ao63 t268.length co63, .int .u32 x246002_1] 42 (0, 0))) := ⟨by (with_reducible repeat (first | refine kN ?_ _ | refine kD ?_ | refine kA ?_ _)); refine kP (cs := #[.slice Ao57 t259.length co57, .slice none 0 0, .int .u32 x246002_1]) ?_ 1 _ rfl; (with_reducible repeat (first | refine kN ?_ _ | refine kD ?_ | refine kA ?_ _)); exact BK245.out⟩
               have n8_ : Aside0 (Below w.heap.size w (w62.setCell ⟨gb245, 1, none⟩ (.slice Ao63 t268.length co63))) := ⟨jH HB⟩
               (try clear HO_0)
               (try clear HO253)
               (try clear HO258)
               (try clear HO261)
               (try clear HO267)
               (try clear HO270)
               (try clear BK244)
               (try clear BK245)
               (try clear HB)
               generalize (w62.setCell ⟨gb245, 1, none⟩ (.slice Ao63 t268.length co63)) = w65 at n0_ n1_ n2_ n3_ n4_ n5_ n6_ n7_ n8_ ⊢
               have HO_0 := n0_
               have HO253 := n1_
               have HO258 := n2_
               have HO261 := n3_
               have HO267 := n4_
               have HO270 := n5_
               have BK244 := n6_
               have BK245 := n7_
               have HB := n8_
               clear n0_ n1_ n2_ n3_ n4_ n5_ n6_ n7_ n8_
               replace HO_0 := Aside0.mk (Kd.V_drew HO_0.out)
               replace HO253 := Aside0.mk (Kd.V_drew HO253.out)
               replace HO258 := Aside0.mk (Kd.V_drew HO258.out)
               replace HO261 := Aside0.mk (Kd.R_drew HO261.out)
               replace HO267 := Aside0.mk (Kd.V_drew HO267.out)
               replace HO270 := Aside0.mk (Kd.R_drew HO270.out)
               replace BK244 := Aside0.mk (kD BK244.out)
               replace BK245 := Aside0.mk (kD BK245.out)
               replace HB := Aside0.mk (zD HB.out)
               have q67 : ((ji31) : Int) ≤ ((y249.length : Int) : Int) := oD (jA)
               obtain ⟨i067, hi067, _, hsz67, _⟩ := info_parts info5
               have hroom67 : y249.length ≤ c54 := (Kd.V_reads' HO253.out).2.1
               have hC67 : Kd.F (Kd.int .u8) _ _ A54 y249.length y249 := (Kd.V_at (base := w.heap.size) HO253.out).2.2
               have q067 : (0 : Int) ≤ ((ji31) : Int) := oD (jA)
               have hcut67 := cut_from (P := Tryd.prog) 25 5 .i64 Tryd.underlying25 hi067 1 hsz67 A54 y249.length c54 (ji31) q067 q67
               have hr67 := Kd.F_cut (m := ((ji31) : Int).toNat) (c := c54) hC67 (by omega) hroom67
               obtain ⟨A67, hA67⟩ : ∃ A1, A1 = (if c54 = ((ji31) : Int).toNat then A54 else (A54 : Option Addr).map (·.add (((ji31) : Int).toNat * 1))) := ⟨_, rfl⟩
               obtain ⟨c67, hc67⟩ : ∃ c1, c1 = c54 - ((ji31) : Int).toNat := ⟨_, rfl⟩
               have hy67 : y272.length = y249.length - ((ji31) : Int).toNat := (by rw [Ny272.out, List.length_drop] <;> omega)
               rw [show (y249).drop ((ji31) : Int).toNat = y272 from Ny272.out.symm] at hr67
               replace hr67 : Kd.F (Kd.int .u8) _ _ A67 y272.length y272 := (by rw [hA67]; exact hr67)
               rw [← hy67, ← hA67, ← hc67] at hcut67
               have HO276 := Aside0.mk (show Kd.V (Kd.int .u8) 5 _ w.heap.size _ (.slice A67 y272.length c67) y272 from Kd.V_mk (by rw [hy67, hc67]; exact Nat.sub_le_sub_right hroom67 _) hr67)
               have HC276 := Aside0.mk (show y272.length ≤ c67 from by rw [hy67, hc67]; exact Nat.sub_le_sub_right hroom67 _)
               clear hr67 hC67 hroom67 hi067 hsz67 hc67
               have KY67 := Aside0.mk hy67
               have KA67 := Aside0.mk hA67
               clear hy67 hA67
               replace q67 := eq_true q67
               refine start_ (n := 15) (S := fun w' => w'.cell? ⟨gb245, 0, none⟩ = some (.slice Ao57 t259.length co57) ∧ w'.cell? ⟨gb245, 1, none⟩ = some (.slice Ao63 t268.length co63) ∧ w'.cell? ⟨gb245, 2, none⟩ = some (.int .u32 x246002_1)) (ds := []) #[false, false, false, false, false, false, false, false, false, false, false, false, false, false, false] (by kernel_rfl) rfl rfl ⟨(kC BK245.out 0).trans rfl, (kC BK245.out 1).trans rfl, (kC BK245.out 2).trans rfl⟩ (fun hHeld => ?_); refine with_tabW table_rule.tab16 table_rule.bits16 (fun HT_ HW_ => ?_)
               generalize w65.drew = w66 at HO_0 HO253 HO258 HO261 HO267 HO270 BK244 BK245 HB HO276 hHeld ⊢
               refine qP 1 70 (tB 15 2) ?_
               refine qP 2 71 (tB 15 6) ?_
               refine qP 3 72 (tB 15 14) ?_
               refine qP 4 73 (tB 15 30) ?_
               refine qP 5 74 (tB 15 62) ?_
               refine qP 6 75 (tB 15 126) ?_
               refine qP 7 76 (tB 15 254) ?_
               refine qP 8 77 (tB 15 510) ?_
               refine qU 9 78 (tB 15 1022) ?_
               refine qU 10 79 (tB 15 2046) ?_
               refine qP 11 80 (tB 15 4094) ?_
               refine qT 0 69 (tB 15 4095) hHeld ?_ (hv := by rintro w' ⟨s0, s1, s2⟩; go_simp; with_reducible rfl)
               refine one_ (i := 12) (N := none) (tB 15 8191) rfl rfl (one_of HT_.out (by kernel_rfl)) (by decide) (fun K hK => ?_)
               have hs68 : w66.cell? ⟨gb244, 0, none⟩ = some (.slice none 0 0) := (kC BK244.out 0).trans rfl
               have hfs68 := kF BK244.out 0
               have hns68_1 := NB245_244.out
               have hms68_1 := NB244_245.out
               have hs69 : w66.cell? ⟨gb244, 1, none⟩ = some (.slice none 0 0) := (kC BK244.out 1).trans rfl
               have hfs69 := kF BK244.out 1
               have hns69_1 := NB245_244.out
               have hms69_1 := NB244_245.out
               have hs70 : w66.cell? ⟨gb244, 2, none⟩ = some (.int .u32 0) := (kC BK244.out 2).trans rfl
               have hfs70 := kF BK244.out 2
               have hns70_1 := NB245_244.out
               have hms70_1 := NB244_245.out
               refine skip_ (w1 := ?_) (by rfl) rfl ?_ ?_
               rotate_left
               ·go_simp
                rfl
               refine hK.out _ _ ⟨((cell_far (p := ⟨gb244, _, none⟩) NB245_244.out _).trans (((cell_far (p := ⟨gb244, _, none⟩) NB245_244.out _).trans (((cell_far (p := ⟨gb244, _, none⟩) NB245_244.out _).trans (hHeld.1)))))), ((cell_far (p := ⟨gb244, _, none⟩) NB245_244.out _).trans (((cell_far (p := ⟨gb244, _, none⟩) NB245_244.out _).trans (((cell_far (p := ⟨gb244, _, none⟩) NB245_244.out _).trans (hHeld.2.1)))))), ((cell_far (p := ⟨gb244, _, none⟩) NB245_244.out _).trans (((cell_far (p := ⟨gb244, _, none⟩) NB245_244.out _).trans (((cell_far (p := ⟨gb244, _, none⟩) NB245_244.out _).trans (hHeld.2.2))))))⟩ (fun hHeld => ?_)
               clear hK K
               refine qP 13 3 (tB 15 16383) ?_
               refine qP 14 4 (tB 15 32767) ?_
               refine done_ (done_of HT_.out (by kernel_rfl)) ?_
               try go_wp2
               refine bodyPost_ret (results_ctt rfl _ _ gb244 42 #[.slice Ao57 t259.length co57, .slice Ao63 t268.length co63, .int .u32 x246002_1] (0, 0) _ rfl (by (with_reducible repeat (first | refine kN ?_ _ | refine kD ?_ | refine kA ?_ _)); refine kP (cs := #[.slice Ao57 t259.length co57, .slice Ao63 t268.length co63, .int .u32 0]) ?_ 2 _ rfl; (with_reducible repeat (first | refine kN ?_ _ | refine kD ?_ | refine kA ?_ _)); refine kP (cs := #[.slice Ao57 t259.length co57, .slice none 0 0, .int .u32 0]) ?_ 1 _ rfl; (with_reducible repeat (first | refine kN ?_ _ | refine kD ?_ | refine kA ?_ _)); refine kP (cs := #[.slice none 0 0, .slice none 0 0, .int .u32 0]) ?_ 0 _ rfl; (with_reducible repeat (first | refine kN ?_ _ | refine kD ?_ | refine kA ?_ _)); exact BK244.out) Tryd.underlying42 rfl (by kernel_rfl)) rfl ?_
               exact ⟨_, _, _, by first | rfl | (simp [errW_none, errW_some] <;> rfl) | (simp only [← hji23, ← hji31]; first | rfl | (simp [errW_none, errW_some] <;> rfl)) | (simp [*, errW_none, errW_some] <;> rfl), by (with_reducible repeat (first | apply Kd.R_alloc | apply Kd.R_drewN | apply Kd.R_drew)); exact Kd.R_mono (Kd.R_far (p := ⟨gb244, 2, none⟩) (Kd.R_far (p := ⟨gb244, 1, none⟩) (Kd.R_far (p := ⟨gb244, 0, none⟩) (Kd.R_types HO261.out BK244.out (by decide)) (fun _ hk => hk.2) (.slice Ao57 t259.length co57)) (fun _ hk => hk.2) (.slice Ao63 t268.length co63)) (fun _ hk => hk.2) (.int .u32 x246002_1)) (fun _ hk => ⟨hk.1.1, hk.1.2⟩), by (with_reducible repeat (first | apply Kd.R_alloc | apply Kd.R_drewN | apply Kd.R_drew)); exact Kd.R_mono (Kd.R_far (p := ⟨gb244, 2, none⟩) (Kd.R_far (p := ⟨gb244, 1, none⟩) (Kd.R_far (p := ⟨gb244, 0, none⟩) (Kd.R_types HO270.out BK244.out (by decide)) (fun _ hk => hk.2) (.slice Ao57 t259.length co57)) (fun _ hk => hk.2) (.slice Ao63 t268.length co63)) (fun _ hk => hk.2) (.int .u32 x246002_1)) (fun _ hk => ⟨hk.1.1, hk.1.2⟩), by (with_reducible repeat (first | apply Kd.V_alloc | apply Kd.V_drewN | apply Kd.V_drew)); exact Kd.V_mono (Kd.V_far (p := ⟨gb244, 2, none⟩) (Kd.V_far (p := ⟨gb244, 1, none⟩) (Kd.V_far (p := ⟨gb244, 0, none⟩) (Kd.V_mono HO276.out (fun k_ hk => (⟨hk, hk.2.2.2.1⟩ : _ ∧ k_ ≠ gb244))) (fun _ hk => hk.2) (.slice Ao57 t259.length co57)) (fun _ hk => hk.2) (.slice Ao63 t268.length co63)) (fun _ hk => hk.2) (.int .u32 x246002_1)) (fun _ hk => ⟨hk.1.1, ⟨hk.1.2.1, hk.1.2.2.1⟩⟩), jH HB⟩
             ·rw [if_neg c32] at H
              exact absurd H (by simp)
            ·rw [if_neg c29] at H
             exact absurd H (by simp)
           ·rw [if_neg c28] at H
            exact absurd H (by simp)
          ·rw [if_neg c25] at H
           exact absurd H (by simp)
         ·rw [if_neg c24] at H
          exact absurd H (by simp)
       ·rw [if_neg c17] at H
        exact absurd H (by simp)
      ·rw [if_neg c16] at H
       exact absurd H (by simp)
     ·rw [if_neg c15] at H
      exact absurd H (by simp)
end Go.Proofs.YtahacmdhhfmhiaaDoor.M
