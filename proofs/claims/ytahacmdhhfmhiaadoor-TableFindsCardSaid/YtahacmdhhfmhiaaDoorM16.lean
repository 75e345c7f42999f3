/- What Go functions compute; their calls come to it. No condition. -/
import Derived.Test.YtahacmdhhfmhiaaDoorM0
import Derived.Test.YtahacmdhhfmhiaaDoorMA
namespace Go.Proofs.YtahacmdhhfmhiaaDoor.M
open Go.RowKit Go.Proofs.YtahacmdhhfmhiaaDoorW.PrintWords Go.Proofs.YtahacmdhhfmhiaaDoorW.PrintLast Go.Proofs.YtahacmdhhfmhiaaDoorW.PrintMore
attribute [local go_sem] max2_int min2_int max_two min_two max_three min_three max_four min_four   -- for this text's walks alone
set_option linter.unusedVariables false
set_option linter.unusedSimpArgs false
mutual
def codec_Decode.l0 : Nat → List Int → List (S59) → Option ((List (S59)) × Int)
 | 0, _, _ => none
 | k + 1, x0, x4 => if (x0.length : Int) > 0 then (if 0 < (x0.length : Int) then (if 1 < (x0.length : Int) then (if 2 < (x0.length : Int) then (if 3 < (x0.length : Int) then (codec_Decode.l1 k x0 x4 0 (Go.bits .or .i64 (wrap64 (rd x0 0)) (wrap64 ((wrap64 (rd x0 1)) * 256))) (wrap64 (rd x0 2)) (wrap64 (rd x0 3)) 0) else (none)) else (none)) else (none)) else (none)) else (some (x4, 0))
def codec_Decode.l1 : Nat → List Int → List (S59) → Int → Int → Int → Int → Int → Option ((List (S59)) × Int)
 | 0, _, _, _, _, _, _, _ => none
 | k + 1, x0, x4, x40, x234000, x234001, x234002, x234003 => if x40 < 4 then (if 0 ≤ (wrap64 (4 + x40)) then (if (wrap64 (4 + x40)) < (x0.length : Int) then (if 0 ≤ (wrap64 (8 * x40)) then (codec_Decode.l1 k x0 x4 (wrap64 (x40 + 1)) x234000 x234001 x234002 (Go.bits .or .u32 x234003 (shl .u32 ((rd x0 (wrap64 (4 + x40))) % 4294967296) (wrap64 (8 * x40))))) else (none)) else (none)) else (none)) else ((ins_Right.f k x234000 x234001 x234002 x234003).bind fun t235 => (if t235 = true then (if x4.length < 4398046511104 then (if 8 ≤ (x0.length : Int) then (codec_Decode.l0 k (x0.drop 8) (x4 ++ [(⟨x234000, x234001, x234002, x234003⟩ : S59)])) else (none)) else (none)) else (some (([] : List (S59)), 2))))
end
def codec_Decode.f (k : Nat) (l0 : List Int) : Option ((List (S59)) × Int) := if (l0.length : Int) > 32768 then (some (([] : List (S59)), 3)) else (if ((l0.length : Int) % 8) = 0 then (codec_Decode.l0 k l0 ([] : List (S59))) else (some (([] : List (S59)), 9)))
theorem codec_Decode.mono_l : ∀ k, (∀ y0 y1, LeO (codec_Decode.l0 k y0 y1) (codec_Decode.l0 (k + 1) y0 y1)) ∧ (∀ y0 y1 y2 y3 y4 y5 y6, LeO (codec_Decode.l1 k y0 y1 y2 y3 y4 y5 y6) (codec_Decode.l1 (k + 1) y0 y1 y2 y3 y4 y5 y6))
 | 0 => ⟨fun _ _ r h => by simp [codec_Decode.l0] at h, fun _ _ _ _ _ _ _ r h => by simp [codec_Decode.l1] at h⟩
 | k + 1 => by
  obtain ⟨ih0, ih1⟩ := codec_Decode.mono_l k
  refine ⟨?_, ?_⟩
  all_goals intros
  all_goals first | unfold codec_Decode.l0 | unfold codec_Decode.l1
  all_goals repeat' first
   | (with_reducible apply ih0)
   | (with_reducible apply ih1)
   | (with_reducible apply ins_Right.mono)
   | (with_reducible exact LeO.refl _)
   | (with_reducible exact LeO.none _)
   | (with_reducible refine LeO.ite ?_ ?_)
   | (with_reducible refine LeO.bind ?_ (fun _ => ?_))
   | apply ih0
   | apply ih1
   | apply ins_Right.mono
   | exact LeO.none _
   | refine LeO.ite ?_ ?_
   | refine LeO.bind ?_ (fun _ => ?_)
theorem codec_Decode.mono : ∀ a0 k, LeO (codec_Decode.f k a0) (codec_Decode.f (k + 1) a0) := by
 intro a0 k
 obtain ⟨ih0, ih1⟩ := codec_Decode.mono_l k
 unfold codec_Decode.f
 repeat' first
   | (with_reducible apply ih0)
   | (with_reducible apply ih1)
   | (with_reducible apply ins_Right.mono)
   | (with_reducible exact LeO.refl _)
   | (with_reducible exact LeO.none _)
   | (with_reducible refine LeO.ite ?_ ?_)
   | (with_reducible refine LeO.bind ?_ (fun _ => ?_))
   | apply ih0
   | apply ih1
   | apply ins_Right.mono
   | exact LeO.none _
   | refine LeO.ite ?_ ?_
   | refine LeO.bind ?_ (fun _ => ?_)
def codec_Decode.T8 : Bool × List (List Nat × List Nat) := (true, [([], []), ([0], [0]), ([1], [1]), ([2], [2]), ([], []), ([4], [4]), ([5], [5]), ([6], [6]), ([7], [7]), ([3, 8], [3, 8]), ([], []), ([10], [10]), ([11], [11]), ([12], [12]), ([], []), ([14], [14]), ([15], [15]), ([16], [16]), ([9, 13, 17], [9, 13, 17]), ([], []), ([19, 18, 0, 1, 2, 3, 4, 5, 6, 7, 8, 9, 10, 11, 12, 13, 14, 15, 16, 17, 18, 19], [18, 19])])
def codec_Decode.B8 : List Nat := [0, 1, 3, 7, 0, 16, 48, 112, 240, 511, 0, 1024, 3072, 7168, 0, 16384, 49152, 114688, 262143, 0, 1048575]
theorem codec_Decode.tab8 : rtab .any (opsOf Tryd.f46 8) = codec_Decode.T8 := by kernel_rfl
theorem codec_Decode.bits8 : waitsOk codec_Decode.T8.2 codec_Decode.B8 = true := by kernel_rfl
def codec_Decode.T12 : Bool × List (List Nat × List Nat) := (true, [([], []), ([0], [0]), ([], []), ([], []), ([3], [3]), ([2, 4], [2, 4]), ([5], [5]), ([6], [6]), ([], []), ([8], [8]), ([7, 9], [7, 9]), ([1, 10], [1, 10]), ([0, 1, 2, 3, 4, 5, 6, 7, 8, 9, 10, 11], []), ([12, 11, 0, 1, 2, 3, 4, 5, 6, 7, 8, 9, 10, 11], [11, 12])])
def codec_Decode.B12 : List Nat := [0, 1, 0, 0, 8, 28, 60, 124, 0, 256, 1020, 2047, 4095, 8191]
theorem codec_Decode.tab12 : rtab .any (opsOf Tryd.f46 12) = codec_Decode.T12 := by kernel_rfl
theorem codec_Decode.bits12 : waitsOk codec_Decode.T12.2 codec_Decode.B12 = true := by kernel_rfl
set_option maxHeartbeats 8000000 in
set_option maxRecDepth 100000 in
theorem codec_Decode.calls (k : Nat) (P0_ : Nat → Prop) (A0 : Option Addr) (c0 : Nat) (l0 : List Int) (r1 : List (S59)) (r2 : Int) (w : World) (hs0 : Kd.V (Kd.int .u8) 5 w w.heap.size (fun k_ => P0_ k_) (.slice A0 l0.length c0) l0) (hG : Glob w) (h : codec_Decode.f k l0 = some (r1, r2)) :
  Calls Tryd.prog 46 #[.slice A0 l0.length c0] w fun e w' => ∃ v0_ : Value, e = .returned (.tuple #[v0_, .int .i64 r2]) ∧ Kd.R k59 59 w' w.heap.size (fun k_ => (w.heap.size ≤ k_)) v0_ r1 ∧ Below w.heap.size w w' := by
 have hu59 := Tryd.underlying59
 have HG := Aside0.mk hG
 clear hG
 have HO0 := Aside0.mk (show Kd.V (Kd.int .u8) 5 w w.heap.size (fun k_ => (P0_ k_ ∨ w.heap.size ≤ k_)) (.slice A0 l0.length c0) l0 from Kd.V_mono hs0 (fun k_ hk => .inl hk))
 have HB := Aside0.mk (Below.refl w.heap.size w)
 have H : (if (l0.length : Int) > 32768 then (some (([] : List (S59)), 3)) else (if ((l0.length : Int) % 8) = 0 then (codec_Decode.l0 k l0 ([] : List (S59))) else (some (([] : List (S59)), 9)))) = some (r1, r2) := h
 clear h
 by_cases c2 : (l0.length : Int) > 32768
 ·rw [if_pos c2] at H
  have c2b0 : decide (32768 < (l0.length : Int)) = true := dT c2
  have c2b1 : decide (32768 < l0.length) = true := dT (by omega)
  clear c2
  simp only [Option.some.injEq, Prod.mk.injEq] at H
  obtain ⟨rfl, rfl⟩ := H
  go_enter Tryd.func46, Tryd.ntmps46
  go_wp2
  go_ret2
  exact ⟨_, jE, by first | exact Kd.R_nil _ _ _ _ _ | exact Kd.N_nil _ _ _ _ _ | exact Kd.V_nil _ _ _ _ _ | exact Kd.Q_nil _ _ _ _ _ | exact Kd.S_nil _ _ _ _ _, jH HB⟩
 ·rw [if_neg c2] at H
  have c2b0 : decide (32768 < (l0.length : Int)) = false := dF c2
  have c2b1 : decide (32768 < l0.length) = false := dF (by omega)
  clear c2
  by_cases c3 : ((l0.length : Int) % 8) = 0
  ·rw [if_pos c3] at H
   have c3b0 : (((l0.length : Int) % 8) == 0) = true := bI.mpr c3
   have c3b1 : (((l0.length : Int) % 8) != 0) = false := nF.mpr c3
   clear c3
   have H' := Aside0.mk H
   clear H
   go_enter Tryd.func46, Tryd.ntmps46
   go_wp2
   go_loopg [0, 4] k (fun kq v0 v4 w' => ∃ (x0_1 : List Int) (x4_1 : List (S59)), Aside0 (codec_Decode.l0 kq x0_1 x4_1 = some (r1, r2)) ∧ Aside0 (kq ≤ k) ∧ Aside0 (Kd.V (Kd.int .u8) 5 w' w.heap.size (fun k_ => (P0_ k_ ∨ w.heap.size ≤ k_) ∧ some k_ ≠ (v4 : Value).ownBlock) v0 x0_1) ∧ Aside0 (Kd.R k59 59 w' w.heap.size (fun k_ => (w.heap.size ≤ k_)) v4 x4_1) ∧ Aside0 (Below w.heap.size w w'))
   case atStart => exact ⟨(l0), (([] : List (S59))), H', ⟨Nat.le_refl _⟩, ⟨by (with_reducible repeat (first | apply Kd.V_alloc | apply Kd.V_drewN | apply Kd.V_drew)); exact Kd.V_mono HO0.out (fun _ hk => ⟨hk, (by simp [Value.ownBlock])⟩)⟩, ⟨by first | exact Kd.R_nil _ _ _ _ _ | exact Kd.N_nil _ _ _ _ _ | exact Kd.V_nil _ _ _ _ _ | exact Kd.Q_nil _ _ _ _ _ | exact Kd.S_nil _ _ _ _ _⟩, ⟨jH HB⟩⟩
   case round =>
    clear H'
    obtain ⟨x0_1, x4_1, HA, HK1, HO_0, HO_4, HB⟩ := hrel
    cases gk with
    | zero => exact absurd HA.out (by simp [codec_Decode.l0])
    | succ k1 =>
     have H := HA.out
     clear HA
     simp only [codec_Decode.l0] at H
     by_cases c4 : (x0_1.length : Int) > 0
     ·rw [if_pos c4] at H
      have c4b0 : decide (0 < (x0_1.length : Int)) = true := dT c4
      have c4b1 : decide (0 < x0_1.length) = true := dT (by omega)
      clear c4
      by_cases c5 : 0 < (x0_1.length : Int)
      ·rw [if_pos c5] at H
       have c5b0 : decide (0 < (x0_1.length : Int)) = true := dT c5
       have c5b1 : decide (0 < x0_1.length) = true := dT (by omega)
       clear c5
       by_cases c6 : 1 < (x0_1.length : Int)
       ·rw [if_pos c6] at H
        have c6b0 : decide (1 < (x0_1.length : Int)) = true := dT c6
        have c6b1 : decide (1 < x0_1.length) = true := dT (by omega)
        clear c6
        by_cases c7 : 2 < (x0_1.length : Int)
        ·rw [if_pos c7] at H
         have c7b0 : decide (2 < (x0_1.length : Int)) = true := dT c7
         have c7b1 : decide (2 < x0_1.length) = true := dT (by omega)
         clear c7
         by_cases c8 : 3 < (x0_1.length : Int)
         ·rw [if_pos c8] at H
          have c8b0 : decide (3 < (x0_1.length : Int)) = true := dT c8
          have c8b1 : decide (3 < x0_1.length) = true := dT (by omega)
          clear c8
          have H' := Aside0.mk H
          clear H
          obtain ⟨Ao9, co9, eo9⟩ := Kd.V_slice HO_0.out
          subst eo9
          try go_wp2
          replace HO_0 := Aside0.mk (Kd.V_drew HO_0.out)
          replace HO_4 := Aside0.mk (Kd.R_drew HO_4.out)
          replace HB := Aside0.mk (zD HB.out)
          have p229 : 0 ≤ (0 : Int) := (by omega)
          have q229 : 0 < (x0_1.length : Int) := oD (jA)
          obtain ⟨ad229, e229, hx229_0⟩ := Kd.at_int (Kd.V_reads' HO_0.out).2.2 0 p229 q229
          cases e229
          have qi229 : (0 < x0_1.length) = True := eq_true (by omega)
          (try rw [show ((0 : Int)).toNat = 0 from rfl] at hx229_0)
          (try rw [Addr.add_zero'] at hx229_0)
          replace p229 := eq_true p229
          replace q229 := eq_true q229
          have p230 : 0 ≤ (1 : Int) := (by omega)
          have q230 : 1 < (x0_1.length : Int) := oD (jA)
          obtain ⟨ad230, e230, hx230_0⟩ := Kd.at_int (Kd.V_reads' HO_0.out).2.2 1 p230 q230
          obtain rfl : ad229 = ad230 := (by injection e230)
          (try simp only [show (1 : Int).toNat = 1 from rfl, Nat.reduceMul, Nat.reduceEqDiff, Go.Addr.add, ↓reduceIte] at hx230_0)
          have qi230 : (1 < x0_1.length) = True := eq_true (by omega)
          (try rw [show ((1 : Int)).toNat = 1 from rfl] at hx230_0)
          replace p230 := eq_true p230
          replace q230 := eq_true q230
          have p231 : 0 ≤ (2 : Int) := (by omega)
          have q231 : 2 < (x0_1.length : Int) := oD (jA)
          obtain ⟨ad231, e231, hx231_0⟩ := Kd.at_int (Kd.V_reads' HO_0.out).2.2 2 p231 q231
          obtain rfl : ad229 = ad231 := (by injection e231)
          (try simp only [show (2 : Int).toNat = 2 from rfl, Nat.reduceMul, Nat.reduceEqDiff, Go.Addr.add, ↓reduceIte] at hx231_0)
          have qi231 : (2 < x0_1.length) = True := eq_true (by omega)
          (try rw [show ((2 : Int)).toNat = 2 from rfl] at hx231_0)
          replace p231 := eq_true p231
          replace q231 := eq_true q231
          have p232 : 0 ≤ (3 : Int) := (by omega)
          have q232 : 3 < (x0_1.length : Int) := oD (jA)
          obtain ⟨ad232, e232, hx232_0⟩ := Kd.at_int (Kd.V_reads' HO_0.out).2.2 3 p232 q232
          obtain rfl : ad229 = ad232 := (by injection e232)
          (try simp only [show (3 : Int).toNat = 3 from rfl, Nat.reduceMul, Nat.reduceEqDiff, Go.Addr.add, ↓reduceIte] at hx232_0)
          have qi232 : (3 < x0_1.length) = True := eq_true (by omega)
          (try rw [show ((3 : Int)).toNat = 3 from rfl] at hx232_0)
          replace p232 := eq_true p232
          replace q232 := eq_true q232
          refine start_ (n := 21) (S := fun w' => w'.cell? ad229 = some (.int .u8 (rd x0_1 0)) ∧ w'.cell? ⟨ad229.block, ad229.off + 1, none⟩ = some (.int .u8 (rd x0_1 1)) ∧ w'.cell? ⟨ad229.block, ad229.off + 2, none⟩ = some (.int .u8 (rd x0_1 2)) ∧ w'.cell? ⟨ad229.block, ad229.off + 3, none⟩ = some (.int .u8 (rd x0_1 3))) (ds := []) #[false, false, false, false, false, false, false, false, false, false, false, false, false, false, false, false, false, false, false, false, false] (by kernel_rfl) rfl rfl ⟨hx229_0, hx230_0, hx231_0, hx232_0⟩ (fun hHeld => ?_); refine with_tabW codec_Decode.tab8 codec_Decode.bits8 (fun HT_ HW_ => ?_)
          generalize wr.drew = w10 at HO_0 HO_4 HB hx229_0 hx230_0 hx231_0 hx232_0 hHeld ⊢
          refine qP 0 21 (tB 21 1) ?_
          refine qP 1 22 (tB 21 3) ?_
          refine qP 4 25 (tB 21 19) ?_
          refine qP 5 26 (tB 21 51) ?_
          refine qP 10 31 (tB 21 1075) ?_
          refine qP 11 32 (tB 21 3123) ?_
          refine qP 14 35 (tB 21 19507) ?_
          refine qP 15 36 (tB 21 52275) ?_
          refine qT 2 23 (tB 21 52279) hHeld ?_ (hv := by rintro w' ⟨s0, s1, s2, s3⟩; go_simp; with_reducible rfl)
          refine qP 3 24 (tB 21 52287) ?_
          refine qT 6 27 (tB 21 52351) hHeld ?_ (hv := by rintro w' ⟨s0, s1, s2, s3⟩; go_simp; with_reducible rfl)
          refine qP 7 28 (tB 21 52479) ?_
          refine qP 8 29 (tB 21 52735) ?_
          refine qP 9 30 (tB 21 53247) ?_
          refine qT 12 33 (tB 21 57343) hHeld ?_ (hv := by rintro w' ⟨s0, s1, s2, s3⟩; go_simp; with_reducible rfl)
          refine qP 13 34 (tB 21 65535) ?_
          refine qT 16 37 (tB 21 131071) hHeld ?_ (hv := by rintro w' ⟨s0, s1, s2, s3⟩; go_simp; with_reducible rfl)
          refine qP 17 38 (tB 21 262143) ?_
          refine qP 18 39 (tB 21 524287) ?_
          refine one_ (i := 19) (N := some 5) (tB 21 1048575) rfl rfl (one_of HT_.out (by kernel_rfl)) (by decide) (fun K hK => ?_)
          refine box_step ?hg (N := 5) ?hd (cs := #[.int .i64 0, .int .i64 0, .int .i64 0, .int .u32 0]) (t := 59) ?hr ?_; (case hd => rfl); (case hg => rfl); (case hr => first | (go_simp; done) | (go_simp; rfl))
          intro gb233 hg w11 hbox hb
          have HS0_ := (hb.cell (bL _ _ (hHeld.1))).trans (hHeld.1)
          have HS1_ := (hb.cell (bL _ _ (hHeld.2.1))).trans (hHeld.2.1)
          have HS2_ := (hb.cell (bL _ _ (hHeld.2.2.1))).trans (hHeld.2.2.1)
          have HS3_ := (hb.cell (bL _ _ (hHeld.2.2.2))).trans (hHeld.2.2.2)
          have BK233 := Aside0.mk hbox
          have GW233 := Aside0.mk (jG hg HB)
          have GE233 := Aside0.mk (jG hg HB)
          replace HO_0 := Aside0.mk (Kd.V_below (Kd.V_elderB (jV HO_0) gb233 (Nat.le_of_eq hg.symm)) hb)
          replace HO_4 := Aside0.mk (Kd.R_below (Kd.R_elderB (jR HO_4) gb233 (Nat.le_of_eq hg.symm)) hb)
          replace HB := Aside0.mk (zT (jH HB) hb)
          clear hb hbox hg
          refine hK.out _ _ ⟨HS0_, HS1_, HS2_, HS3_⟩ (fun hHeld => ?_)
          clear hK K
          refine qN 5 ?_
          refine one_ (i := 20) (N := none) (tB 21 2097151) rfl rfl (one_of HT_.out (by kernel_rfl)) (by decide) (fun K hK => ?_)
          have hs12 : w11.cell? ⟨gb233, 0, none⟩ = some (.int .i64 0) := (kC BK233.out 0).trans rfl
          have hfs12 := kF BK233.out 0
          have hs13 : w11.cell? ⟨gb233, 1, none⟩ = some (.int .i64 0) := (kC BK233.out 1).trans rfl
          have hfs13 := kF BK233.out 1
          have hs14 : w11.cell? ⟨gb233, 2, none⟩ = some (.int .i64 0) := (kC BK233.out 2).trans rfl
          have hfs14 := kF BK233.out 2
          have hs15 : w11.cell? ⟨gb233, 3, none⟩ = some (.int .u32 0) := (kC BK233.out 3).trans rfl
          have hfs15 := kF BK233.out 3
          refine skip_ (w1 := ?_) (by rfl) rfl ?_ ?_
          rotate_left
          ·go_simp
           rfl
          refine hK.out _ _ ⟨((cell_far (p := ⟨gb233, _, none⟩) (by first | exact Kd.own_blk (Kd.V_away HO_0.out (fun _ hk => hk.2)) | (rw [add_block]; exact Kd.own_blk (Kd.V_away HO_0.out (fun _ hk => hk.2))) | (show (Addr.add _ _).block ≠ _; rw [add_block]; exact Kd.own_blk (Kd.V_away HO_0.out (fun _ hk => hk.2))) | (dsimp only; exact Kd.own_blk (Kd.V_away HO_0.out (fun _ hk => hk.2)))) _).trans (((cell_far (p := ⟨gb233, _, none⟩) (by first | exact Kd.own_blk (Kd.V_away HO_0.out (fun _ hk => hk.2)) | (rw [add_block]; exact Kd.own_blk (Kd.V_away HO_0.out (fun _ hk => hk.2))) | (show (Addr.add _ _).block ≠ _; rw [add_block]; exact Kd.own_blk (Kd.V_away HO_0.out (fun _ hk => hk.2))) | (dsimp only; exact Kd.own_blk (Kd.V_away HO_0.out (fun _ hk => hk.2)))) _).trans (((cell_far (p := ⟨gb233, _, none⟩) (by first | exact Kd.own_blk (Kd.V_away HO_0.out (fun _ hk => hk.2)) | (rw [add_block]; exact Kd.own_blk (Kd.V_away HO_0.out (fun _ hk => hk.2))) | (show (Addr.add _ _).block ≠ _; rw [add_block]; exact Kd.own_blk (Kd.V_away HO_0.out (fun _ hk => hk.2))) | (dsimp only; exact Kd.own_blk (Kd.V_away HO_0.out (fun _ hk => hk.2)))) _).trans (((cell_far (p := ⟨gb233, _, none⟩) (by first | exact Kd.own_blk (Kd.V_away HO_0.out (fun _ hk => hk.2)) | (rw [add_block]; exact Kd.own_blk (Kd.V_away HO_0.out (fun _ hk => hk.2))) | (show (Addr.add _ _).block ≠ _; rw [add_block]; exact Kd.own_blk (Kd.V_away HO_0.out (fun _ hk => hk.2))) | (dsimp only; exact Kd.own_blk (Kd.V_away HO_0.out (fun _ hk => hk.2)))) _).trans (hHeld.1)))))))), ((cell_far (p := ⟨gb233, _, none⟩) (by first | exact Kd.own_blk (Kd.V_away HO_0.out (fun _ hk => hk.2)) | (rw [add_block]; exact Kd.own_blk (Kd.V_away HO_0.out (fun _ hk => hk.2))) | (show (Addr.add _ _).block ≠ _; rw [add_block]; exact Kd.own_blk (Kd.V_away HO_0.out (fun _ hk => hk.2))) | (dsimp only; exact Kd.own_blk (Kd.V_away HO_0.out (fun _ hk => hk.2)))) _).trans (((cell_far (p := ⟨gb233, _, none⟩) (by first | exact Kd.own_blk (Kd.V_away HO_0.out (fun _ hk => hk.2)) | (rw [add_block]; exact Kd.own_blk (Kd.V_away HO_0.out (fun _ hk => hk.2))) | (show (Addr.add _ _).block ≠ _; rw [add_block]; exact Kd.own_blk (Kd.V_away HO_0.out (fun _ hk => hk.2))) | (dsimp only; exact Kd.own_blk (Kd.V_away HO_0.out (fun _ hk => hk.2)))) _).trans (((cell_far (p := ⟨gb233, _, none⟩) (by first | exact Kd.own_blk (Kd.V_away HO_0.out (fun _ hk => hk.2)) | (rw [add_block]; exact Kd.own_blk (Kd.V_away HO_0.out (fun _ hk => hk.2))) | (show (Addr.add _ _).block ≠ _; rw [add_block]; exact Kd.own_blk (Kd.V_away HO_0.out (fun _ hk => hk.2))) | (dsimp only; exact Kd.own_blk (Kd.V_away HO_0.out (fun _ hk => hk.2)))) _).trans (((cell_far (p := ⟨gb233, _, none⟩) (by first | exact Kd.own_blk (Kd.V_away HO_0.out (fun _ hk => hk.2)) | (rw [add_block]; exact Kd.own_blk (Kd.V_away HO_0.out (fun _ hk => hk.2))) | (show (Addr.add _ _).block ≠ _; rw [add_block]; exact Kd.own_blk (Kd.V_away HO_0.out (fun _ hk => hk.2))) | (dsimp only; exact Kd.own_blk (Kd.V_away HO_0.out (fun _ hk => hk.2)))) _).trans (hHeld.2.1)))))))), ((cell_far (p := ⟨gb233, _, none⟩) (by first | exact Kd.own_blk (Kd.V_away HO_0.out (fun _ hk => hk.2)) | (rw [add_block]; exact Kd.own_blk (Kd.V_away HO_0.out (fun _ hk => hk.2))) | (show (Addr.add _ _).block ≠ _; rw [add_block]; exact Kd.own_blk (Kd.V_away HO_0.out (fun _ hk => hk.2))) | (dsimp only; exact Kd.own_blk (Kd.V_away HO_0.out (fun _ hk => hk.2)))) _).trans (((cell_far (p := ⟨gb233, _, none⟩) (by first | exact Kd.own_blk (Kd.V_away HO_0.out (fun _ hk => hk.2)) | (rw [add_block]; exact Kd.own_blk (Kd.V_away HO_0.out (fun _ hk => hk.2))) | (show (Addr.add _ _).block ≠ _; rw [add_block]; exact Kd.own_blk (Kd.V_away HO_0.out (fun _ hk => hk.2))) | (dsimp only; exact Kd.own_blk (Kd.V_away HO_0.out (fun _ hk => hk.2)))) _).trans (((cell_far (p := ⟨gb233, _, none⟩) (by first | exact Kd.own_blk (Kd.V_away HO_0.out (fun _ hk => hk.2)) | (rw [add_block]; exact Kd.own_blk (Kd.V_away HO_0.out (fun _ hk => hk.2))) | (show (Addr.add _ _).block ≠ _; rw [add_block]; exact Kd.own_blk (Kd.V_away HO_0.out (fun _ hk => hk.2))) | (dsimp only; exact Kd.own_blk (Kd.V_away HO_0.out (fun _ hk => hk.2)))) _).trans (((cell_far (p := ⟨gb233, _, none⟩) (by first | exact Kd.own_blk (Kd.V_away HO_0.out (fun _ hk => hk.2)) | (rw [add_block]; exact Kd.own_blk (Kd.V_away HO_0.out (fun _ hk => hk.2))) | (show (Addr.add _ _).block ≠ _; rw [add_block]; exact Kd.own_blk (Kd.V_away HO_0.out (fun _ hk => hk.2))) | (dsimp only; exact Kd.own_blk (Kd.V_away HO_0.out (fun _ hk => hk.2)))) _).trans (hHeld.2.2.1)))))))), ((cell_far (p := ⟨gb233, _, none⟩) (by first | exact Kd.own_blk (Kd.V_away HO_0.out (fun _ hk => hk.2)) | (rw [add_block]; exact Kd.own_blk (Kd.V_away HO_0.out (fun _ hk => hk.2))) | (show (Addr.add _ _).block ≠ _; rw [add_block]; exact Kd.own_blk (Kd.V_away HO_0.out (fun _ hk => hk.2))) | (dsimp only; exact Kd.own_blk (Kd.V_away HO_0.out (fun _ hk => hk.2)))) _).trans (((cell_far (p := ⟨gb233, _, none⟩) (by first | exact Kd.own_blk (Kd.V_away HO_0.out (fun _ hk => hk.2)) | (rw [add_block]; exact Kd.own_blk (Kd.V_away HO_0.out (fun _ hk => hk.2))) | (show (Addr.add _ _).block ≠ _; rw [add_block]; exact Kd.own_blk (Kd.V_away HO_0.out (fun _ hk => hk.2))) | (dsimp only; exact Kd.own_blk (Kd.V_away HO_0.out (fun _ hk => hk.2)))) _).trans (((cell_far (p := ⟨gb233, _, none⟩) (by first | exact Kd.own_blk (Kd.V_away HO_0.out (fun _ hk => hk.2)) | (rw [add_block]; exact Kd.own_blk (Kd.V_away HO_0.out (fun _ hk => hk.2))) | (show (Addr.add _ _).block ≠ _; rw [add_block]; exact Kd.own_blk (Kd.V_away HO_0.out (fun _ hk => hk.2))) | (dsimp only; exact Kd.own_blk (Kd.V_away HO_0.out (fun _ hk => hk.2)))) _).trans (((cell_far (p := ⟨gb233, _, none⟩) (by first | exact Kd.own_blk (Kd.V_away HO_0.out (fun _ hk => hk.2)) | (rw [add_block]; exact Kd.own_blk (Kd.V_away HO_0.out (fun _ hk => hk.2))) | (show (Addr.add _ _).block ≠ _; rw [add_block]; exact Kd.own_blk (Kd.V_away HO_0.out (fun _ hk => hk.2))) | (dsimp only; exact Kd.own_blk (Kd.V_away HO_0.out (fun _ hk => hk.2)))) _).trans (hHeld.2.2.2))))))))⟩ (fun hHeld => ?_)
          clear hK K
          refine done_ (done_of HT_.out (by kernel_rfl)) ?_
          try go_wp2
          go_loopg [40] k1 (fun kq v40 w' => ∃ (x40_2 : Int) (x234003_2 : Int), v40 = .int .i64 x40_2 ∧ Aside0 (codec_Decode.l1 kq x0_1 x4_1 x40_2 (Go.bits .or .i64 (wrap64 (rd x0_1 0)) (wrap64 ((wrap64 (rd x0_1 1)) * 256))) (wrap64 (rd x0_1 2)) (wrap64 (rd x0_1 3)) x234003_2 = some (r1, r2)) ∧ Aside0 (kq ≤ k1) ∧ Aside0 (Kd.V (Kd.int .u8) 5 w' w.heap.size (fun k_ => (P0_ k_ ∨ w.heap.size ≤ k_) ∧ some k_ ≠ (u4 : Value).ownBlock ∧ k_ ≠ gb233) (.slice (some ad229) x0_1.length co9) x0_1) ∧ Aside0 (Kd.R k59 59 w' w.heap.size (fun k_ => (w.heap.size ≤ k_) ∧ k_ ≠ gb233) u4 x4_1) ∧ Aside0 (w'.heap[gb233]? = some (.cells #[.int .i64 (Go.bits .or .i64 (wrap64 (rd x0_1 0)) (wrap64 ((wrap64 (rd x0_1 1)) * 256))), .int .i64 (wrap64 (rd x0_1 2)), .int .i64 (wrap64 (rd x0_1 3)), .int .u32 x234003_2] 59 (0, 0))) ∧ Aside0 (Below w.heap.size w w'))
          case atStart => exact ⟨(0), (0), jS, H', ⟨Nat.le_refl _⟩, ⟨by (with_reducible repeat (first | apply Kd.V_alloc | apply Kd.V_drewN | apply Kd.V_drew)); exact Kd.V_mono (Kd.V_far (p := ⟨gb233, 3, none⟩) (Kd.V_far (p := ⟨gb233, 2, none⟩) (Kd.V_far (p := ⟨gb233, 1, none⟩) (Kd.V_far (p := ⟨gb233, 0, none⟩) (Kd.V_mono HO_0.out (fun k_ hk => (⟨hk, hk.2⟩ : _ ∧ k_ ≠ gb233))) (fun _ hk => hk.2) (.int .i64 (Go.bits .or .i64 (wrap64 (rd x0_1 0)) (wrap64 ((wrap64 (rd x0_1 1)) * 256))))) (fun _ hk => hk.2) (.int .i64 (wrap64 (rd x0_1 2)))) (fun _ hk => hk.2) (.int .i64 (wrap64 (rd x0_1 3)))) (fun _ hk => hk.2) (.int .u32 0)) (fun _ hk => ⟨hk.1.1.1, ⟨hk.1.1.2, hk.1.2⟩⟩)⟩, ⟨by (with_reducible repeat (first | apply Kd.R_alloc | apply Kd.R_drewN | apply Kd.R_drew)); exact Kd.R_mono (Kd.R_far (p := ⟨gb233, 3, none⟩) (Kd.R_far (p := ⟨gb233, 2, none⟩) (Kd.R_far (p := ⟨gb233, 1, none⟩) (Kd.R_far (p := ⟨gb233, 0, none⟩) (Kd.R_mono HO_4.out (fun k_ hk => (⟨hk, hk.2⟩ : _ ∧ k_ ≠ gb233))) (fun _ hk => hk.2) (.int .i64 (Go.bits .or .i64 (wrap64 (rd x0_1 0)) (wrap64 ((wrap64 (rd x0_1 1)) * 256))))) (fun _ hk => hk.2) (.int .i64 (wrap64 (rd x0_1 2)))) (fun _ hk => hk.2) (.int .i64 (wrap64 (rd x0_1 3)))) (fun _ hk => hk.2) (.int .u32 0)) (fun _ hk => ⟨hk.1.1, hk.1.2⟩)⟩, ⟨by (with_reducible repeat (first | refine kN ?_ _ | refine kD ?_ | refine kA ?_ _)); refine kP (cs := #[.int .i64 (Go.bits .or .i64 (wrap64 (rd x0_1 0)) (wrap64 ((wrap64 (rd x0_1 1)) * 256))), .int .i64 (wrap64 (rd x0_1 2)), .int .i64 (wrap64 (rd x0_1 3)), .int .u32 0]) ?_ 3 _ rfl; (with_reducible repeat (first | refine kN ?_ _ | refine kD ?_ | refine kA ?_ _)); refine kP (cs := #[.int .i64 (Go.bits .or .i64 (wrap64 (rd x0_1 0)) (wrap64 ((wrap64 (rd x0_1 1)) * 256))), .int .i64 (wrap64 (rd x0_1 2)), .int .i64 0, .int .u32 0]) ?_ 2 _ rfl; (with_reducible repeat (first | refine kN ?_ _ | refine kD ?_ | refine kA ?_ _)); refine kP (cs := #[.int .i64 (Go.bits .or .i64 (wrap64 (rd x0_1 0)) (wrap64 ((wrap64 (rd x0_1 1)) * 256))), .int .i64 0, .int .i64 0, .int .u32 0]) ?_ 1 _ rfl; (with_reducible repeat (first | refine kN ?_ _ | refine kD ?_ | refine kA ?_ _)); refine kP (cs := #[.int .i64 0, .int .i64 0, .int .i64 0, .int .u32 0]) ?_ 0 _ rfl; (with_reducible repeat (first | refine kN ?_ _ | refine kD ?_ | refine kA ?_ _)); exact BK233.out⟩, ⟨jH HB⟩⟩
          case round =>
           clear H'
           obtain ⟨x40_2, x234003_2, rfl, HA, HK2, HO_0, HO_4, BK233, HB⟩ := hrel
           cases gk with
           | zero => exact absurd HA.out (by simp [codec_Decode.l1])
           | succ k2 =>
            have H := HA.out
            clear HA
            simp only [codec_Decode.l1] at H
            by_cases c16 : x40_2 < 4
            ·rw [if_pos c16] at H
             have c16b0 : decide (x40_2 < 4) = true := dT c16
             clear c16
             obtain ⟨ji17, hji17⟩ : ∃ j_ : Int, (wrap64 (4 + x40_2)) = j_ := ⟨_, rfl⟩
             replace H : (if 0 ≤ (ji17) then (if (ji17) < (x0_1.length : Int) then (if 0 ≤ (wrap64 (8 * x40_2)) then (codec_Decode.l1 k2 x0_1 x4_1 (wrap64 (x40_2 + 1)) (Go.bits .or .i64 (wrap64 (rd x0_1 0)) (wrap64 ((wrap64 (rd x0_1 1)) * 256))) (wrap64 (rd x0_1 2)) (wrap64 (rd x0_1 3)) (Go.bits .or .u32 x234003_2 (shl .u32 ((rd x0_1 (ji17)) % 4294967296) (wrap64 (8 * x40_2))))) else (none)) else (none)) else (none)) = some (r1, r2) := by first | (rw [hji17] at H; exact H) | (simp only [hji17] at H ⊢; exact H)
             have hji17w : (IntKind.i64.wrap (4 + x40_2)) = ji17 := (i64_w _).trans hji17
             by_cases c18 : 0 ≤ (ji17)
             ·rw [if_pos c18] at H
              have c18b0 : decide (0 ≤ (ji17)) = true := dT c18
              clear c18
              by_cases c19 : (ji17) < (x0_1.length : Int)
              ·rw [if_pos c19] at H
               have c19b0 : decide ((ji17) < (x0_1.length : Int)) = true := dT c19
               clear c19
               obtain ⟨ji20, hji20⟩ : ∃ j_ : Int, (wrap64 (8 * x40_2)) = j_ := ⟨_, rfl⟩
               replace H : (if 0 ≤ (ji20) then (codec_Decode.l1 k2 x0_1 x4_1 (wrap64 (x40_2 + 1)) (Go.bits .or .i64 (wrap64 (rd x0_1 0)) (wrap64 ((wrap64 (rd x0_1 1)) * 256))) (wrap64 (rd x0_1 2)) (wrap64 (rd x0_1 3)) (Go.bits .or .u32 x234003_2 (shl .u32 ((rd x0_1 (ji17)) % 4294967296) (ji20)))) else (none)) = some (r1, r2) := by first | (rw [hji20] at H; exact H) | (simp only [hji20] at H ⊢; exact H)
               have hji20w : (IntKind.i64.wrap (8 * x40_2)) = ji20 := (i64_w _).trans hji20
               by_cases c21 : 0 ≤ (ji20)
               ·rw [if_pos c21] at H
                have c21b0 := eq_true c21
                have c21b1 : decide (0 ≤ (ji20)) = true := dT c21
                clear c21
                obtain ⟨ji22, hji22⟩ : ∃ j_ : Int, (shl .u32 ((rd x0_1 (ji17)) % 4294967296) (ji20)) = j_ := ⟨_, rfl⟩
                replace H : (codec_Decode.l1 k2 x0_1 x4_1 (wrap64 (x40_2 + 1)) (Go.bits .or .i64 (wrap64 (rd x0_1 0)) (wrap64 ((wrap64 (rd x0_1 1)) * 256))) (wrap64 (rd x0_1 2)) (wrap64 (rd x0_1 3)) (Go.bits .or .u32 x234003_2 (ji22))) = some (r1, r2) := by first | (rw [hji22] at H; exact H) | (simp only [hji22] at H ⊢; exact H)
                have hji22_ : (IntKind.u32.wrap (((rd x0_1 (ji17)) % 4294967296) * 2 ^ min (ji20).toNat 32)) = ji22 := hji22
                have hji22z : (ji20) ≤ 32 → (IntKind.u32.wrap (((rd x0_1 (ji17)) % 4294967296) * 2 ^ (ji20).toNat)) = ji22 := shl_small hji22
                have hji22m : ((((rd x0_1 (ji17)) % 4294967296) * 2 ^ min (ji20).toNat 32) % 4294967296) = ji22 := (IntKind.wrap_u32 _).symm.trans hji22_
                have H' := Aside0.mk H
                clear H
                try go_wp2
                replace HO_0 := Aside0.mk (Kd.V_drew HO_0.out)
                replace HO_4 := Aside0.mk (Kd.R_drew HO_4.out)
                replace BK233 := Aside0.mk (kD BK233.out)
                replace HB := Aside0.mk (zD HB.out)
                have p234 : 0 ≤ ((ji17) : Int) := oD (jA)
                have q234 : (ji17) < (x0_1.length : Int) := oD (jA)
                obtain ⟨ad234, e234, hx234_0⟩ := Kd.at_int (Kd.V_reads' HO_0.out).2.2 (ji17) p234 q234
                obtain rfl : ad229 = ad234 := (by injection e234)
                replace p234 := eq_true p234
                replace q234 := eq_true q234
                refine start_ (n := 14) (S := fun w' => w'.cell? ⟨gb233, 0, none⟩ = some (.int .i64 (Go.bits .or .i64 (wrap64 (rd x0_1 0)) (wrap64 ((wrap64 (rd x0_1 1)) * 256)))) ∧ w'.cell? ⟨gb233, 1, none⟩ = some (.int .i64 (wrap64 (rd x0_1 2))) ∧ w'.cell? ⟨gb233, 2, none⟩ = some (.int .i64 (wrap64 (rd x0_1 3))) ∧ w'.cell? ⟨gb233, 3, none⟩ = some (.int .u32 x234003_2) ∧ w'.cell? (ad229.add ((ji17)).toNat) = some (.int .u8 (rd x0_1 (ji17)))) (ds := [13]) #[false, false, false, false, false, false, false, false, false, false, false, false, false, false] (by kernel_rfl) rfl rfl ⟨(kC BK233.out 0).trans rfl, (kC BK233.out 1).trans rfl, (kC BK233.out 2).trans rfl, (kC BK233.out 3).trans rfl, hx234_0⟩ (fun hHeld => ?_); refine with_tabW codec_Decode.tab12 codec_Decode.bits12 (fun HT_ HW_ => ?_)
                generalize wr.drew = w23 at HO_0 HO_4 BK233 HB hx234_0 hHeld ⊢
                refine qP 0 43 (tB 14 1) ?_
                refine qP 2 45 (tB 14 5) ?_
                refine qP 3 46 (tB 14 13) ?_
                refine qP 4 47 (tB 14 29) ?_
                refine qP 5 48 (tB 14 61) ?_
                refine qP 8 51 (tB 14 317) ?_
                refine qP 9 52 (tB 14 829) ?_
                refine qT 1 44 (tB 14 831) hHeld ?_ (hv := by rintro w' ⟨s0, s1, s2, s3, s4⟩; go_simp; with_reducible rfl)
                refine qT 6 49 (tB 14 895) hHeld ?_ (hv := by rintro w' ⟨s0, s1, s2, s3, s4⟩; go_simp; with_reducible rfl)
                refine qP 7 50 (tB 14 1023) ?_
                refine qP 10 53 (tB 14 2047) ?_
                refine qP 11 54 (tB 14 4095) ?_
                refine qP 12 55 (tB 14 8191) ?_
                refine last_ (i := 13) (N := none) (tB 14 16383) rfl rfl (one_of HT_.out (by kernel_rfl)) (by decide) (fun K hK => ?_)
                have hs24 : w23.cell? ⟨gb233, 3, none⟩ = some (.int .u32 x234003_2) := (kC BK233.out 3).trans rfl
                have hfs24 := kF BK233.out 3
                refine skip_ (w1 := ?_) (by rfl) rfl ?_ ?_
                rotate_left
                ·go_simp
                 rfl
                refine hK.out _ _ ?_
                clear hK K
                refine done_ (done_of HT_.out (by kernel_rfl)) ?_
                try go_wp2
                go_roundg k2
                case measure => have := HK1.out; have := HK2.out; omega
                case rel => exact ⟨(wrap64 (x40_2 + 1)), (Go.bits .or .u32 x234003_2 (ji22)), jS, H', ⟨by have := HK1.out; have := HK2.out; omega⟩, ⟨by (with_reducible repeat (first | apply Kd.V_alloc | apply Kd.V_drewN | apply Kd.V_drew)); exact Kd.V_mono (Kd.V_far (p := ⟨gb233, 3, none⟩) (Kd.V_mono HO_0.out (fun k_ hk => (⟨hk, hk.2.2⟩ : _ ∧ k_ ≠ gb233))) (fun _ hk => hk.2) (.int .u32 (Go.bits .or .u32 x234003_2 (ji22)))) (fun _ hk => ⟨hk.1.1, ⟨hk.1.2.1, hk.1.2.2⟩⟩)⟩, ⟨by (with_reducible repeat (first | apply Kd.R_alloc | apply Kd.R_drewN | apply Kd.R_drew)); exact Kd.R_mono (Kd.R_far (p := ⟨gb233, 3, none⟩) (Kd.R_mono HO_4.out (fun k_ hk => (⟨hk, hk.2⟩ : _ ∧ k_ ≠ gb233))) (fun _ hk => hk.2) (.int .u32 (Go.bits .or .u32 x234003_2 (ji22)))) (fun _ hk => ⟨hk.1.1, hk.1.2⟩)⟩, ⟨by (with_reducible repeat (first | refine kN ?_ _ | refine kD ?_ | refine kA ?_ _)); refine kP (cs := #[.int .i64 (Go.bits .or .i64 (wrap64 (rd x0_1 0)) (wrap64 ((wrap64 (rd x0_1 1)) * 256))), .int .i64 (wrap64 (rd x0_1 2)), .int .i64 (wrap64 (rd x0_1 3)), .int .u32 x234003_2]) ?_ 3 _ rfl; (with_reducible repeat (first | refine kN ?_ _ | refine kD ?_ | refine kA ?_ _)); exact BK233.out⟩, ⟨jH HB⟩⟩
               ·rw [if_neg c21] at H
                exact absurd H (by simp)
              ·rw [if_neg c19] at H
               exact absurd H (by simp)
             ·rw [if_neg c18] at H
              exact absurd H (by simp)
            ·rw [if_neg c16] at H
             have c16b0 : decide (x40_2 < 4) = false := dF c16
             clear c16
             replace H := Option.bind_eq_some_iff.mp H
             obtain ⟨t235, A250, H⟩ := H
             try dsimp only at H
             have A25 := Aside0.mk A250
             clear A250
             by_cases c26 : t235 = true
             ·subst c26
              rw [if_pos rfl] at H
              by_cases c27 : x4_1.length < 4398046511104
              ·rw [if_pos c27] at H
               have LMc27 := Aside0.mk c27
               clear c27
               obtain ⟨y236, hy236⟩ : ∃ y_ : List (S59), y_ = (x4_1 ++ [(⟨(Go.bits .or .i64 (wrap64 (rd x0_1 0)) (wrap64 ((wrap64 (rd x0_1 1)) * 256))), (wrap64 (rd x0_1 2)), (wrap64 (rd x0_1 3)), x234003_2⟩ : S59)]) := ⟨_, rfl⟩
               simp only [Option.bind_some, ← hy236] at H
               have Ny236 := Aside0.mk hy236
               clear hy236
               by_cases c28 : 8 ≤ (x0_1.length : Int)
               ·rw [if_pos c28] at H
                have c28b0 := eq_true c28
                have c28b1 : decide (8 ≤ (x0_1.length : Int)) = true := dT c28
                clear c28
                obtain ⟨y239, hy239⟩ : ∃ y_ : List Int, y_ = (x0_1.drop 8) := ⟨_, rfl⟩
                simp only [Option.bind_some, ← hy239] at H
                have Ny239 := Aside0.mk hy239
                clear hy239
                have H' := Aside0.mk H
                clear H
                obtain ⟨hcz29_0, hcz29_1, hcz29_2, hcz29_3, hfz29_0, hfz29_1, hfz29_2, hfz29_3⟩ := kQ4 BK233.out
                go_wp2_with (first | ((with_reducible refine gate_callee (f := 59) rfl ?_); refine goesL_ (some 58) rfl rfl Tryd.func59 (by kernel_rfl) rfl #[.agg #[.int .i64 (Go.bits .or .i64 (wrap64 (rd x0_1 0)) (wrap64 ((wrap64 (rd x0_1 1)) * 256))), .int .i64 (wrap64 (rd x0_1 2)), .int .i64 (wrap64 (rd x0_1 3)), .int .u32 x234003_2]] rfl jZ ?_; (with_reducible refine (ins_Right.calls k2 (Go.bits .or .i64 (wrap64 (rd x0_1 0)) (wrap64 ((wrap64 (rd x0_1 1)) * 256))) (wrap64 (rd x0_1 2)) (wrap64 (rd x0_1 3)) x234003_2 true _ ?side1 A25.out).mono ?_); (case side1 => exact Glob.below HG.out (jH HB)); rintro e w30 ⟨rfl, hb⟩; refine ⟨_, rfl, ?_⟩; replace HO_0 := Aside0.mk (Kd.V_below (jV HO_0) hb); replace HO_4 := Aside0.mk (Kd.R_below (jR HO_4) hb); replace BK233 := Aside0.mk (jB BK233 hb); replace HB := Aside0.mk (zT (jH HB) hb); (try clear hb); (try clear hb2); (try clear hk); (try clear hi); obtain ⟨hcz31_0, hcz31_1, hcz31_2, hcz31_3, hfz31_0, hfz31_1, hfz31_2, hfz31_3⟩ := kQ4 BK233.out) | ((with_reducible refine gate_builtin (b := .append) (xs := #[.tmp 60, .tmp 62]) rfl ?_); at_builtin; refine Kd.R_append k59 (w0 := w) w.heap.size rfl (.tmp 60) (.tmp 62) 39 59 (.agg #[(.int .i64 0), (.int .i64 0), (.int .i64 0), (.int .u32 0)]) 32 rfl Tryd.underlying39 info59 rfl (by decide) (by omega) u4 x4_1 (⟨(Go.bits .or .i64 (wrap64 (rd x0_1 0)) (wrap64 ((wrap64 (rd x0_1 1)) * 256))), (wrap64 (rd x0_1 2)), (wrap64 (rd x0_1 3)), x234003_2⟩ : S59) [.int .i64 (Go.bits .or .i64 (wrap64 (rd x0_1 0)) (wrap64 ((wrap64 (rd x0_1 1)) * 256))), .int .i64 (wrap64 (rd x0_1 2)), .int .i64 (wrap64 (rd x0_1 3)), .int .u32 x234003_2] (fun k_ => (w.heap.size ≤ k_) ∧ k_ ≠ gb233) (fun _ => False) rfl rfl ?aP (fun _ hk => hk.elim) ?aF ?aO ?aB ?aS ?aL ?_; (case aP => exact k59_mkM _ _ _ (⟨(Go.bits .or .i64 (wrap64 (rd x0_1 0)) (wrap64 ((wrap64 (rd x0_1 1)) * 256))), (wrap64 (rd x0_1 2)), (wrap64 (rd x0_1 3)), x234003_2⟩ : S59)); (case aB => exact (jH HB)); (case aF => exact (fun k_ hk => ⟨(Nat.le_trans (zZ (jH HB)) hk), Kd.freshB (g := gb233) (o := .cells #[.int .i64 (Go.bits .or .i64 (wrap64 (rd x0_1 0)) (wrap64 ((wrap64 (rd x0_1 1)) * 256))), .int .i64 (wrap64 (rd x0_1 2)), .int .i64 (wrap64 (rd x0_1 3)), .int .u32 x234003_2] 59 (0, 0)) (jK BK233) k_ hk⟩)); (case aO => exact (jR HO_4)); (case aS => exact (zZ (jH HB))); (case aL => have := LMc27.out; omega); intro v237 w32 ho hb hg hat; rw [← Ny236.out] at ho; have n0_ := Aside0.mk (Kd.V_afterv (ok := (fun k_ => (P0_ k_ ∨ w.heap.size ≤ k_) ∧ k_ ≠ gb233)) (by (with_reducible repeat (first | apply Kd.V_alloc | apply Kd.V_drewN | apply Kd.V_drew)); exact Kd.V_mono HO_0.out (fun _ hk => ⟨⟨hk.1, hk.2.2⟩, hk.2.1⟩)) hg hat); have n1_ := Aside0.mk (kG (g := gb233) (o := .cells #[.int .i64 (Go.bits .or .i64 (wrap64 (rd x0_1 0)) (wrap64 ((wrap64 (rd x0_1 1)) * 256))), .int .i64 (wrap64 (rd x0_1 2)), .int .i64 (wrap64 (rd x0_1 3)), .int .u32 x234003_2] 59 (0, 0)) (jK BK233) hg (Kd.R_away HO_4.out (fun _ hk => hk.2))); have n2_ := Aside0.mk (hb); have n3_ := Aside0.mk (ho); clear HO_0; clear BK233; clear HB; clear HO_4; have HO_0 := n0_; have BK233 := n1_; have HB := n2_; have HO238 := n3_; clear n0_ n1_ n2_ n3_; clear ho hb hg hat; have q33 : (8 : Int) ≤ ((x0_1.length : Int) : Int) := oD (jA); obtain ⟨i033, hi033, _, hsz33, _⟩ := info_parts info5; have hroom33 : x0_1.length ≤ co9 := (Kd.V_reads' HO_0.out).2.1; have hC33 : Kd.F (Kd.int .u8) _ _ (some ad229) x0_1.length x0_1 := (Kd.V_at (base := w.heap.size) HO_0.out).2.2; have hcut33 := cut_from (P := Tryd.prog) 25 5 .i64 Tryd.underlying25 hi033 1 hsz33 (some ad229) x0_1.length co9 8 (by omega) q33; have hr33 := Kd.F_cut (m := (8 : Int).toNat) (c := co9) hC33 (by omega) hroom33; obtain ⟨A33, hA33⟩ : ∃ A1, A1 = (if co9 = (8 : Int).toNat then (some ad229) else ((some ad229) : Option Addr).map (·.add ((8 : Int).toNat * 1))) := ⟨_, rfl⟩; obtain ⟨c33, hc33⟩ : ∃ c1, c1 = co9 - (8 : Int).toNat := ⟨_, rfl⟩; have hy33 : y239.length = x0_1.length - (8 : Int).toNat := (by rw [Ny239.out, List.length_drop] <;> omega); rw [show (x0_1).drop (8 : Int).toNat = y239 from Ny239.out.symm] at hr33; replace hr33 : Kd.F (Kd.int .u8) _ _ A33 y239.length y239 := (by rw [hA33]; exact hr33); rw [← hy33, ← hA33, ← hc33] at hcut33; have HO243 := Aside0.mk (show Kd.V (Kd.int .u8) 5 _ w.heap.size _ (.slice A33 y239.length c33) y239 from Kd.V_mk (by rw [hy33, hc33]; exact Nat.sub_le_sub_right hroom33 _) hr33); have HC243 := Aside0.mk (show y239.length ≤ c33 from by rw [hy33, hc33]; exact Nat.sub_le_sub_right hroom33 _); clear hr33 hC33 hroom33 hi033 hsz33 hc33; have KY33 := Aside0.mk hy33; have KA33 := Aside0.mk hA33; clear hy33 hA33; replace q33 := eq_true q33))
                go_roundg k2
                case measure => have := HK1.out; have := HK2.out; omega
                case rel => exact ⟨(y239), (y236), H', ⟨by have := HK1.out; have := HK2.out; omega⟩, ⟨by (with_reducible repeat (first | apply Kd.V_alloc | apply Kd.V_drewN | apply Kd.V_drew)); exact Kd.V_mono HO243.out (fun _ hk => ⟨hk.1.1, hk.2⟩)⟩, ⟨by (with_reducible repeat (first | apply Kd.R_alloc | apply Kd.R_drewN | apply Kd.R_drew)); exact Kd.R_mono HO238.out (fun _ hk => hk.1)⟩, ⟨jH HB⟩⟩
               ·rw [if_neg c28] at H
                exact absurd H (by simp)
              ·rw [if_neg c27] at H
               exact absurd H (by simp)
             ·replace c26 := Bool.eq_false_iff.mpr c26
              subst c26
              rw [if_neg (show ¬ (false = true) by decide)] at H
              simp only [Option.some.injEq, Prod.mk.injEq] at H
              obtain ⟨rfl, rfl⟩ := H
              obtain ⟨hcz34_0, hcz34_1, hcz34_2, hcz34_3, hfz34_0, hfz34_1, hfz34_2, hfz34_3⟩ := kQ4 BK233.out
              go_wp2_with (first | ((with_reducible refine gate_callee (f := 59) rfl ?_); refine goesL_ (some 58) rfl rfl Tryd.func59 (by kernel_rfl) rfl #[.agg #[.int .i64 (Go.bits .or .i64 (wrap64 (rd x0_1 0)) (wrap64 ((wrap64 (rd x0_1 1)) * 256))), .int .i64 (wrap64 (rd x0_1 2)), .int .i64 (wrap64 (rd x0_1 3)), .int .u32 x234003_2]] rfl jZ ?_; (with_reducible refine (ins_Right.calls k2 (Go.bits .or .i64 (wrap64 (rd x0_1 0)) (wrap64 ((wrap64 (rd x0_1 1)) * 256))) (wrap64 (rd x0_1 2)) (wrap64 (rd x0_1 3)) x234003_2 false _ ?side1 A25.out).mono ?_); (case side1 => exact Glob.below HG.out (jH HB)); rintro e w35 ⟨rfl, hb⟩; refine ⟨_, rfl, ?_⟩; replace HO_0 := Aside0.mk (Kd.V_below (jV HO_0) hb); replace HO_4 := Aside0.mk (Kd.R_below (jR HO_4) hb); replace BK233 := Aside0.mk (jB BK233 hb); replace HB := Aside0.mk (zT (jH HB) hb); (try clear hb); (try clear hb2); (try clear hk); (try clear hi)))
              go_ret2
              exact ⟨_, jE, by first | exact Kd.R_nil _ _ _ _ _ | exact Kd.N_nil _ _ _ _ _ | exact Kd.V_nil _ _ _ _ _ | exact Kd.Q_nil _ _ _ _ _ | exact Kd.S_nil _ _ _ _ _, jH HB⟩
         ·rw [if_neg c8] at H
          exact absurd H (by simp)
        ·rw [if_neg c7] at H
         exact absurd H (by simp)
       ·rw [if_neg c6] at H
        exact absurd H (by simp)
      ·rw [if_neg c5] at H
       exact absurd H (by simp)
     ·rw [if_neg c4] at H
      have c4b0 : decide (0 < (x0_1.length : Int)) = false := dF c4
      have c4b1 : decide (0 < x0_1.length) = false := dF (by omega)
      clear c4
      simp only [Option.some.injEq, Prod.mk.injEq] at H
      obtain ⟨rfl, rfl⟩ := H
      obtain ⟨Ao36, co36, eo36⟩ := Kd.V_slice HO_0.out
      subst eo36
      go_wp2
      go_ret2
      exact ⟨_, jE, by (with_reducible repeat (first | apply Kd.R_alloc | apply Kd.R_drewN | apply Kd.R_drew)); exact HO_4.out, jH HB⟩
  ·rw [if_neg c3] at H
   have c3b0 : (((l0.length : Int) % 8) == 0) = false := bF.mpr c3
   have c3b1 : (((l0.length : Int) % 8) != 0) = true := nI.mpr c3
   simp only [Option.some.injEq, Prod.mk.injEq] at H
   obtain ⟨rfl, rfl⟩ := H
   go_enter Tryd.func46, Tryd.ntmps46
   go_wp2
   go_ret2
   exact ⟨_, jE, by first | exact Kd.R_nil _ _ _ _ _ | exact Kd.N_nil _ _ _ _ _ | exact Kd.V_nil _ _ _ _ _ | exact Kd.Q_nil _ _ _ _ _ | exact Kd.S_nil _ _ _ _ _, jH HB⟩
end Go.Proofs.YtahacmdhhfmhiaaDoor.M
