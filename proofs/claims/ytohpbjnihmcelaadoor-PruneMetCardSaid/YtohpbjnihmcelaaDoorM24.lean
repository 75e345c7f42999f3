/- What Go functions compute; their calls come to it. No condition. -/
import Derived.Test.YtohpbjnihmcelaaDoorM0
import Derived.Test.YtohpbjnihmcelaaDoorM22
import Derived.Test.YtohpbjnihmcelaaDoorM23
namespace Go.Proofs.YtohpbjnihmcelaaDoor.M
open Go.RowKit Go.Proofs.YtohpbjnihmcelaaDoorW.PrintWords Go.Proofs.YtohpbjnihmcelaaDoorW.PrintLast Go.Proofs.YtohpbjnihmcelaaDoorW.PrintMore
attribute [local go_sem] max2_int min2_int max_two min_two max_three min_three max_four min_four   -- for this text's walks alone
set_option linter.unusedVariables false
set_option linter.unusedSimpArgs false
def r04_Word.j0 : Nat → Int → Bool → Int → Int → Int → List Int → Option (Int × Bool)
 | 0, _, _, _, _, _, _ => none
 | k + 1, x1, x13, x234000, x234001, x234002, x234003 => if x13 = true then (some (0, false)) else ((r04_Bytes.f k x234000 x234001 x234002 x234003).bind fun t234 => (if 0 ≤ (wrap64 (x1)) then (if (wrap64 (x1)) ≤ (wrap64 ((wrap64 (x1)) + 4)) then (if (wrap64 ((wrap64 (x1)) + 4)) ≤ (t234.length : Int) then ((r04_number.f k ((t234.take ((wrap64 ((wrap64 (x1)) + 4)) : Int).toNat).drop ((wrap64 (x1)) : Int).toNat)).bind fun t241 => (some ((t241) % 4294967296, true))) else (none)) else (none)) else (none)))
def r04_Word.f (k : Nat) (a0_0 : Int) (a0_1 : Int) (a0_2 : Int) (a0_3 : List Int) (a1 : Int) : Option (Int × Bool) := if (Int.tmod a1 4) = 0 then (r04_Word.j0 k a1 (decide (a1 ≥ 64)) a0_0 a0_1 a0_2 a0_3) else (r04_Word.j0 k a1 true a0_0 a0_1 a0_2 a0_3)
theorem r04_Word.mono_l : ∀ k, (∀ y0 y1 y2 y3 y4 y5, LeO (r04_Word.j0 k y0 y1 y2 y3 y4 y5) (r04_Word.j0 (k + 1) y0 y1 y2 y3 y4 y5))
 | 0 => fun _ _ _ _ _ _ r h => by simp [r04_Word.j0] at h
 | k + 1 => by
  have ih0 := r04_Word.mono_l k
  ·intro y0 y1 y2 y3 y4 y5
   unfold r04_Word.j0
   repeat' first
   | (with_reducible apply ih0)
   | (with_reducible apply r04_Bytes.mono)
   | (with_reducible apply r04_number.mono)
   | (with_reducible exact LeO.refl _)
   | (with_reducible exact LeO.none _)
   | (with_reducible refine LeO.ite ?_ ?_)
   | (with_reducible refine LeO.bind ?_ (fun _ => ?_))
   | apply ih0
   | apply r04_Bytes.mono
   | apply r04_number.mono
   | exact LeO.none _
   | refine LeO.ite ?_ ?_
   | refine LeO.bind ?_ (fun _ => ?_)
theorem r04_Word.mono : ∀ a0 a1 a2 a3 a4 k, LeO (r04_Word.f k a0 a1 a2 a3 a4) (r04_Word.f (k + 1) a0 a1 a2 a3 a4) := by
 intro a0 a1 a2 a3 a4 k
 have ih0 := r04_Word.mono_l k
 unfold r04_Word.f
 repeat' first
   | (with_reducible apply ih0)
   | (with_reducible apply r04_Bytes.mono)
   | (with_reducible apply r04_number.mono)
   | (with_reducible exact LeO.refl _)
   | (with_reducible exact LeO.none _)
   | (with_reducible refine LeO.ite ?_ ?_)
   | (with_reducible refine LeO.bind ?_ (fun _ => ?_))
   | apply ih0
   | apply r04_Bytes.mono
   | apply r04_number.mono
   | exact LeO.none _
   | refine LeO.ite ?_ ?_
   | refine LeO.bind ?_ (fun _ => ?_)
set_option maxHeartbeats 8000000 in
set_option maxRecDepth 100000 in
theorem r04_Word.calls (k : Nat) (a0_0 : Int) (a0_1 : Int) (a0_2 : Int) (a0_3 : List Int) (a1 : Int) (r1 : Int) (r2 : Bool) (w : World) (h : r04_Word.f k a0_0 a0_1 a0_2 a0_3 a1 = some (r1, r2)) :
  Calls Tryd.prog 51 #[.agg (arC [.int .u32 a0_0, .int .u32 a0_1, .int .u64 a0_2] .u64 6 a0_3), .int .u32 a1] w fun e w' => e = .returned (.tuple #[.int .u32 r1, .bool r2]) ∧ Below w.heap.size w w' := by
 have hu38 := Tryd.underlying38
 have HB := Aside0.mk (Below.refl w.heap.size w)
 have H : (if (Int.tmod a1 4) = 0 then (r04_Word.j0 k a1 (decide (a1 ≥ 64)) a0_0 a0_1 a0_2 a0_3) else (r04_Word.j0 k a1 true a0_0 a0_1 a0_2 a0_3)) = some (r1, r2) := h
 clear h
 have HC3 := Aside0.mk H
 clear H
 go_enter Tryd.func51, Tryd.ntmps51
 go_upto_region 1 with (first | ((with_reducible refine gate_dst (N := 2) rfl ?_); refine box_event rfl (N := 2) rfl (cs := (arC [.int .u32 a0_0, .int .u32 a0_1, .int .u64 a0_2] .u64 6 a0_3)) (t := 38) jW ?_; intro gb233 hg w4 hbox hb; have n0_ := Aside0.mk (zT (jH HB) hb); have n1_ := Aside0.mk hbox; have n2_ := Aside0.mk (jG hg HB); have n3_ := Aside0.mk (jG hg HB); clear HB; have HB := n0_; have BK233 := n1_; have GW233 := n2_; have GE233 := n3_; clear n0_ n1_ n2_ n3_; clear hb hbox hg))
 (try simp only [Act.put, List.setIfInBounds_toArray, List.set_cons_zero, List.set_cons_succ])
 go_cut [13] (fun v13 wc => ∃ (kq : Nat) (x13_2 : Bool), v13 = .bool x13_2 ∧ Aside0 (r04_Word.j0 kq a1 x13_2 a0_0 a0_1 a0_2 a0_3 = some (r1, r2)) ∧ Aside0 (kq ≤ k) ∧ Aside0 (wc.heap[gb233]? = some (.cells (arC [.int .u32 a0_0, .int .u32 a0_1, .int .u64 a0_2] .u64 6 a0_3) 38 (0, 0))) ∧ Aside0 (Below w.heap.size w wc))
 case first =>
  have H := HC3.out
  clear HC3
  by_cases c5 : (Int.tmod a1 4) = 0
  ·rw [if_pos c5] at H
   have c5b0 : ((Int.tmod a1 4) == 0) = true := bI.mpr c5
   have c5b1 : ((Int.tmod a1 4) != 0) = false := nF.mpr c5
   clear c5
   (first | rw [c5b0] | (simp only [i64_w, i32_w]; rw [c5b0]) | skip)
   have H' := Aside0.mk H
   clear H
   go_wp2
   go_meet
   case rel => exact ⟨_, (decide (a1 ≥ 64)), jS, H', ⟨jO⟩, ⟨jK BK233⟩, ⟨jH HB⟩⟩
  ·rw [if_neg c5] at H
   have c5b0 : ((Int.tmod a1 4) == 0) = false := bF.mpr c5
   have c5b1 : ((Int.tmod a1 4) != 0) = true := nI.mpr c5
   (first | rw [c5b0] | (simp only [i64_w, i32_w]; rw [c5b0]) | skip)
   have H' := Aside0.mk H
   clear H
   go_wp2
   go_meet
   case rel => exact ⟨_, (true), jS, H', ⟨jO⟩, ⟨jK BK233⟩, ⟨jH HB⟩⟩
 case rest =>
  clear HC3
  obtain ⟨kq, x13_2, rfl, HA, HJ2, BK233, HB⟩ := hcut
  cases kq with
  | zero => exact absurd HA.out (by simp [r04_Word.j0])
  | succ kj2 =>
   have H := HA.out
   clear HA
   simp only [r04_Word.j0] at H
   by_cases c6 : x13_2 = true
   ·subst c6
    rw [if_pos rfl] at H
    simp only [Option.some.injEq, Prod.mk.injEq] at H
    obtain ⟨rfl, rfl⟩ := H
    go_wp2
    go_ret2
    exact ⟨jE, jH HB⟩
   ·replace c6 := Bool.eq_false_iff.mpr c6
    subst c6
    rw [if_neg (show ¬ (false = true) by decide)] at H
    replace H := Option.bind_eq_some_iff.mp H
    obtain ⟨t234, A70, H⟩ := H
    try dsimp only at H
    have A7 := Aside0.mk A70
    clear A70
    obtain ⟨ji8, hji8⟩ : ∃ j_ : Int, (wrap64 (a1)) = j_ := ⟨_, rfl⟩
    replace H : (if 0 ≤ (ji8) then (if (ji8) ≤ (wrap64 ((ji8) + 4)) then (if (wrap64 ((ji8) + 4)) ≤ (t234.length : Int) then ((r04_number.f kj2 ((t234.take ((wrap64 ((ji8) + 4)) : Int).toNat).drop ((ji8) : Int).toNat)).bind fun t241 => (some ((t241) % 4294967296, true))) else (none)) else (none)) else (none)) = some (r1, r2) := by first | (rw [hji8] at H; exact H) | (simp only [hji8] at H ⊢; exact H)
    (try rw [hji8] at A7)
    have hji8w : (IntKind.i64.wrap (a1)) = ji8 := (i64_w _).trans hji8
    by_cases c9 : 0 ≤ (ji8)
    ·rw [if_pos c9] at H
     have c9b0 := eq_true c9
     have c9b1 : decide (0 ≤ (ji8)) = true := dT c9
     clear c9
     by_cases c10 : (ji8) ≤ (wrap64 ((ji8) + 4))
     ·rw [if_pos c10] at H
      have c10b0 := eq_true c10
      have c10b1 : decide ((ji8) ≤ (wrap64 ((ji8) + 4))) = true := dT c10
      by_cases c11 : (wrap64 ((ji8) + 4)) ≤ (t234.length : Int)
      ·rw [if_pos c11] at H
       have c11b0 := eq_true c11
       have c11b1 : decide ((wrap64 ((ji8) + 4)) ≤ (t234.length : Int)) = true := dT c11
       obtain ⟨y237, hy237⟩ : ∃ y_ : List Int, y_ = ((t234.take ((wrap64 ((ji8) + 4)) : Int).toNat).drop ((ji8) : Int).toNat) := ⟨_, rfl⟩
       simp only [Option.bind_some, ← hy237] at H
       have Ny237 := Aside0.mk hy237
       clear hy237
       replace H := Option.bind_eq_some_iff.mp H
       obtain ⟨t241, A120, H⟩ := H
       try dsimp only at H
       have A12 := Aside0.mk A120
       clear A120
       simp only [Option.some.injEq, Prod.mk.injEq] at H
       obtain ⟨rfl, rfl⟩ := H
       go_wp2_with (first | ((with_reducible refine gate_dst (N := 16) rfl ?_); refine wpList_load_row rfl 38 (.tmp 2) rfl gb233 rfl 38 (arC [.int .u32 a0_0, .int .u32 a0_1, .int .u64 a0_2] .u64 6 a0_3) (0, 0) _ (jK BK233) Tryd.underlying38 rfl (by kernel_rfl) ?_) | ((with_reducible refine gate_callee (f := 57) rfl ?_); refine goesL_ (some 17) rfl rfl Tryd.func57 (by kernel_rfl) rfl #[.agg (arC [.int .u32 a0_0, .int .u32 a0_1, .int .u64 a0_2] .u64 6 a0_3)] rfl jZ ?_; (with_reducible refine (r04_Bytes.calls kj2 a0_0 a0_1 a0_2 a0_3 t234 _ A7.out).mono ?_); rintro e w13 ⟨v235, rfl, ho0, hb⟩; refine ⟨_, rfl, ?_⟩; have n0_ := Aside0.mk (Kd.R_lower ho0 (zZ (jH HB))); have n1_ := Aside0.mk (jB BK233 hb); have n2_ := Aside0.mk (zT (jH HB) hb); clear BK233; clear HB; have HO236 := n0_; have BK233 := n1_; have HB := n2_; clear n0_ n1_ n2_; (try clear hb); (try clear hb2); (try clear hk); (try clear hi); (try clear ho0); obtain ⟨Ao15, co15, eo15⟩ := Kd.R_slice HO236.out; subst eo15; have q14 : ((wrap64 ((ji8) + 4)) : Int) ≤ ((t234.length : Int) : Int) := oD (jA); obtain ⟨i014, hi014, _, hsz14, _⟩ := info_parts info5; have hroom14 : t234.length ≤ co15 := (Kd.R_reads' HO236.out).2.1; have hC14 : Kd.C (Kd.int .u8) _ Ao15 t234.length t234 := (Kd.R_reads' HO236.out).2.2; have ql14 : ((ji8) : Int) ≤ ((wrap64 ((ji8) + 4)) : Int) := oD (jA); have q014 : (0 : Int) ≤ ((ji8) : Int) := oD (jA); have hcut14 := cut_mid (P := Tryd.prog) 96 5 .i64 .i64 Tryd.underlying96 hi014 1 hsz14 Ao15 t234.length co15 (ji8) (wrap64 ((ji8) + 4)) q014 ql14 q14 hroom14; have hr14 := Kd.C_mid (lo := ((ji8) : Int).toNat) (hi := ((wrap64 ((ji8) + 4)) : Int).toNat) (c := co15) hC14 (by omega) (by omega) hroom14; obtain ⟨A14, hA14⟩ : ∃ A1, A1 = (if co15 = ((ji8) : Int).toNat then Ao15 else (Ao15 : Option Addr).map (·.add (((ji8) : Int).toNat * 1))) := ⟨_, rfl⟩; obtain ⟨c14, hc14⟩ : ∃ c1, c1 = co15 - ((ji8) : Int).toNat := ⟨_, rfl⟩; have hy14 : y237.length = ((wrap64 ((ji8) + 4)) : Int).toNat - ((ji8) : Int).toNat := (by rw [Ny237.out, List.length_drop, List.length_take] <;> omega); rw [show ((t234).take ((wrap64 ((ji8) + 4)) : Int).toNat).drop ((ji8) : Int).toNat = y237 from Ny237.out.symm] at hr14; replace hr14 : Kd.C (Kd.int .u8) _ A14 y237.length y237 := (by rw [hA14]; exact hr14); rw [← hy14, ← hA14, ← hc14] at hcut14; have HR240 := Aside0.mk hr14; have HC240 := Aside0.mk (show y237.length ≤ c14 from by rw [hy14, hc14]; exact Nat.sub_le_sub_right (Nat.le_trans (by omega) hroom14) _); clear hr14 hC14 hroom14 hi014 hsz14 hc14; have KY14 := Aside0.mk hy14; have KA14 := Aside0.mk hA14; clear hy14 hA14; have KL14 := Aside0.mk (show ((wrap64 ((ji8) + 4)) : Int).toNat ≤ t234.length from by omega); have KM14 := Aside0.mk (show ((ji8) : Int).toNat ≤ ((wrap64 ((ji8) + 4)) : Int).toNat from by omega); replace q14 := eq_true q14) | ((with_reducible refine gate_callee (f := 56) rfl ?_); refine goesL_ (some 22) rfl rfl Tryd.func56 (by kernel_rfl) rfl #[.slice A14 y237.length c14] rfl jZ ?_; (with_reducible refine (r04_number.calls kj2 _ _ y237 t241 _ ?side1 ?side2 A12.out).mono ?_); (case side1 => repeat (first | exact (by repeat (first | (with_reducible exact HR240.out) | (with_reducible refine Kd.C_alloc ?_ _) | (with_reducible refine Kd.C_drewN ?_ _) | (with_reducible refine Kd.C_drew ?_) | exact HR240.out)) | (with_reducible refine Kd.C_alloc ?_ _) | (with_reducible refine Kd.C_drewN ?_ _) | (with_reducible refine Kd.C_drew ?_))); (case side2 => exact HC240.out); rintro e w' ⟨rfl, ⟨nd, rfl⟩⟩; refine ⟨_, rfl, ?_⟩))
       go_ret2
       exact ⟨by first | rfl | (simp [errW_none, errW_some] <;> rfl) | (simp only [← hji8]; first | rfl | (simp [errW_none, errW_some] <;> rfl)) | (simp [*, errW_none, errW_some] <;> rfl), jH HB⟩
      ·rw [if_neg c11] at H
       exact absurd H (by simp)
     ·rw [if_neg c10] at H
      exact absurd H (by simp)
    ·rw [if_neg c9] at H
     exact absurd H (by simp)
def r01_Neg.f (a0 : Int) : Option (Int) := some ((Int.tmod (IntKind.u64.wrap (4294967296 - (IntKind.u64.wrap (a0)))) 4294967296) % 4294967296)
set_option maxHeartbeats 8000000 in
set_option maxRecDepth 100000 in
theorem r01_Neg.calls (a0 : Int) (r : Int) (w : World) (h : r01_Neg.f a0 = some r) :
  Calls Tryd.prog 52 #[.int .u32 a0] w fun e w' => e = .returned (.int .u32 r) ∧ Drawn0 w w' := by
 have H : (some ((Int.tmod (IntKind.u64.wrap (4294967296 - (IntKind.u64.wrap (a0)))) 4294967296) % 4294967296)) = some r := h
 clear h
 obtain rfl := Option.some.inj H
 go_enter Tryd.func52, Tryd.ntmps52
 go_wp2
 go_ret
 exact ⟨by first | rfl | (simp; done) | (simp [*]; done), by repeat (first | exact Drawn0.refl _ | apply Drawn0.step)⟩
end Go.Proofs.YtohpbjnihmcelaaDoor.M
