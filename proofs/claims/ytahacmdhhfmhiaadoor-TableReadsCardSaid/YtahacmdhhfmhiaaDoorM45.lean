/- What Go functions compute; their calls come to it. No condition. -/
import Derived.Test.YtahacmdhhfmhiaaDoorM0
import Derived.Test.YtahacmdhhfmhiaaDoorMD
import Derived.Test.YtahacmdhhfmhiaaDoorME
import Derived.Test.YtahacmdhhfmhiaaDoorMH
import Derived.Test.YtahacmdhhfmhiaaDoorMI
import Derived.Test.YtahacmdhhfmhiaaDoorMJ
namespace Go.Proofs.YtahacmdhhfmhiaaDoor.M
open Go.RowKit Go.Proofs.YtahacmdhhfmhiaaDoorW.PrintWords Go.Proofs.YtahacmdhhfmhiaaDoorW.PrintLast Go.Proofs.YtahacmdhhfmhiaaDoorW.PrintMore
attribute [local go_sem] max2_int min2_int max_two min_two max_three min_three max_four min_four   -- for this text's walks alone
set_option linter.unusedVariables false
set_option linter.unusedSimpArgs false
def l21_TableReads.f (k : Nat) (l0 : List Int) : Option (Bool) := if (l0.length : Int) > 5000 then ((l21_knows.f k).bind fun t650 => (some t650)) else ((some (([] : List Int) : List Int)).bind fun y651 => (if y651.length + l0.length < 140737488355328 then ((table_Decode.f k (y651 ++ l0)).bind fun bt657 => ((r21_Decode.f k l0).bind fun bt661 => ((l21_As.f k bt657.1).bind fun t665 => ((r21_Same.f k t665 bt661.1).bind fun t668 => (if t668 = true then (if bt657.2 = bt661.2 then ((l21_knows.f k).bind fun t669 => (some t669)) else (none)) else (none)))))) else (none)))
set_option maxHeartbeats 8000000 in
set_option maxRecDepth 100000 in
theorem l21_TableReads.calls (k : Nat) (A0 : Option Addr) (c0 : Nat) (l0 : List Int) (r : Bool) (w : World) (hr0 : Kd.C (Kd.int .u8) w A0 l0.length l0) (hc0 : l0.length ≤ c0) (hG : Glob w) (h : l21_TableReads.f k l0 = some r) :
  Calls Tryd.prog 4 #[.slice A0 l0.length c0] w fun e w' => e = .returned (.bool r) ∧ Below w.heap.size w w' := by
 have HG := Aside0.mk hG
 clear hG
 have HR0 := Aside0.mk hr0
 have HC0 := Aside0.mk hc0
 clear hr0 hc0
 have HB := Aside0.mk (Below.refl w.heap.size w)
 have H : (if (l0.length : Int) > 5000 then ((l21_knows.f k).bind fun t650 => (some t650)) else ((some (([] : List Int) : List Int)).bind fun y651 => (if y651.length + l0.length < 140737488355328 then ((table_Decode.f k (y651 ++ l0)).bind fun bt657 => ((r21_Decode.f k l0).bind fun bt661 => ((l21_As.f k bt657.1).bind fun t665 => ((r21_Same.f k t665 bt661.1).bind fun t668 => (if t668 = true then (if bt657.2 = bt661.2 then ((l21_knows.f k).bind fun t669 => (some t669)) else (none)) else (none)))))) else (none)))) = some r := h
 clear h
 by_cases c2 : (l0.length : Int) > 5000
 ·rw [if_pos c2] at H
  have c2b0 : decide (5000 < (l0.length : Int)) = true := dT c2
  have c2b1 : decide (5000 < l0.length) = true := dT (by omega)
  clear c2
  replace H := Option.bind_eq_some_iff.mp H
  obtain ⟨t650, A30, H⟩ := H
  try dsimp only at H
  have A3 := Aside0.mk A30
  clear A30
  obtain rfl := Option.some.inj H
  go_enter Tryd.func4, Tryd.ntmps4
  go_wp2_with (first | ((with_reducible refine gate_callee (f := 11) rfl ?_); refine goesL_ (some 10) rfl rfl Tryd.func11 (by kernel_rfl) rfl #[] rfl jZ ?_; (with_reducible refine (l21_knows.calls k  t650 _ ?side1 A3.out).mono ?_); (case side1 => exact Glob.below HG.out (jH HB)); rintro e w4 ⟨rfl, hb⟩; refine ⟨_, rfl, ?_⟩; replace HB := Aside0.mk (zT (jH HB) hb); (try clear hb); (try clear hb2); (try clear hk); (try clear hi)))
  go_ret
  exact ⟨jE, jH HB⟩
 ·rw [if_neg c2] at H
  have c2b0 : decide (5000 < (l0.length : Int)) = false := dF c2
  have c2b1 : decide (5000 < l0.length) = false := dF (by omega)
  clear c2
  obtain ⟨y651, hy651⟩ : ∃ y_ : List Int, y_ = (([] : List Int)) := ⟨_, rfl⟩
  simp only [Option.bind_some, ← hy651] at H
  have Ny651 := Aside0.mk hy651
  clear hy651
  by_cases c5 : y651.length + l0.length < 140737488355328
  ·rw [if_pos c5] at H
   have LMc5 := Aside0.mk c5
   clear c5
   obtain ⟨y654, hy654⟩ : ∃ y_ : List Int, y_ = (y651 ++ l0) := ⟨_, rfl⟩
   simp only [Option.bind_some, ← hy654] at H
   have Ny654 := Aside0.mk hy654
   clear hy654
   replace H := Option.bind_eq_some_iff.mp H
   obtain ⟨⟨t657, t658⟩, A60, H⟩ := H
   try dsimp only at H
   have A6 := Aside0.mk A60
   clear A60
   replace H := Option.bind_eq_some_iff.mp H
   obtain ⟨⟨t661, t662⟩, A70, H⟩ := H
   try dsimp only at H
   have A7 := Aside0.mk A70
   clear A70
   replace H := Option.bind_eq_some_iff.mp H
   obtain ⟨t665, A80, H⟩ := H
   try dsimp only at H
   have A8 := Aside0.mk A80
   clear A80
   replace H := Option.bind_eq_some_iff.mp H
   obtain ⟨t668, A90, H⟩ := H
   try dsimp only at H
   have A9 := Aside0.mk A90
   clear A90
   by_cases c10 : t668 = true
   ·subst c10
    rw [if_pos rfl] at H
    by_cases c11 : t658 = t662
    ·rw [if_pos c11] at H
     have c11b0 : (t658 == t662) = true := bI.mpr c11
     have c11b1 : (t658 != t662) = false := nF.mpr c11
     clear c11
     replace H := Option.bind_eq_some_iff.mp H
     obtain ⟨t669, A120, H⟩ := H
     try dsimp only at H
     have A12 := Aside0.mk A120
     clear A120
     obtain rfl := Option.some.inj H
     go_enter Tryd.func4, Tryd.ntmps4
     go_wp2_with (first | ((with_reducible refine gate_dst (N := 12) rfl ?_); refine Kd.R_lit (Kd.int .u8) _ 5 ?hg (N := 12) ?hd (xs := ([] : List Int)) (inner := []) (ok := fun _ => True) (okp := fun _ => True) ?hr ?hp (fun _ hk => hk) trivial (Below.refl _ _) (Nat.le_refl _) (by simp) ?_; (case hd => rfl); (case hg => rfl); (case hr => first | (go_simp; done) | (go_simp; rfl)); (case hp => exact (Reps.none _ _)); intro v652 w13 ho14 hb hg_ hnew_; clear hg_ hnew_; (first | rw [← Ny651.out] at ho14 | (simp only [Int.reduceToNat] at ho14; rw [← Ny651.out] at ho14)); have HO653 := Aside0.mk (Kd.R_lower ho14 (zZ (jH HB))); replace HB := Aside0.mk (zT (jH HB) hb); clear hb ho14) | ((with_reducible refine gate_builtin (b := .append) (xs := #[.tmp 12, .tmp 13]) rfl ?_); at_builtin; refine Kd.R_append_rows (Kd.int .u8) (w0 := w) w.heap.size rfl (.tmp 12) (.tmp 13) 25 5 (.int .u8 0) 1 rfl Tryd.underlying25 info5 rfl (by decide) (by omega) v652 y651 l0 _ _ _ (fun _ => True) (fun _ => False) rfl rfl ?aO ?aR (fun _ _ h => h) (fun _ h => h.elim) ?aF ?aB ?aS ?aL ?_; (case aR => repeat (first | exact (Kd.C_below HR0.out HB.out) | (with_reducible refine Kd.C_alloc ?_ _) | (with_reducible refine Kd.C_drewN ?_ _) | (with_reducible refine Kd.C_drew ?_))); (case aB => exact (jH HB)); (case aF => exact (fun _ _ => trivial)); (case aO => exact (jR HO653)); (case aS => exact (zZ (jH HB))); (case aL => have := LMc5.out; omega); intro v655 w15 ho hb hg hat; rw [← Ny654.out] at ho; have HO656 := Aside0.mk (ho); replace HB := Aside0.mk (hb); clear HO653; clear ho hb hg hat; obtain ⟨Ao16, co16, eo16⟩ := Kd.R_slice HO656.out; subst eo16) | ((with_reducible refine gate_callee (f := 17) rfl ?_); refine goesL_ (some 15) rfl rfl Tryd.func17 (by kernel_rfl) rfl #[.slice Ao16 y654.length co16] rfl jZ ?_; (with_reducible refine (table_Decode.calls k _ _ y654 t657 t658 _ ?side1 ?side2 ?side3 A6.out).mono ?_); (case side1 => exact jC (Kd.R_reads' HO656.out).2.2); (case side2 => exact (Kd.R_reads' HO656.out).2.1); (case side3 => exact Glob.below HG.out (jH HB)); rintro e w17 ⟨v659, rfl, ho0, hb⟩; refine ⟨_, rfl, ?_⟩; have HO660 := Aside0.mk (Kd.N_lower (Kd.N_mono (ok' := fun k_ => some k_ ≠ (.slice Ao16 y654.length co16 : Value).ownBlock) (Kd.S_N (Kd.S_bound ho0)) (fun k_ hk_ => (Kd.fresh' (Kd.R_lt (jR HO656)) k_ hk_.2.1))) (zZ (jH HB))); replace HO656 := Aside0.mk (Kd.R_below (jR HO656) hb); replace HB := Aside0.mk (zT (jH HB) hb); (try clear hb); (try clear hb2); (try clear hk); (try clear hi); (try clear ho0)) | ((with_reducible refine gate_callee (f := 18) rfl ?_); refine goesL_ (some 20) rfl rfl Tryd.func18 (by kernel_rfl) rfl #[.slice A0 l0.length c0] rfl jZ ?_; (with_reducible refine (r21_Decode.calls k _ _ l0 t661 t662 _ ?side1 ?side2 A7.out).mono ?_); (case side1 => exact jC (Kd.C_below HR0.out HB.out)); (case side2 => exact HC0.out); rintro e w18 ⟨v663, rfl, ho0, hb⟩; refine ⟨_, rfl, ?_⟩; have HO664 := Aside0.mk (Kd.N_lower (Kd.N_mono (ok' := fun k_ => some k_ ≠ (.slice Ao16 y654.length co16 : Value).ownBlock ∧ some k_ ≠ (v659 : Value).ownBlock) (Kd.S_N (Kd.S_bound ho0)) (fun k_ hk_ => ⟨(Kd.fresh' (Kd.R_lt (jR HO656)) k_ hk_.2.1), (Kd.fresh' (Kd.N_lt (by (with_reducible repeat (first | apply Kd.N_alloc | apply Kd.N_drewN | apply Kd.N_drew)); exact HO660.out)) k_ hk_.2.1)⟩)) (zZ (jH HB))); replace HO656 := Aside0.mk (Kd.R_below (jR HO656) hb); replace HO660 := Aside0.mk (Kd.N_elder' (by (with_reducible repeat (first | apply Kd.N_alloc | apply Kd.N_drewN | apply Kd.N_drew)); exact HO660.out) (Kd.S_base ho0) hb); replace HB := Aside0.mk (zT (jH HB) hb); (try clear hb); (try clear hb2); (try clear hk); (try clear hi); (try clear ho0); obtain ⟨Ao19, co19, eo19⟩ := Kd.N_slice HO660.out; subst eo19) | ((with_reducible refine gate_callee (f := 14) rfl ?_); refine goesL_ (some 24) rfl rfl Tryd.func14 (by kernel_rfl) rfl #[.slice Ao19 t657.length co19] rfl jZ ?_; (with_reducible refine (l21_As.calls k (fun k_ => (some k_ ≠ (.slice Ao16 y654.length co16 : Value).ownBlock ∧ some k_ ≠ (v663 : Value).ownBlock)) _ _ t657 t665 _ ?side1 A8.out).mono ?_); (case side1 => exact Kd.N_V (HO660.out)); rintro e w20 ⟨v666, rfl, ho0, hb⟩; refine ⟨_, rfl, ?_⟩; have HO667 := Aside0.mk (Kd.N_lower (Kd.N_mono (ok' := fun k_ => some k_ ≠ (.slice Ao16 y654.length co16 : Value).ownBlock ∧ some k_ ≠ (v663 : Value).ownBlock) ho0 (fun k_ hk_ => ⟨Or.elim hk_ (fun hs_ => hs_.1) (fun hn_ => (Kd.fresh' (Kd.R_lt (jR HO656)) k_ hn_)), Or.elim hk_ (fun hs_ => hs_.2) (fun hn_ => (Kd.fresh' (Kd.N_lt (by (with_reducible repeat (first | apply Kd.N_alloc | apply Kd.N_drewN | apply Kd.N_drew)); exact HO664.out)) k_ hn_))⟩)) (zZ (jH HB))); replace HO656 := Aside0.mk (Kd.R_below (jR HO656) hb); replace HO660 := Aside0.mk (Kd.N_elder' (by (with_reducible repeat (first | apply Kd.N_alloc | apply Kd.N_drewN | apply Kd.N_drew)); exact HO660.out) (Kd.N_base ho0) hb); replace HO664 := Aside0.mk (Kd.N_elder' (by (with_reducible repeat (first | apply Kd.N_alloc | apply Kd.N_drewN | apply Kd.N_drew)); exact HO664.out) (Kd.N_base ho0) hb); replace HB := Aside0.mk (zT (jH HB) hb); (try clear hb); (try clear hb2); (try clear hk); (try clear hi); (try clear ho0); obtain ⟨Ao21, co21, eo21⟩ := Kd.N_slice HO667.out; subst eo21; obtain ⟨Ao22, co22, eo22⟩ := Kd.N_slice HO664.out; subst eo22) | ((with_reducible refine gate_callee (f := 19) rfl ?_); refine goesL_ (some 26) rfl rfl Tryd.func19 (by kernel_rfl) rfl #[.slice Ao21 t665.length co21, .slice Ao22 t661.length co22] rfl jZ ?_; (with_reducible refine (r21_Same.calls k _ _ t665 _ _ t661 true _ ?side1 ?side2 ?side3 ?side4 A9.out).mono ?_); (case side1 => exact jC (Kd.N_reads' HO667.out).2.2); (case side2 => exact (Kd.N_reads' HO667.out).2.1); (case side3 => exact jC (Kd.N_reads' HO664.out).2.2); (case side4 => exact (Kd.N_reads' HO664.out).2.1); rintro e w23 ⟨rfl, hb⟩; refine ⟨_, rfl, ?_⟩; replace HO656 := Aside0.mk (Kd.R_below (jR HO656) hb); replace HO660 := Aside0.mk (Kd.N_below (by (with_reducible repeat (first | apply Kd.N_alloc | apply Kd.N_drewN | apply Kd.N_drew)); exact HO660.out) hb); replace HO664 := Aside0.mk (Kd.N_below (by (with_reducible repeat (first | apply Kd.N_alloc | apply Kd.N_drewN | apply Kd.N_drew)); exact HO664.out) hb); replace HO667 := Aside0.mk (Kd.N_below (by (with_reducible repeat (first | apply Kd.N_alloc | apply Kd.N_drewN | apply Kd.N_drew)); exact HO667.out) hb); replace HB := Aside0.mk (zT (jH HB) hb); (try clear hb); (try clear hb2); (try clear hk); (try clear hi)) | (go_at_call 11; (with_reducible refine (l21_knows.calls k  t669 _ ?side1 A12.out).mono ?_); (case side1 => exact Glob.below HG.out (jH HB)); rintro e w24 ⟨rfl, hb⟩; replace HO656 := Aside0.mk (Kd.R_below (jR HO656) hb); replace HO660 := Aside0.mk (Kd.N_below (by (with_reducible repeat (first | apply Kd.N_alloc | apply Kd.N_drewN | apply Kd.N_drew)); exact HO660.out) hb); replace HO664 := Aside0.mk (Kd.N_below (by (with_reducible repeat (first | apply Kd.N_alloc | apply Kd.N_drewN | apply Kd.N_drew)); exact HO664.out) hb); replace HO667 := Aside0.mk (Kd.N_below (by (with_reducible repeat (first | apply Kd.N_alloc | apply Kd.N_drewN | apply Kd.N_drew)); exact HO667.out) hb); replace HB := Aside0.mk (zT (jH HB) hb); (try clear hb); (try clear hb2); (try clear hk); (try clear hi)))
     go_ret
     exact ⟨jE, jH HB⟩
    ·rw [if_neg c11] at H
     exact absurd H (by simp)
   ·replace c10 := Bool.eq_false_iff.mpr c10
    subst c10
    rw [if_neg (show ¬ (false = true) by decide)] at H
    exact absurd H (by simp)
  ·rw [if_neg c5] at H
   exact absurd H (by simp)
def l21_TableReads.Pure : Prop := ∀ (l0 : List Int), l0.length ≤ maxLen → l0.length * 1 ≤ 140737488351232 → (∀ x ∈ l0, (Lit.int .u8 x).wf = true) → ∃ k, l21_TableReads.f k l0 = some true
end Go.Proofs.YtahacmdhhfmhiaaDoor.M
