/- What Go functions compute; their calls come to it. No condition. -/
import Derived.Test.YtahacmdhhfmhiaaDoorM0
import Derived.Test.YtahacmdhhfmhiaaDoorMA
import Derived.Test.YtahacmdhhfmhiaaDoorM12
import Derived.Test.YtahacmdhhfmhiaaDoorM14
import Derived.Test.YtahacmdhhfmhiaaDoorM18
import Derived.Test.YtahacmdhhfmhiaaDoorM24
import Derived.Test.YtahacmdhhfmhiaaDoorM34
import Derived.Test.YtahacmdhhfmhiaaDoorM44
namespace Go.Proofs.YtahacmdhhfmhiaaDoor.M
open Go.RowKit Go.Proofs.YtahacmdhhfmhiaaDoorW.PrintWords Go.Proofs.YtahacmdhhfmhiaaDoorW.PrintLast Go.Proofs.YtahacmdhhfmhiaaDoorW.PrintMore
attribute [local go_sem] max2_int min2_int max_two min_two max_three min_three max_four min_four   -- for this text's walks alone
set_option linter.unusedVariables false
set_option linter.unusedSimpArgs false
mutual
def l21_TableBack.j0 : Nat → List (S42) → List Int → Bool → Option (Bool)
 | 0, _, _, _ => none
 | k + 1, x0, x1, x19 => if x19 = true then ((l21_knows.f k).bind fun t671 => (some t671)) else ((table_Encode.f k x0).bind fun bt672 => (if bt672.2 = 0 then ((table_Decode.f k bt672.1).bind fun bt676 => ((l21_As.f k bt676.1).bind fun t680 => ((l21_As.f k x0).bind fun t683 => ((r21_Same.f k t680 t683).bind fun t686 => (if t686 = true then (if bt676.2 = 0 then (l21_TableBack.j1 k x1) else (none)) else (none)))))) else (l21_TableBack.j1 k x1)))
def l21_TableBack.j1 : Nat → List Int → Option (Bool)
 | 0, _ => none
 | k + 1, x1 => (some (([] : List Int) : List Int)).bind fun y687 => (if y687.length + x1.length < 140737488355328 then ((table_Decode.f k (y687 ++ x1)).bind fun bt693 => (if bt693.2 = 0 then ((table_Encode.f k bt693.1).bind fun bt697 => (if (strOfNums bt697.1).toList = (strOfNums x1).toList then (if bt697.2 = 0 then ((table_Right.f k bt693.1).bind fun t701 => (if t701 = true then ((l21_knows.f k).bind fun t702 => (some t702)) else (none))) else (none)) else (none))) else (if (bt693.1.length : Int) = 0 then ((l21_knows.f k).bind fun t703 => (some t703)) else (none)))) else (none))
end
def l21_TableBack.f (k : Nat) (l0 : List (S42)) (l1 : List Int) : Option (Bool) := (l21_Great.f k l0).bind fun t670 => (if t670 = true then (l21_TableBack.j0 k l0 l1 true) else (l21_TableBack.j0 k l0 l1 (decide ((l1.length : Int) > 5000))))
theorem l21_TableBack.mono_l : ∀ k, (∀ y0 y1 y2, LeO (l21_TableBack.j0 k y0 y1 y2) (l21_TableBack.j0 (k + 1) y0 y1 y2)) ∧ (∀ y0, LeO (l21_TableBack.j1 k y0) (l21_TableBack.j1 (k + 1) y0))
 | 0 => ⟨fun _ _ _ r h => by simp [l21_TableBack.j0] at h, fun _ r h => by simp [l21_TableBack.j1] at h⟩
 | k + 1 => by
  obtain ⟨ih0, ih1⟩ := l21_TableBack.mono_l k
  refine ⟨?_, ?_⟩
  all_goals intros
  all_goals first | unfold l21_TableBack.j0 | unfold l21_TableBack.j1
  all_goals repeat' first
   | (with_reducible apply ih0)
   | (with_reducible apply ih1)
   | (with_reducible apply l21_As.mono)
   | (with_reducible apply l21_Great.mono)
   | (with_reducible apply l21_knows.mono)
   | (with_reducible apply r21_Same.mono)
   | (with_reducible apply table_Decode.mono)
   | (with_reducible apply table_Encode.mono)
   | (with_reducible apply table_Right.mono)
   | (with_reducible exact LeO.refl _)
   | (with_reducible exact LeO.none _)
   | (with_reducible refine LeO.ite ?_ ?_)
   | (with_reducible refine LeO.bind ?_ (fun _ => ?_))
   | apply ih0
   | apply ih1
   | apply l21_As.mono
   | apply l21_Great.mono
   | apply l21_knows.mono
   | apply r21_Same.mono
   | apply table_Decode.mono
   | apply table_Encode.mono
   | apply table_Right.mono
   | exact LeO.none _
   | refine LeO.ite ?_ ?_
   | refine LeO.bind ?_ (fun _ => ?_)
theorem l21_TableBack.mono : ∀ a0 a1 k, LeO (l21_TableBack.f k a0 a1) (l21_TableBack.f (k + 1) a0 a1) := by
 intro a0 a1 k
 obtain ⟨ih0, ih1⟩ := l21_TableBack.mono_l k
 unfold l21_TableBack.f
 repeat' first
   | (with_reducible apply ih0)
   | (with_reducible apply ih1)
   | (with_reducible apply l21_As.mono)
   | (with_reducible apply l21_Great.mono)
   | (with_reducible apply l21_knows.mono)
   | (with_reducible apply r21_Same.mono)
   | (with_reducible apply table_Decode.mono)
   | (with_reducible apply table_Encode.mono)
   | (with_reducible apply table_Right.mono)
   | (with_reducible exact LeO.refl _)
   | (with_reducible exact LeO.none _)
   | (with_reducible refine LeO.ite ?_ ?_)
   | (with_reducible refine LeO.bind ?_ (fun _ => ?_))
   | apply ih0
   | apply ih1
   | apply l21_As.mono
   | apply l21_Great.mono
   | apply l21_knows.mono
   | apply r21_Same.mono
   | apply table_Decode.mono
   | apply table_Encode.mono
   | apply table_Right.mono
   | exact LeO.none _
   | refine LeO.ite ?_ ?_
   | refine LeO.bind ?_ (fun _ => ?_)
set_option maxHeartbeats 8000000 in
set_option maxRecDepth 100000 in
theorem l21_TableBack.calls (k : Nat) (A0 : Option Addr) (c0 : Nat) (l0 : List (S42)) (A1 : Option Addr) (c1 : Nat) (l1 : List Int) (r : Bool) (w : World) (hr0 : Kd.C k42 w A0 l0.length l0) (hc0 : l0.length ≤ c0) (hr1 : Kd.C (Kd.int .u8) w A1 l1.length l1) (hc1 : l1.length ≤ c1) (hG : Glob w) (h : l21_TableBack.f k l0 l1 = some r) :
  Calls Tryd.prog 6 #[.slice A0 l0.length c0, .slice A1 l1.length c1] w fun e w' => e = .returned (.bool r) ∧ Below w.heap.size w w' := by
 have HG := Aside0.mk hG
 clear hG
 have HR0 := Aside0.mk hr0
 have HC0 := Aside0.mk hc0
 clear hr0 hc0
 have HR1 := Aside0.mk hr1
 have HC1 := Aside0.mk hc1
 clear hr1 hc1
 have HB := Aside0.mk (Below.refl w.heap.size w)
 have H : ((l21_Great.f k l0).bind fun t670 => (if t670 = true then (l21_TableBack.j0 k l0 l1 true) else (l21_TableBack.j0 k l0 l1 (decide ((l1.length : Int) > 5000))))) = some r := h
 clear h
 have HC3 := Aside0.mk H
 clear H
 go_enter Tryd.func6, Tryd.ntmps6
 go_upto_region 1 with (fail)
 go_cut [19] (fun v19 wc => ∃ (kq : Nat) (x19_2 : Bool), v19 = .bool x19_2 ∧ Aside0 (l21_TableBack.j0 kq l0 l1 x19_2 = some r) ∧ Aside0 (kq ≤ k) ∧ Aside0 (Below w.heap.size w wc))
 case first =>
  have H := HC3.out
  clear HC3
  replace H := Option.bind_eq_some_iff.mp H
  obtain ⟨t670, A40, H⟩ := H
  try dsimp only at H
  have A4 := Aside0.mk A40
  clear A40
  by_cases c5 : t670 = true
  ·subst c5
   rw [if_pos rfl] at H
   have H' := Aside0.mk H
   clear H
   go_wp2_with (first | ((with_reducible refine gate_callee (f := 10) rfl ?_); refine goesL_ (some 14) rfl rfl Tryd.func10 (by kernel_rfl) rfl #[.slice A0 l0.length c0] rfl jZ ?_; (with_reducible refine (l21_Great.calls k _ _ l0 true _ ?side1 ?side2 A4.out).mono ?_); (case side1 => exact jC (Kd.C_below HR0.out HB.out)); (case side2 => exact HC0.out); rintro e w' ⟨rfl, ⟨nd, rfl⟩⟩; refine ⟨_, rfl, ?_⟩))
   go_meet
   case rel => exact ⟨_, (true), jS, H', ⟨jO⟩, ⟨jH HB⟩⟩
  ·replace c5 := Bool.eq_false_iff.mpr c5
   subst c5
   rw [if_neg (show ¬ (false = true) by decide)] at H
   have H' := Aside0.mk H
   clear H
   go_wp2_with (first | ((with_reducible refine gate_callee (f := 10) rfl ?_); refine goesL_ (some 14) rfl rfl Tryd.func10 (by kernel_rfl) rfl #[.slice A0 l0.length c0] rfl jZ ?_; (with_reducible refine (l21_Great.calls k _ _ l0 false _ ?side1 ?side2 A4.out).mono ?_); (case side1 => exact jC (Kd.C_below HR0.out HB.out)); (case side2 => exact HC0.out); rintro e w' ⟨rfl, ⟨nd, rfl⟩⟩; refine ⟨_, rfl, ?_⟩))
   go_meet
   case rel => exact ⟨_, (decide ((l1.length : Int) > 5000)), jS, H', ⟨jO⟩, ⟨jH HB⟩⟩
 case rest =>
  clear HC3
  obtain ⟨kq, x19_2, rfl, HA, HJ2, HB⟩ := hcut
  cases kq with
  | zero => exact absurd HA.out (by simp [l21_TableBack.j0])
  | succ kj2 =>
   have H := HA.out
   clear HA
   simp only [l21_TableBack.j0] at H
   by_cases c6 : x19_2 = true
   ·subst c6
    rw [if_pos rfl] at H
    replace H := Option.bind_eq_some_iff.mp H
    obtain ⟨t671, A70, H⟩ := H
    try dsimp only at H
    have A7 := Aside0.mk A70
    clear A70
    obtain rfl := Option.some.inj H
    go_wp2_with (first | ((with_reducible refine gate_callee (f := 11) rfl ?_); refine goesL_ (some 20) rfl rfl Tryd.func11 (by kernel_rfl) rfl #[] rfl jZ ?_; (with_reducible refine (l21_knows.calls kj2  t671 _ ?side1 A7.out).mono ?_); (case side1 => exact Glob.below HG.out (jH HB)); rintro e w8 ⟨rfl, hb⟩; refine ⟨_, rfl, ?_⟩; have n0_ := Aside0.mk (zT (jH HB) hb); clear HB; have HB := n0_; clear n0_; (try clear hb); (try clear hb2); (try clear hk); (try clear hi)))
    go_ret
    exact ⟨jE, jH HB⟩
   ·replace c6 := Bool.eq_false_iff.mpr c6
    subst c6
    rw [if_neg (show ¬ (false = true) by decide)] at H
    replace H := Option.bind_eq_some_iff.mp H
    obtain ⟨⟨t672, t673⟩, A90, H⟩ := H
    try dsimp only at H
    have A9 := Aside0.mk A90
    clear A90
    have HC10 := Aside0.mk H
    clear H
    go_upto_if 27 with (first | ((with_reducible refine gate_callee (f := 12) rfl ?_); refine goesL_ (some 23) rfl rfl Tryd.func12 (by kernel_rfl) rfl #[.slice A0 l0.length c0] rfl jZ ?_; (with_reducible refine (table_Encode.calls kj2 _ _ l0 t672 t673 _ ?side1 ?side2 ?side3 A9.out).mono ?_); (case side1 => exact jC (Kd.C_below HR0.out HB.out)); (case side2 => exact HC0.out); (case side3 => exact Glob.below HG.out (jH HB)); rintro e w11 ⟨v674, rfl, ho0, hb⟩; refine ⟨_, rfl, ?_⟩; have n0_ := Aside0.mk (Kd.R_lower ho0 (zZ (jH HB))); have n1_ := Aside0.mk (zT (jH HB) hb); clear HB; have HO675 := n0_; have HB := n1_; clear n0_ n1_; (try clear hb); (try clear hb2); (try clear hk); (try clear hi); (try clear ho0)))
    (try simp only [Act.put, List.setIfInBounds_toArray, List.set_cons_zero, List.set_cons_succ])
    go_cut [] (fun wc => ∃ (kq : Nat), Aside0 (l21_TableBack.j1 kq l1 = some r) ∧ Aside0 (kq ≤ kj2) ∧ Aside0 (Below w.heap.size w wc))
    case first =>
     have H := HC10.out
     clear HC10
     by_cases c12 : t673 = 0
     ·rw [if_pos c12] at H
      have c12b0 : (t673 == 0) = true := bI.mpr c12
      have c12b1 : (t673 != 0) = false := nF.mpr c12
      clear c12
      (first | rw [c12b0] | (simp only [i64_w, i32_w]; rw [c12b0]) | skip)
      replace H := Option.bind_eq_some_iff.mp H
      obtain ⟨⟨t676, t677⟩, A130, H⟩ := H
      try dsimp only at H
      have A13 := Aside0.mk A130
      clear A130
      replace H := Option.bind_eq_some_iff.mp H
      obtain ⟨t680, A140, H⟩ := H
      try dsimp only at H
      have A14 := Aside0.mk A140
      clear A140
      replace H := Option.bind_eq_some_iff.mp H
      obtain ⟨t683, A150, H⟩ := H
      try dsimp only at H
      have A15 := Aside0.mk A150
      clear A150
      replace H := Option.bind_eq_some_iff.mp H
      obtain ⟨t686, A160, H⟩ := H
      try dsimp only at H
      have A16 := Aside0.mk A160
      clear A160
      by_cases c17 : t686 = true
      ·subst c17
       rw [if_pos rfl] at H
       by_cases c18 : t677 = 0
       ·rw [if_pos c18] at H
        have c18b0 : (t677 == 0) = true := bI.mpr c18
        have c18b1 : (t677 != 0) = false := nF.mpr c18
        clear c18
        have H' := Aside0.mk H
        clear H
        obtain ⟨Ao19, co19, eo19⟩ := Kd.R_slice HO675.out
        subst eo19
        go_wp2_with (first | ((with_reducible refine gate_callee (f := 17) rfl ?_); refine goesL_ (some 30) rfl rfl Tryd.func17 (by kernel_rfl) rfl #[.slice Ao19 t672.length co19] rfl jZ ?_; (with_reducible refine (table_Decode.calls kj2 _ _ t672 t676 t677 _ ?side1 ?side2 ?side3 A13.out).mono ?_); (case side1 => exact jC (Kd.R_reads' HO675.out).2.2); (case side2 => exact (Kd.R_reads' HO675.out).2.1); (case side3 => exact Glob.below HG.out (jH HB)); rintro e w20 ⟨v678, rfl, ho0, hb⟩; refine ⟨_, rfl, ?_⟩; have n0_ := Aside0.mk (Kd.R_below (jR HO675) hb); have n1_ := Aside0.mk (Kd.N_lower (Kd.N_mono (ok' := fun k_ => some k_ ≠ (.slice Ao19 t672.length co19 : Value).ownBlock) (Kd.S_N (Kd.S_bound ho0)) (fun k_ hk_ => (Kd.fresh' (Kd.R_lt (jR HO675)) k_ hk_.2.1))) (zZ (jH HB))); have n2_ := Aside0.mk (zT (jH HB) hb); clear HO675; clear HB; have HO675 := n0_; have HO679 := n1_; have HB := n2_; clear n0_ n1_ n2_; (try clear hb); (try clear hb2); (try clear hk); (try clear hi); (try clear ho0); obtain ⟨Ao21, co21, eo21⟩ := Kd.N_slice HO679.out; subst eo21) | ((with_reducible refine gate_callee (f := 14) rfl ?_); refine goesL_ (some 34) rfl rfl Tryd.func14 (by kernel_rfl) rfl #[.slice Ao21 t676.length co21] rfl jZ ?_; (with_reducible refine (l21_As.calls kj2 (fun k_ => some k_ ≠ (.slice Ao19 t672.length co19 : Value).ownBlock) _ _ t676 t680 _ ?side1 A14.out).mono ?_); (case side1 => exact Kd.N_V (HO679.out)); rintro e w22 ⟨v681, rfl, ho0, hb⟩; refine ⟨_, rfl, ?_⟩; have n0_ := Aside0.mk (Kd.R_below (jR HO675) hb); have n1_ := Aside0.mk (Kd.N_elder' (by (with_reducible repeat (first | apply Kd.N_alloc | apply Kd.N_drewN | apply Kd.N_drew)); exact HO679.out) (Kd.N_base ho0) hb); have n2_ := Aside0.mk (Kd.N_lower (Kd.N_mono (ok' := fun k_ => some k_ ≠ (.slice Ao19 t672.length co19 : Value).ownBlock) ho0 (fun k_ hk_ => Or.elim hk_ (fun hs_ => hs_) (fun hn_ => (Kd.fresh' (Kd.R_lt (jR HO675)) k_ hn_)))) (zZ (jH HB))); have n3_ := Aside0.mk (zT (jH HB) hb); clear HO675; clear HO679; clear HB; have HO675 := n0_; have HO679 := n1_; have HO682 := n2_; have HB := n3_; clear n0_ n1_ n2_ n3_; (try clear hb); (try clear hb2); (try clear hk); (try clear hi); (try clear ho0)) | ((with_reducible refine gate_callee (f := 14) rfl ?_); refine goesL_ (some 36) rfl rfl Tryd.func14 (by kernel_rfl) rfl #[.slice A0 l0.length c0] rfl jZ ?_; (with_reducible refine (l21_As.calls kj2 (fun k_ => k_ < w.heap.size) _ _ l0 t683 _ ?side1 A15.out).mono ?_); (case side1 => exact Kd.V_mk HC0.out (Kd.F_below (Kd.C_F k42_heap HR0.out) (jH HB))); rintro e w23 ⟨v684, rfl, ho0, hb⟩; refine ⟨_, rfl, ?_⟩; have n0_ := Aside0.mk (Kd.R_below (jR HO675) hb); have n1_ := Aside0.mk (Kd.N_elder' (by (with_reducible repeat (first | apply Kd.N_alloc | apply Kd.N_drewN | apply Kd.N_drew)); exact HO679.out) (Kd.N_base ho0) hb); have n2_ := Aside0.mk (Kd.N_elder' (by (with_reducible repeat (first | apply Kd.N_alloc | apply Kd.N_drewN | apply Kd.N_drew)); exact HO682.out) (Kd.N_base ho0) hb); have n3_ := Aside0.mk (Kd.N_lower (Kd.N_mono (ok' := fun k_ => some k_ ≠ (.slice Ao19 t672.length co19 : Value).ownBlock ∧ some k_ ≠ (.slice Ao21 t676.length co21 : Value).ownBlock ∧ some k_ ≠ (v681 : Value).ownBlock) ho0 (fun k_ hk_ => ⟨Or.elim hk_ (fun hs_ => fun e_ => Nat.not_le.2 hs_ (Kd.R_base HO675.out k_ e_.symm)) (fun hn_ => (Kd.fresh' (Kd.R_lt (jR HO675)) k_ hn_)), Or.elim hk_ (fun hs_ => fun e_ => Nat.not_le.2 hs_ (Kd.N_base HO679.out k_ e_.symm)) (fun hn_ => (Kd.fresh' (Kd.N_lt (by (with_reducible repeat (first | apply Kd.N_alloc | apply Kd.N_drewN | apply Kd.N_drew)); exact HO679.out)) k_ hn_)), Or.elim hk_ (fun hs_ => fun e_ => Nat.not_le.2 hs_ (Kd.N_base HO682.out k_ e_.symm)) (fun hn_ => (Kd.fresh' (Kd.N_lt (by (with_reducible repeat (first | apply Kd.N_alloc | apply Kd.N_drewN | apply Kd.N_drew)); exact HO682.out)) k_ hn_))⟩)) (zZ (jH HB))); have n4_ := Aside0.mk (zT (jH HB) hb); clear HO675; clear HO679; clear HO682; clear HB; have HO675 := n0_; have HO679 := n1_; have HO682 := n2_; have HO685 := n3_; have HB := n4_; clear n0_ n1_ n2_ n3_ n4_; (try clear hb); (try clear hb2); (try clear hk); (try clear hi); (try clear ho0); obtain ⟨Ao24, co24, eo24⟩ := Kd.N_slice HO682.out; subst eo24; obtain ⟨Ao25, co25, eo25⟩ := Kd.N_slice HO685.out; subst eo25) | ((with_reducible refine gate_callee (f := 19) rfl ?_); refine goesL_ (some 37) rfl rfl Tryd.func19 (by kernel_rfl) rfl #[.slice Ao24 t680.length co24, .slice Ao25 t683.length co25] rfl jZ ?_; (with_reducible refine (r21_Same.calls kj2 _ _ t680 _ _ t683 true _ ?side1 ?side2 ?side3 ?side4 A16.out).mono ?_); (case side1 => exact jC (Kd.N_reads' HO682.out).2.2); (case side2 => exact (Kd.N_reads' HO682.out).2.1); (case side3 => exact jC (Kd.N_reads' HO685.out).2.2); (case side4 => exact (Kd.N_reads' HO685.out).2.1); rintro e w26 ⟨rfl, hb⟩; refine ⟨_, rfl, ?_⟩; have n0_ := Aside0.mk (Kd.R_below (jR HO675) hb); have n1_ := Aside0.mk (Kd.N_below (by (with_reducible repeat (first | apply Kd.N_alloc | apply Kd.N_drewN | apply Kd.N_drew)); exact HO679.out) hb); have n2_ := Aside0.mk (Kd.N_below (by (with_reducible repeat (first | apply Kd.N_alloc | apply Kd.N_drewN | apply Kd.N_drew)); exact HO682.out) hb); have n3_ := Aside0.mk (Kd.N_below (by (with_reducible repeat (first | apply Kd.N_alloc | apply Kd.N_drewN | apply Kd.N_drew)); exact HO685.out) hb); have n4_ := Aside0.mk (zT (jH HB) hb); clear HO675; clear HO679; clear HO682; clear HO685; clear HB; have HO675 := n0_; have HO679 := n1_; have HO682 := n2_; have HO685 := n3_; have HB := n4_; clear n0_ n1_ n2_ n3_ n4_; (try clear hb); (try clear hb2); (try clear hk); (try clear hi)))
        go_meet
        case rel => exact ⟨_, H', ⟨by have := HJ2.out; first | omega | exact Nat.le_refl _⟩, ⟨jH HB⟩⟩
       ·rw [if_neg c18] at H
        exact absurd H (by simp)
      ·replace c17 := Bool.eq_false_iff.mpr c17
       subst c17
       rw [if_neg (show ¬ (false = true) by decide)] at H
       exact absurd H (by simp)
     ·rw [if_neg c12] at H
      have c12b0 : (t673 == 0) = false := bF.mpr c12
      have c12b1 : (t673 != 0) = true := nI.mpr c12
      (first | rw [c12b0] | (simp only [i64_w, i32_w]; rw [c12b0]) | skip)
      have H' := Aside0.mk H
      clear H
      go_wp2
      go_meet
      case rel => exact ⟨_, H', ⟨by have := HJ2.out; first | omega | exact Nat.le_refl _⟩, ⟨jH HB⟩⟩
    case rest =>
     clear HC10
     obtain ⟨kq, HA, HJ9, HB⟩ := hcut
     cases kq with
     | zero => exact absurd HA.out (by simp [l21_TableBack.j1])
     | succ kj9 =>
      have H := HA.out
      clear HA
      simp only [l21_TableBack.j1] at H
      obtain ⟨y687, hy687⟩ : ∃ y_ : List Int, y_ = (([] : List Int)) := ⟨_, rfl⟩
      simp only [Option.bind_some, ← hy687] at H
      have Ny687 := Aside0.mk hy687
      clear hy687
      by_cases c27 : y687.length + l1.length < 140737488355328
      ·rw [if_pos c27] at H
       have LMc27 := Aside0.mk c27
       clear c27
       obtain ⟨y690, hy690⟩ : ∃ y_ : List Int, y_ = (y687 ++ l1) := ⟨_, rfl⟩
       simp only [Option.bind_some, ← hy690] at H
       have Ny690 := Aside0.mk hy690
       clear hy690
       replace H := Option.bind_eq_some_iff.mp H
       obtain ⟨⟨t693, t694⟩, A280, H⟩ := H
       try dsimp only at H
       have A28 := Aside0.mk A280
       clear A280
       by_cases c29 : t694 = 0
       ·rw [if_pos c29] at H
        have c29b0 : (t694 == 0) = true := bI.mpr c29
        have c29b1 : (t694 != 0) = false := nF.mpr c29
        clear c29
        replace H := Option.bind_eq_some_iff.mp H
        obtain ⟨⟨t697, t698⟩, A300, H⟩ := H
        try dsimp only at H
        have A30 := Aside0.mk A300
        clear A300
        by_cases c31 : (strOfNums t697).toList = (strOfNums l1).toList
        ·rw [if_pos c31] at H
         have c31b0 : ((strOfNums t697).toList == (strOfNums l1).toList) = true := bI.mpr c31
         have c31b1 : ((strOfNums t697).toList != (strOfNums l1).toList) = false := nF.mpr c31
         clear c31
         by_cases c32 : t698 = 0
         ·rw [if_pos c32] at H
          have c32b0 : (t698 == 0) = true := bI.mpr c32
          have c32b1 : (t698 != 0) = false := nF.mpr c32
          clear c32
          replace H := Option.bind_eq_some_iff.mp H
          obtain ⟨t701, A330, H⟩ := H
          try dsimp only at H
          have A33 := Aside0.mk A330
          clear A330
          by_cases c34 : t701 = true
          ·subst c34
           rw [if_pos rfl] at H
           replace H := Option.bind_eq_some_iff.mp H
           obtain ⟨t702, A350, H⟩ := H
           try dsimp only at H
           have A35 := Aside0.mk A350
           clear A350
           obtain rfl := Option.some.inj H
           go_wp2_with (first | ((with_reducible refine gate_dst (N := 44) rfl ?_); (try (refine gate_guard (by rfl) ?_; dsimp only)); refine Kd.R_lit (Kd.int .u8) _ 5 ?hg (N := 44) ?hd (xs := ([] : List Int)) (inner := []) (ok := fun _ => True) (okp := fun _ => True) ?hr ?hp (fun _ hk => hk) trivial (Below.refl _ _) (Nat.le_refl _) (by simp) ?_; (case hd => rfl); (case hg => rfl); (case hr => first | (go_simp; done) | (go_simp; rfl)); (case hp => exact (Reps.none _ _)); intro v688 w36 ho37 hb hg_ hnew_; clear hg_ hnew_; (first | rw [← Ny687.out] at ho37 | (simp only [Int.reduceToNat] at ho37; rw [← Ny687.out] at ho37)); have n0_ := Aside0.mk (Kd.R_lower ho37 (zZ (jH HB))); have n1_ := Aside0.mk (zT (jH HB) hb); clear HB; have HO689 := n0_; have HB := n1_; clear n0_ n1_; clear hb ho37) | ((with_reducible refine gate_builtin (b := .append) (xs := #[.tmp 44, .tmp 45]) rfl ?_); (try (refine gate_guard (by rfl) ?_; dsimp only)); at_builtin; refine Kd.R_append_rows (Kd.int .u8) (w0 := w) w.heap.size rfl (.tmp 44) (.tmp 45) 25 5 (.int .u8 0) 1 rfl Tryd.underlying25 info5 rfl (by decide) (by omega) v688 y687 l1 _ _ _ (fun _ => True) (fun _ => False) rfl rfl ?aO ?aR (fun _ _ h => h) (fun _ h => h.elim) ?aF ?aB ?aS ?aL ?_; (case aR => repeat (first | exact (Kd.C_below HR1.out HB.out) | (with_reducible refine Kd.C_alloc ?_ _) | (with_reducible refine Kd.C_drewN ?_ _) | (with_reducible refine Kd.C_drew ?_))); (case aB => exact (jH HB)); (case aF => exact (fun _ _ => trivial)); (case aO => exact (jR HO689)); (case aS => exact (zZ (jH HB))); (case aL => have := LMc27.out; omega); intro v691 w38 ho hb hg hat; rw [← Ny690.out] at ho; have n0_ := Aside0.mk (hb); have n1_ := Aside0.mk (ho); clear HB; clear HO689; have HB := n0_; have HO692 := n1_; clear n0_ n1_; clear ho hb hg hat; obtain ⟨Ao39, co39, eo39⟩ := Kd.R_slice HO692.out; subst eo39) | ((with_reducible refine gate_callee (f := 17) rfl ?_); refine goesL_ (some 47) rfl rfl Tryd.func17 (by kernel_rfl) rfl #[.slice Ao39 y690.length co39] rfl jZ ?_; (with_reducible refine (table_Decode.calls kj9 _ _ y690 t693 t694 _ ?side1 ?side2 ?side3 A28.out).mono ?_); (case side1 => exact jC (Kd.R_reads' HO692.out).2.2); (case side2 => exact (Kd.R_reads' HO692.out).2.1); (case side3 => exact Glob.below HG.out (jH HB)); rintro e w40 ⟨v695, rfl, ho0, hb⟩; refine ⟨_, rfl, ?_⟩; have n0_ := Aside0.mk (Kd.R_below (jR HO692) hb); have n1_ := Aside0.mk (Kd.N_lower (Kd.N_mono (ok' := fun k_ => some k_ ≠ (.slice Ao39 y690.length co39 : Value).ownBlock) (Kd.S_N (Kd.S_bound ho0)) (fun k_ hk_ => (Kd.fresh' (Kd.R_lt (jR HO692)) k_ hk_.2.1))) (zZ (jH HB))); have n2_ := Aside0.mk (zT (jH HB) hb); clear HO692; clear HB; have HO692 := n0_; have HO696 := n1_; have HB := n2_; clear n0_ n1_ n2_; (try clear hb); (try clear hb2); (try clear hk); (try clear hi); (try clear ho0); obtain ⟨Ao41, co41, eo41⟩ := Kd.N_slice HO696.out; subst eo41) | ((with_reducible refine gate_callee (f := 12) rfl ?_); refine goesL_ (some 60) rfl rfl Tryd.func12 (by kernel_rfl) rfl #[.slice Ao41 t693.length co41] rfl jZ ?_; (with_reducible refine (table_Encode.calls kj9 _ _ t693 t697 t698 _ ?side1 ?side2 ?side3 A30.out).mono ?_); (case side1 => exact jC (Kd.N_reads' HO696.out).2.2); (case side2 => exact (Kd.N_reads' HO696.out).2.1); (case side3 => exact Glob.below HG.out (jH HB)); rintro e w42 ⟨v699, rfl, ho0, hb⟩; refine ⟨_, rfl, ?_⟩; have n0_ := Aside0.mk (Kd.R_elder' (jR HO692) (Kd.R_base ho0) hb); have n1_ := Aside0.mk (Kd.N_elder' (by (with_reducible repeat (first | apply Kd.N_alloc | apply Kd.N_drewN | apply Kd.N_drew)); exact HO696.out) (Kd.R_base ho0) hb); have n2_ := Aside0.mk (Kd.R_lower (Kd.R_new' ho0 (Kd.R_lt (jR HO692))) (zZ (jH HB))); have n3_ := Aside0.mk (zT (jH HB) hb); clear HO692; clear HO696; clear HB; have HO692 := n0_; have HO696 := n1_; have HO700 := n2_; have HB := n3_; clear n0_ n1_ n2_ n3_; (try clear hb); (try clear hb2); (try clear hk); (try clear hi); (try clear ho0); have hcv43 := own_string (P := Tryd.prog) Tryd.underlying25 Tryd.underlying5 Tryd.underlying9 (Kd.own_of_R HO700.out); have hcv44 := Kd.C_string (P := Tryd.prog) (A := A1) (c := c1) Tryd.underlying25 Tryd.underlying5 Tryd.underlying9 (Kd.C_below HR1.out HB.out)) | (go_at_call 15; (with_reducible refine (table_Right.calls kj9 _ _ t693 true _ ?side1 ?side2 ?side3 A33.out).mono ?_); (case side1 => exact jC (Kd.N_reads' HO696.out).2.2); (case side2 => exact (Kd.N_reads' HO696.out).2.1); (case side3 => exact Glob.below HG.out (jH HB)); rintro e w45 ⟨rfl, hb⟩; have n0_ := Aside0.mk (Kd.R_below (jR HO692) hb); have n1_ := Aside0.mk (Kd.N_below (by (with_reducible repeat (first | apply Kd.N_alloc | apply Kd.N_drewN | apply Kd.N_drew)); exact HO696.out) hb); have n2_ := Aside0.mk (Kd.R_below (jR HO700) hb); have n3_ := Aside0.mk (zT (jH HB) hb); clear HO692; clear HO696; clear HO700; clear HB; have HO692 := n0_; have HO696 := n1_; have HO700 := n2_; have HB := n3_; clear n0_ n1_ n2_ n3_; (try clear hb); (try clear hb2); (try clear hk); (try clear hi)) | (go_at_call 11; (with_reducible refine (l21_knows.calls kj9  t702 _ ?side1 A35.out).mono ?_); (case side1 => exact Glob.below HG.out (jH HB)); rintro e w46 ⟨rfl, hb⟩; have n0_ := Aside0.mk (Kd.R_below (jR HO692) hb); have n1_ := Aside0.mk (Kd.N_below (by (with_reducible repeat (first | apply Kd.N_alloc | apply Kd.N_drewN | apply Kd.N_drew)); exact HO696.out) hb); have n2_ := Aside0.mk (Kd.R_below (jR HO700) hb); have n3_ := Aside0.mk (zT (jH HB) hb); clear HO692; clear HO696; clear HO700; clear HB; have HO692 := n0_; have HO696 := n1_; have HO700 := n2_; have HB := n3_; clear n0_ n1_ n2_ n3_; (try clear hb); (try clear hb2); (try clear hk); (try clear hi)))
           go_ret
           exact ⟨jE, jH HB⟩
          ·replace c34 := Bool.eq_false_iff.mpr c34
           subst c34
           rw [if_neg (show ¬ (false = true) by decide)] at H
           exact absurd H (by simp)
         ·rw [if_neg c32] at H
          exact absurd H (by simp)
        ·rw [if_neg c31] at H
         exact absurd H (by simp)
       ·rw [if_neg c29] at H
        have c29b0 : (t694 == 0) = false := bF.mpr c29
        have c29b1 : (t694 != 0) = true := nI.mpr c29
        by_cases c47 : (t693.length : Int) = 0
        ·rw [if_pos c47] at H
         have c47b0 : ((t693.length : Int) == 0) = true := bI.mpr c47
         have c47b1 : ((t693.length : Int) != 0) = false := nF.mpr c47
         clear c47
         replace H := Option.bind_eq_some_iff.mp H
         obtain ⟨t703, A480, H⟩ := H
         try dsimp only at H
         have A48 := Aside0.mk A480
         clear A480
         obtain rfl := Option.some.inj H
         go_wp2_with (first | ((with_reducible refine gate_dst (N := 44) rfl ?_); (try (refine gate_guard (by rfl) ?_; dsimp only)); refine Kd.R_lit (Kd.int .u8) _ 5 ?hg (N := 44) ?hd (xs := ([] : List Int)) (inner := []) (ok := fun _ => True) (okp := fun _ => True) ?hr ?hp (fun _ hk => hk) trivial (Below.refl _ _) (Nat.le_refl _) (by simp) ?_; (case hd => rfl); (case hg => rfl); (case hr => first | (go_simp; done) | (go_simp; rfl)); (case hp => exact (Reps.none _ _)); intro v688 w49 ho50 hb hg_ hnew_; clear hg_ hnew_; (first | rw [← Ny687.out] at ho50 | (simp only [Int.reduceToNat] at ho50; rw [← Ny687.out] at ho50)); have n0_ := Aside0.mk (Kd.R_lower ho50 (zZ (jH HB))); have n1_ := Aside0.mk (zT (jH HB) hb); clear HB; have HO689 := n0_; have HB := n1_; clear n0_ n1_; clear hb ho50) | ((with_reducible refine gate_builtin (b := .append) (xs := #[.tmp 44, .tmp 45]) rfl ?_); (try (refine gate_guard (by rfl) ?_; dsimp only)); at_builtin; refine Kd.R_append_rows (Kd.int .u8) (w0 := w) w.heap.size rfl (.tmp 44) (.tmp 45) 25 5 (.int .u8 0) 1 rfl Tryd.underlying25 info5 rfl (by decide) (by omega) v688 y687 l1 _ _ _ (fun _ => True) (fun _ => False) rfl rfl ?aO ?aR (fun _ _ h => h) (fun _ h => h.elim) ?aF ?aB ?aS ?aL ?_; (case aR => repeat (first | exact (Kd.C_below HR1.out HB.out) | (with_reducible refine Kd.C_alloc ?_ _) | (with_reducible refine Kd.C_drewN ?_ _) | (with_reducible refine Kd.C_drew ?_))); (case aB => exact (jH HB)); (case aF => exact (fun _ _ => trivial)); (case aO => exact (jR HO689)); (case aS => exact (zZ (jH HB))); (case aL => have := LMc27.out; omega); intro v691 w51 ho hb hg hat; rw [← Ny690.out] at ho; have n0_ := Aside0.mk (hb); have n1_ := Aside0.mk (ho); clear HB; clear HO689; have HB := n0_; have HO692 := n1_; clear n0_ n1_; clear ho hb hg hat; obtain ⟨Ao52, co52, eo52⟩ := Kd.R_slice HO692.out; subst eo52) | ((with_reducible refine gate_callee (f := 17) rfl ?_); refine goesL_ (some 47) rfl rfl Tryd.func17 (by kernel_rfl) rfl #[.slice Ao52 y690.length co52] rfl jZ ?_; (with_reducible refine (table_Decode.calls kj9 _ _ y690 t693 t694 _ ?side1 ?side2 ?side3 A28.out).mono ?_); (case side1 => exact jC (Kd.R_reads' HO692.out).2.2); (case side2 => exact (Kd.R_reads' HO692.out).2.1); (case side3 => exact Glob.below HG.out (jH HB)); rintro e w53 ⟨v695, rfl, ho0, hb⟩; refine ⟨_, rfl, ?_⟩; have n0_ := Aside0.mk (Kd.R_below (jR HO692) hb); have n1_ := Aside0.mk (Kd.N_lower (Kd.N_mono (ok' := fun k_ => some k_ ≠ (.slice Ao52 y690.length co52 : Value).ownBlock) (Kd.S_N (Kd.S_bound ho0)) (fun k_ hk_ => (Kd.fresh' (Kd.R_lt (jR HO692)) k_ hk_.2.1))) (zZ (jH HB))); have n2_ := Aside0.mk (zT (jH HB) hb); clear HO692; clear HB; have HO692 := n0_; have HO696 := n1_; have HB := n2_; clear n0_ n1_ n2_; (try clear hb); (try clear hb2); (try clear hk); (try clear hi); (try clear ho0); obtain ⟨Ao54, co54, eo54⟩ := Kd.N_slice HO696.out; subst eo54) | (go_at_call 11; (with_reducible refine (l21_knows.calls kj9  t703 _ ?side1 A48.out).mono ?_); (case side1 => exact Glob.below HG.out (jH HB)); rintro e w55 ⟨rfl, hb⟩; have n0_ := Aside0.mk (Kd.R_below (jR HO692) hb); have n1_ := Aside0.mk (Kd.N_below (by (with_reducible repeat (first | apply Kd.N_alloc | apply Kd.N_drewN | apply Kd.N_drew)); exact HO696.out) hb); have n2_ := Aside0.mk (zT (jH HB) hb); clear HO692; clear HO696; clear HB; have HO692 := n0_; have HO696 := n1_; have HB := n2_; clear n0_ n1_ n2_; (try clear hb); (try clear hb2); (try clear hk); (try clear hi)))
         go_ret
         exact ⟨jE, jH HB⟩
        ·rw [if_neg c47] at H
         exact absurd H (by simp)
      ·rw [if_neg c27] at H
       exact absurd H (by simp)
end Go.Proofs.YtahacmdhhfmhiaaDoor.M
