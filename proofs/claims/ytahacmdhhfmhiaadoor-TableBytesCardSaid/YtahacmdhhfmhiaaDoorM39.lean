/- What Go functions compute; their calls come to it. No condition. -/
import Derived.Test.YtahacmdhhfmhiaaDoorM0
import Derived.Test.YtahacmdhhfmhiaaDoorMA
import Derived.Test.YtahacmdhhfmhiaaDoorM12
import Derived.Test.YtahacmdhhfmhiaaDoorM14
import Derived.Test.YtahacmdhhfmhiaaDoorM24
import Derived.Test.YtahacmdhhfmhiaaDoorM33
import Derived.Test.YtahacmdhhfmhiaaDoorMG
namespace Go.Proofs.YtahacmdhhfmhiaaDoor.M
open Go.RowKit Go.Proofs.YtahacmdhhfmhiaaDoorW.PrintWords Go.Proofs.YtahacmdhhfmhiaaDoorW.PrintLast Go.Proofs.YtahacmdhhfmhiaaDoorW.PrintMore
attribute [local go_sem] max2_int min2_int max_two min_two max_three min_three max_four min_four   -- for this text's walks alone
set_option linter.unusedVariables false
set_option linter.unusedSimpArgs false
def l21_TableBytes.f (k : Nat) (l0 : List (S42)) : Option (Bool) := (l21_Great.f k l0).bind fun t567 => (if t567 = true then ((l21_knows.f k).bind fun t568 => (some t568)) else ((table_Encode.f k l0).bind fun bt569 => ((l21_As.f k l0).bind fun t573 => ((r21_Right.f k t573).bind fun t576 => ((table_Right.f k l0).bind fun t577 => (if (t577 != t576) = true then (none) else (if t576 = true then ((l21_As.f k l0).bind fun t578 => ((r21_Encode.f k t578).bind fun t581 => (if (strOfNums bt569.1).toList = (strOfNums t581).toList then (if bt569.2 = 0 then ((l21_knows.f k).bind fun t584 => (some t584)) else (none)) else (none)))) else (if (bt569.1.length : Int) = 0 then (if bt569.2 = 1 then ((l21_knows.f k).bind fun t585 => (some t585)) else (none)) else (none)))))))))
theorem l21_TableBytes.mono : ∀ a0 k, LeO (l21_TableBytes.f k a0) (l21_TableBytes.f (k + 1) a0) := by
 intro a0 k
 unfold l21_TableBytes.f
 repeat' first
   | (with_reducible apply l21_As.mono)
   | (with_reducible apply l21_Great.mono)
   | (with_reducible apply l21_knows.mono)
   | (with_reducible apply r21_Encode.mono)
   | (with_reducible apply r21_Right.mono)
   | (with_reducible apply table_Encode.mono)
   | (with_reducible apply table_Right.mono)
   | (with_reducible exact LeO.refl _)
   | (with_reducible exact LeO.none _)
   | (with_reducible refine LeO.ite ?_ ?_)
   | (with_reducible refine LeO.bind ?_ (fun _ => ?_))
   | apply l21_As.mono
   | apply l21_Great.mono
   | apply l21_knows.mono
   | apply r21_Encode.mono
   | apply r21_Right.mono
   | apply table_Encode.mono
   | apply table_Right.mono
   | exact LeO.none _
   | refine LeO.ite ?_ ?_
   | refine LeO.bind ?_ (fun _ => ?_)
def l21_TableBytes.T9 : Bool × List (List Nat × List Nat) := (true, [([], []), ([0], [0]), ([], []), ([2], [2]), ([3, 3], [3]), ([4], [4]), ([1, 5], [1, 5]), ([6, 4], [6]), ([7], [7]), ([8, 7], [7, 8]), ([7, 9], [7, 9]), ([10, 7], [10]), ([11, 11], [11]), ([11, 12], [11, 12]), ([13, 12, 0, 1, 2, 3, 4, 5, 6, 7, 8, 9, 10, 11, 12, 13], [13])])
def l21_TableBytes.B9 : List Nat := [0, 1, 0, 4, 12, 28, 63, 127, 255, 511, 1023, 2047, 4095, 8191, 16383]
theorem l21_TableBytes.tab9 : rtab .any (opsOf Tryd.f3 9) = l21_TableBytes.T9 := by kernel_rfl
theorem l21_TableBytes.bits9 : waitsOk l21_TableBytes.T9.2 l21_TableBytes.B9 = true := by kernel_rfl
set_option maxHeartbeats 8000000 in
set_option maxRecDepth 100000 in
theorem l21_TableBytes.calls (k : Nat) (A0 : Option Addr) (c0 : Nat) (l0 : List (S42)) (r : Bool) (w : World) (hr0 : Kd.C k42 w A0 l0.length l0) (hc0 : l0.length ≤ c0) (hG : Glob w) (h : l21_TableBytes.f k l0 = some r) :
  Calls Tryd.prog 3 #[.slice A0 l0.length c0] w fun e w' => e = .returned (.bool r) ∧ Below w.heap.size w w' := by
 have HG := Aside0.mk hG
 clear hG
 have HR0 := Aside0.mk hr0
 have HC0 := Aside0.mk hc0
 clear hr0 hc0
 have HB := Aside0.mk (Below.refl w.heap.size w)
 have H : ((l21_Great.f k l0).bind fun t567 => (if t567 = true then ((l21_knows.f k).bind fun t568 => (some t568)) else ((table_Encode.f k l0).bind fun bt569 => ((l21_As.f k l0).bind fun t573 => ((r21_Right.f k t573).bind fun t576 => ((table_Right.f k l0).bind fun t577 => (if (t577 != t576) = true then (none) else (if t576 = true then ((l21_As.f k l0).bind fun t578 => ((r21_Encode.f k t578).bind fun t581 => (if (strOfNums bt569.1).toList = (strOfNums t581).toList then (if bt569.2 = 0 then ((l21_knows.f k).bind fun t584 => (some t584)) else (none)) else (none)))) else (if (bt569.1.length : Int) = 0 then (if bt569.2 = 1 then ((l21_knows.f k).bind fun t585 => (some t585)) else (none)) else (none)))))))))) = some r := h
 clear h
 replace H := Option.bind_eq_some_iff.mp H
 obtain ⟨t567, A20, H⟩ := H
 try dsimp only at H
 have A2 := Aside0.mk A20
 clear A20
 by_cases c3 : t567 = true
 ·subst c3
  rw [if_pos rfl] at H
  replace H := Option.bind_eq_some_iff.mp H
  obtain ⟨t568, A40, H⟩ := H
  try dsimp only at H
  have A4 := Aside0.mk A40
  clear A40
  obtain rfl := Option.some.inj H
  go_enter Tryd.func3, Tryd.ntmps3
  go_wp2_with (first | ((with_reducible refine gate_callee (f := 10) rfl ?_); refine goesL_ (some 7) rfl rfl Tryd.func10 (by kernel_rfl) rfl #[.slice A0 l0.length c0] rfl jZ ?_; (with_reducible refine (l21_Great.calls k _ _ l0 true _ ?side1 ?side2 A2.out).mono ?_); (case side1 => repeat (first | exact HR0.out | (with_reducible refine Kd.C_alloc ?_ _) | (with_reducible refine Kd.C_drewN ?_ _) | (with_reducible refine Kd.C_drew ?_))); (case side2 => exact HC0.out); rintro e w' ⟨rfl, ⟨nd, rfl⟩⟩; refine ⟨_, rfl, ?_⟩) | ((with_reducible refine gate_callee (f := 11) rfl ?_); refine goesL_ (some 8) rfl rfl Tryd.func11 (by kernel_rfl) rfl #[] rfl jZ ?_; (with_reducible refine (l21_knows.calls k  t568 _ ?side1 A4.out).mono ?_); (case side1 => exact Glob.below HG.out (jH HB)); rintro e w5 ⟨rfl, hb⟩; refine ⟨_, rfl, ?_⟩; have n0_ := Aside0.mk (zT (jH HB) hb); clear HB; have HB := n0_; clear n0_; (try clear hb); (try clear hb2); (try clear hk); (try clear hi)))
  go_ret
  exact ⟨jE, jH HB⟩
 ·replace c3 := Bool.eq_false_iff.mpr c3
  subst c3
  rw [if_neg (show ¬ (false = true) by decide)] at H
  replace H := Option.bind_eq_some_iff.mp H
  obtain ⟨⟨t569, t570⟩, A60, H⟩ := H
  try dsimp only at H
  have A6 := Aside0.mk A60
  clear A60
  replace H := Option.bind_eq_some_iff.mp H
  obtain ⟨t573, A70, H⟩ := H
  try dsimp only at H
  have A7 := Aside0.mk A70
  clear A70
  replace H := Option.bind_eq_some_iff.mp H
  obtain ⟨t576, A80, H⟩ := H
  try dsimp only at H
  have A8 := Aside0.mk A80
  clear A80
  replace H := Option.bind_eq_some_iff.mp H
  obtain ⟨t577, A90, H⟩ := H
  try dsimp only at H
  have A9 := Aside0.mk A90
  clear A90
  by_cases c10 : (t577 != t576) = true
  ·rw [if_pos c10] at H
   exact absurd H (by simp)
  ·rw [if_neg c10] at H
   have c10b0 : (t577 != t576) = false := by simpa using c10
   (try (have c10b1 : decide (t577 = t576) = true := by simpa using c10))
   (try (have c10b2 : (t577 == t576) = true := by simpa using c10))
   clear c10
   by_cases c11 : t576 = true
   ·subst c11
    rw [if_pos rfl] at H
    replace H := Option.bind_eq_some_iff.mp H
    obtain ⟨t578, A120, H⟩ := H
    try dsimp only at H
    have A12 := Aside0.mk A120
    clear A120
    replace H := Option.bind_eq_some_iff.mp H
    obtain ⟨t581, A130, H⟩ := H
    try dsimp only at H
    have A13 := Aside0.mk A130
    clear A130
    by_cases c14 : (strOfNums t569).toList = (strOfNums t581).toList
    ·rw [if_pos c14] at H
     have c14b0 : ((strOfNums t569).toList == (strOfNums t581).toList) = true := bI.mpr c14
     have c14b1 : ((strOfNums t569).toList != (strOfNums t581).toList) = false := nF.mpr c14
     clear c14
     by_cases c15 : t570 = 0
     ·rw [if_pos c15] at H
      have c15b0 : (t570 == 0) = true := bI.mpr c15
      have c15b1 : (t570 != 0) = false := nF.mpr c15
      clear c15
      replace H := Option.bind_eq_some_iff.mp H
      obtain ⟨t584, A160, H⟩ := H
      try dsimp only at H
      have A16 := Aside0.mk A160
      clear A160
      obtain rfl := Option.some.inj H
      go_enter Tryd.func3, Tryd.ntmps3
      try go_wp2_with (first | ((with_reducible refine gate_callee (f := 10) rfl ?_); refine goesL_ (some 7) rfl rfl Tryd.func10 (by kernel_rfl) rfl #[.slice A0 l0.length c0] rfl jZ ?_; (with_reducible refine (l21_Great.calls k _ _ l0 false _ ?side1 ?side2 A2.out).mono ?_); (case side1 => repeat (first | exact HR0.out | (with_reducible refine Kd.C_alloc ?_ _) | (with_reducible refine Kd.C_drewN ?_ _) | (with_reducible refine Kd.C_drew ?_))); (case side2 => exact HC0.out); rintro e w' ⟨rfl, ⟨nd, rfl⟩⟩; refine ⟨_, rfl, ?_⟩) | ((with_reducible refine gate_callee (f := 12) rfl ?_); refine goesL_ (some 11) rfl rfl Tryd.func12 (by kernel_rfl) rfl #[.slice A0 l0.length c0] rfl jZ ?_; (with_reducible refine (table_Encode.calls k _ _ l0 t569 t570 _ ?side1 ?side2 ?side3 A6.out).mono ?_); (case side1 => repeat (first | exact HR0.out | (with_reducible refine Kd.C_alloc ?_ _) | (with_reducible refine Kd.C_drewN ?_ _) | (with_reducible refine Kd.C_drew ?_))); (case side2 => exact HC0.out); (case side3 => exact Glob.below HG.out (jH HB)); rintro e w17 ⟨v571, rfl, ho0, hb⟩; refine ⟨_, rfl, ?_⟩; have n0_ := Aside0.mk (Kd.R_lower ho0 (zZ (jH HB))); have n1_ := Aside0.mk (zT (jH HB) hb); clear HB; have HO572 := n0_; have HB := n1_; clear n0_ n1_; (try clear hb); (try clear hb2); (try clear hk); (try clear hi); (try clear ho0)) | ((with_reducible refine gate_callee (f := 14) rfl ?_); refine goesL_ (some 15) rfl rfl Tryd.func14 (by kernel_rfl) rfl #[.slice A0 l0.length c0] rfl jZ ?_; (with_reducible refine (l21_As.calls k (fun k_ => k_ < w.heap.size) _ _ l0 t573 _ ?side1 A7.out).mono ?_); (case side1 => exact Kd.V_mk HC0.out (Kd.F_below (Kd.C_F k42_heap HR0.out) (jH HB))); rintro e w18 ⟨v574, rfl, ho0, hb⟩; refine ⟨_, rfl, ?_⟩; have n0_ := Aside0.mk (Kd.R_below (jR HO572) hb); have n1_ := Aside0.mk (Kd.N_lower (Kd.N_mono (ok' := fun k_ => some k_ ≠ (v571 : Value).ownBlock) ho0 (fun k_ hk_ => Or.elim hk_ (fun hs_ => fun e_ => Nat.not_le.2 hs_ (Kd.R_base HO572.out k_ e_.symm)) (fun hn_ => (Kd.fresh' (Kd.R_lt (jR HO572)) k_ hn_)))) (zZ (jH HB))); have n2_ := Aside0.mk (zT (jH HB) hb); clear HO572; clear HB; have HO572 := n0_; have HO575 := n1_; have HB := n2_; clear n0_ n1_ n2_; (try clear hb); (try clear hb2); (try clear hk); (try clear hi); (try clear ho0); obtain ⟨Ao19, co19, eo19⟩ := Kd.N_slice HO575.out; subst eo19) | ((with_reducible refine gate_callee (f := 13) rfl ?_); refine goesL_ (some 16) rfl rfl Tryd.func13 (by kernel_rfl) rfl #[.slice Ao19 t573.length co19] rfl jZ ?_; (with_reducible refine (r21_Right.calls k _ _ t573 true _ ?side1 ?side2 A8.out).mono ?_); (case side1 => exact jC (Kd.N_reads' HO575.out).2.2); (case side2 => exact (Kd.N_reads' HO575.out).2.1); rintro e w20 ⟨rfl, hb⟩; refine ⟨_, rfl, ?_⟩; have n0_ := Aside0.mk (Kd.R_below (jR HO572) hb); have n1_ := Aside0.mk (Kd.N_below (by (with_reducible repeat (first | apply Kd.N_alloc | apply Kd.N_drewN | apply Kd.N_drew)); exact HO575.out) hb); have n2_ := Aside0.mk (zT (jH HB) hb); clear HO572; clear HO575; clear HB; have HO572 := n0_; have HO575 := n1_; have HB := n2_; clear n0_ n1_ n2_; (try clear hb); (try clear hb2); (try clear hk); (try clear hi)) | ((with_reducible refine gate_callee (f := 15) rfl ?_); refine goesL_ (some 18) rfl rfl Tryd.func15 (by kernel_rfl) rfl #[.slice A0 l0.length c0] rfl jZ ?_; (with_reducible refine (table_Right.calls k _ _ l0 t577 _ ?side1 ?side2 ?side3 A9.out).mono ?_); (case side1 => exact jC (Kd.C_below HR0.out HB.out)); (case side2 => exact HC0.out); (case side3 => exact Glob.below HG.out (jH HB)); rintro e w21 ⟨rfl, hb⟩; refine ⟨_, rfl, ?_⟩; have n0_ := Aside0.mk (Kd.R_below (jR HO572) hb); have n1_ := Aside0.mk (Kd.N_below (by (with_reducible repeat (first | apply Kd.N_alloc | apply Kd.N_drewN | apply Kd.N_drew)); exact HO575.out) hb); have n2_ := Aside0.mk (zT (jH HB) hb); clear HO572; clear HO575; clear HB; have HO572 := n0_; have HO575 := n1_; have HB := n2_; clear n0_ n1_ n2_; (try clear hb); (try clear hb2); (try clear hk); (try clear hi)))
      have n0_ := Aside0.mk (Kd.R_drew HO572.out)
      have n1_ := Aside0.mk (Kd.N_drew HO575.out)
      have n2_ := Aside0.mk (zD HB.out)
      clear HO572
      clear HO575
      clear HB
      have HO572 := n0_
      have HO575 := n1_
      have HB := n2_
      clear n0_ n1_ n2_
      refine start_ (n := 15) (S := fun w' => True) (ds := []) #[false, false, false, false, false, false, false, false, false, false, false, false, false, false, false] (by kernel_rfl) rfl rfl trivial (fun hHeld => ?_); refine with_tabW l21_TableBytes.tab9 l21_TableBytes.bits9 (fun HT_ HW_ => ?_)
      generalize w21.drew = w22 at HO572 HO575 HB hHeld ⊢
      refine qP 0 33 (tB 15 1) ?_
      refine qP 2 35 (tB 15 5) ?_
      refine join_ (σ := Value × Value) 9 #[true, true, true, true, true, true, false, false, false, false, false, false, false, false, false] (fun s_ => [(34, .string (strOfNums t569)), (36, s_.1), (37, s_.2), (38, .string (strOfNums t581))]) (fun s_ w' => (Kd.R (Kd.int .u8) 5 w' w.heap.size (fun k_ => some k_ ≠ (s_.2 : Value).ownBlock) v571 t569) ∧ (Kd.N k45 45 w' w.heap.size (fun k_ => some k_ ≠ (v571 : Value).ownBlock ∧ some k_ ≠ (s_.1 : Value).ownBlock ∧ some k_ ≠ (s_.2 : Value).ownBlock) (.slice Ao19 t573.length co19) t573) ∧ (Kd.N k45 45 w' w.heap.size (fun k_ => some k_ ≠ (v571 : Value).ownBlock ∧ some k_ ≠ (.slice Ao19 t573.length co19 : Value).ownBlock ∧ some k_ ≠ (s_.2 : Value).ownBlock) s_.1 t578) ∧ (Kd.R (Kd.int .u8) 5 w' w.heap.size (fun k_ => some k_ ≠ (v571 : Value).ownBlock) s_.2 t581) ∧ (Below w.heap.size w w')) ?_ ?_
      rotate_left
      ·intro hCont
       refine two_ (i := 1) (j := 3) (Ni := some 34) (Nj := some 36) #[true, true, true, false, false, false, false, false, false, false, false, false, false, false, false] (tB 15 13) rfl rfl rfl rfl (two_of HT_.out (by kernel_rfl)) (by decide) (by decide) (fun K hK => ?_) (fun K hK => ?_)
       ·skip
        have hcv23 := own_string (P := Tryd.prog) Tryd.underlying25 Tryd.underlying5 Tryd.underlying9 (Kd.own_of_R HO572.out)
        refine value_ (w1 := ?_) (v := ?_) (by rfl) rfl ?_ ?_
        rotate_left 2
        ·go_simp
         constructor
         ·rfl
         ·rfl
        clear hcv23
        refine hK.out _ _ trivial (fun hHeld => ?_)
        clear hK K
        refine qN 34 ?_
        refine one_ (i := 3) (N := some 36) (tB 15 15) rfl rfl (one_of HT_.out (by kernel_rfl)) (by decide) (fun K hK => ?_)
        refine goes_ Tryd.func14 (by kernel_rfl) rfl #[.slice A0 l0.length c0] (by rfl) rfl rfl jZ ?_
        with_reducible refine (l21_As.calls k (fun k_ => k_ < w.heap.size) _ _ l0 t578 _ ?side1 A12.out).mono ?_
        (case side1 => exact Kd.V_mk HC0.out (Kd.F_below (Kd.C_F k42_heap HR0.out) (jH HB)))
        rintro e w24 ⟨v579, rfl, ho0, hb⟩
        refine ⟨_, rfl, ?_⟩
        have n0_ := Aside0.mk (Kd.R_below (jR HO572) hb)
        have n1_ := Aside0.mk (Kd.N_elder' (by (with_reducible repeat (first | apply Kd.N_alloc | apply Kd.N_drewN | apply Kd.N_drew)); exact HO575.out) (Kd.N_base ho0) hb)
        have n2_ := Aside0.mk (Kd.N_lower (Kd.N_mono (ok' := fun k_ => some k_ ≠ (v571 : Value).ownBlock ∧ some k_ ≠ (.slice Ao19 t573.length co19 : Value).ownBlock) ho0 (fun k_ hk_ => ⟨Or.elim hk_ (fun hs_ => fun e_ => Nat.not_le.2 hs_ (Kd.R_base HO572.out k_ e_.symm)) (fun hn_ => (Kd.fresh' (Kd.R_lt (jR HO572)) k_ hn_)), Or.elim hk_ (fun hs_ => fun e_ => Nat.not_le.2 hs_ (Kd.N_base HO575.out k_ e_.symm)) (fun hn_ => (Kd.fresh' (Kd.N_lt (by (with_reducible repeat (first | apply Kd.N_alloc | apply Kd.N_drewN | apply Kd.N_drew)); exact HO575.out)) k_ hn_))⟩)) (zZ (jH HB)))
        have n3_ := Aside0.mk (zT (jH HB) hb)
        clear HO572
        clear HO575
        clear HB
        have HO572 := n0_
        have HO575 := n1_
        have HO580 := n2_
        have HB := n3_
        clear n0_ n1_ n2_ n3_
        (try clear hb)
        (try clear hb2)
        (try clear hk)
        (try clear hi)
        (try clear ho0)
        obtain ⟨Ao25, co25, eo25⟩ := Kd.N_slice HO580.out
        (first | subst eo25 | (injection eo25 with f1_ f2_ f3_; have f4_ := f1_.symm; have f5_ := f3_.symm; clear f1_ f2_ f3_; subst f4_; subst f5_))
        refine hK.out _ _ trivial (fun hHeld => ?_)
        clear hK K
        refine qN 36 ?_
        refine one_ (i := 4) (N := some 37) (tB 15 31) rfl rfl (one_of HT_.out (by kernel_rfl)) (by decide) (fun K hK => ?_)
        refine goes_ Tryd.func16 (by kernel_rfl) rfl #[.slice Ao25 t578.length co25] (by rfl) rfl rfl jZ ?_
        with_reducible refine (r21_Encode.calls k _ _ t578 t581 _ ?side1 ?side2 A13.out).mono ?_
        (case side1 => exact jC (Kd.N_reads' HO580.out).2.2)
        (case side2 => exact (Kd.N_reads' HO580.out).2.1)
        rintro e w26 ⟨v582, rfl, ho0, hb⟩
        refine ⟨_, rfl, ?_⟩
        have n0_ := Aside0.mk (Kd.R_elder' (jR HO572) (Kd.R_base ho0) hb)
        have n1_ := Aside0.mk (Kd.N_elder' (by (with_reducible repeat (first | apply Kd.N_alloc | apply Kd.N_drewN | apply Kd.N_drew)); exact HO575.out) (Kd.R_base ho0) hb)
        have n2_ := Aside0.mk (Kd.N_elder' (by (with_reducible repeat (first | apply Kd.N_alloc | apply Kd.N_drewN | apply Kd.N_drew)); exact HO580.out) (Kd.R_base ho0) hb)
        have n3_ := Aside0.mk (Kd.R_lower (Kd.R_new' ho0 (Kd.R_lt (jR HO572))) (zZ (jH HB)))
        have n4_ := Aside0.mk (zT (jH HB) hb)
        clear HO572
        clear HO575
        clear HO580
        clear HB
        have HO572 := n0_
        have HO575 := n1_
        have HO580 := n2_
        have HO583 := n3_
        have HB := n4_
        clear n0_ n1_ n2_ n3_ n4_
        (try clear hb)
        (try clear hb2)
        (try clear hk)
        (try clear hi)
        (try clear ho0)
        refine hK.out _ _ trivial (fun hHeld => ?_)
        clear hK K
        refine qN 37 ?_
        refine one_ (i := 5) (N := some 38) (tB 15 63) rfl rfl (one_of HT_.out (by kernel_rfl)) (by decide) (fun K hK => ?_)
        have hcv27 := own_string (P := Tryd.prog) Tryd.underlying25 Tryd.underlying5 Tryd.underlying9 (Kd.own_of_R HO583.out)
        refine value_ (w1 := ?_) (v := ?_) (by rfl) rfl ?_ ?_
        rotate_left 2
        ·go_simp
         constructor
         ·rfl
         ·rfl
        clear hcv27
        refine hK.out _ _ trivial (fun hHeld => ?_)
        clear hK K
        refine qN 38 ?_
        exact norm_ (by simp only [putAll, Act.put, List.setIfInBounds_toArray, List.set_cons_zero, List.set_cons_succ]) (hCont (.slice Ao25 t578.length co25, v582) _ ⟨(by (with_reducible repeat (first | apply Kd.R_alloc | apply Kd.R_drewN | apply Kd.R_drew)); exact Kd.R_mono HO572.out (fun _ hk => hk.2)), (by (with_reducible repeat (first | apply Kd.N_alloc | apply Kd.N_drewN | apply Kd.N_drew)); exact Kd.N_mono HO575.out (fun _ hk => ⟨hk.1.1, ⟨hk.1.2, hk.2⟩⟩)), (by (with_reducible repeat (first | apply Kd.N_alloc | apply Kd.N_drewN | apply Kd.N_drew)); exact Kd.N_mono HO580.out (fun _ hk => ⟨hk.1.1, ⟨hk.1.2, hk.2⟩⟩)), (by (with_reducible repeat (first | apply Kd.R_alloc | apply Kd.R_drewN | apply Kd.R_drew)); exact Kd.R_mono HO583.out (fun _ hk => hk.2)), (jH HB)⟩)
       ·skip
        refine goes_ Tryd.func14 (by kernel_rfl) rfl #[.slice A0 l0.length c0] (by rfl) rfl rfl jZ ?_
        with_reducible refine (l21_As.calls k (fun k_ => k_ < w.heap.size) _ _ l0 t578 _ ?side1 A12.out).mono ?_
        (case side1 => exact Kd.V_mk HC0.out (Kd.F_below (Kd.C_F k42_heap HR0.out) (jH HB)))
        rintro e w23 ⟨v579, rfl, ho0, hb⟩
        refine ⟨_, rfl, ?_⟩
        have n0_ := Aside0.mk (Kd.R_below (jR HO572) hb)
        have n1_ := Aside0.mk (Kd.N_elder' (by (with_reducible repeat (first | apply Kd.N_alloc | apply Kd.N_drewN | apply Kd.N_drew)); exact HO575.out) (Kd.N_base ho0) hb)
        have n2_ := Aside0.mk (Kd.N_lower (Kd.N_mono (ok' := fun k_ => some k_ ≠ (v571 : Value).ownBlock ∧ some k_ ≠ (.slice Ao19 t573.length co19 : Value).ownBlock) ho0 (fun k_ hk_ => ⟨Or.elim hk_ (fun hs_ => fun e_ => Nat.not_le.2 hs_ (Kd.R_base HO572.out k_ e_.symm)) (fun hn_ => (Kd.fresh' (Kd.R_lt (jR HO572)) k_ hn_)), Or.elim hk_ (fun hs_ => fun e_ => Nat.not_le.2 hs_ (Kd.N_base HO575.out k_ e_.symm)) (fun hn_ => (Kd.fresh' (Kd.N_lt (by (with_reducible repeat (first | apply Kd.N_alloc | apply Kd.N_drewN | apply Kd.N_drew)); exact HO575.out)) k_ hn_))⟩)) (zZ (jH HB)))
        have n3_ := Aside0.mk (zT (jH HB) hb)
        clear HO572
        clear HO575
        clear HB
        have HO572 := n0_
        have HO575 := n1_
        have HO580 := n2_
        have HB := n3_
        clear n0_ n1_ n2_ n3_
        (try clear hb)
        (try clear hb2)
        (try clear hk)
        (try clear hi)
        (try clear ho0)
        obtain ⟨Ao25, co25, eo25⟩ := Kd.N_slice HO580.out
        (first | subst eo25 | (injection eo25 with f1_ f2_ f3_; have f4_ := f1_.symm; have f5_ := f3_.symm; clear f1_ f2_ f3_; subst f4_; subst f5_))
        refine hK.out _ _ trivial (fun hHeld => ?_)
        clear hK K
        refine qN 36 ?_
        refine two_ (i := 1) (j := 4) (Ni := some 34) (Nj := some 37) #[true, true, true, true, false, false, false, false, false, false, false, false, false, false, false] (tB 15 29) rfl rfl rfl rfl (two_of HT_.out (by kernel_rfl)) (by decide) (by decide) (fun K hK => ?_) (fun K hK => ?_)
        ·skip
         have hcv24 := own_string (P := Tryd.prog) Tryd.underlying25 Tryd.underlying5 Tryd.underlying9 (Kd.own_of_R HO572.out)
         refine value_ (w1 := ?_) (v := ?_) (by rfl) rfl ?_ ?_
         rotate_left 2
         ·go_simp
          constructor
          ·rfl
          ·rfl
         clear hcv24
         refine hK.out _ _ trivial (fun hHeld => ?_)
         clear hK K
         refine qN 34 ?_
         refine one_ (i := 4) (N := some 37) (tB 15 31) rfl rfl (one_of HT_.out (by kernel_rfl)) (by decide) (fun K hK => ?_)
         refine goes_ Tryd.func16 (by kernel_rfl) rfl #[.slice Ao25 t578.length co25] (by rfl) rfl rfl jZ ?_
         with_reducible refine (r21_Encode.calls k _ _ t578 t581 _ ?side1 ?side2 A13.out).mono ?_
         (case side1 => exact jC (Kd.N_reads' HO580.out).2.2)
         (case side2 => exact (Kd.N_reads' HO580.out).2.1)
         rintro e w26 ⟨v582, rfl, ho0, hb⟩
         refine ⟨_, rfl, ?_⟩
         have n0_ := Aside0.mk (Kd.R_elder' (jR HO572) (Kd.R_base ho0) hb)
         have n1_ := Aside0.mk (Kd.N_elder' (by (with_reducible repeat (first | apply Kd.N_alloc | apply Kd.N_drewN | apply Kd.N_drew)); exact HO575.out) (Kd.R_base ho0) hb)
         have n2_ := Aside0.mk (Kd.N_elder' (by (with_reducible repeat (first | apply Kd.N_alloc | apply Kd.N_drewN | apply Kd.N_drew)); exact HO580.out) (Kd.R_base ho0) hb)
         have n3_ := Aside0.mk (Kd.R_lower (Kd.R_new' ho0 (Kd.R_lt (jR HO572))) (zZ (jH HB)))
         have n4_ := Aside0.mk (zT (jH HB) hb)
         clear HO572
         clear HO575
         clear HO580
         clear HB
         have HO572 := n0_
         have HO575 := n1_
         have HO580 := n2_
         have HO583 := n3_
         have HB := n4_
         clear n0_ n1_ n2_ n3_ n4_
         (try clear hb)
         (try clear hb2)
         (try clear hk)
         (try clear hi)
         (try clear ho0)
         refine hK.out _ _ trivial (fun hHeld => ?_)
         clear hK K
         refine qN 37 ?_
         refine one_ (i := 5) (N := some 38) (tB 15 63) rfl rfl (one_of HT_.out (by kernel_rfl)) (by decide) (fun K hK => ?_)
         have hcv27 := own_string (P := Tryd.prog) Tryd.underlying25 Tryd.underlying5 Tryd.underlying9 (Kd.own_of_R HO583.out)
         refine value_ (w1 := ?_) (v := ?_) (by rfl) rfl ?_ ?_
         rotate_left 2
         ·go_simp
          constructor
          ·rfl
          ·rfl
         clear hcv27
         refine hK.out _ _ trivial (fun hHeld => ?_)
         clear hK K
         refine qN 38 ?_
         exact norm_ (by simp only [putAll, Act.put, List.setIfInBounds_toArray, List.set_cons_zero, List.set_cons_succ]) (hCont (.slice Ao25 t578.length co25, v582) _ ⟨(by (with_reducible repeat (first | apply Kd.R_alloc | apply Kd.R_drewN | apply Kd.R_drew)); exact Kd.R_mono HO572.out (fun _ hk => hk.2)), (by (with_reducible repeat (first | apply Kd.N_alloc | apply Kd.N_drewN | apply Kd.N_drew)); exact Kd.N_mono HO575.out (fun _ hk => ⟨hk.1.1, ⟨hk.1.2, hk.2⟩⟩)), (by (with_reducible repeat (first | apply Kd.N_alloc | apply Kd.N_drewN | apply Kd.N_drew)); exact Kd.N_mono HO580.out (fun _ hk => ⟨hk.1.1, ⟨hk.1.2, hk.2⟩⟩)), (by (with_reducible repeat (first | apply Kd.R_alloc | apply Kd.R_drewN | apply Kd.R_drew)); exact Kd.R_mono HO583.out (fun _ hk => hk.2)), (jH HB)⟩)
        ·skip
         refine goes_ Tryd.func16 (by kernel_rfl) rfl #[.slice Ao25 t578.length co25] (by rfl) rfl rfl jZ ?_
         with_reducible refine (r21_Encode.calls k _ _ t578 t581 _ ?side1 ?side2 A13.out).mono ?_
         (case side1 => exact jC (Kd.N_reads' HO580.out).2.2)
         (case side2 => exact (Kd.N_reads' HO580.out).2.1)
         rintro e w25 ⟨v582, rfl, ho0, hb⟩
         refine ⟨_, rfl, ?_⟩
         have n0_ := Aside0.mk (Kd.R_elder' (jR HO572) (Kd.R_base ho0) hb)
         have n1_ := Aside0.mk (Kd.N_elder' (by (with_reducible repeat (first | apply Kd.N_alloc | apply Kd.N_drewN | apply Kd.N_drew)); exact HO575.out) (Kd.R_base ho0) hb)
         have n2_ := Aside0.mk (Kd.N_elder' (by (with_reducible repeat (first | apply Kd.N_alloc | apply Kd.N_drewN | apply Kd.N_drew)); exact HO580.out) (Kd.R_base ho0) hb)
         have n3_ := Aside0.mk (Kd.R_lower (Kd.R_new' ho0 (Kd.R_lt (jR HO572))) (zZ (jH HB)))
         have n4_ := Aside0.mk (zT (jH HB) hb)
         clear HO572
         clear HO575
         clear HO580
         clear HB
         have HO572 := n0_
         have HO575 := n1_
         have HO580 := n2_
         have HO583 := n3_
         have HB := n4_
         clear n0_ n1_ n2_ n3_ n4_
         (try clear hb)
         (try clear hb2)
         (try clear hk)
         (try clear hi)
         (try clear ho0)
         refine hK.out _ _ trivial (fun hHeld => ?_)
         clear hK K
         refine qN 37 ?_
         refine two_ (i := 1) (j := 5) (Ni := some 34) (Nj := some 38) #[true, true, true, true, true, false, false, false, false, false, false, false, false, false, false] (tB 15 61) rfl rfl rfl rfl (two_of HT_.out (by kernel_rfl)) (by decide) (by decide) (fun K hK => ?_) (fun K hK => ?_)
         ·skip
          have hcv26 := own_string (P := Tryd.prog) Tryd.underlying25 Tryd.underlying5 Tryd.underlying9 (Kd.own_of_R HO572.out)
          refine value_ (w1 := ?_) (v := ?_) (by rfl) rfl ?_ ?_
          rotate_left 2
          ·go_simp
           constructor
           ·rfl
           ·rfl
          clear hcv26
          refine hK.out _ _ trivial (fun hHeld => ?_)
          clear hK K
          refine qN 34 ?_
          refine one_ (i := 5) (N := some 38) (tB 15 63) rfl rfl (one_of HT_.out (by kernel_rfl)) (by decide) (fun K hK => ?_)
          have hcv27 := own_string (P := Tryd.prog) Tryd.underlying25 Tryd.underlying5 Tryd.underlying9 (Kd.own_of_R HO583.out)
          refine value_ (w1 := ?_) (v := ?_) (by rfl) rfl ?_ ?_
          rotate_left 2
          ·go_simp
           constructor
           ·rfl
           ·rfl
          clear hcv27
          refine hK.out _ _ trivial (fun hHeld => ?_)
          clear hK K
          refine qN 38 ?_
          exact norm_ (by simp only [putAll, Act.put, List.setIfInBounds_toArray, List.set_cons_zero, List.set_cons_succ]) (hCont (.slice Ao25 t578.length co25, v582) _ ⟨(by (with_reducible repeat (first | apply Kd.R_alloc | apply Kd.R_drewN | apply Kd.R_drew)); exact Kd.R_mono HO572.out (fun _ hk => hk.2)), (by (with_reducible repeat (first | apply Kd.N_alloc | apply Kd.N_drewN | apply Kd.N_drew)); exact Kd.N_mono HO575.out (fun _ hk => ⟨hk.1.1, ⟨hk.1.2, hk.2⟩⟩)), (by (with_reducible repeat (first | apply Kd.N_alloc | apply Kd.N_drewN | apply Kd.N_drew)); exact Kd.N_mono HO580.out (fun _ hk => ⟨hk.1.1, ⟨hk.1.2, hk.2⟩⟩)), (by (with_reducible repeat (first | apply Kd.R_alloc | apply Kd.R_drewN | apply Kd.R_drew)); exact Kd.R_mono HO583.out (fun _ hk => hk.2)), (jH HB)⟩)
         ·skip
          have hcv26 := own_string (P := Tryd.prog) Tryd.underlying25 Tryd.underlying5 Tryd.underlying9 (Kd.own_of_R HO583.out)
          refine value_ (w1 := ?_) (v := ?_) (by rfl) rfl ?_ ?_
          rotate_left 2
          ·go_simp
           constructor
           ·rfl
           ·rfl
          clear hcv26
          refine hK.out _ _ trivial (fun hHeld => ?_)
          clear hK K
          refine qN 38 ?_
          refine one_ (i := 1) (N := some 34) (tB 15 63) rfl rfl (one_of HT_.out (by kernel_rfl)) (by decide) (fun K hK => ?_)
          have hcv27 := own_string (P := Tryd.prog) Tryd.underlying25 Tryd.underlying5 Tryd.underlying9 (Kd.own_of_R HO572.out)
          refine value_ (w1 := ?_) (v := ?_) (by rfl) rfl ?_ ?_
          rotate_left 2
          ·go_simp
           constructor
           ·rfl
           ·rfl
          clear hcv27
          refine hK.out _ _ trivial (fun hHeld => ?_)
          clear hK K
          refine qN 34 ?_
          exact norm_ (by simp only [putAll, Act.put, List.setIfInBounds_toArray, List.set_cons_zero, List.set_cons_succ]) (hCont (.slice Ao25 t578.length co25, v582) _ ⟨(by (with_reducible repeat (first | apply Kd.R_alloc | apply Kd.R_drewN | apply Kd.R_drew)); exact Kd.R_mono HO572.out (fun _ hk => hk.2)), (by (with_reducible repeat (first | apply Kd.N_alloc | apply Kd.N_drewN | apply Kd.N_drew)); exact Kd.N_mono HO575.out (fun _ hk => ⟨hk.1.1, ⟨hk.1.2, hk.2⟩⟩)), (by (with_reducible repeat (first | apply Kd.N_alloc | apply Kd.N_drewN | apply Kd.N_drew)); exact Kd.N_mono HO580.out (fun _ hk => ⟨hk.1.1, ⟨hk.1.2, hk.2⟩⟩)), (by (with_reducible repeat (first | apply Kd.R_alloc | apply Kd.R_drewN | apply Kd.R_drew)); exact Kd.R_mono HO583.out (fun _ hk => hk.2)), (jH HB)⟩)
      rintro ⟨v579, v582⟩ w28 ⟨h0_, h1_, h2_, h3_, h4_⟩
      have n0_ : Aside0 (Kd.R (Kd.int .u8) 5 w28 w.heap.size (fun k_ => some k_ ≠ (v582 : Value).ownBlock) v571 t569) := ⟨h0_⟩
      have n1_ : Aside0 (Kd.N k45 45 w28 w.heap.size (fun k_ => some k_ ≠ (v571 : Value).ownBlock ∧ some k_ ≠ (v579 : Value).ownBlock ∧ some k_ ≠ (v582 : Value).ownBlock) (.slice Ao19 t573.length co19) t573) := ⟨h1_⟩
      have n2_ : Aside0 (Kd.N k45 45 w28 w.heap.size (fun k_ => some k_ ≠ (v571 : Value).ownBlock ∧ some k_ ≠ (.slice Ao19 t573.length co19 : Value).ownBlock ∧ some k_ ≠ (v582 : Value).ownBlock) v579 t578) := ⟨h2_⟩
      have n3_ : Aside0 (Kd.R (Kd.int .u8) 5 w28 w.heap.size (fun k_ => some k_ ≠ (v571 : Value).ownBlock) v582 t581) := ⟨h3_⟩
      have n4_ : Aside0 (Below w.heap.size w w28) := ⟨h4_⟩
      clear HO572
      clear HO575
      clear HB
      clear h0_ h1_ h2_ h3_ h4_
      have HO572 := n0_
      have HO575 := n1_
      have HO580 := n2_
      have HO583 := n3_
      have HB := n4_
      clear n0_ n1_ n2_ n3_ n4_
      have hHeld := trivial
      refine norm_ (a' := ?_) ?_ ?_
      rotate_left
      ·simp only [putAll, Act.put, List.setIfInBounds_toArray, List.set_cons_zero, List.set_cons_succ]
       rfl
      refine qP 6 39 (tB 15 127) ?_
      refine qP 7 40 (tB 15 255) ?_
      refine qP 8 41 (tB 15 511) ?_
      refine qP 9 42 (tB 15 1023) ?_
      refine qP 10 43 (tB 15 2047) ?_
      refine qP 11 44 (tB 15 4095) ?_
      refine one_ (i := 12) (N := some 45) (tB 15 8191) rfl rfl (one_of HT_.out (by kernel_rfl)) (by decide) (fun K hK => ?_)
      refine goes_ Tryd.func11 (by kernel_rfl) rfl #[] (by rfl) rfl rfl jZ ?_
      with_reducible refine (l21_knows.calls k  t584 _ ?side1 A16.out).mono ?_
      (case side1 => exact Glob.below HG.out (jH HB))
      rintro e w29 ⟨rfl, hb⟩
      refine ⟨_, rfl, ?_⟩
      have n0_ := Aside0.mk (Kd.R_below (jR HO572) hb)
      have n1_ := Aside0.mk (Kd.N_below (by (with_reducible repeat (first | apply Kd.N_alloc | apply Kd.N_drewN | apply Kd.N_drew)); exact HO575.out) hb)
      have n2_ := Aside0.mk (Kd.N_below (by (with_reducible repeat (first | apply Kd.N_alloc | apply Kd.N_drewN | apply Kd.N_drew)); exact HO580.out) hb)
      have n3_ := Aside0.mk (Kd.R_below (jR HO583) hb)
      have n4_ := Aside0.mk (zT (jH HB) hb)
      clear HO572
      clear HO575
      clear HO580
      clear HO583
      clear HB
      have HO572 := n0_
      have HO575 := n1_
      have HO580 := n2_
      have HO583 := n3_
      have HB := n4_
      clear n0_ n1_ n2_ n3_ n4_
      (try clear hb)
      (try clear hb2)
      (try clear hk)
      (try clear hi)
      refine hK.out _ _ trivial (fun hHeld => ?_)
      clear hK K
      refine qN 45 ?_
      refine qP 13 46 (tB 15 16383) ?_
      refine qP 14 2 (tB 15 32767) ?_
      refine done_ (done_of HT_.out (by kernel_rfl)) ?_
      try go_wp2
      go_ret
      exact ⟨jE, jH HB⟩
     ·rw [if_neg c15] at H
      have c15b0 : (t570 == 0) = false := bF.mpr c15
      have c15b1 : (t570 != 0) = true := nI.mpr c15
      exact absurd H (by simp)
    ·rw [if_neg c14] at H
     have c14b0 : ((strOfNums t569).toList == (strOfNums t581).toList) = false := bF.mpr c14
     have c14b1 : ((strOfNums t569).toList != (strOfNums t581).toList) = true := nI.mpr c14
     exact absurd H (by simp)
   ·replace c11 := Bool.eq_false_iff.mpr c11
    subst c11
    rw [if_neg (show ¬ (false = true) by decide)] at H
    by_cases c30 : (t569.length : Int) = 0
    ·rw [if_pos c30] at H
     have c30b0 : ((t569.length : Int) == 0) = true := bI.mpr c30
     have c30b1 : ((t569.length : Int) != 0) = false := nF.mpr c30
     clear c30
     by_cases c31 : t570 = 1
     ·rw [if_pos c31] at H
      have c31b0 : (t570 == 1) = true := bI.mpr c31
      have c31b1 : (t570 != 1) = false := nF.mpr c31
      clear c31
      replace H := Option.bind_eq_some_iff.mp H
      obtain ⟨t585, A320, H⟩ := H
      try dsimp only at H
      have A32 := Aside0.mk A320
      clear A320
      obtain rfl := Option.some.inj H
      go_enter Tryd.func3, Tryd.ntmps3
      go_wp2_with (first | ((with_reducible refine gate_callee (f := 10) rfl ?_); refine goesL_ (some 7) rfl rfl Tryd.func10 (by kernel_rfl) rfl #[.slice A0 l0.length c0] rfl jZ ?_; (with_reducible refine (l21_Great.calls k _ _ l0 false _ ?side1 ?side2 A2.out).mono ?_); (case side1 => repeat (first | exact HR0.out | (with_reducible refine Kd.C_alloc ?_ _) | (with_reducible refine Kd.C_drewN ?_ _) | (with_reducible refine Kd.C_drew ?_))); (case side2 => exact HC0.out); rintro e w' ⟨rfl, ⟨nd, rfl⟩⟩; refine ⟨_, rfl, ?_⟩) | ((with_reducible refine gate_callee (f := 12) rfl ?_); refine goesL_ (some 11) rfl rfl Tryd.func12 (by kernel_rfl) rfl #[.slice A0 l0.length c0] rfl jZ ?_; (with_reducible refine (table_Encode.calls k _ _ l0 t569 t570 _ ?side1 ?side2 ?side3 A6.out).mono ?_); (case side1 => repeat (first | exact HR0.out | (with_reducible refine Kd.C_alloc ?_ _) | (with_reducible refine Kd.C_drewN ?_ _) | (with_reducible refine Kd.C_drew ?_))); (case side2 => exact HC0.out); (case side3 => exact Glob.below HG.out (jH HB)); rintro e w33 ⟨v571, rfl, ho0, hb⟩; refine ⟨_, rfl, ?_⟩; have n0_ := Aside0.mk (Kd.R_lower ho0 (zZ (jH HB))); have n1_ := Aside0.mk (zT (jH HB) hb); clear HB; have HO572 := n0_; have HB := n1_; clear n0_ n1_; (try clear hb); (try clear hb2); (try clear hk); (try clear hi); (try clear ho0)) | ((with_reducible refine gate_callee (f := 14) rfl ?_); refine goesL_ (some 15) rfl rfl Tryd.func14 (by kernel_rfl) rfl #[.slice A0 l0.length c0] rfl jZ ?_; (with_reducible refine (l21_As.calls k (fun k_ => k_ < w.heap.size) _ _ l0 t573 _ ?side1 A7.out).mono ?_); (case side1 => exact Kd.V_mk HC0.out (Kd.F_below (Kd.C_F k42_heap HR0.out) (jH HB))); rintro e w34 ⟨v574, rfl, ho0, hb⟩; refine ⟨_, rfl, ?_⟩; have n0_ := Aside0.mk (Kd.R_below (jR HO572) hb); have n1_ := Aside0.mk (Kd.N_lower (Kd.N_mono (ok' := fun k_ => some k_ ≠ (v571 : Value).ownBlock) ho0 (fun k_ hk_ => Or.elim hk_ (fun hs_ => fun e_ => Nat.not_le.2 hs_ (Kd.R_base HO572.out k_ e_.symm)) (fun hn_ => (Kd.fresh' (Kd.R_lt (jR HO572)) k_ hn_)))) (zZ (jH HB))); have n2_ := Aside0.mk (zT (jH HB) hb); clear HO572; clear HB; have HO572 := n0_; have HO575 := n1_; have HB := n2_; clear n0_ n1_ n2_; (try clear hb); (try clear hb2); (try clear hk); (try clear hi); (try clear ho0); obtain ⟨Ao35, co35, eo35⟩ := Kd.N_slice HO575.out; subst eo35) | ((with_reducible refine gate_callee (f := 13) rfl ?_); refine goesL_ (some 16) rfl rfl Tryd.func13 (by kernel_rfl) rfl #[.slice Ao35 t573.length co35] rfl jZ ?_; (with_reducible refine (r21_Right.calls k _ _ t573 false _ ?side1 ?side2 A8.out).mono ?_); (case side1 => exact jC (Kd.N_reads' HO575.out).2.2); (case side2 => exact (Kd.N_reads' HO575.out).2.1); rintro e w36 ⟨rfl, hb⟩; refine ⟨_, rfl, ?_⟩; have n0_ := Aside0.mk (Kd.R_below (jR HO572) hb); have n1_ := Aside0.mk (Kd.N_below (by (with_reducible repeat (first | apply Kd.N_alloc | apply Kd.N_drewN | apply Kd.N_drew)); exact HO575.out) hb); have n2_ := Aside0.mk (zT (jH HB) hb); clear HO572; clear HO575; clear HB; have HO572 := n0_; have HO575 := n1_; have HB := n2_; clear n0_ n1_ n2_; (try clear hb); (try clear hb2); (try clear hk); (try clear hi)) | ((with_reducible refine gate_callee (f := 15) rfl ?_); refine goesL_ (some 18) rfl rfl Tryd.func15 (by kernel_rfl) rfl #[.slice A0 l0.length c0] rfl jZ ?_; (with_reducible refine (table_Right.calls k _ _ l0 t577 _ ?side1 ?side2 ?side3 A9.out).mono ?_); (case side1 => exact jC (Kd.C_below HR0.out HB.out)); (case side2 => exact HC0.out); (case side3 => exact Glob.below HG.out (jH HB)); rintro e w37 ⟨rfl, hb⟩; refine ⟨_, rfl, ?_⟩; have n0_ := Aside0.mk (Kd.R_below (jR HO572) hb); have n1_ := Aside0.mk (Kd.N_below (by (with_reducible repeat (first | apply Kd.N_alloc | apply Kd.N_drewN | apply Kd.N_drew)); exact HO575.out) hb); have n2_ := Aside0.mk (zT (jH HB) hb); clear HO572; clear HO575; clear HB; have HO572 := n0_; have HO575 := n1_; have HB := n2_; clear n0_ n1_ n2_; (try clear hb); (try clear hb2); (try clear hk); (try clear hi); obtain ⟨Ao38, co38, eo38⟩ := Kd.R_slice HO572.out; subst eo38) | (go_at_call 11; (with_reducible refine (l21_knows.calls k  t585 _ ?side1 A32.out).mono ?_); (case side1 => exact Glob.below HG.out (jH HB)); rintro e w39 ⟨rfl, hb⟩; have n0_ := Aside0.mk (Kd.R_below (jR HO572) hb); have n1_ := Aside0.mk (Kd.N_below (by (with_reducible repeat (first | apply Kd.N_alloc | apply Kd.N_drewN | apply Kd.N_drew)); exact HO575.out) hb); have n2_ := Aside0.mk (zT (jH HB) hb); clear HO572; clear HO575; clear HB; have HO572 := n0_; have HO575 := n1_; have HB := n2_; clear n0_ n1_ n2_; (try clear hb); (try clear hb2); (try clear hk); (try clear hi)))
      go_ret
      exact ⟨jE, jH HB⟩
     ·rw [if_neg c31] at H
      exact absurd H (by simp)
    ·rw [if_neg c30] at H
     exact absurd H (by simp)
end Go.Proofs.YtahacmdhhfmhiaaDoor.M
