/- What Go functions compute; their calls come to it. No condition. -/
import Derived.Test.YtahacmdhhfmhiaaDoorM0
import Derived.Test.YtahacmdhhfmhiaaDoorMA
import Derived.Test.YtahacmdhhfmhiaaDoorMC
import Derived.Test.YtahacmdhhfmhiaaDoorMD
import Derived.Test.YtahacmdhhfmhiaaDoorME
import Derived.Test.YtahacmdhhfmhiaaDoorM49
namespace Go.Proofs.YtahacmdhhfmhiaaDoor.M
open Go.RowKit Go.Proofs.YtahacmdhhfmhiaaDoorW.PrintWords Go.Proofs.YtahacmdhhfmhiaaDoorW.PrintLast Go.Proofs.YtahacmdhhfmhiaaDoorW.PrintMore
attribute [local go_sem] max2_int min2_int max_two min_two max_three min_three max_four min_four   -- for this text's walks alone
set_option linter.unusedVariables false
set_option linter.unusedSimpArgs false
mutual
def l21_TableCuts.j0 : Nat → Int → Int → Int → List Int → Bool → Option (Bool)
 | 0, _, _, _, _, _ => none
 | k + 1, x1, x2, x3, x9, x41 => if x41 = true then (if 0 ≤ x1 then (if x1 ≤ (x9.length : Int) then ((table_Decode.f k (x9.take (x1 : Int).toNat)).bind fun bt429 => (if bt429.2 = 0 then (none) else (l21_TableCuts.j1 k x2 x3 x9))) else (none)) else (none)) else (l21_TableCuts.j1 k x2 x3 x9)
def l21_TableCuts.j1 : Nat → Int → Int → List Int → Option (Bool)
 | 0, _, _, _ => none
 | k + 1, x2, x3, x9 => if x2 < 0 then (l21_TableCuts.j2 k x2 x3 x9 true) else (l21_TableCuts.j2 k x2 x3 x9 (decide (x2 ≥ (wrap64 (8 * (x9.length : Int))))))
def l21_TableCuts.j2 : Nat → Int → Int → List Int → Bool → Option (Bool)
 | 0, _, _, _, _ => none
 | k + 1, x2, x3, x9, x59 => if x59 = true then ((l21_knows.f k).bind fun t433 => (some t433)) else (l21_TableCuts.l0 k x2 x3 x9 x9 false 0)
def l21_TableCuts.l0 : Nat → Int → Int → List Int → List Int → Bool → Int → Option (Bool)
 | 0, _, _, _, _, _, _ => none
 | k + 1, x2, x3, x9, x13, x14, x15 => if x15 < 32 then (l21_TableCuts.j4 k x2 x3 x9 x13 x14 x15 (decide ((wrap64 (x2 + x15)) < (wrap64 (8 * (x9.length : Int)))))) else (l21_TableCuts.j4 k x2 x3 x9 x13 x14 x15 false)
def l21_TableCuts.j4 : Nat → Int → Int → List Int → List Int → Bool → Int → Bool → Option (Bool)
 | 0, _, _, _, _, _, _, _ => none
 | k + 1, x2, x3, x9, x13, x14, x15, x72 => if x72 = true then (if (Int.tmod x3 2) = 1 then ((r20_Turn.f k x13 (wrap64 (x2 + x15))).bind fun t434 => (l21_TableCuts.l0 k x2 ((Int.tdiv x3 2) % 4294967296) x9 t434 true (wrap64 (x15 + 1)))) else (l21_TableCuts.l0 k x2 ((Int.tdiv x3 2) % 4294967296) x9 x13 x14 (wrap64 (x15 + 1)))) else ((table_Decode.f k x13).bind fun bt437 => (if ((bt437.2 == 10) == x14) = true then (if x14 = true then ((l21_knows.f k).bind fun t441 => (some t441)) else (if bt437.2 = 0 then ((l21_knows.f k).bind fun t442 => (some t442)) else (none))) else (none)))
end
def l21_TableCuts.g (k : Nat) (l0 : List Int) (a1 : Int) (a2 : Int) (a3 : Int) : Option (Bool) := (if a1 ≥ 0 then (l21_TableCuts.j0 k a1 a2 a3 l0 (decide (a1 < (l0.length : Int)))) else (l21_TableCuts.j0 k a1 a2 a3 l0 false))
def l21_TableCuts.f (k : Nat) (lt : List (S42)) (a1 : Int) (a2 : Int) (a3 : Int) : Option (Bool) := (l21_Great.f k lt).bind fun t1 => (if t1 = true then ((l21_knows.f k).bind fun t2 => (some t2)) else ((table_Encode.f k lt).bind fun be => (if be.2 = 0 then (l21_TableCuts.g k be.1 a1 a2 a3) else (if (be.1.length : Int) = 0 then ((l21_knows.f k).bind fun t2 => (some t2)) else (none)))))
set_option maxHeartbeats 8000000 in
set_option maxRecDepth 100000 in
theorem l21_TableCuts.calls (k : Nat) (A0 : Option Addr) (c0 : Nat) (lt : List (S42)) (a1 : Int) (a2 : Int) (a3 : Int) (r : Bool) (w : World) (hr0 : Kd.C k42 w A0 lt.length lt) (hc0 : lt.length ≤ c0) (hG : Glob w) (h : l21_TableCuts.f k lt a1 a2 a3 = some r) :
  Calls Tryd.prog 7 #[.slice A0 lt.length c0, .int .i64 a1, .int .i64 a2, .int .u32 a3] w fun e w' => e = .returned (.bool r) ∧ Below w.heap.size w w' := by
 have HG := Aside0.mk hG
 clear hG
 have HR0 := Aside0.mk hr0
 have HC0 := Aside0.mk hc0
 clear hr0 hc0
 have HB := Aside0.mk (Below.refl w.heap.size w)
 have H := h
 clear h
 unfold l21_TableCuts.f at H
 obtain ⟨t1, A1_, H⟩ := Option.bind_eq_some_iff.mp H
 have AG := Aside0.mk A1_
 clear A1_
 by_cases c1 : t1 = true
 ·subst c1
  rw [if_pos rfl] at H
  obtain ⟨tk, Ak, H⟩ := Option.bind_eq_some_iff.mp H
  have AK := Aside0.mk Ak
  clear Ak
  obtain rfl := Option.some.inj H
  clear H
  go_enter Tryd.func7, Tryd.ntmps7
  go_wp2_with (first | ((with_reducible refine gate_callee (f := 10) rfl ?_); refine goesL_ (some 19) rfl rfl Tryd.func10 (by kernel_rfl) rfl #[.slice A0 lt.length c0] rfl jZ ?_; (with_reducible refine (l21_Great.calls k _ _ lt true _ ?side1 ?side2 AG.out).mono ?_); (case side1 => exact jC (Kd.C_below HR0.out HB.out)); (case side2 => exact HC0.out); rintro e w' ⟨rfl, ⟨nd, rfl⟩⟩; refine ⟨_, rfl, ?_⟩) | ((with_reducible refine gate_callee (f := 11) rfl ?_); refine goesL_ (some 20) rfl rfl Tryd.func11 (by kernel_rfl) rfl #[] rfl jZ ?_; (with_reducible refine (l21_knows.calls k  tk _ ?side1 AK.out).mono ?_); (case side1 => exact Glob.below HG.out (jH HB)); rintro e w8 ⟨rfl, hb⟩; refine ⟨_, rfl, ?_⟩; replace HB := Aside0.mk (zT (jH HB) hb); (try clear hb)))
  go_ret
  exact ⟨jE, jH HB⟩
 ·replace c1 := Bool.eq_false_iff.mpr c1
  subst c1
  rw [if_neg (show ¬ (false = true) by decide)] at H
  obtain ⟨⟨l0, te⟩, Ae, H⟩ := Option.bind_eq_some_iff.mp H
  have AE := Aside0.mk Ae
  clear Ae
  dsimp only at H
  by_cases ce : te = 0
  ·rw [if_pos ce] at H
   have ceb0 : (te == 0) = true := bI.mpr ce
   have ceb1 : (te != 0) = false := nF.mpr ce
   clear ce
   have HC8 := Aside0.mk (show (if a1 ≥ 0 then (l21_TableCuts.j0 k a1 a2 a3 l0 (decide (a1 < (l0.length : Int)))) else (l21_TableCuts.j0 k a1 a2 a3 l0 false)) = some r from H)
   clear H
   go_enter Tryd.func7, Tryd.ntmps7
   go_upto_region 6 with (first | ((with_reducible refine gate_callee (f := 10) rfl ?_); refine goesL_ (some 19) rfl rfl Tryd.func10 (by kernel_rfl) rfl #[.slice A0 lt.length c0] rfl jZ ?_; (with_reducible refine (l21_Great.calls k _ _ lt false _ ?side1 ?side2 AG.out).mono ?_); (case side1 => exact jC (Kd.C_below HR0.out HB.out)); (case side2 => exact HC0.out); rintro e w' ⟨rfl, ⟨nd, rfl⟩⟩; refine ⟨_, rfl, ?_⟩) | ((with_reducible refine gate_callee (f := 12) rfl ?_); refine goesL_ (some 23) rfl rfl Tryd.func12 (by kernel_rfl) rfl #[.slice A0 lt.length c0] rfl jZ ?_; (with_reducible refine (table_Encode.calls k _ _ lt l0 te _ ?side1 ?side2 ?side3 AE.out).mono ?_); (case side1 => exact jC (Kd.C_below HR0.out HB.out)); (case side2 => exact HC0.out); (case side3 => exact Glob.below HG.out (jH HB)); rintro e w11 ⟨vS, rfl, ho0, hb⟩; refine ⟨_, rfl, ?_⟩; have HOS := Aside0.mk (show Kd.V (Kd.int .u8) 5 _ w.heap.size (fun k_ => (True ∨ w.heap.size ≤ k_)) vS l0 from Kd.V_mono (Kd.R_V (Kd.R_lower ho0 (zZ (jH HB)))) (fun _ _ => .inl trivial)); replace HB := Aside0.mk (zT (jH HB) hb); clear hb; (try clear ho0); obtain ⟨AS, cS, eS⟩ := Kd.V_slice HOS.out; subst eS; have HO0 := HOS; clear HOS))
   go_cut [41] (fun v41 wc => ∃ (kq : Nat) (x41_7 : Bool), v41 = .bool x41_7 ∧ Aside0 (l21_TableCuts.j0 kq a1 a2 a3 l0 x41_7 = some r) ∧ Aside0 (kq ≤ k) ∧ Aside0 (Kd.V (Kd.int .u8) 5 wc w.heap.size (fun k_ => (True ∨ w.heap.size ≤ k_)) (.slice AS l0.length cS) l0) ∧ Aside0 (Below w.heap.size w wc))
   case first =>
    have H := HC8.out
    clear HC8
    by_cases c9 : a1 ≥ 0
    ·rw [if_pos c9] at H
     have c9b0 : decide (0 ≤ a1) = true := dT c9
     clear c9
     (first | rw [c9b0] | (simp only [i64_w, i32_w]; rw [c9b0]) | skip)
     have H' := Aside0.mk H
     clear H
     go_wp2
     go_meet
     case rel => exact ⟨_, (decide (a1 < (l0.length : Int))), jS, H', ⟨jO⟩, ⟨jV HO0⟩, ⟨jH HB⟩⟩
    ·rw [if_neg c9] at H
     have c9b0 : decide (0 ≤ a1) = false := dF c9
     clear c9
     (first | rw [c9b0] | (simp only [i64_w, i32_w]; rw [c9b0]) | skip)
     have H' := Aside0.mk H
     clear H
     go_wp2
     go_meet
     case rel => exact ⟨_, (false), jS, H', ⟨jO⟩, ⟨jV HO0⟩, ⟨jH HB⟩⟩
   case rest =>
    clear HC8
    obtain ⟨kq, x41_7, rfl, HA, HJ7, HO_9, HB⟩ := hcut
    cases kq with
    | zero => exact absurd HA.out (by simp [l21_TableCuts.j0])
    | succ kj7 =>
     have H := HA.out
     clear HA
     simp only [l21_TableCuts.j0] at H
     have HC10 := Aside0.mk H
     clear H
     go_upto_if 41 with (fail)
     go_cut [] (fun wc => ∃ (kq : Nat), Aside0 (l21_TableCuts.j1 kq a2 a3 l0 = some r) ∧ Aside0 (kq ≤ kj7) ∧ Aside0 (Kd.V (Kd.int .u8) 5 wc w.heap.size (fun k_ => (True ∨ w.heap.size ≤ k_)) (.slice AS l0.length cS) l0) ∧ Aside0 (Below w.heap.size w wc))
     case first =>
      have H := HC10.out
      clear HC10
      by_cases c11 : x41_7 = true
      ·subst c11
       rw [if_pos rfl] at H
       by_cases c12 : 0 ≤ a1
       ·rw [if_pos c12] at H
        have c12b0 := eq_true c12
        have c12b1 := dT c12
        clear c12
        by_cases c13 : a1 ≤ (l0.length : Int)
        ·rw [if_pos c13] at H
         have c13b0 := eq_true c13
         have c13b1 := dT c13
         clear c13
         obtain ⟨y424, hy424⟩ : ∃ y_ : List Int, y_ = (l0.take (a1 : Int).toNat) := ⟨_, rfl⟩
         simp only [Option.bind_some, ← hy424] at H
         have Ny424 := Aside0.mk hy424
         clear hy424
         replace H := Option.bind_eq_some_iff.mp H
         obtain ⟨⟨t429, t430⟩, A140, H⟩ := H
         try dsimp only at H
         have A14 := Aside0.mk A140
         clear A140
         by_cases c15 : t430 = 0
         ·rw [if_pos c15] at H
          exact absurd H (by simp)
         ·rw [if_neg c15] at H
          have c15b0 : (t430 == 0) = false := bF.mpr c15
          have c15b1 : (t430 != 0) = true := nI.mpr c15
          (first | rw [c15b0] | (simp only [i64_w, i32_w]; rw [c15b0]) | skip)
          have H' := Aside0.mk H
          clear H
          have q16 : (a1 : Int) ≤ ((l0.length : Int) : Int) := oD (jA)
          obtain ⟨i016, hi016, _, hsz16, _⟩ := info_parts info5
          have hroom16 : l0.length ≤ cS := (Kd.V_reads' HO_9.out).2.1
          have hC16 : Kd.F (Kd.int .u8) _ _ AS l0.length l0 := (Kd.V_at (base := w.heap.size) HO_9.out).2.2
          have hcut16 := cut_to (P := Tryd.prog) 25 5 .i64 Tryd.underlying25 hi016 AS l0.length cS a1 (oD (jA)) q16 hroom16
          have hr16 := Kd.F_take (m := (a1 : Int).toNat) hC16 (by omega)
          have hy16 : y424.length = (a1 : Int).toNat := (by rw [Ny424.out, List.length_take]; omega)
          rw [← Ny424.out] at hr16
          rw [← hy16] at hcut16
          have HO428 := Aside0.mk (show Kd.V (Kd.int .u8) 5 _ w.heap.size _ (.slice AS y424.length cS) y424 from Kd.V_mk (by omega) hr16)
          have HC428 := Aside0.mk (show y424.length ≤ cS from by omega)
          clear hr16 hC16 hroom16 hi016 hsz16
          have KY16 := Aside0.mk hy16
          clear hy16
          replace q16 := eq_true q16
          go_wp2_with (first | ((with_reducible refine gate_callee (f := 17) rfl ?_); refine goesL_ (some 46) rfl rfl Tryd.func17 (by kernel_rfl) rfl #[.slice AS y424.length cS] rfl jZ ?_; (with_reducible refine (table_Decode.calls kj7 _ _ y424 t429 t430 _ ?side1 ?side2 ?side3 A14.out).mono ?_); (case side1 => exact jC (Kd.V_reads' HO428.out).2.2); (case side2 => exact (Kd.V_reads' HO428.out).2.1); (case side3 => exact Glob.below HG.out (jH HB)); rintro e w17 ⟨v431, rfl, ho0, hb⟩; refine ⟨_, rfl, ?_⟩; have HO432 := Aside0.mk (Kd.S_lower (Kd.S_newM (M := fun k_ => (w.heap.size ≤ k_)) ho0 (zZ (jH HB)) (fun k_ h_ => h_)) (zZ (jH HB))); replace HO_9 := Aside0.mk (Kd.V_elder' (jV HO_9) (Kd.S_base ho0) hb); replace HO428 := Aside0.mk (Kd.V_elder' (jV HO428) (Kd.S_base ho0) hb); replace HB := Aside0.mk (zT (jH HB) hb); (try clear hb); (try clear hb2); (try clear hk); (try clear hi); (try clear ho0)))
          go_meet
          case rel => exact ⟨_, H', ⟨by have := HJ7.out; first | omega | exact Nat.le_refl _⟩, ⟨by (with_reducible repeat (first | apply Kd.V_alloc | apply Kd.V_drewN | apply Kd.V_drew)); exact Kd.V_mono HO_9.out (fun _ hk => hk.1)⟩, ⟨jH HB⟩⟩
        ·rw [if_neg c13] at H
         exact absurd H (by simp)
       ·rw [if_neg c12] at H
        exact absurd H (by simp)
      ·replace c11 := Bool.eq_false_iff.mpr c11
       subst c11
       rw [if_neg (show ¬ (false = true) by decide)] at H
       have H' := Aside0.mk H
       clear H
       go_wp2
       go_meet
       case rel => exact ⟨_, H', ⟨by have := HJ7.out; first | omega | exact Nat.le_refl _⟩, ⟨jV HO_9⟩, ⟨jH HB⟩⟩
     case rest =>
      clear HC10
      obtain ⟨kq, HA, HJ9, HO_9, HB⟩ := hcut
      cases kq with
      | zero => exact absurd HA.out (by simp [l21_TableCuts.j1])
      | succ kj9 =>
       have H := HA.out
       clear HA
       simp only [l21_TableCuts.j1] at H
       have HC18 := Aside0.mk H
       clear H
       go_upto_region 10 with (fail)
       go_cut [59] (fun v59 wc => ∃ (kq : Nat) (x59_17 : Bool), v59 = .bool x59_17 ∧ Aside0 (l21_TableCuts.j2 kq a2 a3 l0 x59_17 = some r) ∧ Aside0 (kq ≤ kj9) ∧ Aside0 (Kd.V (Kd.int .u8) 5 wc w.heap.size (fun k_ => (True ∨ w.heap.size ≤ k_)) (.slice AS l0.length cS) l0) ∧ Aside0 (Below w.heap.size w wc))
       case first =>
        have H := HC18.out
        clear HC18
        by_cases c19 : a2 < 0
        ·rw [if_pos c19] at H
         have c19b0 := dT c19
         clear c19
         (first | rw [c19b0] | (simp only [i64_w, i32_w]; rw [c19b0]) | skip)
         have H' := Aside0.mk H
         clear H
         go_wp2
         go_meet
         case rel => exact ⟨_, (true), jS, H', ⟨by have := HJ7.out; have := HJ9.out; first | omega | exact Nat.le_refl _⟩, ⟨jV HO_9⟩, ⟨jH HB⟩⟩
        ·rw [if_neg c19] at H
         have c19b0 := dF c19
         clear c19
         (first | rw [c19b0] | (simp only [i64_w, i32_w]; rw [c19b0]) | skip)
         have H' := Aside0.mk H
         clear H
         go_wp2
         go_meet
         case rel => exact ⟨_, (decide (a2 ≥ (wrap64 (8 * (l0.length : Int))))), jS, H', ⟨by have := HJ7.out; have := HJ9.out; first | omega | exact Nat.le_refl _⟩, ⟨jV HO_9⟩, ⟨jH HB⟩⟩
       case rest =>
        clear HC18
        obtain ⟨kq, x59_17, rfl, HA, HJ17, HO_9, HB⟩ := hcut
        cases kq with
        | zero => exact absurd HA.out (by simp [l21_TableCuts.j2])
        | succ kj17 =>
         have H := HA.out
         clear HA
         simp only [l21_TableCuts.j2] at H
         by_cases c20 : x59_17 = true
         ·subst c20
          rw [if_pos rfl] at H
          replace H := Option.bind_eq_some_iff.mp H
          obtain ⟨t433, A210, H⟩ := H
          try dsimp only at H
          have A21 := Aside0.mk A210
          clear A210
          obtain rfl := Option.some.inj H
          go_wp2_with (first | ((with_reducible refine gate_callee (f := 11) rfl ?_); refine goesL_ (some 60) rfl rfl Tryd.func11 (by kernel_rfl) rfl #[] rfl jZ ?_; (with_reducible refine (l21_knows.calls kj17  t433 _ ?side1 A21.out).mono ?_); (case side1 => exact Glob.below HG.out (jH HB)); rintro e w22 ⟨rfl, hb⟩; refine ⟨_, rfl, ?_⟩; replace HO_9 := Aside0.mk (Kd.V_below (jV HO_9) hb); replace HB := Aside0.mk (zT (jH HB) hb); (try clear hb); (try clear hb2); (try clear hk); (try clear hi)))
          go_ret
          exact ⟨jE, jH HB⟩
         ·replace c20 := Bool.eq_false_iff.mpr c20
          subst c20
          rw [if_neg (show ¬ (false = true) by decide)] at H
          have H' := Aside0.mk H
          clear H
          go_wp2
          go_loopg [3, 13, 14, 15] kj17 (fun kq v3 v13 v14 v15 w' => ∃ (x3_4 : Int) (x13_4 : List Int) (x14_4 : Bool) (x15_4 : Int), v3 = .int .u32 x3_4 ∧ v14 = .bool x14_4 ∧ v15 = .int .i64 x15_4 ∧ Aside0 (l21_TableCuts.l0 kq a2 x3_4 l0 x13_4 x14_4 x15_4 = some r) ∧ Aside0 (kq ≤ kj17) ∧ Aside0 (Kd.V (Kd.int .u8) 5 w' w.heap.size (fun k_ => (True ∨ w.heap.size ≤ k_)) (.slice AS l0.length cS) l0) ∧ Aside0 (Kd.V (Kd.int .u8) 5 w' w.heap.size (fun k_ => (True ∨ w.heap.size ≤ k_)) v13 x13_4) ∧ Aside0 (Below w.heap.size w w'))
          case atStart => exact ⟨(a3), (l0), (false), (0), jS, jS, jS, H', ⟨Nat.le_refl _⟩, ⟨jV HO_9⟩, ⟨jV HO_9⟩, ⟨jH HB⟩⟩
          case round =>
           clear H'
           obtain ⟨x3_4, x13_4, x14_4, x15_4, rfl, rfl, rfl, HA, HK4, HO_9, HO_13, HB⟩ := hrel
           cases gk with
           | zero => exact absurd HA.out (by simp [l21_TableCuts.l0])
           | succ k4 =>
            have H := HA.out
            clear HA
            simp only [l21_TableCuts.l0] at H
            have HC23 := Aside0.mk H
            clear H
            go_upto_region 15 with (fail)
            go_cut [72] (fun v72 wc => ∃ (kq : Nat) (x72_22 : Bool), v72 = .bool x72_22 ∧ Aside0 (l21_TableCuts.j4 kq a2 x3_4 l0 x13_4 x14_4 x15_4 x72_22 = some r) ∧ Aside0 (kq ≤ k4) ∧ Aside0 (Kd.V (Kd.int .u8) 5 wc w.heap.size (fun k_ => (True ∨ w.heap.size ≤ k_)) (.slice AS l0.length cS) l0) ∧ Aside0 (Kd.V (Kd.int .u8) 5 wc w.heap.size (fun k_ => (True ∨ w.heap.size ≤ k_)) u13 x13_4) ∧ Aside0 (Below w.heap.size w wc))
            case first =>
             have H := HC23.out
             clear HC23
             by_cases c24 : x15_4 < 32
             ·rw [if_pos c24] at H
              have c24b0 := dT c24
              clear c24
              (first | rw [c24b0] | (simp only [i64_w, i32_w]; rw [c24b0]) | skip)
              have H' := Aside0.mk H
              clear H
              go_wp2
              go_meet
              case rel => exact ⟨_, (decide ((wrap64 (a2 + x15_4)) < (wrap64 (8 * (l0.length : Int))))), jS, H', ⟨by have := HJ7.out; have := HJ9.out; have := HJ17.out; have := HK4.out; first | omega | exact Nat.le_refl _⟩, ⟨jV HO_9⟩, ⟨jV HO_13⟩, ⟨jH HB⟩⟩
             ·rw [if_neg c24] at H
              have c24b0 := dF c24
              clear c24
              (first | rw [c24b0] | (simp only [i64_w, i32_w]; rw [c24b0]) | skip)
              have H' := Aside0.mk H
              clear H
              go_wp2
              go_meet
              case rel => exact ⟨_, (false), jS, H', ⟨by have := HJ7.out; have := HJ9.out; have := HJ17.out; have := HK4.out; first | omega | exact Nat.le_refl _⟩, ⟨jV HO_9⟩, ⟨jV HO_13⟩, ⟨jH HB⟩⟩
            case rest =>
             clear HC23
             obtain ⟨kq, x72_22, rfl, HA, HJ22, HO_9, HO_13, HB⟩ := hcut
             cases kq with
             | zero => exact absurd HA.out (by simp [l21_TableCuts.j4])
             | succ kj22 =>
              have H := HA.out
              clear HA
              simp only [l21_TableCuts.j4] at H
              by_cases c25 : x72_22 = true
              ·subst c25
               rw [if_pos rfl] at H
               by_cases c26 : (Int.tmod x3_4 2) = 1
               ·rw [if_pos c26] at H
                have c26b0 : ((Int.tmod x3_4 2) == 1) = true := bI.mpr c26
                have c26b1 : ((Int.tmod x3_4 2) != 1) = false := nF.mpr c26
                clear c26
                replace H := Option.bind_eq_some_iff.mp H
                obtain ⟨t434, A270, H⟩ := H
                try dsimp only at H
                have A27 := Aside0.mk A270
                clear A270
                have H' := Aside0.mk H
                clear H
                obtain ⟨Ao28, co28, eo28⟩ := Kd.V_slice HO_13.out
                subst eo28
                go_wp2_with (first | ((with_reducible refine gate_callee (f := 26) rfl ?_); refine goesL_ (some 82) rfl rfl Tryd.func26 (by kernel_rfl) rfl #[.slice Ao28 x13_4.length co28, .int .i64 (wrap64 (a2 + x15_4))] rfl jZ ?_; (with_reducible refine (r20_Turn.calls kj22 _ _ x13_4 (wrap64 (a2 + x15_4)) t434 _ ?side1 ?side2 A27.out).mono ?_); (case side1 => exact jC (Kd.V_reads' HO_13.out).2.2); (case side2 => exact (Kd.V_reads' HO_13.out).2.1); rintro e w29 ⟨v435, rfl, ho0, hb⟩; refine ⟨_, rfl, ?_⟩; have HO436 := Aside0.mk (Kd.R_lower (Kd.R_newM (M := fun k_ => (w.heap.size ≤ k_)) ho0 (zZ (jH HB)) (fun k_ h_ => h_)) (zZ (jH HB))); replace HO_9 := Aside0.mk (Kd.V_elder' (jV HO_9) (Kd.R_base ho0) hb); replace HO_13 := Aside0.mk (Kd.V_elder' (jV HO_13) (Kd.R_base ho0) hb); replace HB := Aside0.mk (zT (jH HB) hb); (try clear hb); (try clear hb2); (try clear hk); (try clear hi); (try clear ho0)))
                go_roundg kj22
                case measure => have := HJ7.out; have := HJ9.out; have := HJ17.out; have := HK4.out; have := HJ22.out; omega
                case rel => exact ⟨((Int.tdiv x3_4 2) % 4294967296), (t434), (true), (wrap64 (x15_4 + 1)), jS, jS, jS, H', ⟨by have := HJ7.out; have := HJ9.out; have := HJ17.out; have := HK4.out; have := HJ22.out; omega⟩, ⟨by (with_reducible repeat (first | apply Kd.V_alloc | apply Kd.V_drewN | apply Kd.V_drew)); exact Kd.V_mono HO_9.out (fun _ hk => hk.1)⟩, ⟨Kd.V_mono (Kd.R_V (by (with_reducible repeat (first | apply Kd.R_alloc | apply Kd.R_drewN | apply Kd.R_drew)); exact Kd.R_mono HO436.out (fun _ hk => hk.1))) (fun k_ hk => by first | exact ⟨(.inr (hk.1)), hk.2⟩ | exact (.inr (hk)))⟩, ⟨jH HB⟩⟩
               ·rw [if_neg c26] at H
                have c26b0 : ((Int.tmod x3_4 2) == 1) = false := bF.mpr c26
                have c26b1 : ((Int.tmod x3_4 2) != 1) = true := nI.mpr c26
                have H' := Aside0.mk H
                clear H
                go_wp2
                go_roundg kj22
                case measure => have := HJ7.out; have := HJ9.out; have := HJ17.out; have := HK4.out; have := HJ22.out; omega
                case rel => exact ⟨((Int.tdiv x3_4 2) % 4294967296), (x13_4), (x14_4), (wrap64 (x15_4 + 1)), jS, jS, jS, H', ⟨by have := HJ7.out; have := HJ9.out; have := HJ17.out; have := HK4.out; have := HJ22.out; omega⟩, ⟨jV HO_9⟩, ⟨jV HO_13⟩, ⟨jH HB⟩⟩
              ·replace c25 := Bool.eq_false_iff.mpr c25
               subst c25
               rw [if_neg (show ¬ (false = true) by decide)] at H
               replace H := Option.bind_eq_some_iff.mp H
               obtain ⟨⟨t437, t438⟩, A300, H⟩ := H
               try dsimp only at H
               have A30 := Aside0.mk A300
               clear A300
               by_cases c31 : ((t438 == 10) == x14_4) = true
               ·rw [if_pos c31] at H
                have c31b0 : ((t438 == 10) == x14_4) = true := c31
                (try (have c31b1 : decide ((t438 == 10) = x14_4) = true := by simpa using c31))
                (try (have c31b2 : ((t438 == 10) == x14_4) = true := by simpa using c31))
                clear c31
                by_cases c32 : x14_4 = true
                ·subst c32
                 rw [if_pos rfl] at H
                 replace H := Option.bind_eq_some_iff.mp H
                 obtain ⟨t441, A330, H⟩ := H
                 try dsimp only at H
                 have A33 := Aside0.mk A330
                 clear A330
                 obtain rfl := Option.some.inj H
                 obtain ⟨Ao34, co34, eo34⟩ := Kd.V_slice HO_13.out
                 subst eo34
                 go_wp2_with (first | ((with_reducible refine gate_callee (f := 17) rfl ?_); refine goesL_ (some 87) rfl rfl Tryd.func17 (by kernel_rfl) rfl #[.slice Ao34 x13_4.length co34] rfl jZ ?_; (with_reducible refine (table_Decode.calls kj22 _ _ x13_4 t437 t438 _ ?side1 ?side2 ?side3 A30.out).mono ?_); (case side1 => exact jC (Kd.V_reads' HO_13.out).2.2); (case side2 => exact (Kd.V_reads' HO_13.out).2.1); (case side3 => exact Glob.below HG.out (jH HB)); rintro e w35 ⟨v439, rfl, ho0, hb⟩; refine ⟨_, rfl, ?_⟩; have HO440 := Aside0.mk (Kd.S_lower (Kd.S_newM (M := fun k_ => (w.heap.size ≤ k_)) ho0 (zZ (jH HB)) (fun k_ h_ => h_)) (zZ (jH HB))); replace HO_9 := Aside0.mk (Kd.V_elder' (jV HO_9) (Kd.S_base ho0) hb); replace HO_13 := Aside0.mk (Kd.V_elder' (jV HO_13) (Kd.S_base ho0) hb); replace HB := Aside0.mk (zT (jH HB) hb); (try clear hb); (try clear hb2); (try clear hk); (try clear hi); (try clear ho0)) | (go_at_call 11; (with_reducible refine (l21_knows.calls kj22  t441 _ ?side1 A33.out).mono ?_); (case side1 => exact Glob.below HG.out (jH HB)); rintro e w36 ⟨rfl, hb⟩; replace HO_9 := Aside0.mk (Kd.V_below (jV HO_9) hb); replace HO_13 := Aside0.mk (Kd.V_below (jV HO_13) hb); replace HO440 := Aside0.mk (Kd.S_below (by (with_reducible repeat (first | apply Kd.S_alloc | apply Kd.S_drewN | apply Kd.S_drew)); exact HO440.out) hb); replace HB := Aside0.mk (zT (jH HB) hb); (try clear hb); (try clear hb2); (try clear hk); (try clear hi)))
                 go_ret
                 exact ⟨jE, jH HB⟩
                ·replace c32 := Bool.eq_false_iff.mpr c32
                 subst c32
                 rw [if_neg (show ¬ (false = true) by decide)] at H
                 by_cases c37 : t438 = 0
                 ·rw [if_pos c37] at H
                  have c37b0 : (t438 == 0) = true := bI.mpr c37
                  have c37b1 : (t438 != 0) = false := nF.mpr c37
                  clear c37
                  replace H := Option.bind_eq_some_iff.mp H
                  obtain ⟨t442, A380, H⟩ := H
                  try dsimp only at H
                  have A38 := Aside0.mk A380
                  clear A380
                  obtain rfl := Option.some.inj H
                  obtain ⟨Ao39, co39, eo39⟩ := Kd.V_slice HO_13.out
                  subst eo39
                  go_wp2_with (first | ((with_reducible refine gate_callee (f := 17) rfl ?_); refine goesL_ (some 87) rfl rfl Tryd.func17 (by kernel_rfl) rfl #[.slice Ao39 x13_4.length co39] rfl jZ ?_; (with_reducible refine (table_Decode.calls kj22 _ _ x13_4 t437 t438 _ ?side1 ?side2 ?side3 A30.out).mono ?_); (case side1 => exact jC (Kd.V_reads' HO_13.out).2.2); (case side2 => exact (Kd.V_reads' HO_13.out).2.1); (case side3 => exact Glob.below HG.out (jH HB)); rintro e w40 ⟨v439, rfl, ho0, hb⟩; refine ⟨_, rfl, ?_⟩; have HO440 := Aside0.mk (Kd.S_lower (Kd.S_newM (M := fun k_ => (w.heap.size ≤ k_)) ho0 (zZ (jH HB)) (fun k_ h_ => h_)) (zZ (jH HB))); replace HO_9 := Aside0.mk (Kd.V_elder' (jV HO_9) (Kd.S_base ho0) hb); replace HO_13 := Aside0.mk (Kd.V_elder' (jV HO_13) (Kd.S_base ho0) hb); replace HB := Aside0.mk (zT (jH HB) hb); (try clear hb); (try clear hb2); (try clear hk); (try clear hi); (try clear ho0)) | (go_at_call 11; (with_reducible refine (l21_knows.calls kj22  t442 _ ?side1 A38.out).mono ?_); (case side1 => exact Glob.below HG.out (jH HB)); rintro e w41 ⟨rfl, hb⟩; replace HO_9 := Aside0.mk (Kd.V_below (jV HO_9) hb); replace HO_13 := Aside0.mk (Kd.V_below (jV HO_13) hb); replace HO440 := Aside0.mk (Kd.S_below (by (with_reducible repeat (first | apply Kd.S_alloc | apply Kd.S_drewN | apply Kd.S_drew)); exact HO440.out) hb); replace HB := Aside0.mk (zT (jH HB) hb); (try clear hb); (try clear hb2); (try clear hk); (try clear hi)))
                  go_ret
                  exact ⟨jE, jH HB⟩
                 ·rw [if_neg c37] at H
                  exact absurd H (by simp)
               ·rw [if_neg c31] at H
                exact absurd H (by simp)
  ·rw [if_neg ce] at H
   have ceb0 : (te == 0) = false := bF.mpr ce
   have ceb1 : (te != 0) = true := nI.mpr ce
   by_cases cl : (l0.length : Int) = 0
   ·rw [if_pos cl] at H
    obtain rfl : l0 = [] := List.eq_nil_of_length_eq_zero (by omega)
    clear cl ce
    obtain ⟨tk, Ak, H⟩ := Option.bind_eq_some_iff.mp H
    have AK := Aside0.mk Ak
    clear Ak
    obtain rfl := Option.some.inj H
    clear H
    go_enter Tryd.func7, Tryd.ntmps7
    go_wp2_with (first | ((with_reducible refine gate_callee (f := 10) rfl ?_); refine goesL_ (some 19) rfl rfl Tryd.func10 (by kernel_rfl) rfl #[.slice A0 lt.length c0] rfl jZ ?_; (with_reducible refine (l21_Great.calls k _ _ lt false _ ?side1 ?side2 AG.out).mono ?_); (case side1 => exact jC (Kd.C_below HR0.out HB.out)); (case side2 => exact HC0.out); rintro e w' ⟨rfl, ⟨nd, rfl⟩⟩; refine ⟨_, rfl, ?_⟩) | ((with_reducible refine gate_callee (f := 12) rfl ?_); refine goesL_ (some 23) rfl rfl Tryd.func12 (by kernel_rfl) rfl #[.slice A0 lt.length c0] rfl jZ ?_; (with_reducible refine (table_Encode.calls k _ _ lt ([] : List Int) te _ ?side1 ?side2 ?side3 AE.out).mono ?_); (case side1 => exact jC (Kd.C_below HR0.out HB.out)); (case side2 => exact HC0.out); (case side3 => exact Glob.below HG.out (jH HB)); rintro e w11 ⟨vS, rfl, ho0, hb⟩; refine ⟨_, rfl, ?_⟩; have HOS := Aside0.mk (show Kd.V (Kd.int .u8) 5 _ w.heap.size (fun k_ => (True ∨ w.heap.size ≤ k_)) vS ([] : List Int) from Kd.V_mono (Kd.R_V (Kd.R_lower ho0 (zZ (jH HB)))) (fun _ _ => .inl trivial)); replace HB := Aside0.mk (zT (jH HB) hb); clear hb; (try clear ho0); obtain ⟨AS, cS, eS⟩ := Kd.V_slice HOS.out; subst eS; have HO0 := HOS; clear HOS) | (go_at_call 11; (with_reducible refine (l21_knows.calls k  tk _ ?side1 AK.out).mono ?_); (case side1 => exact Glob.below HG.out (jH HB)); rintro e w8 ⟨rfl, hb⟩; replace HB := Aside0.mk (zT (jH HB) hb); (try clear hb)))
    go_ret
    exact ⟨jE, jH HB⟩
   ·rw [if_neg cl] at H
    exact absurd H (by simp)
end Go.Proofs.YtahacmdhhfmhiaaDoor.M
