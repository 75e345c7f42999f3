/- What Go functions compute; their calls come to it. No condition. -/
import Derived.Test.YtahacmdhhfmhiaaDoorM0
import Derived.Test.YtahacmdhhfmhiaaDoorMF
import Derived.Test.YtahacmdhhfmhiaaDoorMG
import Derived.Test.YtahacmdhhfmhiaaDoorMH
namespace Go.Proofs.YtahacmdhhfmhiaaDoor.M
open Go.RowKit Go.Proofs.YtahacmdhhfmhiaaDoorW.PrintWords Go.Proofs.YtahacmdhhfmhiaaDoorW.PrintLast Go.Proofs.YtahacmdhhfmhiaaDoorW.PrintMore
attribute [local go_sem] max2_int min2_int max_two min_two max_three min_three max_four min_four   -- for this text's walks alone
set_option linter.unusedVariables false
set_option linter.unusedSimpArgs false
def r03_Decode.l0 : Nat → List Int → List (S59) → Int → Option ((List (S59)) × Int)
 | 0, _, _, _ => none
 | k + 1, x0, x4, x5 => if x5 < (x0.length : Int) then (if 0 ≤ (wrap64 (x5 + 4)) then (if (wrap64 (x5 + 4)) < (x0.length : Int) then (if 0 ≤ (wrap64 (x5 + 5)) then (if (wrap64 (x5 + 5)) < (x0.length : Int) then (if 0 ≤ (wrap64 (x5 + 6)) then (if (wrap64 (x5 + 6)) < (x0.length : Int) then (if 0 ≤ (wrap64 (x5 + 7)) then (if (wrap64 (x5 + 7)) < (x0.length : Int) then (if 0 ≤ x5 then (if 0 ≤ (wrap64 (x5 + 1)) then (if (wrap64 (x5 + 1)) < (x0.length : Int) then (if 0 ≤ (wrap64 (x5 + 2)) then (if (wrap64 (x5 + 2)) < (x0.length : Int) then (if 0 ≤ (wrap64 (x5 + 3)) then (if (wrap64 (x5 + 3)) < (x0.length : Int) then ((r02_Right.f k (wrap64 ((wrap64 (rd x0 x5)) + (wrap64 (256 * (wrap64 (rd x0 (wrap64 (x5 + 1)))))))) (wrap64 (rd x0 (wrap64 (x5 + 2)))) (wrap64 (rd x0 (wrap64 (x5 + 3)))) ((((((((rd x0 (wrap64 (x5 + 4))) % 4294967296) + ((((rd x0 (wrap64 (x5 + 5))) % 4294967296) * 256) % 4294967296)) % 4294967296) + ((((rd x0 (wrap64 (x5 + 6))) % 4294967296) * 65536) % 4294967296)) % 4294967296) + ((((rd x0 (wrap64 (x5 + 7))) % 4294967296) * 16777216) % 4294967296)) % 4294967296)).bind fun t595 => (if t595 = true then (if x4.length < 4398046511104 then (r03_Decode.l0 k x0 (x4 ++ [(⟨wrap64 ((wrap64 (rd x0 x5)) + (wrap64 (256 * (wrap64 (rd x0 (wrap64 (x5 + 1))))))), wrap64 (rd x0 (wrap64 (x5 + 2))), wrap64 (rd x0 (wrap64 (x5 + 3))), (((((((rd x0 (wrap64 (x5 + 4))) % 4294967296) + ((((rd x0 (wrap64 (x5 + 5))) % 4294967296) * 256) % 4294967296)) % 4294967296) + ((((rd x0 (wrap64 (x5 + 6))) % 4294967296) * 65536) % 4294967296)) % 4294967296) + ((((rd x0 (wrap64 (x5 + 7))) % 4294967296) * 16777216) % 4294967296)) % 4294967296⟩ : S59)]) (wrap64 (x5 + 8))) else (none)) else (some (([] : List (S59)), 2)))) else (none)) else (none)) else (none)) else (none)) else (none)) else (none)) else (none)) else (none)) else (none)) else (none)) else (none)) else (none)) else (none)) else (none)) else (none)) else (some (x4, 0))
def r03_Decode.f (k : Nat) (l0 : List Int) : Option ((List (S59)) × Int) := if (l0.length : Int) > 32768 then (some (([] : List (S59)), 3)) else (if ((l0.length : Int) % 8) > 0 then (some (([] : List (S59)), 9)) else (r03_Decode.l0 k l0 ([] : List (S59)) 0))
def r03_Decode.T9 : Bool × List (List Nat × List Nat) := (true, [([], []), ([], []), ([1], [1]), ([0, 2], [0, 2]), ([3], [3]), ([4], [4]), ([], []), ([], []), ([7], [7]), ([6, 8], [6, 8]), ([9], [9]), ([10], [10]), ([11], [11]), ([5, 12], [5, 12]), ([], []), ([], []), ([15], [15]), ([14, 16], [14, 16]), ([17], [17]), ([18], [18]), ([19], [19]), ([13, 20], [13, 20]), ([], []), ([], []), ([23], [23]), ([22, 24], [22, 24]), ([25], [25]), ([26], [26]), ([27], [27]), ([21, 28], [21, 28]), ([29, 0, 1, 2, 3, 4, 5, 6, 7, 8, 9, 10, 11, 12, 13, 14, 15, 16, 17, 18, 19, 20, 21, 22, 23, 24, 25, 26, 27, 28, 29], [29])])
def r03_Decode.B9 : List Nat := [0, 0, 2, 7, 15, 31, 0, 0, 128, 448, 960, 1984, 4032, 8191, 0, 0, 32768, 114688, 245760, 507904, 1032192, 2097151, 0, 0, 8388608, 29360128, 62914560, 130023424, 264241152, 536870911, 1073741823]
theorem r03_Decode.tab9 : rtab .any (opsOf Tryd.f47 9) = r03_Decode.T9 := by kernel_rfl
theorem r03_Decode.bits9 : waitsOk r03_Decode.T9.2 r03_Decode.B9 = true := by kernel_rfl
def r03_Decode.T10 : Bool × List (List Nat × List Nat) := (true, [([], []), ([], []), ([0, 1], [0, 1]), ([2], [2]), ([3], [3]), ([], []), ([], []), ([6], [6]), ([5, 7], [5, 7]), ([8], [8]), ([9], [9]), ([10], [10]), ([4, 11], [4, 11]), ([], []), ([], []), ([14], [14]), ([13, 15], [13, 15]), ([16], [16]), ([17], [17]), ([], []), ([], []), ([20], [20]), ([19, 21], [19, 21]), ([22], [22]), ([23], [23]), ([], []), ([12, 18, 24, 25], [12, 18, 24, 25]), ([], []), ([27, 26, 0, 1, 2, 3, 4, 5, 6, 7, 8, 9, 10, 11, 12, 13, 14, 15, 16, 17, 18, 19, 20, 21, 22, 23, 24, 25, 26, 27], [26, 27])])
def r03_Decode.B10 : List Nat := [0, 0, 3, 7, 15, 0, 0, 64, 224, 480, 992, 2016, 4095, 0, 0, 16384, 57344, 122880, 253952, 0, 0, 1048576, 3670016, 7864320, 16252928, 0, 67108863, 0, 268435455]
theorem r03_Decode.tab10 : rtab .any (opsOf Tryd.f47 10) = r03_Decode.T10 := by kernel_rfl
theorem r03_Decode.bits10 : waitsOk r03_Decode.T10.2 r03_Decode.B10 = true := by kernel_rfl
set_option maxHeartbeats 8000000 in
set_option maxRecDepth 100000 in
theorem r03_Decode.calls (k : Nat) (A0 : Option Addr) (c0 : Nat) (l0 : List Int) (r1 : List (S59)) (r2 : Int) (w : World) (hr0 : Kd.C (Kd.int .u8) w A0 l0.length l0) (hc0 : l0.length ≤ c0) (h : r03_Decode.f k l0 = some (r1, r2)) :
  Calls Tryd.prog 47 #[.slice A0 l0.length c0] w fun e w' => ∃ v0_ : Value, e = .returned (.tuple #[v0_, .int .i64 r2]) ∧ Kd.R k59 59 w' w.heap.size (fun _ => True) v0_ r1 ∧ Below w.heap.size w w' := by
 have hu59 := Tryd.underlying59
 have HR0 := Aside0.mk hr0
 have HC0 := Aside0.mk hc0
 clear hr0 hc0
 have HB := Aside0.mk (Below.refl w.heap.size w)
 have H : (if (l0.length : Int) > 32768 then (some (([] : List (S59)), 3)) else (if ((l0.length : Int) % 8) > 0 then (some (([] : List (S59)), 9)) else (r03_Decode.l0 k l0 ([] : List (S59)) 0))) = some (r1, r2) := h
 clear h
 by_cases c2 : (l0.length : Int) > 32768
 ·rw [if_pos c2] at H
  have c2b0 : decide (32768 < (l0.length : Int)) = true := dT c2
  have c2b1 : decide (32768 < l0.length) = true := dT (by omega)
  clear c2
  simp only [Option.some.injEq, Prod.mk.injEq] at H
  obtain ⟨rfl, rfl⟩ := H
  go_enter Tryd.func47, Tryd.ntmps47
  go_wp2
  go_ret2
  exact ⟨_, jE, by first | exact Kd.R_nil _ _ _ _ _ | exact Kd.N_nil _ _ _ _ _ | exact Kd.V_nil _ _ _ _ _ | exact Kd.Q_nil _ _ _ _ _ | exact Kd.S_nil _ _ _ _ _, jH HB⟩
 ·rw [if_neg c2] at H
  have c2b0 : decide (32768 < (l0.length : Int)) = false := dF c2
  have c2b1 : decide (32768 < l0.length) = false := dF (by omega)
  clear c2
  by_cases c3 : ((l0.length : Int) % 8) > 0
  ·rw [if_pos c3] at H
   have c3b0 : decide (0 < ((l0.length : Int) % 8)) = true := dT c3
   clear c3
   simp only [Option.some.injEq, Prod.mk.injEq] at H
   obtain ⟨rfl, rfl⟩ := H
   go_enter Tryd.func47, Tryd.ntmps47
   go_wp2
   go_ret2
   exact ⟨_, jE, by first | exact Kd.R_nil _ _ _ _ _ | exact Kd.N_nil _ _ _ _ _ | exact Kd.V_nil _ _ _ _ _ | exact Kd.Q_nil _ _ _ _ _ | exact Kd.S_nil _ _ _ _ _, jH HB⟩
  ·rw [if_neg c3] at H
   have c3b0 : decide (0 < ((l0.length : Int) % 8)) = false := dF c3
   clear c3
   have H' := Aside0.mk H
   clear H
   go_enter Tryd.func47, Tryd.ntmps47
   go_wp2
   go_loopg [4, 5] k (fun kq v4 v5 w' => ∃ (x4_1 : List (S59)) (x5_1 : Int), v5 = .int .i64 x5_1 ∧ Aside0 (r03_Decode.l0 kq l0 x4_1 x5_1 = some (r1, r2)) ∧ Aside0 (kq ≤ k) ∧ Aside0 (Kd.R k59 59 w' w.heap.size (fun _ => True) v4 x4_1) ∧ Aside0 (Below w.heap.size w w'))
   case atStart => exact ⟨(([] : List (S59))), (0), jS, H', ⟨Nat.le_refl _⟩, ⟨by first | exact Kd.R_nil _ _ _ _ _ | exact Kd.N_nil _ _ _ _ _ | exact Kd.V_nil _ _ _ _ _ | exact Kd.Q_nil _ _ _ _ _ | exact Kd.S_nil _ _ _ _ _⟩, ⟨jH HB⟩⟩
   case round =>
    clear H'
    obtain ⟨x4_1, x5_1, rfl, HA, HK1, HO_4, HB⟩ := hrel
    cases gk with
    | zero => exact absurd HA.out (by simp [r03_Decode.l0])
    | succ k1 =>
     have H := HA.out
     clear HA
     simp only [r03_Decode.l0] at H
     by_cases c4 : x5_1 < (l0.length : Int)
     ·rw [if_pos c4] at H
      have c4b0 := dT c4
      clear c4
      obtain ⟨ji5, hji5⟩ : ∃ j_ : Int, (wrap64 (x5_1 + 4)) = j_ := ⟨_, rfl⟩
      first | rw [hji5] at H | simp only [hji5] at H
      have hji5w : (IntKind.i64.wrap (x5_1 + 4)) = ji5 := (i64_w _).trans hji5
      by_cases c6 : 0 ≤ (ji5)
      ·rw [if_pos c6] at H
       have c6b0 := dT c6
       clear c6
       by_cases c7 : (ji5) < (l0.length : Int)
       ·rw [if_pos c7] at H
        have c7b0 := dT c7
        clear c7
        obtain ⟨ji8, hji8⟩ : ∃ j_ : Int, (wrap64 (x5_1 + 5)) = j_ := ⟨_, rfl⟩
        first | rw [hji8] at H | simp only [hji8] at H
        have hji8w : (IntKind.i64.wrap (x5_1 + 5)) = ji8 := (i64_w _).trans hji8
        by_cases c9 : 0 ≤ (ji8)
        ·rw [if_pos c9] at H
         have c9b0 := dT c9
         clear c9
         by_cases c10 : (ji8) < (l0.length : Int)
         ·rw [if_pos c10] at H
          have c10b0 := dT c10
          clear c10
          obtain ⟨ji11, hji11⟩ : ∃ j_ : Int, (wrap64 (x5_1 + 6)) = j_ := ⟨_, rfl⟩
          first | rw [hji11] at H | simp only [hji11] at H
          have hji11w : (IntKind.i64.wrap (x5_1 + 6)) = ji11 := (i64_w _).trans hji11
          by_cases c12 : 0 ≤ (ji11)
          ·rw [if_pos c12] at H
           have c12b0 := dT c12
           clear c12
           by_cases c13 : (ji11) < (l0.length : Int)
           ·rw [if_pos c13] at H
            have c13b0 := dT c13
            clear c13
            obtain ⟨ji14, hji14⟩ : ∃ j_ : Int, (wrap64 (x5_1 + 7)) = j_ := ⟨_, rfl⟩
            first | rw [hji14] at H | simp only [hji14] at H
            have hji14w : (IntKind.i64.wrap (x5_1 + 7)) = ji14 := (i64_w _).trans hji14
            by_cases c15 : 0 ≤ (ji14)
            ·rw [if_pos c15] at H
             have c15b0 := dT c15
             clear c15
             by_cases c16 : (ji14) < (l0.length : Int)
             ·rw [if_pos c16] at H
              have c16b0 := dT c16
              clear c16
              by_cases c17 : 0 ≤ x5_1
              ·rw [if_pos c17] at H
               have c17b0 := dT c17
               clear c17
               obtain ⟨ji18, hji18⟩ : ∃ j_ : Int, (wrap64 (x5_1 + 1)) = j_ := ⟨_, rfl⟩
               first | rw [hji18] at H | simp only [hji18] at H
               have hji18w : (IntKind.i64.wrap (x5_1 + 1)) = ji18 := (i64_w _).trans hji18
               by_cases c19 : 0 ≤ (ji18)
               ·rw [if_pos c19] at H
                have c19b0 := dT c19
                clear c19
                by_cases c20 : (ji18) < (l0.length : Int)
                ·rw [if_pos c20] at H
                 have c20b0 := dT c20
                 clear c20
                 obtain ⟨ji21, hji21⟩ : ∃ j_ : Int, (wrap64 (x5_1 + 2)) = j_ := ⟨_, rfl⟩
                 first | rw [hji21] at H | simp only [hji21] at H
                 have hji21w : (IntKind.i64.wrap (x5_1 + 2)) = ji21 := (i64_w _).trans hji21
                 by_cases c22 : 0 ≤ (ji21)
                 ·rw [if_pos c22] at H
                  have c22b0 := dT c22
                  clear c22
                  by_cases c23 : (ji21) < (l0.length : Int)
                  ·rw [if_pos c23] at H
                   have c23b0 := dT c23
                   clear c23
                   obtain ⟨ji24, hji24⟩ : ∃ j_ : Int, (wrap64 (x5_1 + 3)) = j_ := ⟨_, rfl⟩
                   first | rw [hji24] at H | simp only [hji24] at H
                   have hji24w : (IntKind.i64.wrap (x5_1 + 3)) = ji24 := (i64_w _).trans hji24
                   by_cases c25 : 0 ≤ (ji24)
                   ·rw [if_pos c25] at H
                    have c25b0 := dT c25
                    clear c25
                    by_cases c26 : (ji24) < (l0.length : Int)
                    ·rw [if_pos c26] at H
                     have c26b0 := dT c26
                     clear c26
                     obtain ⟨jk, hjk⟩ : ∃ j_ : Int, ((rd l0 ji5 + rd l0 ji8 % 4294967296 * 256 + rd l0 ji11 % 4294967296 * 65536 + rd l0 ji14 % 4294967296 * 16777216) % 4294967296) = j_ := ⟨_, rfl⟩
                     have hjkN : (((((((rd l0 (ji5)) % 4294967296) + ((((rd l0 (ji8)) % 4294967296) * 256) % 4294967296)) % 4294967296) + ((((rd l0 (ji11)) % 4294967296) * 65536) % 4294967296)) % 4294967296) + ((((rd l0 (ji14)) % 4294967296) * 16777216) % 4294967296)) % 4294967296 = jk := by rw [← hjk]; omega
                     have hjkW : IntKind.u32.wrap (IntKind.u32.wrap (IntKind.u32.wrap (IntKind.u32.wrap (rd l0 ji5) + IntKind.u32.wrap (IntKind.u32.wrap (rd l0 ji8) * 256)) + IntKind.u32.wrap (IntKind.u32.wrap (rd l0 ji11) * 65536)) + IntKind.u32.wrap (IntKind.u32.wrap (rd l0 ji14) * 16777216)) = jk := by simp only [IntKind.wrap_u32]; exact hjkN
                     simp only [hjkN] at H
                     replace H := Option.bind_eq_some_iff.mp H
                     obtain ⟨t595, A270, H⟩ := H
                     try dsimp only at H
                     have A27 := Aside0.mk A270
                     clear A270
                     by_cases c28 : t595 = true
                     ·subst c28
                      rw [if_pos rfl] at H
                      by_cases c29 : x4_1.length < 4398046511104
                      ·rw [if_pos c29] at H
                       have LMc29 := Aside0.mk c29
                       clear c29
                       obtain ⟨y596, hy596⟩ : ∃ y_ : List (S59), y_ = (x4_1 ++ [(⟨wrap64 ((wrap64 (rd l0 x5_1)) + (wrap64 (256 * (wrap64 (rd l0 (ji18)))))), wrap64 (rd l0 (ji21)), wrap64 (rd l0 (ji24)), jk⟩ : S59)]) := ⟨_, rfl⟩
                       simp only [Option.bind_some, ← hy596] at H
                       have Ny596 := Aside0.mk hy596
                       clear hy596
                       have H' := Aside0.mk H
                       clear H
                       try go_wp2
                       replace HO_4 := Aside0.mk (Kd.R_drew HO_4.out)
                       replace HB := Aside0.mk (zD HB.out)
                       have p586 : 0 ≤ ((ji5) : Int) := oD (jA)
                       have q586 : (ji5) < (l0.length : Int) := oD (jA)
                       obtain ⟨ad586, e586, hx586_0⟩ := Kd.at_int HR0.out (ji5) p586 q586
                       have hw586_0 := hx586_0
                       cases e586
                       replace hx586_0 := (HB.out.cell (bL w _ hx586_0)).trans hx586_0
                       replace p586 := eq_true p586
                       replace q586 := eq_true q586
                       have p587 : 0 ≤ ((ji8) : Int) := oD (jA)
                       have q587 : (ji8) < (l0.length : Int) := oD (jA)
                       obtain ⟨ad587, e587, hx587_0⟩ := Kd.at_int HR0.out (ji8) p587 q587
                       have hw587_0 := hx587_0
                       obtain rfl : ad586 = ad587 := (by injection e587)
                       replace hx587_0 := (HB.out.cell (bL w _ hx587_0)).trans hx587_0
                       replace p587 := eq_true p587
                       replace q587 := eq_true q587
                       have p588 : 0 ≤ ((ji11) : Int) := oD (jA)
                       have q588 : (ji11) < (l0.length : Int) := oD (jA)
                       obtain ⟨ad588, e588, hx588_0⟩ := Kd.at_int HR0.out (ji11) p588 q588
                       have hw588_0 := hx588_0
                       obtain rfl : ad586 = ad588 := (by injection e588)
                       replace hx588_0 := (HB.out.cell (bL w _ hx588_0)).trans hx588_0
                       replace p588 := eq_true p588
                       replace q588 := eq_true q588
                       have p589 : 0 ≤ ((ji14) : Int) := oD (jA)
                       have q589 : (ji14) < (l0.length : Int) := oD (jA)
                       obtain ⟨ad589, e589, hx589_0⟩ := Kd.at_int HR0.out (ji14) p589 q589
                       have hw589_0 := hx589_0
                       obtain rfl : ad586 = ad589 := (by injection e589)
                       replace hx589_0 := (HB.out.cell (bL w _ hx589_0)).trans hx589_0
                       replace p589 := eq_true p589
                       replace q589 := eq_true q589
                       refine start_ (n := 31) (S := fun w' => w'.cell? (ad586.add ((ji5)).toNat) = some (.int .u8 (rd l0 (ji5))) ∧ w'.cell? (ad586.add ((ji8)).toNat) = some (.int .u8 (rd l0 (ji8))) ∧ w'.cell? (ad586.add ((ji11)).toNat) = some (.int .u8 (rd l0 (ji11))) ∧ w'.cell? (ad586.add ((ji14)).toNat) = some (.int .u8 (rd l0 (ji14)))) (ds := []) #[false, false, false, false, false, false, false, false, false, false, false, false, false, false, false, false, false, false, false, false, false, false, false, false, false, false, false, false, false, false, false] (by kernel_rfl) rfl rfl ⟨((HB.out.cell (bL w _ hw586_0)).trans hw586_0), ((HB.out.cell (bL w _ hw587_0)).trans hw587_0), ((HB.out.cell (bL w _ hw588_0)).trans hw588_0), ((HB.out.cell (bL w _ hw589_0)).trans hw589_0)⟩ (fun hHeld => ?_); refine with_tabW r03_Decode.tab9 r03_Decode.bits9 (fun HT_ HW_ => ?_)
                       generalize wr.drew = w30 at HO_4 HB hx586_0 hx587_0 hx588_0 hx589_0 hHeld ⊢
                       refine qP 0 21 (tB 31 1) ?_
                       refine qP 1 22 (tB 31 3) ?_
                       refine qP 2 23 (tB 31 7) ?_
                       refine qP 3 24 (tB 31 15) ?_
                       refine qP 6 27 (tB 31 79) ?_
                       refine qP 7 28 (tB 31 207) ?_
                       refine qP 8 29 (tB 31 463) ?_
                       refine qP 9 30 (tB 31 975) ?_
                       refine qP 14 35 (tB 31 17359) ?_
                       refine qP 15 36 (tB 31 50127) ?_
                       refine qP 16 37 (tB 31 115663) ?_
                       refine qP 17 38 (tB 31 246735) ?_
                       refine qP 22 43 (tB 31 4441039) ?_
                       refine qP 23 44 (tB 31 12829647) ?_
                       refine qP 24 45 (tB 31 29606863) ?_
                       refine qP 25 46 (tB 31 63161295) ?_
                       refine qT 4 25 (tB 31 63161311) hHeld ?_ (hv := by rintro w' ⟨s0, s1, s2, s3⟩; go_simp; with_reducible rfl)
                       refine qP 5 26 (tB 31 63161343) ?_
                       refine qT 10 31 (tB 31 63162367) hHeld ?_ (hv := by rintro w' ⟨s0, s1, s2, s3⟩; go_simp; with_reducible rfl)
                       refine qP 11 32 (tB 31 63164415) ?_
                       refine qP 12 33 (tB 31 63168511) ?_
                       refine qP 13 34 (tB 31 63176703) ?_
                       refine qT 18 39 (tB 31 63438847) hHeld ?_ (hv := by rintro w' ⟨s0, s1, s2, s3⟩; go_simp; with_reducible rfl)
                       refine qP 19 40 (tB 31 63963135) ?_
                       refine qP 20 41 (tB 31 65011711) ?_
                       refine qP 21 42 (tB 31 67108863) ?_
                       refine qT 26 47 (tB 31 134217727) hHeld ?_ (hv := by rintro w' ⟨s0, s1, s2, s3⟩; go_simp; with_reducible rfl)
                       refine qP 27 48 (tB 31 268435455) ?_
                       refine qP 28 49 (tB 31 536870911) ?_
                       refine qP 29 50 (tB 31 1073741823) ?_
                       refine qP 30 6 (tB 31 2147483647) ?_
                       refine done_ (done_of HT_.out (by kernel_rfl)) ?_
                       try go_wp2
                       replace HO_4 := Aside0.mk (Kd.R_drew HO_4.out)
                       replace HB := Aside0.mk (zD HB.out)
                       have p590 : 0 ≤ (x5_1 : Int) := oD (jA)
                       have q590 : x5_1 < (l0.length : Int) := oD (jA)
                       obtain ⟨ad590, e590, hx590_0⟩ := Kd.at_int HR0.out x5_1 p590 q590
                       have hw590_0 := hx590_0
                       obtain rfl : ad586 = ad590 := (by injection e590)
                       replace hx590_0 := (HB.out.cell (bL w _ hx590_0)).trans hx590_0
                       replace p590 := eq_true p590
                       replace q590 := eq_true q590
                       have p591 : 0 ≤ ((ji18) : Int) := oD (jA)
                       have q591 : (ji18) < (l0.length : Int) := oD (jA)
                       obtain ⟨ad591, e591, hx591_0⟩ := Kd.at_int HR0.out (ji18) p591 q591
                       have hw591_0 := hx591_0
                       obtain rfl : ad586 = ad591 := (by injection e591)
                       replace hx591_0 := (HB.out.cell (bL w _ hx591_0)).trans hx591_0
                       replace p591 := eq_true p591
                       replace q591 := eq_true q591
                       have p592 : 0 ≤ ((ji21) : Int) := oD (jA)
                       have q592 : (ji21) < (l0.length : Int) := oD (jA)
                       obtain ⟨ad592, e592, hx592_0⟩ := Kd.at_int HR0.out (ji21) p592 q592
                       have hw592_0 := hx592_0
                       obtain rfl : ad586 = ad592 := (by injection e592)
                       replace hx592_0 := (HB.out.cell (bL w _ hx592_0)).trans hx592_0
                       replace p592 := eq_true p592
                       replace q592 := eq_true q592
                       have p593 : 0 ≤ ((ji24) : Int) := oD (jA)
                       have q593 : (ji24) < (l0.length : Int) := oD (jA)
                       obtain ⟨ad593, e593, hx593_0⟩ := Kd.at_int HR0.out (ji24) p593 q593
                       have hw593_0 := hx593_0
                       obtain rfl : ad586 = ad593 := (by injection e593)
                       replace hx593_0 := (HB.out.cell (bL w _ hx593_0)).trans hx593_0
                       replace p593 := eq_true p593
                       replace q593 := eq_true q593
                       refine start_ (n := 29) (S := fun w' => w'.cell? (ad586.add (x5_1).toNat) = some (.int .u8 (rd l0 x5_1)) ∧ w'.cell? (ad586.add ((ji18)).toNat) = some (.int .u8 (rd l0 (ji18))) ∧ w'.cell? (ad586.add ((ji21)).toNat) = some (.int .u8 (rd l0 (ji21))) ∧ w'.cell? (ad586.add ((ji24)).toNat) = some (.int .u8 (rd l0 (ji24)))) (ds := []) #[false, false, false, false, false, false, false, false, false, false, false, false, false, false, false, false, false, false, false, false, false, false, false, false, false, false, false, false, false] (by kernel_rfl) rfl rfl ⟨((HB.out.cell (bL w _ hw590_0)).trans hw590_0), ((HB.out.cell (bL w _ hw591_0)).trans hw591_0), ((HB.out.cell (bL w _ hw592_0)).trans hw592_0), ((HB.out.cell (bL w _ hw593_0)).trans hw593_0)⟩ (fun hHeld => ?_); refine with_tabW r03_Decode.tab10 r03_Decode.bits10 (fun HT_ HW_ => ?_)
                       generalize w30.drew = w31 at HO_4 HB hx590_0 hx591_0 hx592_0 hx593_0 hHeld ⊢
                       refine qP 0 51 (tB 29 1) ?_
                       refine qP 1 52 (tB 29 3) ?_
                       refine qP 2 53 (tB 29 7) ?_
                       refine qP 5 56 (tB 29 39) ?_
                       refine qP 6 57 (tB 29 103) ?_
                       refine qP 7 58 (tB 29 231) ?_
                       refine qP 8 59 (tB 29 487) ?_
                       refine qP 13 64 (tB 29 8679) ?_
                       refine qP 14 65 (tB 29 25063) ?_
                       refine qP 15 66 (tB 29 57831) ?_
                       refine qP 16 67 (tB 29 123367) ?_
                       refine qP 19 70 (tB 29 647655) ?_
                       refine qP 20 71 (tB 29 1696231) ?_
                       refine qP 21 72 (tB 29 3793383) ?_
                       refine qP 22 73 (tB 29 7987687) ?_
                       refine qP 25 76 (tB 29 41542119) ?_
                       refine qT 3 54 (tB 29 41542127) hHeld ?_ (hv := by rintro w' ⟨s0, s1, s2, s3⟩; go_simp; with_reducible rfl)
                       refine qP 4 55 (tB 29 41542143) ?_
                       refine qT 9 60 (tB 29 41542655) hHeld ?_ (hv := by rintro w' ⟨s0, s1, s2, s3⟩; go_simp; with_reducible rfl)
                       refine qP 10 61 (tB 29 41543679) ?_
                       refine qP 11 62 (tB 29 41545727) ?_
                       refine qP 12 63 (tB 29 41549823) ?_
                       refine qT 17 68 (tB 29 41680895) hHeld ?_ (hv := by rintro w' ⟨s0, s1, s2, s3⟩; go_simp; with_reducible rfl)
                       refine qP 18 69 (tB 29 41943039) ?_
                       refine qT 23 74 (tB 29 50331647) hHeld ?_ (hv := by rintro w' ⟨s0, s1, s2, s3⟩; go_simp; with_reducible rfl)
                       refine qP 24 75 (tB 29 67108863) ?_
                       refine qP 26 77 (tB 29 134217727) ?_
                       refine one_ (i := 27) (N := some 7) (tB 29 268435455) rfl rfl (one_of HT_.out (by kernel_rfl)) (by decide) (fun K hK => ?_)
                       refine box_step ?hg (N := 7) ?hd (cs := #[.int .i64 0, .int .i64 0, .int .i64 0, .int .u32 0]) (t := 59) ?hr ?_; (case hd => rfl); (case hg => rfl); (case hr => first | (go_simp; done) | (go_simp; rfl))
                       intro gb594 hg w32 hbox hb
                       have BK594 := Aside0.mk hbox
                       have GW594 := Aside0.mk (jG hg HB)
                       have GE594 := Aside0.mk (jG hg HB)
                       replace HO_4 := Aside0.mk (Kd.R_below (Kd.R_elderB (jR HO_4) gb594 (Nat.le_of_eq hg.symm)) hb)
                       replace HB := Aside0.mk (zT (jH HB) hb)
                       clear hb hbox hg
                       refine hK.out _ _ ⟨((HB.out.cell (bL w _ hw590_0)).trans hw590_0), ((HB.out.cell (bL w _ hw591_0)).trans hw591_0), ((HB.out.cell (bL w _ hw592_0)).trans hw592_0), ((HB.out.cell (bL w _ hw593_0)).trans hw593_0)⟩ (fun hHeld => ?_)
                       clear hK K
                       refine qN 7 ?_
                       refine one_ (i := 28) (N := none) (tB 29 536870911) rfl rfl (one_of HT_.out (by kernel_rfl)) (by decide) (fun K hK => ?_)
                       have hs33 : w32.cell? ⟨gb594, 0, none⟩ = some (.int .i64 0) := (kC BK594.out 0).trans rfl
                       have hfs33 := kF BK594.out 0
                       have hs34 : w32.cell? ⟨gb594, 1, none⟩ = some (.int .i64 0) := (kC BK594.out 1).trans rfl
                       have hfs34 := kF BK594.out 1
                       have hs35 : w32.cell? ⟨gb594, 2, none⟩ = some (.int .i64 0) := (kC BK594.out 2).trans rfl
                       have hfs35 := kF BK594.out 2
                       have hs36 : w32.cell? ⟨gb594, 3, none⟩ = some (.int .u32 0) := (kC BK594.out 3).trans rfl
                       have hfs36 := kF BK594.out 3
                       refine skip_ (w1 := ?_) (by rfl) rfl ?_ ?_
                       rotate_left
                       ·go_simp
                        rfl
                       refine hK.out _ _ ⟨((cell_far (p := ⟨gb594, _, none⟩) (by first | exact Nat.ne_of_lt (Nat.lt_of_lt_of_le (by have := bL _ _ hw590_0; first | rwa [add_block] at this | exact this) GW594.out) | (rw [add_block]; exact Nat.ne_of_lt (Nat.lt_of_lt_of_le (by have := bL _ _ hw590_0; first | rwa [add_block] at this | exact this) GW594.out)) | (show (Addr.add _ _).block ≠ _; rw [add_block]; exact Nat.ne_of_lt (Nat.lt_of_lt_of_le (by have := bL _ _ hw590_0; first | rwa [add_block] at this | exact this) GW594.out)) | (dsimp only; exact Nat.ne_of_lt (Nat.lt_of_lt_of_le (by have := bL _ _ hw590_0; first | rwa [add_block] at this | exact this) GW594.out))) _).trans (((cell_far (p := ⟨gb594, _, none⟩) (by first | exact Nat.ne_of_lt (Nat.lt_of_lt_of_le (by have := bL _ _ hw590_0; first | rwa [add_block] at this | exact this) GW594.out) | (rw [add_block]; exact Nat.ne_of_lt (Nat.lt_of_lt_of_le (by have := bL _ _ hw590_0; first | rwa [add_block] at this | exact this) GW594.out)) | (show (Addr.add _ _).block ≠ _; rw [add_block]; exact Nat.ne_of_lt (Nat.lt_of_lt_of_le (by have := bL _ _ hw590_0; first | rwa [add_block] at this | exact this) GW594.out)) | (dsimp only; exact Nat.ne_of_lt (Nat.lt_of_lt_of_le (by have := bL _ _ hw590_0; first | rwa [add_block] at this | exact this) GW594.out))) _).trans (((cell_far (p := ⟨gb594, _, none⟩) (by first | exact Nat.ne_of_lt (Nat.lt_of_lt_of_le (by have := bL _ _ hw590_0; first | rwa [add_block] at this | exact this) GW594.out) | (rw [add_block]; exact Nat.ne_of_lt (Nat.lt_of_lt_of_le (by have := bL _ _ hw590_0; first | rwa [add_block] at this | exact this) GW594.out)) | (show (Addr.add _ _).block ≠ _; rw [add_block]; exact Nat.ne_of_lt (Nat.lt_of_lt_of_le (by have := bL _ _ hw590_0; first | rwa [add_block] at this | exact this) GW594.out)) | (dsimp only; exact Nat.ne_of_lt (Nat.lt_of_lt_of_le (by have := bL _ _ hw590_0; first | rwa [add_block] at this | exact this) GW594.out))) _).trans (((cell_far (p := ⟨gb594, _, none⟩) (by first | exact Nat.ne_of_lt (Nat.lt_of_lt_of_le (by have := bL _ _ hw590_0; first | rwa [add_block] at this | exact this) GW594.out) | (rw [add_block]; exact Nat.ne_of_lt (Nat.lt_of_lt_of_le (by have := bL _ _ hw590_0; first | rwa [add_block] at this | exact this) GW594.out)) | (show (Addr.add _ _).block ≠ _; rw [add_block]; exact Nat.ne_of_lt (Nat.lt_of_lt_of_le (by have := bL _ _ hw590_0; first | rwa [add_block] at this | exact this) GW594.out)) | (dsimp only; exact Nat.ne_of_lt (Nat.lt_of_lt_of_le (by have := bL _ _ hw590_0; first | rwa [add_block] at this | exact this) GW594.out))) _).trans (hHeld.1)))))))), ((cell_far (p := ⟨gb594, _, none⟩) (by first | exact Nat.ne_of_lt (Nat.lt_of_lt_of_le (by have := bL _ _ hw591_0; first | rwa [add_block] at this | exact this) GW594.out) | (rw [add_block]; exact Nat.ne_of_lt (Nat.lt_of_lt_of_le (by have := bL _ _ hw591_0; first | rwa [add_block] at this | exact this) GW594.out)) | (show (Addr.add _ _).block ≠ _; rw [add_block]; exact Nat.ne_of_lt (Nat.lt_of_lt_of_le (by have := bL _ _ hw591_0; first | rwa [add_block] at this | exact this) GW594.out)) | (dsimp only; exact Nat.ne_of_lt (Nat.lt_of_lt_of_le (by have := bL _ _ hw591_0; first | rwa [add_block] at this | exact this) GW594.out))) _).trans (((cell_far (p := ⟨gb594, _, none⟩) (by first | exact Nat.ne_of_lt (Nat.lt_of_lt_of_le (by have := bL _ _ hw591_0; first | rwa [add_block] at this | exact this) GW594.out) | (rw [add_block]; exact Nat.ne_of_lt (Nat.lt_of_lt_of_le (by have := bL _ _ hw591_0; first | rwa [add_block] at this | exact this) GW594.out)) | (show (Addr.add _ _).block ≠ _; rw [add_block]; exact Nat.ne_of_lt (Nat.lt_of_lt_of_le (by have := bL _ _ hw591_0; first | rwa [add_block] at this | exact this) GW594.out)) | (dsimp only; exact Nat.ne_of_lt (Nat.lt_of_lt_of_le (by have := bL _ _ hw591_0; first | rwa [add_block] at this | exact this) GW594.out))) _).trans (((cell_far (p := ⟨gb594, _, none⟩) (by first | exact Nat.ne_of_lt (Nat.lt_of_lt_of_le (by have := bL _ _ hw591_0; first | rwa [add_block] at this | exact this) GW594.out) | (rw [add_block]; exact Nat.ne_of_lt (Nat.lt_of_lt_of_le (by have := bL _ _ hw591_0; first | rwa [add_block] at this | exact this) GW594.out)) | (show (Addr.add _ _).block ≠ _; rw [add_block]; exact Nat.ne_of_lt (Nat.lt_of_lt_of_le (by have := bL _ _ hw591_0; first | rwa [add_block] at this | exact this) GW594.out)) | (dsimp only; exact Nat.ne_of_lt (Nat.lt_of_lt_of_le (by have := bL _ _ hw591_0; first | rwa [add_block] at this | exact this) GW594.out))) _).trans (((cell_far (p := ⟨gb594, _, none⟩) (by first | exact Nat.ne_of_lt (Nat.lt_of_lt_of_le (by have := bL _ _ hw591_0; first | rwa [add_block] at this | exact this) GW594.out) | (rw [add_block]; exact Nat.ne_of_lt (Nat.lt_of_lt_of_le (by have := bL _ _ hw591_0; first | rwa [add_block] at this | exact this) GW594.out)) | (show (Addr.add _ _).block ≠ _; rw [add_block]; exact Nat.ne_of_lt (Nat.lt_of_lt_of_le (by have := bL _ _ hw591_0; first | rwa [add_block] at this | exact this) GW594.out)) | (dsimp only; exact Nat.ne_of_lt (Nat.lt_of_lt_of_le (by have := bL _ _ hw591_0; first | rwa [add_block] at this | exact this) GW594.out))) _).trans (hHeld.2.1)))))))), ((cell_far (p := ⟨gb594, _, none⟩) (by first | exact Nat.ne_of_lt (Nat.lt_of_lt_of_le (by have := bL _ _ hw592_0; first | rwa [add_block] at this | exact this) GW594.out) | (rw [add_block]; exact Nat.ne_of_lt (Nat.lt_of_lt_of_le (by have := bL _ _ hw592_0; first | rwa [add_block] at this | exact this) GW594.out)) | (show (Addr.add _ _).block ≠ _; rw [add_block]; exact Nat.ne_of_lt (Nat.lt_of_lt_of_le (by have := bL _ _ hw592_0; first | rwa [add_block] at this | exact this) GW594.out)) | (dsimp only; exact Nat.ne_of_lt (Nat.lt_of_lt_of_le (by have := bL _ _ hw592_0; first | rwa [add_block] at this | exact this) GW594.out))) _).trans (((cell_far (p := ⟨gb594, _, none⟩) (by first | exact Nat.ne_of_lt (Nat.lt_of_lt_of_le (by have := bL _ _ hw592_0; first | rwa [add_block] at this | exact this) GW594.out) | (rw [add_block]; exact Nat.ne_of_lt (Nat.lt_of_lt_of_le (by have := bL _ _ hw592_0; first | rwa [add_block] at this | exact this) GW594.out)) | (show (Addr.add _ _).block ≠ _; rw [add_block]; exact Nat.ne_of_lt (Nat.lt_of_lt_of_le (by have := bL _ _ hw592_0; first | rwa [add_block] at this | exact this) GW594.out)) | (dsimp only; exact Nat.ne_of_lt (Nat.lt_of_lt_of_le (by have := bL _ _ hw592_0; first | rwa [add_block] at this | exact this) GW594.out))) _).trans (((cell_far (p := ⟨gb594, _, none⟩) (by first | exact Nat.ne_of_lt (Nat.lt_of_lt_of_le (by have := bL _ _ hw592_0; first | rwa [add_block] at this | exact this) GW594.out) | (rw [add_block]; exact Nat.ne_of_lt (Nat.lt_of_lt_of_le (by have := bL _ _ hw592_0; first | rwa [add_block] at this | exact this) GW594.out)) | (show (Addr.add _ _).block ≠ _; rw [add_block]; exact Nat.ne_of_lt (Nat.lt_of_lt_of_le (by have := bL _ _ hw592_0; first | rwa [add_block] at this | exact this) GW594.out)) | (dsimp only; exact Nat.ne_of_lt (Nat.lt_of_lt_of_le (by have := bL _ _ hw592_0; first | rwa [add_block] at this | exact this) GW594.out))) _).trans (((cell_far (p := ⟨gb594, _, none⟩) (by first | exact Nat.ne_of_lt (Nat.lt_of_lt_of_le (by have := bL _ _ hw592_0; first | rwa [add_block] at this | exact this) GW594.out) | (rw [add_block]; exact Nat.ne_of_lt (Nat.lt_of_lt_of_le (by have := bL _ _ hw592_0; first | rwa [add_block] at this | exact this) GW594.out)) | (show (Addr.add _ _).block ≠ _; rw [add_block]; exact Nat.ne_of_lt (Nat.lt_of_lt_of_le (by have := bL _ _ hw592_0; first | rwa [add_block] at this | exact this) GW594.out)) | (dsimp only; exact Nat.ne_of_lt (Nat.lt_of_lt_of_le (by have := bL _ _ hw592_0; first | rwa [add_block] at this | exact this) GW594.out))) _).trans (hHeld.2.2.1)))))))), ((cell_far (p := ⟨gb594, _, none⟩) (by first | exact Nat.ne_of_lt (Nat.lt_of_lt_of_le (by have := bL _ _ hw593_0; first | rwa [add_block] at this | exact this) GW594.out) | (rw [add_block]; exact Nat.ne_of_lt (Nat.lt_of_lt_of_le (by have := bL _ _ hw593_0; first | rwa [add_block] at this | exact this) GW594.out)) | (show (Addr.add _ _).block ≠ _; rw [add_block]; exact Nat.ne_of_lt (Nat.lt_of_lt_of_le (by have := bL _ _ hw593_0; first | rwa [add_block] at this | exact this) GW594.out)) | (dsimp only; exact Nat.ne_of_lt (Nat.lt_of_lt_of_le (by have := bL _ _ hw593_0; first | rwa [add_block] at this | exact this) GW594.out))) _).trans (((cell_far (p := ⟨gb594, _, none⟩) (by first | exact Nat.ne_of_lt (Nat.lt_of_lt_of_le (by have := bL _ _ hw593_0; first | rwa [add_block] at this | exact this) GW594.out) | (rw [add_block]; exact Nat.ne_of_lt (Nat.lt_of_lt_of_le (by have := bL _ _ hw593_0; first | rwa [add_block] at this | exact this) GW594.out)) | (show (Addr.add _ _).block ≠ _; rw [add_block]; exact Nat.ne_of_lt (Nat.lt_of_lt_of_le (by have := bL _ _ hw593_0; first | rwa [add_block] at this | exact this) GW594.out)) | (dsimp only; exact Nat.ne_of_lt (Nat.lt_of_lt_of_le (by have := bL _ _ hw593_0; first | rwa [add_block] at this | exact this) GW594.out))) _).trans (((cell_far (p := ⟨gb594, _, none⟩) (by first | exact Nat.ne_of_lt (Nat.lt_of_lt_of_le (by have := bL _ _ hw593_0; first | rwa [add_block] at this | exact this) GW594.out) | (rw [add_block]; exact Nat.ne_of_lt (Nat.lt_of_lt_of_le (by have := bL _ _ hw593_0; first | rwa [add_block] at this | exact this) GW594.out)) | (show (Addr.add _ _).block ≠ _; rw [add_block]; exact Nat.ne_of_lt (Nat.lt_of_lt_of_le (by have := bL _ _ hw593_0; first | rwa [add_block] at this | exact this) GW594.out)) | (dsimp only; exact Nat.ne_of_lt (Nat.lt_of_lt_of_le (by have := bL _ _ hw593_0; first | rwa [add_block] at this | exact this) GW594.out))) _).trans (((cell_far (p := ⟨gb594, _, none⟩) (by first | exact Nat.ne_of_lt (Nat.lt_of_lt_of_le (by have := bL _ _ hw593_0; first | rwa [add_block] at this | exact this) GW594.out) | (rw [add_block]; exact Nat.ne_of_lt (Nat.lt_of_lt_of_le (by have := bL _ _ hw593_0; first | rwa [add_block] at this | exact this) GW594.out)) | (show (Addr.add _ _).block ≠ _; rw [add_block]; exact Nat.ne_of_lt (Nat.lt_of_lt_of_le (by have := bL _ _ hw593_0; first | rwa [add_block] at this | exact this) GW594.out)) | (dsimp only; exact Nat.ne_of_lt (Nat.lt_of_lt_of_le (by have := bL _ _ hw593_0; first | rwa [add_block] at this | exact this) GW594.out))) _).trans (hHeld.2.2.2))))))))⟩ (fun hHeld => ?_)
                       clear hK K
                       refine done_ (done_of HT_.out (by kernel_rfl)) ?_
                       obtain ⟨hcz37_0, hcz37_1, hcz37_2, hcz37_3, hfz37_0, hfz37_1, hfz37_2, hfz37_3⟩ := kQ4 BK594.out
                       try go_wp2_with (first | ((with_reducible refine gate_callee (f := 60) rfl ?_); refine goesL_ (some 79) rfl rfl Tryd.func60 (by kernel_rfl) rfl #[.agg #[.int .i64 (wrap64 ((wrap64 (rd l0 x5_1)) + (wrap64 (256 * (wrap64 (rd l0 (ji18))))))), .int .i64 (wrap64 (rd l0 (ji21))), .int .i64 (wrap64 (rd l0 (ji24))), .int .u32 (jk)]] rfl (by (try simp only [List.map_toArray, List.map_cons, List.map_nil]); first | done | (simp only [hji11, hji14, hji18, hji21, hji24, hji5, hji8]; rfl) | rfl | (simp only [List.length_drop, List.length_take]; rfl)) ?_; (with_reducible refine (r02_Right.calls k1 (wrap64 ((wrap64 (rd l0 x5_1)) + (wrap64 (256 * (wrap64 (rd l0 (ji18))))))) (wrap64 (rd l0 (ji21))) (wrap64 (rd l0 (ji24))) (jk) true _ A27.out).mono ?_); rintro e w38 ⟨rfl, hb⟩; refine ⟨_, rfl, ?_⟩; replace HO_4 := Aside0.mk (Kd.R_below (by (with_reducible repeat (first | apply Kd.R_alloc | apply Kd.R_drewN | apply Kd.R_drew)); exact (Kd.R_mono (Kd.R_far (p := ⟨gb594, 3, none⟩) (Kd.R_far (p := ⟨gb594, 2, none⟩) (Kd.R_far (p := ⟨gb594, 1, none⟩) (Kd.R_far (p := ⟨gb594, 0, none⟩) (Kd.R_mono HO_4.out (fun k_ hk => (⟨hk, hk.2⟩ : _ ∧ k_ ≠ gb594))) (fun _ hk => hk.2) (.int .i64 (wrap64 ((wrap64 (rd l0 x5_1)) + (wrap64 (256 * (wrap64 (rd l0 (ji18))))))))) (fun _ hk => hk.2) (.int .i64 (wrap64 (rd l0 (ji21))))) (fun _ hk => hk.2) (.int .i64 (wrap64 (rd l0 (ji24))))) (fun _ hk => hk.2) (.int .u32 (jk))) (fun _ h_ => h_.1))) hb); replace BK594 := Aside0.mk (kB (g := gb594) (o := .cells #[.int .i64 (wrap64 ((wrap64 (rd l0 x5_1)) + (wrap64 (256 * (wrap64 (rd l0 (ji18))))))), .int .i64 (wrap64 (rd l0 (ji21))), .int .i64 (wrap64 (rd l0 (ji24))), .int .u32 (jk)] 59 (0, 0)) (by (with_reducible repeat (first | refine kN ?_ _ | refine kD ?_ | refine kA ?_ _)); refine kP (cs := #[.int .i64 (wrap64 ((wrap64 (rd l0 x5_1)) + (wrap64 (256 * (wrap64 (rd l0 (ji18))))))), .int .i64 (wrap64 (rd l0 (ji21))), .int .i64 (wrap64 (rd l0 (ji24))), .int .u32 0]) ?_ 3 _ rfl; (with_reducible repeat (first | refine kN ?_ _ | refine kD ?_ | refine kA ?_ _)); refine kP (cs := #[.int .i64 (wrap64 ((wrap64 (rd l0 x5_1)) + (wrap64 (256 * (wrap64 (rd l0 (ji18))))))), .int .i64 (wrap64 (rd l0 (ji21))), .int .i64 0, .int .u32 0]) ?_ 2 _ rfl; (with_reducible repeat (first | refine kN ?_ _ | refine kD ?_ | refine kA ?_ _)); refine kP (cs := #[.int .i64 (wrap64 ((wrap64 (rd l0 x5_1)) + (wrap64 (256 * (wrap64 (rd l0 (ji18))))))), .int .i64 0, .int .i64 0, .int .u32 0]) ?_ 1 _ rfl; (with_reducible repeat (first | refine kN ?_ _ | refine kD ?_ | refine kA ?_ _)); refine kP (cs := #[.int .i64 0, .int .i64 0, .int .i64 0, .int .u32 0]) ?_ 0 _ rfl; (with_reducible repeat (first | refine kN ?_ _ | refine kD ?_ | refine kA ?_ _)); exact BK594.out) hb); replace HB := Aside0.mk (zT (jH HB) hb); (try clear hb); (try clear hb2); (try clear hk); (try clear hi); obtain ⟨hcz39_0, hcz39_1, hcz39_2, hcz39_3, hfz39_0, hfz39_1, hfz39_2, hfz39_3⟩ := kQ4 BK594.out) | ((with_reducible refine gate_builtin (b := .append) (xs := #[.tmp 81, .tmp 83]) rfl ?_); at_builtin; refine Kd.R_append k59 (w0 := w) w.heap.size rfl (.tmp 81) (.tmp 83) 39 59 (.agg #[(.int .i64 0), (.int .i64 0), (.int .i64 0), (.int .u32 0)]) 32 rfl Tryd.underlying39 info59 rfl (by decide) (by omega) u4 x4_1 (⟨wrap64 ((wrap64 (rd l0 x5_1)) + (wrap64 (256 * (wrap64 (rd l0 (ji18)))))), wrap64 (rd l0 (ji21)), wrap64 (rd l0 (ji24)), jk⟩ : S59) [.int .i64 (wrap64 ((wrap64 (rd l0 x5_1)) + (wrap64 (256 * (wrap64 (rd l0 (ji18))))))), .int .i64 (wrap64 (rd l0 (ji21))), .int .i64 (wrap64 (rd l0 (ji24))), .int .u32 (jk)] (fun k_ => k_ ≠ gb594) (fun _ => False) rfl rfl ?aP (fun _ hk => hk.elim) ?aF ?aO ?aB ?aS ?aL ?_; (case aP => exact k59_mkM _ _ _ (⟨wrap64 ((wrap64 (rd l0 x5_1)) + (wrap64 (256 * (wrap64 (rd l0 (ji18)))))), wrap64 (rd l0 (ji21)), wrap64 (rd l0 (ji24)), jk⟩ : S59)); (case aB => exact (jH HB)); (case aF => exact (fun k_ hk => Kd.freshB (g := gb594) (o := .cells #[.int .i64 (wrap64 ((wrap64 (rd l0 x5_1)) + (wrap64 (256 * (wrap64 (rd l0 (ji18))))))), .int .i64 (wrap64 (rd l0 (ji21))), .int .i64 (wrap64 (rd l0 (ji24))), .int .u32 (jk)] 59 (0, 0)) (jK BK594) k_ hk)); (case aO => exact (by (with_reducible repeat (first | apply Kd.R_alloc | apply Kd.R_drewN | apply Kd.R_drew)); exact Kd.R_mono HO_4.out (fun _ hk => hk.2))); (case aS => exact (zZ (jH HB))); (case aL => have := LMc29.out; omega); intro v597 w40 ho hb hg hat; rw [← Ny596.out] at ho; have HO598 := Aside0.mk (ho); replace BK594 := Aside0.mk (kG (g := gb594) (o := .cells #[.int .i64 (wrap64 ((wrap64 (rd l0 x5_1)) + (wrap64 (256 * (wrap64 (rd l0 (ji18))))))), .int .i64 (wrap64 (rd l0 (ji21))), .int .i64 (wrap64 (rd l0 (ji24))), .int .u32 (jk)] 59 (0, 0)) (jK BK594) hg (Kd.R_away HO_4.out (fun _ hk => hk.2))); replace HB := Aside0.mk (hb); clear HO_4; clear ho hb hg hat))
                       go_roundg k1
                       case measure => have := HK1.out; omega
                       case rel => exact ⟨(y596), (wrap64 (x5_1 + 8)), jS, H', ⟨by have := HK1.out; omega⟩, ⟨by (with_reducible repeat (first | apply Kd.R_alloc | apply Kd.R_drewN | apply Kd.R_drew)); exact Kd.R_mono HO598.out (fun _ hk => trivial)⟩, ⟨jH HB⟩⟩
                      ·rw [if_neg c29] at H
                       exact absurd H (by simp)
                     ·replace c28 := Bool.eq_false_iff.mpr c28
                      subst c28
                      rw [if_neg (show ¬ (false = true) by decide)] at H
                      simp only [Option.some.injEq, Prod.mk.injEq] at H
                      obtain ⟨rfl, rfl⟩ := H
                      try go_wp2
                      replace HO_4 := Aside0.mk (Kd.R_drew HO_4.out)
                      replace HB := Aside0.mk (zD HB.out)
                      have p586 : 0 ≤ ((ji5) : Int) := oD (jA)
                      have q586 : (ji5) < (l0.length : Int) := oD (jA)
                      obtain ⟨ad586, e586, hx586_0⟩ := Kd.at_int HR0.out (ji5) p586 q586
                      have hw586_0 := hx586_0
                      cases e586
                      replace hx586_0 := (HB.out.cell (bL w _ hx586_0)).trans hx586_0
                      replace p586 := eq_true p586
                      replace q586 := eq_true q586
                      have p587 : 0 ≤ ((ji8) : Int) := oD (jA)
                      have q587 : (ji8) < (l0.length : Int) := oD (jA)
                      obtain ⟨ad587, e587, hx587_0⟩ := Kd.at_int HR0.out (ji8) p587 q587
                      have hw587_0 := hx587_0
                      obtain rfl : ad586 = ad587 := (by injection e587)
                      replace hx587_0 := (HB.out.cell (bL w _ hx587_0)).trans hx587_0
                      replace p587 := eq_true p587
                      replace q587 := eq_true q587
                      have p588 : 0 ≤ ((ji11) : Int) := oD (jA)
                      have q588 : (ji11) < (l0.length : Int) := oD (jA)
                      obtain ⟨ad588, e588, hx588_0⟩ := Kd.at_int HR0.out (ji11) p588 q588
                      have hw588_0 := hx588_0
                      obtain rfl : ad586 = ad588 := (by injection e588)
                      replace hx588_0 := (HB.out.cell (bL w _ hx588_0)).trans hx588_0
                      replace p588 := eq_true p588
                      replace q588 := eq_true q588
                      have p589 : 0 ≤ ((ji14) : Int) := oD (jA)
                      have q589 : (ji14) < (l0.length : Int) := oD (jA)
                      obtain ⟨ad589, e589, hx589_0⟩ := Kd.at_int HR0.out (ji14) p589 q589
                      have hw589_0 := hx589_0
                      obtain rfl : ad586 = ad589 := (by injection e589)
                      replace hx589_0 := (HB.out.cell (bL w _ hx589_0)).trans hx589_0
                      replace p589 := eq_true p589
                      replace q589 := eq_true q589
                      refine start_ (n := 31) (S := fun w' => w'.cell? (ad586.add ((ji5)).toNat) = some (.int .u8 (rd l0 (ji5))) ∧ w'.cell? (ad586.add ((ji8)).toNat) = some (.int .u8 (rd l0 (ji8))) ∧ w'.cell? (ad586.add ((ji11)).toNat) = some (.int .u8 (rd l0 (ji11))) ∧ w'.cell? (ad586.add ((ji14)).toNat) = some (.int .u8 (rd l0 (ji14)))) (ds := []) #[false, false, false, false, false, false, false, false, false, false, false, false, false, false, false, false, false, false, false, false, false, false, false, false, false, false, false, false, false, false, false] (by kernel_rfl) rfl rfl ⟨((HB.out.cell (bL w _ hw586_0)).trans hw586_0), ((HB.out.cell (bL w _ hw587_0)).trans hw587_0), ((HB.out.cell (bL w _ hw588_0)).trans hw588_0), ((HB.out.cell (bL w _ hw589_0)).trans hw589_0)⟩ (fun hHeld => ?_); refine with_tabW r03_Decode.tab9 r03_Decode.bits9 (fun HT_ HW_ => ?_)
                      generalize wr.drew = w41 at HO_4 HB hx586_0 hx587_0 hx588_0 hx589_0 hHeld ⊢
                      refine qP 0 21 (tB 31 1) ?_
                      refine qP 1 22 (tB 31 3) ?_
                      refine qP 2 23 (tB 31 7) ?_
                      refine qP 3 24 (tB 31 15) ?_
                      refine qP 6 27 (tB 31 79) ?_
                      refine qP 7 28 (tB 31 207) ?_
                      refine qP 8 29 (tB 31 463) ?_
                      refine qP 9 30 (tB 31 975) ?_
                      refine qP 14 35 (tB 31 17359) ?_
                      refine qP 15 36 (tB 31 50127) ?_
                      refine qP 16 37 (tB 31 115663) ?_
                      refine qP 17 38 (tB 31 246735) ?_
                      refine qP 22 43 (tB 31 4441039) ?_
                      refine qP 23 44 (tB 31 12829647) ?_
                      refine qP 24 45 (tB 31 29606863) ?_
                      refine qP 25 46 (tB 31 63161295) ?_
                      refine qT 4 25 (tB 31 63161311) hHeld ?_ (hv := by rintro w' ⟨s0, s1, s2, s3⟩; go_simp; with_reducible rfl)
                      refine qP 5 26 (tB 31 63161343) ?_
                      refine qT 10 31 (tB 31 63162367) hHeld ?_ (hv := by rintro w' ⟨s0, s1, s2, s3⟩; go_simp; with_reducible rfl)
                      refine qP 11 32 (tB 31 63164415) ?_
                      refine qP 12 33 (tB 31 63168511) ?_
                      refine qP 13 34 (tB 31 63176703) ?_
                      refine qT 18 39 (tB 31 63438847) hHeld ?_ (hv := by rintro w' ⟨s0, s1, s2, s3⟩; go_simp; with_reducible rfl)
                      refine qP 19 40 (tB 31 63963135) ?_
                      refine qP 20 41 (tB 31 65011711) ?_
                      refine qP 21 42 (tB 31 67108863) ?_
                      refine qT 26 47 (tB 31 134217727) hHeld ?_ (hv := by rintro w' ⟨s0, s1, s2, s3⟩; go_simp; with_reducible rfl)
                      refine qP 27 48 (tB 31 268435455) ?_
                      refine qP 28 49 (tB 31 536870911) ?_
                      refine qP 29 50 (tB 31 1073741823) ?_
                      refine qP 30 6 (tB 31 2147483647) ?_
                      refine done_ (done_of HT_.out (by kernel_rfl)) ?_
                      try go_wp2
                      replace HO_4 := Aside0.mk (Kd.R_drew HO_4.out)
                      replace HB := Aside0.mk (zD HB.out)
                      have p590 : 0 ≤ (x5_1 : Int) := oD (jA)
                      have q590 : x5_1 < (l0.length : Int) := oD (jA)
                      obtain ⟨ad590, e590, hx590_0⟩ := Kd.at_int HR0.out x5_1 p590 q590
                      have hw590_0 := hx590_0
                      obtain rfl : ad586 = ad590 := (by injection e590)
                      replace hx590_0 := (HB.out.cell (bL w _ hx590_0)).trans hx590_0
                      replace p590 := eq_true p590
                      replace q590 := eq_true q590
                      have p591 : 0 ≤ ((ji18) : Int) := oD (jA)
                      have q591 : (ji18) < (l0.length : Int) := oD (jA)
                      obtain ⟨ad591, e591, hx591_0⟩ := Kd.at_int HR0.out (ji18) p591 q591
                      have hw591_0 := hx591_0
                      obtain rfl : ad586 = ad591 := (by injection e591)
                      replace hx591_0 := (HB.out.cell (bL w _ hx591_0)).trans hx591_0
                      replace p591 := eq_true p591
                      replace q591 := eq_true q591
                      have p592 : 0 ≤ ((ji21) : Int) := oD (jA)
                      have q592 : (ji21) < (l0.length : Int) := oD (jA)
                      obtain ⟨ad592, e592, hx592_0⟩ := Kd.at_int HR0.out (ji21) p592 q592
                      have hw592_0 := hx592_0
                      obtain rfl : ad586 = ad592 := (by injection e592)
                      replace hx592_0 := (HB.out.cell (bL w _ hx592_0)).trans hx592_0
                      replace p592 := eq_true p592
                      replace q592 := eq_true q592
                      have p593 : 0 ≤ ((ji24) : Int) := oD (jA)
                      have q593 : (ji24) < (l0.length : Int) := oD (jA)
                      obtain ⟨ad593, e593, hx593_0⟩ := Kd.at_int HR0.out (ji24) p593 q593
                      have hw593_0 := hx593_0
                      obtain rfl : ad586 = ad593 := (by injection e593)
                      replace hx593_0 := (HB.out.cell (bL w _ hx593_0)).trans hx593_0
                      replace p593 := eq_true p593
                      replace q593 := eq_true q593
                      refine start_ (n := 29) (S := fun w' => w'.cell? (ad586.add (x5_1).toNat) = some (.int .u8 (rd l0 x5_1)) ∧ w'.cell? (ad586.add ((ji18)).toNat) = some (.int .u8 (rd l0 (ji18))) ∧ w'.cell? (ad586.add ((ji21)).toNat) = some (.int .u8 (rd l0 (ji21))) ∧ w'.cell? (ad586.add ((ji24)).toNat) = some (.int .u8 (rd l0 (ji24)))) (ds := []) #[false, false, false, false, false, false, false, false, false, false, false, false, false, false, false, false, false, false, false, false, false, false, false, false, false, false, false, false, false] (by kernel_rfl) rfl rfl ⟨((HB.out.cell (bL w _ hw590_0)).trans hw590_0), ((HB.out.cell (bL w _ hw591_0)).trans hw591_0), ((HB.out.cell (bL w _ hw592_0)).trans hw592_0), ((HB.out.cell (bL w _ hw593_0)).trans hw593_0)⟩ (fun hHeld => ?_); refine with_tabW r03_Decode.tab10 r03_Decode.bits10 (fun HT_ HW_ => ?_)
                      generalize w41.drew = w42 at HO_4 HB hx590_0 hx591_0 hx592_0 hx593_0 hHeld ⊢
                      refine qP 0 51 (tB 29 1) ?_
                      refine qP 1 52 (tB 29 3) ?_
                      refine qP 2 53 (tB 29 7) ?_
                      refine qP 5 56 (tB 29 39) ?_
                      refine qP 6 57 (tB 29 103) ?_
                      refine qP 7 58 (tB 29 231) ?_
                      refine qP 8 59 (tB 29 487) ?_
                      refine qP 13 64 (tB 29 8679) ?_
                      refine qP 14 65 (tB 29 25063) ?_
                      refine qP 15 66 (tB 29 57831) ?_
                      refine qP 16 67 (tB 29 123367) ?_
                      refine qP 19 70 (tB 29 647655) ?_
                      refine qP 20 71 (tB 29 1696231) ?_
                      refine qP 21 72 (tB 29 3793383) ?_
                      refine qP 22 73 (tB 29 7987687) ?_
                      refine qP 25 76 (tB 29 41542119) ?_
                      refine qT 3 54 (tB 29 41542127) hHeld ?_ (hv := by rintro w' ⟨s0, s1, s2, s3⟩; go_simp; with_reducible rfl)
                      refine qP 4 55 (tB 29 41542143) ?_
                      refine qT 9 60 (tB 29 41542655) hHeld ?_ (hv := by rintro w' ⟨s0, s1, s2, s3⟩; go_simp; with_reducible rfl)
                      refine qP 10 61 (tB 29 41543679) ?_
                      refine qP 11 62 (tB 29 41545727) ?_
                      refine qP 12 63 (tB 29 41549823) ?_
                      refine qT 17 68 (tB 29 41680895) hHeld ?_ (hv := by rintro w' ⟨s0, s1, s2, s3⟩; go_simp; with_reducible rfl)
                      refine qP 18 69 (tB 29 41943039) ?_
                      refine qT 23 74 (tB 29 50331647) hHeld ?_ (hv := by rintro w' ⟨s0, s1, s2, s3⟩; go_simp; with_reducible rfl)
                      refine qP 24 75 (tB 29 67108863) ?_
                      refine qP 26 77 (tB 29 134217727) ?_
                      refine one_ (i := 27) (N := some 7) (tB 29 268435455) rfl rfl (one_of HT_.out (by kernel_rfl)) (by decide) (fun K hK => ?_)
                      refine box_step ?hg (N := 7) ?hd (cs := #[.int .i64 0, .int .i64 0, .int .i64 0, .int .u32 0]) (t := 59) ?hr ?_; (case hd => rfl); (case hg => rfl); (case hr => first | (go_simp; done) | (go_simp; rfl))
                      intro gb594 hg w43 hbox hb
                      have BK594 := Aside0.mk hbox
                      have GW594 := Aside0.mk (jG hg HB)
                      have GE594 := Aside0.mk (jG hg HB)
                      replace HO_4 := Aside0.mk (Kd.R_below (Kd.R_elderB (jR HO_4) gb594 (Nat.le_of_eq hg.symm)) hb)
                      replace HB := Aside0.mk (zT (jH HB) hb)
                      clear hb hbox hg
                      refine hK.out _ _ ⟨((HB.out.cell (bL w _ hw590_0)).trans hw590_0), ((HB.out.cell (bL w _ hw591_0)).trans hw591_0), ((HB.out.cell (bL w _ hw592_0)).trans hw592_0), ((HB.out.cell (bL w _ hw593_0)).trans hw593_0)⟩ (fun hHeld => ?_)
                      clear hK K
                      refine qN 7 ?_
                      refine one_ (i := 28) (N := none) (tB 29 536870911) rfl rfl (one_of HT_.out (by kernel_rfl)) (by decide) (fun K hK => ?_)
                      have hs44 : w43.cell? ⟨gb594, 0, none⟩ = some (.int .i64 0) := (kC BK594.out 0).trans rfl
                      have hfs44 := kF BK594.out 0
                      have hs45 : w43.cell? ⟨gb594, 1, none⟩ = some (.int .i64 0) := (kC BK594.out 1).trans rfl
                      have hfs45 := kF BK594.out 1
                      have hs46 : w43.cell? ⟨gb594, 2, none⟩ = some (.int .i64 0) := (kC BK594.out 2).trans rfl
                      have hfs46 := kF BK594.out 2
                      have hs47 : w43.cell? ⟨gb594, 3, none⟩ = some (.int .u32 0) := (kC BK594.out 3).trans rfl
                      have hfs47 := kF BK594.out 3
                      refine skip_ (w1 := ?_) (by rfl) rfl ?_ ?_
                      rotate_left
                      ·go_simp
                       rfl
                      refine hK.out _ _ ⟨((cell_far (p := ⟨gb594, _, none⟩) (by first | exact Nat.ne_of_lt (Nat.lt_of_lt_of_le (by have := bL _ _ hw590_0; first | rwa [add_block] at this | exact this) GW594.out) | (rw [add_block]; exact Nat.ne_of_lt (Nat.lt_of_lt_of_le (by have := bL _ _ hw590_0; first | rwa [add_block] at this | exact this) GW594.out)) | (show (Addr.add _ _).block ≠ _; rw [add_block]; exact Nat.ne_of_lt (Nat.lt_of_lt_of_le (by have := bL _ _ hw590_0; first | rwa [add_block] at this | exact this) GW594.out)) | (dsimp only; exact Nat.ne_of_lt (Nat.lt_of_lt_of_le (by have := bL _ _ hw590_0; first | rwa [add_block] at this | exact this) GW594.out))) _).trans (((cell_far (p := ⟨gb594, _, none⟩) (by first | exact Nat.ne_of_lt (Nat.lt_of_lt_of_le (by have := bL _ _ hw590_0; first | rwa [add_block] at this | exact this) GW594.out) | (rw [add_block]; exact Nat.ne_of_lt (Nat.lt_of_lt_of_le (by have := bL _ _ hw590_0; first | rwa [add_block] at this | exact this) GW594.out)) | (show (Addr.add _ _).block ≠ _; rw [add_block]; exact Nat.ne_of_lt (Nat.lt_of_lt_of_le (by have := bL _ _ hw590_0; first | rwa [add_block] at this | exact this) GW594.out)) | (dsimp only; exact Nat.ne_of_lt (Nat.lt_of_lt_of_le (by have := bL _ _ hw590_0; first | rwa [add_block] at this | exact this) GW594.out))) _).trans (((cell_far (p := ⟨gb594, _, none⟩) (by first | exact Nat.ne_of_lt (Nat.lt_of_lt_of_le (by have := bL _ _ hw590_0; first | rwa [add_block] at this | exact this) GW594.out) | (rw [add_block]; exact Nat.ne_of_lt (Nat.lt_of_lt_of_le (by have := bL _ _ hw590_0; first | rwa [add_block] at this | exact this) GW594.out)) | (show (Addr.add _ _).block ≠ _; rw [add_block]; exact Nat.ne_of_lt (Nat.lt_of_lt_of_le (by have := bL _ _ hw590_0; first | rwa [add_block] at this | exact this) GW594.out)) | (dsimp only; exact Nat.ne_of_lt (Nat.lt_of_lt_of_le (by have := bL _ _ hw590_0; first | rwa [add_block] at this | exact this) GW594.out))) _).trans (((cell_far (p := ⟨gb594, _, none⟩) (by first | exact Nat.ne_of_lt (Nat.lt_of_lt_of_le (by have := bL _ _ hw590_0; first | rwa [add_block] at this | exact this) GW594.out) | (rw [add_block]; exact Nat.ne_of_lt (Nat.lt_of_lt_of_le (by have := bL _ _ hw590_0; first | rwa [add_block] at this | exact this) GW594.out)) | (show (Addr.add _ _).block ≠ _; rw [add_block]; exact Nat.ne_of_lt (Nat.lt_of_lt_of_le (by have := bL _ _ hw590_0; first | rwa [add_block] at this | exact this) GW594.out)) | (dsimp only; exact Nat.ne_of_lt (Nat.lt_of_lt_of_le (by have := bL _ _ hw590_0; first | rwa [add_block] at this | exact this) GW594.out))) _).trans (hHeld.1)))))))), ((cell_far (p := ⟨gb594, _, none⟩) (by first | exact Nat.ne_of_lt (Nat.lt_of_lt_of_le (by have := bL _ _ hw591_0; first | rwa [add_block] at this | exact this) GW594.out) | (rw [add_block]; exact Nat.ne_of_lt (Nat.lt_of_lt_of_le (by have := bL _ _ hw591_0; first | rwa [add_block] at this | exact this) GW594.out)) | (show (Addr.add _ _).block ≠ _; rw [add_block]; exact Nat.ne_of_lt (Nat.lt_of_lt_of_le (by have := bL _ _ hw591_0; first | rwa [add_block] at this | exact this) GW594.out)) | (dsimp only; exact Nat.ne_of_lt (Nat.lt_of_lt_of_le (by have := bL _ _ hw591_0; first | rwa [add_block] at this | exact this) GW594.out))) _).trans (((cell_far (p := ⟨gb594, _, none⟩) (by first | exact Nat.ne_of_lt (Nat.lt_of_lt_of_le (by have := bL _ _ hw591_0; first | rwa [add_block] at this | exact this) GW594.out) | (rw [add_block]; exact Nat.ne_of_lt (Nat.lt_of_lt_of_le (by have := bL _ _ hw591_0; first | rwa [add_block] at this | exact this) GW594.out)) | (show (Addr.add _ _).block ≠ _; rw [add_block]; exact Nat.ne_of_lt (Nat.lt_of_lt_of_le (by have := bL _ _ hw591_0; first | rwa [add_block] at this | exact this) GW594.out)) | (dsimp only; exact Nat.ne_of_lt (Nat.lt_of_lt_of_le (by have := bL _ _ hw591_0; first | rwa [add_block] at this | exact this) GW594.out))) _).trans (((cell_far (p := ⟨gb594, _, none⟩) (by first | exact Nat.ne_of_lt (Nat.lt_of_lt_of_le (by have := bL _ _ hw591_0; first | rwa [add_block] at this | exact this) GW594.out) | (rw [add_block]; exact Nat.ne_of_lt (Nat.lt_of_lt_of_le (by have := bL _ _ hw591_0; first | rwa [add_block] at this | exact this) GW594.out)) | (show (Addr.add _ _).block ≠ _; rw [add_block]; exact Nat.ne_of_lt (Nat.lt_of_lt_of_le (by have := bL _ _ hw591_0; first | rwa [add_block] at this | exact this) GW594.out)) | (dsimp only; exact Nat.ne_of_lt (Nat.lt_of_lt_of_le (by have := bL _ _ hw591_0; first | rwa [add_block] at this | exact this) GW594.out))) _).trans (((cell_far (p := ⟨gb594, _, none⟩) (by first | exact Nat.ne_of_lt (Nat.lt_of_lt_of_le (by have := bL _ _ hw591_0; first | rwa [add_block] at this | exact this) GW594.out) | (rw [add_block]; exact Nat.ne_of_lt (Nat.lt_of_lt_of_le (by have := bL _ _ hw591_0; first | rwa [add_block] at this | exact this) GW594.out)) | (show (Addr.add _ _).block ≠ _; rw [add_block]; exact Nat.ne_of_lt (Nat.lt_of_lt_of_le (by have := bL _ _ hw591_0; first | rwa [add_block] at this | exact this) GW594.out)) | (dsimp only; exact Nat.ne_of_lt (Nat.lt_of_lt_of_le (by have := bL _ _ hw591_0; first | rwa [add_block] at this | exact this) GW594.out))) _).trans (hHeld.2.1)))))))), ((cell_far (p := ⟨gb594, _, none⟩) (by first | exact Nat.ne_of_lt (Nat.lt_of_lt_of_le (by have := bL _ _ hw592_0; first | rwa [add_block] at this | exact this) GW594.out) | (rw [add_block]; exact Nat.ne_of_lt (Nat.lt_of_lt_of_le (by have := bL _ _ hw592_0; first | rwa [add_block] at this | exact this) GW594.out)) | (show (Addr.add _ _).block ≠ _; rw [add_block]; exact Nat.ne_of_lt (Nat.lt_of_lt_of_le (by have := bL _ _ hw592_0; first | rwa [add_block] at this | exact this) GW594.out)) | (dsimp only; exact Nat.ne_of_lt (Nat.lt_of_lt_of_le (by have := bL _ _ hw592_0; first | rwa [add_block] at this | exact this) GW594.out))) _).trans (((cell_far (p := ⟨gb594, _, none⟩) (by first | exact Nat.ne_of_lt (Nat.lt_of_lt_of_le (by have := bL _ _ hw592_0; first | rwa [add_block] at this | exact this) GW594.out) | (rw [add_block]; exact Nat.ne_of_lt (Nat.lt_of_lt_of_le (by have := bL _ _ hw592_0; first | rwa [add_block] at this | exact this) GW594.out)) | (show (Addr.add _ _).block ≠ _; rw [add_block]; exact Nat.ne_of_lt (Nat.lt_of_lt_of_le (by have := bL _ _ hw592_0; first | rwa [add_block] at this | exact this) GW594.out)) | (dsimp only; exact Nat.ne_of_lt (Nat.lt_of_lt_of_le (by have := bL _ _ hw592_0; first | rwa [add_block] at this | exact this) GW594.out))) _).trans (((cell_far (p := ⟨gb594, _, none⟩) (by first | exact Nat.ne_of_lt (Nat.lt_of_lt_of_le (by have := bL _ _ hw592_0; first | rwa [add_block] at this | exact this) GW594.out) | (rw [add_block]; exact Nat.ne_of_lt (Nat.lt_of_lt_of_le (by have := bL _ _ hw592_0; first | rwa [add_block] at this | exact this) GW594.out)) | (show (Addr.add _ _).block ≠ _; rw [add_block]; exact Nat.ne_of_lt (Nat.lt_of_lt_of_le (by have := bL _ _ hw592_0; first | rwa [add_block] at this | exact this) GW594.out)) | (dsimp only; exact Nat.ne_of_lt (Nat.lt_of_lt_of_le (by have := bL _ _ hw592_0; first | rwa [add_block] at this | exact this) GW594.out))) _).trans (((cell_far (p := ⟨gb594, _, none⟩) (by first | exact Nat.ne_of_lt (Nat.lt_of_lt_of_le (by have := bL _ _ hw592_0; first | rwa [add_block] at this | exact this) GW594.out) | (rw [add_block]; exact Nat.ne_of_lt (Nat.lt_of_lt_of_le (by have := bL _ _ hw592_0; first | rwa [add_block] at this | exact this) GW594.out)) | (show (Addr.add _ _).block ≠ _; rw [add_block]; exact Nat.ne_of_lt (Nat.lt_of_lt_of_le (by have := bL _ _ hw592_0; first | rwa [add_block] at this | exact this) GW594.out)) | (dsimp only; exact Nat.ne_of_lt (Nat.lt_of_lt_of_le (by have := bL _ _ hw592_0; first | rwa [add_block] at this | exact this) GW594.out))) _).trans (hHeld.2.2.1)))))))), ((cell_far (p := ⟨gb594, _, none⟩) (by first | exact Nat.ne_of_lt (Nat.lt_of_lt_of_le (by have := bL _ _ hw593_0; first | rwa [add_block] at this | exact this) GW594.out) | (rw [add_block]; exact Nat.ne_of_lt (Nat.lt_of_lt_of_le (by have := bL _ _ hw593_0; first | rwa [add_block] at this | exact this) GW594.out)) | (show (Addr.add _ _).block ≠ _; rw [add_block]; exact Nat.ne_of_lt (Nat.lt_of_lt_of_le (by have := bL _ _ hw593_0; first | rwa [add_block] at this | exact this) GW594.out)) | (dsimp only; exact Nat.ne_of_lt (Nat.lt_of_lt_of_le (by have := bL _ _ hw593_0; first | rwa [add_block] at this | exact this) GW594.out))) _).trans (((cell_far (p := ⟨gb594, _, none⟩) (by first | exact Nat.ne_of_lt (Nat.lt_of_lt_of_le (by have := bL _ _ hw593_0; first | rwa [add_block] at this | exact this) GW594.out) | (rw [add_block]; exact Nat.ne_of_lt (Nat.lt_of_lt_of_le (by have := bL _ _ hw593_0; first | rwa [add_block] at this | exact this) GW594.out)) | (show (Addr.add _ _).block ≠ _; rw [add_block]; exact Nat.ne_of_lt (Nat.lt_of_lt_of_le (by have := bL _ _ hw593_0; first | rwa [add_block] at this | exact this) GW594.out)) | (dsimp only; exact Nat.ne_of_lt (Nat.lt_of_lt_of_le (by have := bL _ _ hw593_0; first | rwa [add_block] at this | exact this) GW594.out))) _).trans (((cell_far (p := ⟨gb594, _, none⟩) (by first | exact Nat.ne_of_lt (Nat.lt_of_lt_of_le (by have := bL _ _ hw593_0; first | rwa [add_block] at this | exact this) GW594.out) | (rw [add_block]; exact Nat.ne_of_lt (Nat.lt_of_lt_of_le (by have := bL _ _ hw593_0; first | rwa [add_block] at this | exact this) GW594.out)) | (show (Addr.add _ _).block ≠ _; rw [add_block]; exact Nat.ne_of_lt (Nat.lt_of_lt_of_le (by have := bL _ _ hw593_0; first | rwa [add_block] at this | exact this) GW594.out)) | (dsimp only; exact Nat.ne_of_lt (Nat.lt_of_lt_of_le (by have := bL _ _ hw593_0; first | rwa [add_block] at this | exact this) GW594.out))) _).trans (((cell_far (p := ⟨gb594, _, none⟩) (by first | exact Nat.ne_of_lt (Nat.lt_of_lt_of_le (by have := bL _ _ hw593_0; first | rwa [add_block] at this | exact this) GW594.out) | (rw [add_block]; exact Nat.ne_of_lt (Nat.lt_of_lt_of_le (by have := bL _ _ hw593_0; first | rwa [add_block] at this | exact this) GW594.out)) | (show (Addr.add _ _).block ≠ _; rw [add_block]; exact Nat.ne_of_lt (Nat.lt_of_lt_of_le (by have := bL _ _ hw593_0; first | rwa [add_block] at this | exact this) GW594.out)) | (dsimp only; exact Nat.ne_of_lt (Nat.lt_of_lt_of_le (by have := bL _ _ hw593_0; first | rwa [add_block] at this | exact this) GW594.out))) _).trans (hHeld.2.2.2))))))))⟩ (fun hHeld => ?_)
                      clear hK K
                      refine done_ (done_of HT_.out (by kernel_rfl)) ?_
                      obtain ⟨hcz48_0, hcz48_1, hcz48_2, hcz48_3, hfz48_0, hfz48_1, hfz48_2, hfz48_3⟩ := kQ4 BK594.out
                      try go_wp2_with (first | ((with_reducible refine gate_callee (f := 60) rfl ?_); refine goesL_ (some 79) rfl rfl Tryd.func60 (by kernel_rfl) rfl #[.agg #[.int .i64 (wrap64 ((wrap64 (rd l0 x5_1)) + (wrap64 (256 * (wrap64 (rd l0 (ji18))))))), .int .i64 (wrap64 (rd l0 (ji21))), .int .i64 (wrap64 (rd l0 (ji24))), .int .u32 (jk)]] rfl (by (try simp only [List.map_toArray, List.map_cons, List.map_nil]); first | done | (simp only [hji11, hji14, hji18, hji21, hji24, hji5, hji8]; rfl) | rfl | (simp only [List.length_drop, List.length_take]; rfl)) ?_; (with_reducible refine (r02_Right.calls k1 (wrap64 ((wrap64 (rd l0 x5_1)) + (wrap64 (256 * (wrap64 (rd l0 (ji18))))))) (wrap64 (rd l0 (ji21))) (wrap64 (rd l0 (ji24))) (jk) false _ A27.out).mono ?_); rintro e w49 ⟨rfl, hb⟩; refine ⟨_, rfl, ?_⟩; replace HO_4 := Aside0.mk (Kd.R_below (by (with_reducible repeat (first | apply Kd.R_alloc | apply Kd.R_drewN | apply Kd.R_drew)); exact (Kd.R_mono (Kd.R_far (p := ⟨gb594, 3, none⟩) (Kd.R_far (p := ⟨gb594, 2, none⟩) (Kd.R_far (p := ⟨gb594, 1, none⟩) (Kd.R_far (p := ⟨gb594, 0, none⟩) (Kd.R_mono HO_4.out (fun k_ hk => (⟨hk, hk.2⟩ : _ ∧ k_ ≠ gb594))) (fun _ hk => hk.2) (.int .i64 (wrap64 ((wrap64 (rd l0 x5_1)) + (wrap64 (256 * (wrap64 (rd l0 (ji18))))))))) (fun _ hk => hk.2) (.int .i64 (wrap64 (rd l0 (ji21))))) (fun _ hk => hk.2) (.int .i64 (wrap64 (rd l0 (ji24))))) (fun _ hk => hk.2) (.int .u32 (jk))) (fun _ h_ => h_.1))) hb); replace BK594 := Aside0.mk (kB (g := gb594) (o := .cells #[.int .i64 (wrap64 ((wrap64 (rd l0 x5_1)) + (wrap64 (256 * (wrap64 (rd l0 (ji18))))))), .int .i64 (wrap64 (rd l0 (ji21))), .int .i64 (wrap64 (rd l0 (ji24))), .int .u32 (jk)] 59 (0, 0)) (by (with_reducible repeat (first | refine kN ?_ _ | refine kD ?_ | refine kA ?_ _)); refine kP (cs := #[.int .i64 (wrap64 ((wrap64 (rd l0 x5_1)) + (wrap64 (256 * (wrap64 (rd l0 (ji18))))))), .int .i64 (wrap64 (rd l0 (ji21))), .int .i64 (wrap64 (rd l0 (ji24))), .int .u32 0]) ?_ 3 _ rfl; (with_reducible repeat (first | refine kN ?_ _ | refine kD ?_ | refine kA ?_ _)); refine kP (cs := #[.int .i64 (wrap64 ((wrap64 (rd l0 x5_1)) + (wrap64 (256 * (wrap64 (rd l0 (ji18))))))), .int .i64 (wrap64 (rd l0 (ji21))), .int .i64 0, .int .u32 0]) ?_ 2 _ rfl; (with_reducible repeat (first | refine kN ?_ _ | refine kD ?_ | refine kA ?_ _)); refine kP (cs := #[.int .i64 (wrap64 ((wrap64 (rd l0 x5_1)) + (wrap64 (256 * (wrap64 (rd l0 (ji18))))))), .int .i64 0, .int .i64 0, .int .u32 0]) ?_ 1 _ rfl; (with_reducible repeat (first | refine kN ?_ _ | refine kD ?_ | refine kA ?_ _)); refine kP (cs := #[.int .i64 0, .int .i64 0, .int .i64 0, .int .u32 0]) ?_ 0 _ rfl; (with_reducible repeat (first | refine kN ?_ _ | refine kD ?_ | refine kA ?_ _)); exact BK594.out) hb); replace HB := Aside0.mk (zT (jH HB) hb); (try clear hb); (try clear hb2); (try clear hk); (try clear hi)))
                      go_ret2
                      exact ⟨_, by first | rfl | (simp [errW_none, errW_some] <;> rfl) | (simp only [← hji5, ← hji8, ← hji11, ← hji14, ← hji18, ← hji21, ← hji24]; first | rfl | (simp [errW_none, errW_some] <;> rfl)) | (simp [*, errW_none, errW_some] <;> rfl), by first | exact Kd.R_nil _ _ _ _ _ | exact Kd.N_nil _ _ _ _ _ | exact Kd.V_nil _ _ _ _ _ | exact Kd.Q_nil _ _ _ _ _ | exact Kd.S_nil _ _ _ _ _, jH HB⟩
                    ·rw [if_neg c26] at H
                     exact absurd H (by simp)
                   ·rw [if_neg c25] at H
                    exact absurd H (by simp)
                  ·rw [if_neg c23] at H
                   exact absurd H (by simp)
                 ·rw [if_neg c22] at H
                  exact absurd H (by simp)
                ·rw [if_neg c20] at H
                 exact absurd H (by simp)
               ·rw [if_neg c19] at H
                exact absurd H (by simp)
              ·rw [if_neg c17] at H
               exact absurd H (by simp)
             ·rw [if_neg c16] at H
              exact absurd H (by simp)
            ·rw [if_neg c15] at H
             exact absurd H (by simp)
           ·rw [if_neg c13] at H
            exact absurd H (by simp)
          ·rw [if_neg c12] at H
           exact absurd H (by simp)
         ·rw [if_neg c10] at H
          exact absurd H (by simp)
        ·rw [if_neg c9] at H
         exact absurd H (by simp)
       ·rw [if_neg c7] at H
        exact absurd H (by simp)
      ·rw [if_neg c6] at H
       exact absurd H (by simp)
     ·rw [if_neg c4] at H
      have c4b0 := dF c4
      clear c4
      simp only [Option.some.injEq, Prod.mk.injEq] at H
      obtain ⟨rfl, rfl⟩ := H
      go_wp2
      go_ret2
      exact ⟨_, jE, by (with_reducible repeat (first | apply Kd.R_alloc | apply Kd.R_drewN | apply Kd.R_drew)); exact HO_4.out, jH HB⟩
def r21_read.f (k : Nat) (l0 : List Int) (a1 : Int) : Option ((List (S59)) × (List (S59)) × Int × Int × Bool) := if (wrap64 (a1 + 6)) > (l0.length : Int) then (some (([] : List (S59)), ([] : List (S59)), 0, 0, false)) else (if 0 ≤ (wrap64 (a1 + 4)) then (if (wrap64 (a1 + 4)) < (l0.length : Int) then (if 0 ≤ (wrap64 (a1 + 5)) then (if (wrap64 (a1 + 5)) < (l0.length : Int) then (if (wrap64 ((wrap64 ((wrap64 (a1 + 6)) + (wrap64 (8 * (wrap64 (rd l0 (wrap64 (a1 + 4)))))))) + (wrap64 (8 * (wrap64 (rd l0 (wrap64 (a1 + 5)))))))) > (l0.length : Int) then (some (([] : List (S59)), ([] : List (S59)), 0, 0, false)) else (if 0 ≤ (wrap64 (a1 + 6)) then (if (wrap64 (a1 + 6)) ≤ (wrap64 ((wrap64 (a1 + 6)) + (wrap64 (8 * (wrap64 (rd l0 (wrap64 (a1 + 4)))))))) then (if (wrap64 ((wrap64 (a1 + 6)) + (wrap64 (8 * (wrap64 (rd l0 (wrap64 (a1 + 4)))))))) ≤ (l0.length : Int) then ((r03_Decode.f k ((l0.take ((wrap64 ((wrap64 (a1 + 6)) + (wrap64 (8 * (wrap64 (rd l0 (wrap64 (a1 + 4)))))))) : Int).toNat).drop ((wrap64 (a1 + 6)) : Int).toNat)).bind fun bt603 => (if 0 ≤ (wrap64 ((wrap64 (a1 + 6)) + (wrap64 (8 * (wrap64 (rd l0 (wrap64 (a1 + 4)))))))) then (if (wrap64 ((wrap64 (a1 + 6)) + (wrap64 (8 * (wrap64 (rd l0 (wrap64 (a1 + 4)))))))) ≤ (wrap64 ((wrap64 ((wrap64 (a1 + 6)) + (wrap64 (8 * (wrap64 (rd l0 (wrap64 (a1 + 4)))))))) + (wrap64 (8 * (wrap64 (rd l0 (wrap64 (a1 + 5)))))))) then (if (wrap64 ((wrap64 ((wrap64 (a1 + 6)) + (wrap64 (8 * (wrap64 (rd l0 (wrap64 (a1 + 4)))))))) + (wrap64 (8 * (wrap64 (rd l0 (wrap64 (a1 + 5)))))))) ≤ (l0.length : Int) then ((r03_Decode.f k ((l0.take ((wrap64 ((wrap64 ((wrap64 (a1 + 6)) + (wrap64 (8 * (wrap64 (rd l0 (wrap64 (a1 + 4)))))))) + (wrap64 (8 * (wrap64 (rd l0 (wrap64 (a1 + 5)))))))) : Int).toNat).drop ((wrap64 ((wrap64 (a1 + 6)) + (wrap64 (8 * (wrap64 (rd l0 (wrap64 (a1 + 4)))))))) : Int).toNat)).bind fun bt608 => (if 0 ≤ a1 then (if a1 < (l0.length : Int) then (if 0 ≤ (wrap64 (a1 + 1)) then (if (wrap64 (a1 + 1)) < (l0.length : Int) then (if 0 ≤ (wrap64 (a1 + 2)) then (if (wrap64 (a1 + 2)) < (l0.length : Int) then (if 0 ≤ (wrap64 (a1 + 3)) then (if (wrap64 (a1 + 3)) < (l0.length : Int) then (if bt603.2 = 0 then (some (bt603.1, bt608.1, (((((((rd l0 a1) % 4294967296) + ((256 * ((rd l0 (wrap64 (a1 + 1))) % 4294967296)) % 4294967296)) % 4294967296) + ((65536 * ((rd l0 (wrap64 (a1 + 2))) % 4294967296)) % 4294967296)) % 4294967296) + ((16777216 * ((rd l0 (wrap64 (a1 + 3))) % 4294967296)) % 4294967296)) % 4294967296, wrap64 ((wrap64 ((wrap64 (a1 + 6)) + (wrap64 (8 * (wrap64 (rd l0 (wrap64 (a1 + 4)))))))) + (wrap64 (8 * (wrap64 (rd l0 (wrap64 (a1 + 5))))))), (bt608.2 == 0))) else (some (bt603.1, bt608.1, (((((((rd l0 a1) % 4294967296) + ((256 * ((rd l0 (wrap64 (a1 + 1))) % 4294967296)) % 4294967296)) % 4294967296) + ((65536 * ((rd l0 (wrap64 (a1 + 2))) % 4294967296)) % 4294967296)) % 4294967296) + ((16777216 * ((rd l0 (wrap64 (a1 + 3))) % 4294967296)) % 4294967296)) % 4294967296, wrap64 ((wrap64 ((wrap64 (a1 + 6)) + (wrap64 (8 * (wrap64 (rd l0 (wrap64 (a1 + 4)))))))) + (wrap64 (8 * (wrap64 (rd l0 (wrap64 (a1 + 5))))))), false))) else (none)) else (none)) else (none)) else (none)) else (none)) else (none)) else (none)) else (none))) else (none)) else (none)) else (none))) else (none)) else (none)) else (none))) else (none)) else (none)) else (none)) else (none))
set_option maxHeartbeats 8000000 in
set_option maxRecDepth 100000 in
theorem r21_read.calls (k : Nat) (A0 : Option Addr) (c0 : Nat) (l0 : List Int) (a1 : Int) (r1 : List (S59)) (r2 : List (S59)) (r3 : Int) (r4 : Int) (r5 : Bool) (w : World) (hr0 : Kd.C (Kd.int .u8) w A0 l0.length l0) (hc0 : l0.length ≤ c0) (h : r21_read.f k l0 a1 = some (r1, r2, r3, r4, r5)) :
  Calls Tryd.prog 36 #[.slice A0 l0.length c0, .int .i64 a1] w fun e w' => ∃ v0_ v1_ : Value, e = .returned (.tuple #[.agg #[v0_, v1_, .int .u32 r3], .int .i64 r4, .bool r5]) ∧ Kd.R k59 59 w' w.heap.size (fun k_ => some k_ ≠ (v1_ : Value).ownBlock) v0_ r1 ∧ Kd.R k59 59 w' w.heap.size (fun k_ => some k_ ≠ (v0_ : Value).ownBlock) v1_ r2 ∧ Below w.heap.size w w' := by
 have hu45 := Tryd.underlying45
 have HR0 := Aside0.mk hr0
 have HC0 := Aside0.mk hc0
 clear hr0 hc0
 have HB := Aside0.mk (Below.refl w.heap.size w)
 have H : (if (wrap64 (a1 + 6)) > (l0.length : Int) then (some (([] : List (S59)), ([] : List (S59)), 0, 0, false)) else (if 0 ≤ (wrap64 (a1 + 4)) then (if (wrap64 (a1 + 4)) < (l0.length : Int) then (if 0 ≤ (wrap64 (a1 + 5)) then (if (wrap64 (a1 + 5)) < (l0.length : Int) then (if (wrap64 ((wrap64 ((wrap64 (a1 + 6)) + (wrap64 (8 * (wrap64 (rd l0 (wrap64 (a1 + 4)))))))) + (wrap64 (8 * (wrap64 (rd l0 (wrap64 (a1 + 5)))))))) > (l0.length : Int) then (some (([] : List (S59)), ([] : List (S59)), 0, 0, false)) else (if 0 ≤ (wrap64 (a1 + 6)) then (if (wrap64 (a1 + 6)) ≤ (wrap64 ((wrap64 (a1 + 6)) + (wrap64 (8 * (wrap64 (rd l0 (wrap64 (a1 + 4)))))))) then (if (wrap64 ((wrap64 (a1 + 6)) + (wrap64 (8 * (wrap64 (rd l0 (wrap64 (a1 + 4)))))))) ≤ (l0.length : Int) then ((r03_Decode.f k ((l0.take ((wrap64 ((wrap64 (a1 + 6)) + (wrap64 (8 * (wrap64 (rd l0 (wrap64 (a1 + 4)))))))) : Int).toNat).drop ((wrap64 (a1 + 6)) : Int).toNat)).bind fun bt603 => (if 0 ≤ (wrap64 ((wrap64 (a1 + 6)) + (wrap64 (8 * (wrap64 (rd l0 (wrap64 (a1 + 4)))))))) then (if (wrap64 ((wrap64 (a1 + 6)) + (wrap64 (8 * (wrap64 (rd l0 (wrap64 (a1 + 4)))))))) ≤ (wrap64 ((wrap64 ((wrap64 (a1 + 6)) + (wrap64 (8 * (wrap64 (rd l0 (wrap64 (a1 + 4)))))))) + (wrap64 (8 * (wrap64 (rd l0 (wrap64 (a1 + 5)))))))) then (if (wrap64 ((wrap64 ((wrap64 (a1 + 6)) + (wrap64 (8 * (wrap64 (rd l0 (wrap64 (a1 + 4)))))))) + (wrap64 (8 * (wrap64 (rd l0 (wrap64 (a1 + 5)))))))) ≤ (l0.length : Int) then ((r03_Decode.f k ((l0.take ((wrap64 ((wrap64 ((wrap64 (a1 + 6)) + (wrap64 (8 * (wrap64 (rd l0 (wrap64 (a1 + 4)))))))) + (wrap64 (8 * (wrap64 (rd l0 (wrap64 (a1 + 5)))))))) : Int).toNat).drop ((wrap64 ((wrap64 (a1 + 6)) + (wrap64 (8 * (wrap64 (rd l0 (wrap64 (a1 + 4)))))))) : Int).toNat)).bind fun bt608 => (if 0 ≤ a1 then (if a1 < (l0.length : Int) then (if 0 ≤ (wrap64 (a1 + 1)) then (if (wrap64 (a1 + 1)) < (l0.length : Int) then (if 0 ≤ (wrap64 (a1 + 2)) then (if (wrap64 (a1 + 2)) < (l0.length : Int) then (if 0 ≤ (wrap64 (a1 + 3)) then (if (wrap64 (a1 + 3)) < (l0.length : Int) then (if bt603.2 = 0 then (some (bt603.1, bt608.1, (((((((rd l0 a1) % 4294967296) + ((256 * ((rd l0 (wrap64 (a1 + 1))) % 4294967296)) % 4294967296)) % 4294967296) + ((65536 * ((rd l0 (wrap64 (a1 + 2))) % 4294967296)) % 4294967296)) % 4294967296) + ((16777216 * ((rd l0 (wrap64 (a1 + 3))) % 4294967296)) % 4294967296)) % 4294967296, wrap64 ((wrap64 ((wrap64 (a1 + 6)) + (wrap64 (8 * (wrap64 (rd l0 (wrap64 (a1 + 4)))))))) + (wrap64 (8 * (wrap64 (rd l0 (wrap64 (a1 + 5))))))), (bt608.2 == 0))) else (some (bt603.1, bt608.1, (((((((rd l0 a1) % 4294967296) + ((256 * ((rd l0 (wrap64 (a1 + 1))) % 4294967296)) % 4294967296)) % 4294967296) + ((65536 * ((rd l0 (wrap64 (a1 + 2))) % 4294967296)) % 4294967296)) % 4294967296) + ((16777216 * ((rd l0 (wrap64 (a1 + 3))) % 4294967296)) % 4294967296)) % 4294967296, wrap64 ((wrap64 ((wrap64 (a1 + 6)) + (wrap64 (8 * (wrap64 (rd l0 (wrap64 (a1 + 4)))))))) + (wrap64 (8 * (wrap64 (rd l0 (wrap64 (a1 + 5))))))), false))) else (none)) else (none)) else (none)) else (none)) else (none)) else (none)) else (none)) else (none))) else (none)) else (none)) else (none))) else (none)) else (none)) else (none))) else (none)) else (none)) else (none)) else (none))) = some (r1, r2, r3, r4, r5) := h
 clear h
 by_cases c3 : (wrap64 (a1 + 6)) > (l0.length : Int)
 ·rw [if_pos c3] at H
  have c3b0 : decide ((l0.length : Int) < (wrap64 (a1 + 6))) = true := dT c3
  clear c3
  simp only [Option.some.injEq, Prod.mk.injEq] at H
  obtain ⟨rfl, rfl, rfl, rfl, rfl⟩ := H
  go_enter Tryd.func36, Tryd.ntmps36
  go_wp2_with ((with_reducible refine gate_dst (N := 4) rfl ?_); refine box_event rfl (N := 4) rfl (cs := #[.slice none 0 0, .slice none 0 0, .int .u32 0]) (t := 45) jW ?_; intro gb599 hg w4 hbox hb; have BK599 := Aside0.mk hbox; have GW599 := Aside0.mk (jG hg HB); have GE599 := Aside0.mk (jG hg HB); replace HB := Aside0.mk (zT (jH HB) hb); clear hb hbox hg; obtain ⟨hcz5_0, hcz5_1, hcz5_2, hfz5_0, hfz5_1, hfz5_2⟩ := kQ3 BK599.out)
  refine bodyPost_ret (results_ctt rfl _ _ gb599 45 #[.slice none 0 0, .slice none 0 0, .int .u32 0] (0, 0) _ rfl (by (with_reducible repeat (first | refine kN ?_ _ | refine kD ?_ | refine kA ?_ _)); refine kP (cs := #[.slice none 0 0, .slice none 0 0, .int .u32 0]) ?_ 2 _ rfl; (with_reducible repeat (first | refine kN ?_ _ | refine kD ?_ | refine kA ?_ _)); refine kP (cs := #[.slice none 0 0, .slice none 0 0, .int .u32 0]) ?_ 1 _ rfl; (with_reducible repeat (first | refine kN ?_ _ | refine kD ?_ | refine kA ?_ _)); refine kP (cs := #[.slice none 0 0, .slice none 0 0, .int .u32 0]) ?_ 0 _ rfl; (with_reducible repeat (first | refine kN ?_ _ | refine kD ?_ | refine kA ?_ _)); exact BK599.out) Tryd.underlying45 rfl (by kernel_rfl)) rfl ?_
  exact ⟨_, _, jE, by first | exact Kd.R_nil _ _ _ _ _ | exact Kd.N_nil _ _ _ _ _ | exact Kd.V_nil _ _ _ _ _ | exact Kd.Q_nil _ _ _ _ _ | exact Kd.S_nil _ _ _ _ _, by first | exact Kd.R_nil _ _ _ _ _ | exact Kd.N_nil _ _ _ _ _ | exact Kd.V_nil _ _ _ _ _ | exact Kd.Q_nil _ _ _ _ _ | exact Kd.S_nil _ _ _ _ _, jH HB⟩
 ·rw [if_neg c3] at H
  have c3b0 : decide ((l0.length : Int) < (wrap64 (a1 + 6))) = false := dF c3
  clear c3
  obtain ⟨ji6, hji6⟩ : ∃ j_ : Int, (wrap64 (a1 + 4)) = j_ := ⟨_, rfl⟩
  first | rw [hji6] at H | simp only [hji6] at H
  have hji6w : (IntKind.i64.wrap (a1 + 4)) = ji6 := (i64_w _).trans hji6
  by_cases c7 : 0 ≤ (ji6)
  ·rw [if_pos c7] at H
   have c7b0 : decide (0 ≤ (ji6)) = true := dT c7
   clear c7
   by_cases c8 : (ji6) < (l0.length : Int)
   ·rw [if_pos c8] at H
    have c8b0 : decide ((ji6) < (l0.length : Int)) = true := dT c8
    clear c8
    obtain ⟨ji9, hji9⟩ : ∃ j_ : Int, (wrap64 (a1 + 5)) = j_ := ⟨_, rfl⟩
    first | rw [hji9] at H | simp only [hji9] at H
    have hji9w : (IntKind.i64.wrap (a1 + 5)) = ji9 := (i64_w _).trans hji9
    by_cases c10 : 0 ≤ (ji9)
    ·rw [if_pos c10] at H
     have c10b0 : decide (0 ≤ (ji9)) = true := dT c10
     clear c10
     by_cases c11 : (ji9) < (l0.length : Int)
     ·rw [if_pos c11] at H
      have c11b0 : decide ((ji9) < (l0.length : Int)) = true := dT c11
      clear c11
      by_cases c12 : (wrap64 ((wrap64 ((wrap64 (a1 + 6)) + (wrap64 (8 * (wrap64 (rd l0 (ji6))))))) + (wrap64 (8 * (wrap64 (rd l0 (ji9))))))) > (l0.length : Int)
      ·rw [if_pos c12] at H
       have c12b0 : decide ((l0.length : Int) < (wrap64 ((wrap64 ((wrap64 (a1 + 6)) + (wrap64 (8 * (wrap64 (rd l0 (ji6))))))) + (wrap64 (8 * (wrap64 (rd l0 (ji9)))))))) = true := dT c12
       clear c12
       simp only [Option.some.injEq, Prod.mk.injEq] at H
       obtain ⟨rfl, rfl, rfl, rfl, rfl⟩ := H
       go_enter Tryd.func36, Tryd.ntmps36
       go_wp2_with ((with_reducible refine gate_dst (N := 4) rfl ?_); refine box_event rfl (N := 4) rfl (cs := #[.slice none 0 0, .slice none 0 0, .int .u32 0]) (t := 45) jW ?_; intro gb599 hg w13 hbox hb; have BK599 := Aside0.mk hbox; have GW599 := Aside0.mk (jG hg HB); have GE599 := Aside0.mk (jG hg HB); replace HB := Aside0.mk (zT (jH HB) hb); clear hb hbox hg; have p600 : 0 ≤ ((ji6) : Int) := oD (jA); have q600 : (ji6) < (l0.length : Int) := oD (jA); obtain ⟨ad600, e600, hx600_0⟩ := Kd.at_int HR0.out (ji6) p600 q600; cases e600; replace hx600_0 := (HB.out.cell (bL w _ hx600_0)).trans hx600_0; replace p600 := eq_true p600; replace q600 := eq_true q600; have p601 : 0 ≤ ((ji9) : Int) := oD (jA); have q601 : (ji9) < (l0.length : Int) := oD (jA); obtain ⟨ad601, e601, hx601_0⟩ := Kd.at_int HR0.out (ji9) p601 q601; obtain rfl : ad600 = ad601 := (by injection e601); replace hx601_0 := (HB.out.cell (bL w _ hx601_0)).trans hx601_0; replace p601 := eq_true p601; replace q601 := eq_true q601; obtain ⟨hcz14_0, hcz14_1, hcz14_2, hfz14_0, hfz14_1, hfz14_2⟩ := kQ3 BK599.out)
       go_quiet (fail)
       go_wp2
       refine bodyPost_ret (results_ctt rfl _ _ gb599 45 #[.slice none 0 0, .slice none 0 0, .int .u32 0] (0, 0) _ rfl (by (with_reducible repeat (first | refine kN ?_ _ | refine kD ?_ | refine kA ?_ _)); refine kP (cs := #[.slice none 0 0, .slice none 0 0, .int .u32 0]) ?_ 2 _ rfl; (with_reducible repeat (first | refine kN ?_ _ | refine kD ?_ | refine kA ?_ _)); refine kP (cs := #[.slice none 0 0, .slice none 0 0, .int .u32 0]) ?_ 1 _ rfl; (with_reducible repeat (first | refine kN ?_ _ | refine kD ?_ | refine kA ?_ _)); refine kP (cs := #[.slice none 0 0, .slice none 0 0, .int .u32 0]) ?_ 0 _ rfl; (with_reducible repeat (first | refine kN ?_ _ | refine kD ?_ | refine kA ?_ _)); exact BK599.out) Tryd.underlying45 rfl (by kernel_rfl)) rfl ?_
       exact ⟨_, _, by first | rfl | (simp [errW_none, errW_some] <;> rfl) | (simp only [← hji6, ← hji9]; first | rfl | (simp [errW_none, errW_some] <;> rfl)) | (simp [*, errW_none, errW_some] <;> rfl), by first | exact Kd.R_nil _ _ _ _ _ | exact Kd.N_nil _ _ _ _ _ | exact Kd.V_nil _ _ _ _ _ | exact Kd.Q_nil _ _ _ _ _ | exact Kd.S_nil _ _ _ _ _, by first | exact Kd.R_nil _ _ _ _ _ | exact Kd.N_nil _ _ _ _ _ | exact Kd.V_nil _ _ _ _ _ | exact Kd.Q_nil _ _ _ _ _ | exact Kd.S_nil _ _ _ _ _, jH HB⟩
      ·rw [if_neg c12] at H
       have c12b0 : decide ((l0.length : Int) < (wrap64 ((wrap64 ((wrap64 (a1 + 6)) + (wrap64 (8 * (wrap64 (rd l0 (ji6))))))) + (wrap64 (8 * (wrap64 (rd l0 (ji9)))))))) = false := dF c12
       clear c12
       obtain ⟨ji15, hji15⟩ : ∃ j_ : Int, (wrap64 (a1 + 6)) = j_ := ⟨_, rfl⟩
       first | rw [hji15] at H | simp only [hji15] at H
       (try rw [hji15] at c3b0)
       (try rw [hji15] at c12b0)
       have hji15w : (IntKind.i64.wrap (a1 + 6)) = ji15 := (i64_w _).trans hji15
       by_cases c16 : 0 ≤ (ji15)
       ·rw [if_pos c16] at H
        have c16b0 := eq_true c16
        have c16b1 : decide (0 ≤ (ji15)) = true := dT c16
        clear c16
        by_cases c17 : (ji15) ≤ (wrap64 ((ji15) + (wrap64 (8 * (wrap64 (rd l0 (ji6)))))))
        ·rw [if_pos c17] at H
         have c17b0 := eq_true c17
         have c17b1 : decide ((ji15) ≤ (wrap64 ((ji15) + (wrap64 (8 * (wrap64 (rd l0 (ji6)))))))) = true := dT c17
         by_cases c18 : (wrap64 ((ji15) + (wrap64 (8 * (wrap64 (rd l0 (ji6))))))) ≤ (l0.length : Int)
         ·rw [if_pos c18] at H
          have c18b0 := eq_true c18
          have c18b1 : decide ((wrap64 ((ji15) + (wrap64 (8 * (wrap64 (rd l0 (ji6))))))) ≤ (l0.length : Int)) = true := dT c18
          replace H := Option.bind_eq_some_iff.mp H
          obtain ⟨⟨t603, t604⟩, A190, H⟩ := H
          try dsimp only at H
          have A19 := Aside0.mk A190
          clear A190
          obtain ⟨ji20, hji20⟩ : ∃ j_ : Int, (wrap64 ((ji15) + (wrap64 (8 * (wrap64 (rd l0 (ji6))))))) = j_ := ⟨_, rfl⟩
          first | rw [hji20] at H | simp only [hji20] at H
          (try rw [hji20] at c17b0)
          (try rw [hji20] at c17b1)
          (try rw [hji20] at c17)
          (try rw [hji20] at c18b0)
          (try rw [hji20] at c18b1)
          (try rw [hji20] at c18)
          (try rw [hji20] at A19)
          have hji20w : (IntKind.i64.wrap ((ji15) + (wrap64 (8 * (wrap64 (rd l0 (ji6))))))) = ji20 := (i64_w _).trans hji20
          by_cases c21 : 0 ≤ (ji20)
          ·rw [if_pos c21] at H
           have c21b0 := eq_true c21
           have c21b1 : decide (0 ≤ (ji20)) = true := dT c21
           clear c21
           by_cases c22 : (ji20) ≤ (wrap64 ((ji20) + (wrap64 (8 * (wrap64 (rd l0 (ji9)))))))
           ·rw [if_pos c22] at H
            have c22b0 := eq_true c22
            have c22b1 : decide ((ji20) ≤ (wrap64 ((ji20) + (wrap64 (8 * (wrap64 (rd l0 (ji9)))))))) = true := dT c22
            by_cases c23 : (wrap64 ((ji20) + (wrap64 (8 * (wrap64 (rd l0 (ji9))))))) ≤ (l0.length : Int)
            ·rw [if_pos c23] at H
             have c23b0 := eq_true c23
             have c23b1 : decide ((wrap64 ((ji20) + (wrap64 (8 * (wrap64 (rd l0 (ji9))))))) ≤ (l0.length : Int)) = true := dT c23
             replace H := Option.bind_eq_some_iff.mp H
             obtain ⟨⟨t608, t609⟩, A240, H⟩ := H
             try dsimp only at H
             have A24 := Aside0.mk A240
             clear A240
             by_cases c25 : 0 ≤ a1
             ·rw [if_pos c25] at H
              have c25b0 : decide (0 ≤ a1) = true := dT c25
              clear c25
              by_cases c26 : a1 < (l0.length : Int)
              ·rw [if_pos c26] at H
               have c26b0 : decide (a1 < (l0.length : Int)) = true := dT c26
               clear c26
               obtain ⟨ji27, hji27⟩ : ∃ j_ : Int, (wrap64 (a1 + 1)) = j_ := ⟨_, rfl⟩
               first | rw [hji27] at H | simp only [hji27] at H
               (try rw [hji27] at A19)
               (try rw [hji27] at A24)
               have hji27w : (IntKind.i64.wrap (a1 + 1)) = ji27 := (i64_w _).trans hji27
               by_cases c28 : 0 ≤ (ji27)
               ·rw [if_pos c28] at H
                have c28b0 : decide (0 ≤ (ji27)) = true := dT c28
                clear c28
                by_cases c29 : (ji27) < (l0.length : Int)
                ·rw [if_pos c29] at H
                 have c29b0 : decide ((ji27) < (l0.length : Int)) = true := dT c29
                 clear c29
                 obtain ⟨ji30, hji30⟩ : ∃ j_ : Int, (wrap64 (a1 + 2)) = j_ := ⟨_, rfl⟩
                 first | rw [hji30] at H | simp only [hji30] at H
                 (try rw [hji30] at A19)
                 (try rw [hji30] at A24)
                 have hji30w : (IntKind.i64.wrap (a1 + 2)) = ji30 := (i64_w _).trans hji30
                 by_cases c31 : 0 ≤ (ji30)
                 ·rw [if_pos c31] at H
                  have c31b0 : decide (0 ≤ (ji30)) = true := dT c31
                  clear c31
                  by_cases c32 : (ji30) < (l0.length : Int)
                  ·rw [if_pos c32] at H
                   have c32b0 : decide ((ji30) < (l0.length : Int)) = true := dT c32
                   clear c32
                   obtain ⟨ji33, hji33⟩ : ∃ j_ : Int, (wrap64 (a1 + 3)) = j_ := ⟨_, rfl⟩
                   first | rw [hji33] at H | simp only [hji33] at H
                   (try rw [hji33] at A19)
                   (try rw [hji33] at A24)
                   have hji33w : (IntKind.i64.wrap (a1 + 3)) = ji33 := (i64_w _).trans hji33
                   by_cases c34 : 0 ≤ (ji33)
                   ·rw [if_pos c34] at H
                    have c34b0 : decide (0 ≤ (ji33)) = true := dT c34
                    clear c34
                    by_cases c35 : (ji33) < (l0.length : Int)
                    ·rw [if_pos c35] at H
                     have c35b0 : decide ((ji33) < (l0.length : Int)) = true := dT c35
                     clear c35
                     by_cases c36 : t604 = 0
                     all_goals
                      first
                       | (rw [if_pos c36] at H; have c36b0 : (t604 == 0) = true := bI.mpr c36; have c36b1 : (t604 != 0) = false := nF.mpr c36)
                       | (rw [if_neg c36] at H; have c36b0 : (t604 == 0) = false := bF.mpr c36; have c36b1 : (t604 != 0) = true := nI.mpr c36)
                      clear c36
                      simp only [Option.some.injEq, Prod.mk.injEq] at H
                      obtain ⟨rfl, rfl, rfl, rfl, rfl⟩ := H
                      go_enter Tryd.func36, Tryd.ntmps36
                      go_wp2_with ((with_reducible refine gate_dst (N := 4) rfl ?_); refine box_event rfl (N := 4) rfl (cs := #[.slice none 0 0, .slice none 0 0, .int .u32 0]) (t := 45) jW ?_; intro gb599 hg w37 hbox hb; have BK599 := Aside0.mk hbox; have GW599 := Aside0.mk (jG hg HB); have GE599 := Aside0.mk (jG hg HB); replace HB := Aside0.mk (zT (jH HB) hb); clear hb hbox hg)
                      have p600 : 0 ≤ ((ji6) : Int) := oD (jA)
                      have q600 : (ji6) < (l0.length : Int) := oD (jA)
                      obtain ⟨ad600, e600, hx600_0⟩ := Kd.at_int HR0.out (ji6) p600 q600
                      cases e600
                      replace hx600_0 := (HB.out.cell (bL w _ hx600_0)).trans hx600_0
                      replace p600 := eq_true p600
                      replace q600 := eq_true q600
                      have p601 : 0 ≤ ((ji9) : Int) := oD (jA)
                      have q601 : (ji9) < (l0.length : Int) := oD (jA)
                      obtain ⟨ad601, e601, hx601_0⟩ := Kd.at_int HR0.out (ji9) p601 q601
                      obtain rfl : ad600 = ad601 := (by injection e601)
                      replace hx601_0 := (HB.out.cell (bL w _ hx601_0)).trans hx601_0
                      replace p601 := eq_true p601
                      replace q601 := eq_true q601
                      obtain ⟨i038, hi038, _, hsz38, _⟩ := info_parts info5
                      obtain ⟨A38, hcut38, hA38, hC38⟩ := print_mid_of (P := Tryd.prog) (Value.int .u8) 0 25 5 .i64 .i64 Tryd.underlying25 hi038 hsz38 (some ad600) c0 l0 (ji15) (ji20) (oD (jA)) (by first | omega | exact oD (jA)) (oD (jA)) HC0.out
                      obtain ⟨ya, hya⟩ : ∃ y_ : List Int, y_ = ((l0.take ((ji20) : Int).toNat).drop ((ji15) : Int).toNat) := ⟨_, rfl⟩
                      simp only [← hya] at hcut38 hA38 hC38
                      have Bya := Aside0.mk (show r03_Decode.f k ya = some (t603, t604) by rw [hya]; exact A19.out)
                      clear hya
                      have HR602 := Aside0.mk (Kd.C_of_reads (h1 := fun _ => rfl) (hA38 _ (Kd.reads_of_C HR0.out)))
                      have HC602 := Aside0.mk hC38
                      clear hA38 hC38 hi038 hsz38
                      go_quiet (fail)
                      go_wp2_with (go_at_call 47; (with_reducible refine (r03_Decode.calls k _ _ ya t603 t604 _ ?side1 ?side2 Bya.out).mono ?_); (case side1 => exact jC (Kd.C_below HR602.out HB.out)); (case side2 => exact HC602.out); rintro e w39 ⟨v605, rfl, ho0, hb⟩; have HO606 := Aside0.mk (Kd.R_lower ho0 (zZ (jH HB))); replace BK599 := Aside0.mk (jB BK599 hb); replace HB := Aside0.mk (zT (jH HB) hb); (try clear hb); (try clear hb2); (try clear hk); (try clear hi); (try clear ho0); obtain ⟨i040, hi040, _, hsz40, _⟩ := info_parts info5; obtain ⟨A40, hcut40, hA40, hC40⟩ := print_mid_of (P := Tryd.prog) (Value.int .u8) 0 25 5 .i64 .i64 Tryd.underlying25 hi040 hsz40 (some ad600) c0 l0 (ji20) (wrap64 ((ji20) + (wrap64 (8 * (wrap64 (rd l0 (ji9))))))) (oD (jA)) (by first | omega | exact oD (jA)) (oD (jA)) HC0.out; obtain ⟨yb, hyb⟩ : ∃ y_ : List Int, y_ = ((l0.take ((wrap64 ((ji20) + (wrap64 (8 * (wrap64 (rd l0 (ji9))))))) : Int).toNat).drop ((ji20) : Int).toNat) := ⟨_, rfl⟩; simp only [← hyb] at hcut40 hA40 hC40; have Byb := Aside0.mk (show r03_Decode.f k yb = some (t608, t609) by rw [hyb]; exact A24.out); clear hyb; have HR607 := Aside0.mk (Kd.C_of_reads (h1 := fun _ => rfl) (hA40 _ (Kd.reads_of_C HR0.out))); have HC607 := Aside0.mk hC40; clear hA40 hC40 hi040 hsz40)
                      go_wp2_with (go_at_call 47; (with_reducible refine (r03_Decode.calls k _ _ yb t608 t609 _ ?side1 ?side2 Byb.out).mono ?_); (case side1 => exact jC (Kd.C_below HR607.out HB.out)); (case side2 => exact HC607.out); rintro e w41 ⟨v610, rfl, ho0, hb⟩; have HO611 := Aside0.mk (Kd.R_lower (Kd.R_new' ho0 (Kd.R_lt (jR HO606))) (zZ (jH HB))); replace HO606 := Aside0.mk (Kd.R_elder' (jR HO606) (Kd.R_base ho0) hb); replace BK599 := Aside0.mk (jB BK599 hb); replace HB := Aside0.mk (zT (jH HB) hb); (try clear hb); (try clear hb2); (try clear hk); (try clear hi); (try clear ho0); have p612 : 0 ≤ (a1 : Int) := oD (jA); have q612 : a1 < (l0.length : Int) := oD (jA); obtain ⟨ad612, e612, hx612_0⟩ := Kd.at_int HR0.out a1 p612 q612; obtain rfl : ad600 = ad612 := (by injection e612); replace hx612_0 := (HB.out.cell (bL w _ hx612_0)).trans hx612_0; replace p612 := eq_true p612; replace q612 := eq_true q612; have p613 : 0 ≤ ((ji27) : Int) := oD (jA); have q613 : (ji27) < (l0.length : Int) := oD (jA); obtain ⟨ad613, e613, hx613_0⟩ := Kd.at_int HR0.out (ji27) p613 q613; obtain rfl : ad600 = ad613 := (by injection e613); replace hx613_0 := (HB.out.cell (bL w _ hx613_0)).trans hx613_0; replace p613 := eq_true p613; replace q613 := eq_true q613; have p614 : 0 ≤ ((ji30) : Int) := oD (jA); have q614 : (ji30) < (l0.length : Int) := oD (jA); obtain ⟨ad614, e614, hx614_0⟩ := Kd.at_int HR0.out (ji30) p614 q614; obtain rfl : ad600 = ad614 := (by injection e614); replace hx614_0 := (HB.out.cell (bL w _ hx614_0)).trans hx614_0; replace p614 := eq_true p614; replace q614 := eq_true q614; have p615 : 0 ≤ ((ji33) : Int) := oD (jA); have q615 : (ji33) < (l0.length : Int) := oD (jA); obtain ⟨ad615, e615, hx615_0⟩ := Kd.at_int HR0.out (ji33) p615 q615; obtain rfl : ad600 = ad615 := (by injection e615); replace hx615_0 := (HB.out.cell (bL w _ hx615_0)).trans hx615_0; replace p615 := eq_true p615; replace q615 := eq_true q615; obtain ⟨Ao42, co42, eo42⟩ := Kd.R_slice HO611.out; subst eo42; obtain ⟨Ao43, co43, eo43⟩ := Kd.R_slice HO606.out; subst eo43; obtain ⟨hcz44_0, hcz44_1, hcz44_2, hfz44_0, hfz44_1, hfz44_2⟩ := kQ3 BK599.out)
                      go_quiet (fail)
                      go_wp2
                      have hN : ((((((((rd l0 a1) % 4294967296) + ((256 * ((rd l0 (ji27)) % 4294967296)) % 4294967296)) % 4294967296) + ((65536 * ((rd l0 (ji30)) % 4294967296)) % 4294967296)) % 4294967296) + ((16777216 * ((rd l0 (ji33)) % 4294967296)) % 4294967296)) % 4294967296) = ((rd l0 a1 + 256 * (rd l0 ji27 % 4294967296) + 65536 * (rd l0 ji30 % 4294967296) + 16777216 * (rd l0 ji33 % 4294967296)) % 4294967296) := by omega
                      refine bodyPost_ret (results_ctt rfl _ _ gb599 45 #[.slice Ao43 t603.length co43, .slice Ao42 t608.length co42, .int .u32 ((rd l0 a1 + 256 * (rd l0 ji27 % 4294967296) + 65536 * (rd l0 ji30 % 4294967296) + 16777216 * (rd l0 ji33 % 4294967296)) % 4294967296)] (0, 0) _ rfl (by (with_reducible repeat (first | refine kN ?_ _ | refine kD ?_ | refine kA ?_ _)); refine kP (cs := #[.slice Ao43 t603.length co43, .slice Ao42 t608.length co42, .int .u32 0]) ?_ 2 _ rfl; (with_reducible repeat (first | refine kN ?_ _ | refine kD ?_ | refine kA ?_ _)); refine kP (cs := #[.slice Ao43 t603.length co43, .slice none 0 0, .int .u32 0]) ?_ 1 _ rfl; (with_reducible repeat (first | refine kN ?_ _ | refine kD ?_ | refine kA ?_ _)); refine kP (cs := #[.slice none 0 0, .slice none 0 0, .int .u32 0]) ?_ 0 _ rfl; (with_reducible repeat (first | refine kN ?_ _ | refine kD ?_ | refine kA ?_ _)); exact BK599.out) Tryd.underlying45 rfl (by kernel_rfl)) rfl ?_
                      exact ⟨.slice Ao43 t603.length co43, .slice Ao42 t608.length co42, by rw [hN]; kernel_rfl, by (with_reducible repeat (first | apply Kd.R_alloc | apply Kd.R_drewN | apply Kd.R_drew)); exact Kd.R_mono (Kd.R_far (p := ⟨gb599, 2, none⟩) (Kd.R_far (p := ⟨gb599, 1, none⟩) (Kd.R_far (p := ⟨gb599, 0, none⟩) (Kd.R_types HO606.out BK599.out (by decide)) (fun _ hk => hk.2) (.slice Ao43 t603.length co43)) (fun _ hk => hk.2) (.slice Ao42 t608.length co42)) (fun _ hk => hk.2) (.int .u32 ((rd l0 a1 + 256 * (rd l0 ji27 % 4294967296) + 65536 * (rd l0 ji30 % 4294967296) + 16777216 * (rd l0 ji33 % 4294967296)) % 4294967296))) (fun _ hk => hk.1.2), by (with_reducible repeat (first | apply Kd.R_alloc | apply Kd.R_drewN | apply Kd.R_drew)); exact Kd.R_mono (Kd.R_far (p := ⟨gb599, 2, none⟩) (Kd.R_far (p := ⟨gb599, 1, none⟩) (Kd.R_far (p := ⟨gb599, 0, none⟩) (Kd.R_types HO611.out BK599.out (by decide)) (fun _ hk => hk.2) (.slice Ao43 t603.length co43)) (fun _ hk => hk.2) (.slice Ao42 t608.length co42)) (fun _ hk => hk.2) (.int .u32 ((rd l0 a1 + 256 * (rd l0 ji27 % 4294967296) + 65536 * (rd l0 ji30 % 4294967296) + 16777216 * (rd l0 ji33 % 4294967296)) % 4294967296))) (fun _ hk => hk.1.2), jH HB⟩
                    ·rw [if_neg c35] at H
                     exact absurd H (by simp)
                   ·rw [if_neg c34] at H
                    exact absurd H (by simp)
                  ·rw [if_neg c32] at H
                   exact absurd H (by simp)
                 ·rw [if_neg c31] at H
                  exact absurd H (by simp)
                ·rw [if_neg c29] at H
                 exact absurd H (by simp)
               ·rw [if_neg c28] at H
                exact absurd H (by simp)
              ·rw [if_neg c26] at H
               exact absurd H (by simp)
             ·rw [if_neg c25] at H
              exact absurd H (by simp)
            ·rw [if_neg c23] at H
             exact absurd H (by simp)
           ·rw [if_neg c22] at H
            exact absurd H (by simp)
          ·rw [if_neg c21] at H
           exact absurd H (by simp)
         ·rw [if_neg c18] at H
          exact absurd H (by simp)
        ·rw [if_neg c17] at H
         exact absurd H (by simp)
       ·rw [if_neg c16] at H
        exact absurd H (by simp)
     ·rw [if_neg c11] at H
      exact absurd H (by simp)
    ·rw [if_neg c10] at H
     exact absurd H (by simp)
   ·rw [if_neg c8] at H
    exact absurd H (by simp)
  ·rw [if_neg c7] at H
   exact absurd H (by simp)
mutual
def r21_Decode.j0 : Nat → List Int → Int → Bool → Option ((List (S45)) × Int)
 | 0, _, _, _ => none
 | k + 1, x0, x4, x52 => if x52 = true then (some (([] : List (S45)), 2)) else (r21_Decode.l0 k x0 x4 ([] : List (S45)) 5 0)
def r21_Decode.l0 : Nat → List Int → Int → List (S45) → Int → Int → Option ((List (S45)) × Int)
 | 0, _, _, _, _, _ => none
 | k + 1, x0, x4, x5, x6, x7 => if 4 < (x0.length : Int) then (if x7 < (wrap64 (rd x0 4)) then ((r21_read.f k x0 x6).bind fun bt626 => (if bt626.2.2.2.2 = true then (if x5.length < 2513169434916 then (r21_Decode.l0 k x0 x4 (x5 ++ [(⟨bt626.1, bt626.2.1, bt626.2.2.1⟩ : S45)]) bt626.2.2.2.1 (wrap64 (x7 + 1))) else (none)) else (some (([] : List (S45)), 2)))) else (if x6 = x4 then ((r21_Right.f k x5).bind fun t639 => (if t639 = true then (some (x5, 0)) else (some (([] : List (S45)), 2)))) else (some (([] : List (S45)), 2)))) else (none)
end
def r21_Decode.f (k : Nat) (l0 : List Int) : Option ((List (S45)) × Int) := if (wrap64 ((l0.length : Int) - 4)) < 0 then (some (([] : List (S45)), 9)) else (if 0 ≤ (wrap64 ((l0.length : Int) - 4)) then (if (wrap64 ((l0.length : Int) - 4)) ≤ (l0.length : Int) then ((r20_Seal.f k (l0.take ((wrap64 ((l0.length : Int) - 4)) : Int).toNat)).bind fun t617 => (if (strOfNums t617).toList = (strOfNums l0).toList then (if (wrap64 ((l0.length : Int) - 4)) < 5 then (r21_Decode.j0 k (l0.take ((wrap64 ((l0.length : Int) - 4)) : Int).toNat) (wrap64 ((l0.length : Int) - 4)) true) else (if 0 < ((l0.take ((wrap64 ((l0.length : Int) - 4)) : Int).toNat).length : Int) then (if (rd (l0.take ((wrap64 ((l0.length : Int) - 4)) : Int).toNat) 0) = 72 then (if 1 < ((l0.take ((wrap64 ((l0.length : Int) - 4)) : Int).toNat).length : Int) then (if (rd (l0.take ((wrap64 ((l0.length : Int) - 4)) : Int).toNat) 1) = 82 then (if 2 < ((l0.take ((wrap64 ((l0.length : Int) - 4)) : Int).toNat).length : Int) then (if (rd (l0.take ((wrap64 ((l0.length : Int) - 4)) : Int).toNat) 2) = 84 then (if 3 < ((l0.take ((wrap64 ((l0.length : Int) - 4)) : Int).toNat).length : Int) then (r21_Decode.j0 k (l0.take ((wrap64 ((l0.length : Int) - 4)) : Int).toNat) (wrap64 ((l0.length : Int) - 4)) ((rd (l0.take ((wrap64 ((l0.length : Int) - 4)) : Int).toNat) 3) != 49)) else (none)) else (r21_Decode.j0 k (l0.take ((wrap64 ((l0.length : Int) - 4)) : Int).toNat) (wrap64 ((l0.length : Int) - 4)) true)) else (none)) else (r21_Decode.j0 k (l0.take ((wrap64 ((l0.length : Int) - 4)) : Int).toNat) (wrap64 ((l0.length : Int) - 4)) true)) else (none)) else (r21_Decode.j0 k (l0.take ((wrap64 ((l0.length : Int) - 4)) : Int).toNat) (wrap64 ((l0.length : Int) - 4)) true)) else (none))) else (some (([] : List (S45)), 10)))) else (none)) else (none))
def r21_Decode.T4 : Bool × List (List Nat × List Nat) := (true, [([], []), ([], []), ([0, 1], [0, 1]), ([2], [2]), ([3], [3]), ([], []), ([5], [5]), ([4, 6], [4, 6])])
def r21_Decode.B4 : List Nat := [0, 0, 3, 7, 15, 0, 32, 127]
theorem r21_Decode.tab4 : rtab .any (opsOf Tryd.f18 4) = r21_Decode.T4 := by kernel_rfl
theorem r21_Decode.bits4 : waitsOk r21_Decode.T4.2 r21_Decode.B4 = true := by kernel_rfl
set_option maxHeartbeats 8000000 in
set_option maxRecDepth 100000 in
theorem r21_Decode.calls (k : Nat) (A0 : Option Addr) (c0 : Nat) (l0 : List Int) (r1 : List (S45)) (r2 : Int) (w : World) (hr0 : Kd.C (Kd.int .u8) w A0 l0.length l0) (hc0 : l0.length ≤ c0) (h : r21_Decode.f k l0 = some (r1, r2)) :
  Calls Tryd.prog 18 #[.slice A0 l0.length c0] w fun e w' => ∃ v0_ : Value, e = .returned (.tuple #[v0_, .int .i64 r2]) ∧ Kd.S k45 45 w' w.heap.size (fun _ => True) v0_ r1 ∧ Below w.heap.size w w' := by
 have hu45 := Tryd.underlying45
 have HR0 := Aside0.mk hr0
 have HC0 := Aside0.mk hc0
 clear hr0 hc0
 have HB := Aside0.mk (Below.refl w.heap.size w)
 have H : (if (wrap64 ((l0.length : Int) - 4)) < 0 then (some (([] : List (S45)), 9)) else (if 0 ≤ (wrap64 ((l0.length : Int) - 4)) then (if (wrap64 ((l0.length : Int) - 4)) ≤ (l0.length : Int) then ((r20_Seal.f k (l0.take ((wrap64 ((l0.length : Int) - 4)) : Int).toNat)).bind fun t617 => (if (strOfNums t617).toList = (strOfNums l0).toList then (if (wrap64 ((l0.length : Int) - 4)) < 5 then (r21_Decode.j0 k (l0.take ((wrap64 ((l0.length : Int) - 4)) : Int).toNat) (wrap64 ((l0.length : Int) - 4)) true) else (if 0 < ((l0.take ((wrap64 ((l0.length : Int) - 4)) : Int).toNat).length : Int) then (if (rd (l0.take ((wrap64 ((l0.length : Int) - 4)) : Int).toNat) 0) = 72 then (if 1 < ((l0.take ((wrap64 ((l0.length : Int) - 4)) : Int).toNat).length : Int) then (if (rd (l0.take ((wrap64 ((l0.length : Int) - 4)) : Int).toNat) 1) = 82 then (if 2 < ((l0.take ((wrap64 ((l0.length : Int) - 4)) : Int).toNat).length : Int) then (if (rd (l0.take ((wrap64 ((l0.length : Int) - 4)) : Int).toNat) 2) = 84 then (if 3 < ((l0.take ((wrap64 ((l0.length : Int) - 4)) : Int).toNat).length : Int) then (r21_Decode.j0 k (l0.take ((wrap64 ((l0.length : Int) - 4)) : Int).toNat) (wrap64 ((l0.length : Int) - 4)) ((rd (l0.take ((wrap64 ((l0.length : Int) - 4)) : Int).toNat) 3) != 49)) else (none)) else (r21_Decode.j0 k (l0.take ((wrap64 ((l0.length : Int) - 4)) : Int).toNat) (wrap64 ((l0.length : Int) - 4)) true)) else (none)) else (r21_Decode.j0 k (l0.take ((wrap64 ((l0.length : Int) - 4)) : Int).toNat) (wrap64 ((l0.length : Int) - 4)) true)) else (none)) else (r21_Decode.j0 k (l0.take ((wrap64 ((l0.length : Int) - 4)) : Int).toNat) (wrap64 ((l0.length : Int) - 4)) true)) else (none))) else (some (([] : List (S45)), 10)))) else (none)) else (none))) = some (r1, r2) := h
 clear h
 by_cases c2 : (wrap64 ((l0.length : Int) - 4)) < 0
 ·rw [if_pos c2] at H
  have c2b0 := dT c2
  clear c2
  simp only [Option.some.injEq, Prod.mk.injEq] at H
  obtain ⟨rfl, rfl⟩ := H
  go_enter Tryd.func18, Tryd.ntmps18
  go_wp2
  go_ret2
  exact ⟨_, jE, by first | exact Kd.S_nil _ _ _ _ _ | exact Kd.N_nil _ _ _ _ _ | exact Kd.V_nil _ _ _ _ _ | exact Kd.Q_nil _ _ _ _ _ | exact Kd.R_nil _ _ _ _ _, jH HB⟩
 ·rw [if_neg c2] at H
  have c2b0 := dF c2
  clear c2
  obtain ⟨ji3, hji3⟩ : ∃ j_ : Int, (wrap64 ((l0.length : Int) - 4)) = j_ := ⟨_, rfl⟩
  first | rw [hji3] at H | simp only [hji3] at H
  (try rw [hji3] at c2b0)
  have hji3w : (IntKind.i64.wrap ((l0.length : Int) - 4)) = ji3 := (i64_w _).trans hji3
  by_cases c4 : 0 ≤ (ji3)
  ·rw [if_pos c4] at H
   have c4b0 := eq_true c4
   have c4b1 := dT c4
   clear c4
   by_cases c5 : (ji3) ≤ (l0.length : Int)
   ·rw [if_pos c5] at H
    have c5b0 := eq_true c5
    have c5b1 := dT c5
    clear c5
    replace H := Option.bind_eq_some_iff.mp H
    obtain ⟨t617, A60, H⟩ := H
    try dsimp only at H
    have A6 := Aside0.mk A60
    clear A60
    by_cases c7 : (strOfNums t617).toList = (strOfNums l0).toList
    ·rw [if_pos c7] at H
     have c7b0 : ((strOfNums t617).toList == (strOfNums l0).toList) = true := bI.mpr c7
     have c7b1 : ((strOfNums t617).toList != (strOfNums l0).toList) = false := nF.mpr c7
     clear c7
     have c8b0 := eq_true (oD (jA) : 0 ≤ (ji3))
     have c9b0 := eq_true (oD (jA) : (ji3) ≤ (l0.length : Int))
     have HC10 := Aside0.mk H
     clear H
     go_enter Tryd.func18, Tryd.ntmps18
     try go_wp2
     replace HB := Aside0.mk (zD HB.out)
     obtain ⟨i012, hi012, _, hsz12, _⟩ := info_parts info5
     obtain ⟨hcut12, hA12, hC12⟩ := print_take_of (P := Tryd.prog) (Value.int .u8) 0 25 5 .i64 Tryd.underlying25 hi012 hsz12 A0 c0 l0 (ji3) (oD (jA)) (oD (jA)) HC0.out
     have HR616 := Aside0.mk (Kd.C_of_reads (h1 := fun _ => rfl) (hA12 _ (Kd.reads_of_C HR0.out)))
     have HC616 := Aside0.mk hC12
     clear hA12 hC12 hi012 hsz12
     refine start_ (n := 8) (S := fun w' => True) (ds := []) #[false, false, false, false, false, false, false, false] (by kernel_rfl) rfl rfl trivial (fun hHeld => ?_); refine with_tabW r21_Decode.tab4 r21_Decode.bits4 (fun HT_ HW_ => ?_)
     generalize w.drew = w11 at HB HR616 hHeld ⊢
     refine qP 0 16 (tB 8 1) ?_
     refine qP 1 17 (tB 8 3) ?_
     refine qP 2 18 (tB 8 7) ?_
     refine qP 5 21 (tB 8 39) ?_
     refine join_ (σ := Value) 1 #[true, true, true, true, true, true, true, false] (fun s_ => [(19, s_), (20, .string (strOfNums t617)), (22, .string (strOfNums l0))]) (fun s_ w' => (Kd.R (Kd.int .u8) 5 w' w.heap.size (fun _ => True) s_ t617) ∧ (Below w.heap.size w w')) ?_ ?_
     rotate_left
     ·intro hCont
      refine two_ (i := 3) (j := 6) (Ni := some 19) (Nj := some 22) #[true, true, true, true, false, true, false, false] (tB 8 103) rfl rfl rfl rfl (two_of HT_.out (by kernel_rfl)) (by decide) (by decide) (fun K hK => ?_) (fun K hK => ?_)
      ·skip
       refine goes_ Tryd.func33 (by kernel_rfl) rfl #[.slice A0 (l0.take ((ji3) : Int).toNat).length c0] (by rfl) rfl rfl (by (try simp only [List.map_toArray, List.map_cons, List.map_nil]); first | done | (rw [show (l0.take ((ji3) : Int).toNat).length = (ji3).toNat from (by rw [List.length_take]; have h_ : ((ji3) : Int) ≤ (l0.length : Int) := oD (jA); omega)] <;> rfl) | (simp only [hji3]; rfl) | rfl | (simp only [List.length_drop, List.length_take]; rfl)) ?_
       with_reducible refine (r20_Seal.calls k _ _ (l0.take ((ji3) : Int).toNat) t617 _ ?side1 ?side2 A6.out).mono ?_
       (case side1 => exact jC (Kd.C_below HR616.out HB.out))
       (case side2 => exact HC616.out)
       rintro e w13 ⟨v618, rfl, ho0, hb⟩
       refine ⟨_, rfl, ?_⟩
       have HO619 := Aside0.mk (Kd.R_lower ho0 (zZ (jH HB)))
       replace HB := Aside0.mk (zT (jH HB) hb)
       (try clear hb)
       (try clear hb2)
       (try clear hk)
       (try clear hi)
       (try clear ho0)
       refine hK.out _ _ trivial (fun hHeld => ?_)
       clear hK K
       refine qN 19 ?_
       refine two_ (i := 4) (j := 6) (Ni := some 20) (Nj := some 22) #[true, true, true, true, true, true, false, false] (tB 8 111) rfl rfl rfl rfl (two_of HT_.out (by kernel_rfl)) (by decide) (by decide) (fun K hK => ?_) (fun K hK => ?_)
       ·skip
        have hcv14 := own_string (P := Tryd.prog) Tryd.underlying25 Tryd.underlying5 Tryd.underlying9 (Kd.own_of_R HO619.out)
        refine value_ (w1 := ?_) (v := ?_) (by rfl) rfl ?_ ?_
        rotate_left 2
        ·go_simp
         constructor
         ·rfl
         ·rfl
        clear hcv14
        refine hK.out _ _ trivial (fun hHeld => ?_)
        clear hK K
        refine qN 20 ?_
        refine one_ (i := 6) (N := some 22) (tB 8 127) rfl rfl (one_of HT_.out (by kernel_rfl)) (by decide) (fun K hK => ?_)
        have hcv15 := Kd.C_string (P := Tryd.prog) (A := A0) (c := c0) Tryd.underlying25 Tryd.underlying5 Tryd.underlying9 (Kd.C_below HR0.out HB.out)
        refine value_ (w1 := ?_) (v := ?_) (by rfl) rfl ?_ ?_
        rotate_left 2
        ·go_simp
         constructor
         ·rfl
         ·rfl
        clear hcv15
        refine hK.out _ _ trivial (fun hHeld => ?_)
        clear hK K
        refine qN 22 ?_
        exact norm_ (by simp only [putAll, Act.put, List.setIfInBounds_toArray, List.set_cons_zero, List.set_cons_succ]) (hCont (v618) _ ⟨(jR HO619), (jH HB)⟩)
       ·skip
        have hcv14 := Kd.C_string (P := Tryd.prog) (A := A0) (c := c0) Tryd.underlying25 Tryd.underlying5 Tryd.underlying9 (Kd.C_below HR0.out HB.out)
        refine value_ (w1 := ?_) (v := ?_) (by rfl) rfl ?_ ?_
        rotate_left 2
        ·go_simp
         constructor
         ·rfl
         ·rfl
        clear hcv14
        refine hK.out _ _ trivial (fun hHeld => ?_)
        clear hK K
        refine qN 22 ?_
        refine one_ (i := 4) (N := some 20) (tB 8 127) rfl rfl (one_of HT_.out (by kernel_rfl)) (by decide) (fun K hK => ?_)
        have hcv15 := own_string (P := Tryd.prog) Tryd.underlying25 Tryd.underlying5 Tryd.underlying9 (Kd.own_of_R HO619.out)
        refine value_ (w1 := ?_) (v := ?_) (by rfl) rfl ?_ ?_
        rotate_left 2
        ·go_simp
         constructor
         ·rfl
         ·rfl
        clear hcv15
        refine hK.out _ _ trivial (fun hHeld => ?_)
        clear hK K
        refine qN 20 ?_
        exact norm_ (by simp only [putAll, Act.put, List.setIfInBounds_toArray, List.set_cons_zero, List.set_cons_succ]) (hCont (v618) _ ⟨(jR HO619), (jH HB)⟩)
      ·skip
       have hcv13 := Kd.C_string (P := Tryd.prog) (A := A0) (c := c0) Tryd.underlying25 Tryd.underlying5 Tryd.underlying9 (Kd.C_below HR0.out HB.out)
       refine value_ (w1 := ?_) (v := ?_) (by rfl) rfl ?_ ?_
       rotate_left 2
       ·go_simp
        constructor
        ·rfl
        ·rfl
       clear hcv13
       refine hK.out _ _ trivial (fun hHeld => ?_)
       clear hK K
       refine qN 22 ?_
       refine one_ (i := 3) (N := some 19) (tB 8 111) rfl rfl (one_of HT_.out (by kernel_rfl)) (by decide) (fun K hK => ?_)
       refine goes_ Tryd.func33 (by kernel_rfl) rfl #[.slice A0 (l0.take ((ji3) : Int).toNat).length c0] (by rfl) rfl rfl (by (try simp only [List.map_toArray, List.map_cons, List.map_nil]); first | done | (rw [show (l0.take ((ji3) : Int).toNat).length = (ji3).toNat from (by rw [List.length_take]; have h_ : ((ji3) : Int) ≤ (l0.length : Int) := oD (jA); omega)] <;> rfl) | (simp only [hji3]; rfl) | rfl | (simp only [List.length_drop, List.length_take]; rfl)) ?_
       with_reducible refine (r20_Seal.calls k _ _ (l0.take ((ji3) : Int).toNat) t617 _ ?side1 ?side2 A6.out).mono ?_
       (case side1 => exact jC (Kd.C_below HR616.out HB.out))
       (case side2 => exact HC616.out)
       rintro e w14 ⟨v618, rfl, ho0, hb⟩
       refine ⟨_, rfl, ?_⟩
       have HO619 := Aside0.mk (Kd.R_lower ho0 (zZ (jH HB)))
       replace HB := Aside0.mk (zT (jH HB) hb)
       (try clear hb)
       (try clear hb2)
       (try clear hk)
       (try clear hi)
       (try clear ho0)
       refine hK.out _ _ trivial (fun hHeld => ?_)
       clear hK K
       refine qN 19 ?_
       refine one_ (i := 4) (N := some 20) (tB 8 127) rfl rfl (one_of HT_.out (by kernel_rfl)) (by decide) (fun K hK => ?_)
       have hcv15 := own_string (P := Tryd.prog) Tryd.underlying25 Tryd.underlying5 Tryd.underlying9 (Kd.own_of_R HO619.out)
       refine value_ (w1 := ?_) (v := ?_) (by rfl) rfl ?_ ?_
       rotate_left 2
       ·go_simp
        constructor
        ·rfl
        ·rfl
       clear hcv15
       refine hK.out _ _ trivial (fun hHeld => ?_)
       clear hK K
       refine qN 20 ?_
       exact norm_ (by simp only [putAll, Act.put, List.setIfInBounds_toArray, List.set_cons_zero, List.set_cons_succ]) (hCont (v618) _ ⟨(jR HO619), (jH HB)⟩)
     rintro v618 w16 ⟨h0_, h1_⟩
     have n0_ : Aside0 (Kd.R (Kd.int .u8) 5 w16 w.heap.size (fun _ => True) v618 t617) := ⟨h0_⟩
     have n1_ : Aside0 (Below w.heap.size w w16) := ⟨h1_⟩
     clear HB
     clear h0_ h1_
     have HO619 := n0_
     have HB := n1_
     clear n0_ n1_
     have hHeld := trivial
     refine norm_ (a' := ?_) ?_ ?_
     rotate_left
     ·simp only [putAll, Act.put, List.setIfInBounds_toArray, List.set_cons_zero, List.set_cons_succ]
      rfl
     refine qP 7 23 (tB 8 255) ?_
     refine done_ (done_of HT_.out (by kernel_rfl)) ?_
     obtain ⟨i017, hi017, _, hsz17, _⟩ := info_parts info5
     obtain ⟨hcut17, hA17, hC17⟩ := print_take_of (P := Tryd.prog) (Value.int .u8) 0 25 5 .i64 Tryd.underlying25 hi017 hsz17 A0 c0 l0 (ji3) (oD (jA)) (oD (jA)) HC0.out
     have HR620 := Aside0.mk (Kd.C_of_reads (h1 := fun _ => rfl) (hA17 _ (Kd.reads_of_C HR0.out)))
     have HC620 := Aside0.mk hC17
     clear hA17 hC17 hi017 hsz17
     go_upto_region 7 with (fail)
     go_cut [52] (fun v52 wc => ∃ (kq : Nat) (x52_9 : Bool), v52 = .bool x52_9 ∧ Aside0 (r21_Decode.j0 kq (l0.take ((ji3) : Int).toNat) ji3 x52_9 = some (r1, r2)) ∧ Aside0 (kq ≤ k) ∧ Aside0 (Below w.heap.size w wc))
     case first =>
      have H := HC10.out
      clear HC10
      by_cases c18 : (ji3) < 5
      ·rw [if_pos c18] at H
       have c18b0 := dT c18
       clear c18
       (first | rw [c18b0] | (simp only [i64_w, i32_w]; rw [c18b0]) | skip)
       have H' := Aside0.mk H
       clear H
       go_wp2
       go_meet
       case rel => exact ⟨_, (true), jS, H', ⟨jO⟩, ⟨jH HB⟩⟩
      ·rw [if_neg c18] at H
       have c18b0 := dF c18
       have m0 : (0 < max ji3 0) = True := eq_true (by omega)
       have m1 : (1 < max ji3 0) = True := eq_true (by omega)
       have m2 : (2 < max ji3 0) = True := eq_true (by omega)
       have m3 : (3 < max ji3 0) = True := eq_true (by omega)
       clear c18
       (first | rw [c18b0] | (simp only [i64_w, i32_w]; rw [c18b0]) | skip)
       by_cases c19 : 0 < ((l0.take ((ji3) : Int).toNat).length : Int)
       ·rw [if_pos c19] at H
        have c19b0 := dT c19
        have c19b1 : decide (0 < (l0.take ((ji3) : Int).toNat).length) = true := dT (by omega)
        clear c19
        by_cases c20 : (rd (l0.take ((ji3) : Int).toNat) 0) = 72
        ·rw [if_pos c20] at H
         have c20b0 : ((rd (l0.take ((ji3) : Int).toNat) 0) == 72) = true := bI.mpr c20
         have c20b1 : ((rd (l0.take ((ji3) : Int).toNat) 0) != 72) = false := nF.mpr c20
         clear c20
         by_cases c21 : 1 < ((l0.take ((ji3) : Int).toNat).length : Int)
         ·rw [if_pos c21] at H
          have c21b0 := dT c21
          have c21b1 : decide (1 < (l0.take ((ji3) : Int).toNat).length) = true := dT (by omega)
          clear c21
          by_cases c22 : (rd (l0.take ((ji3) : Int).toNat) 1) = 82
          ·rw [if_pos c22] at H
           have c22b0 : ((rd (l0.take ((ji3) : Int).toNat) 1) == 82) = true := bI.mpr c22
           have c22b1 : ((rd (l0.take ((ji3) : Int).toNat) 1) != 82) = false := nF.mpr c22
           clear c22
           by_cases c23 : 2 < ((l0.take ((ji3) : Int).toNat).length : Int)
           ·rw [if_pos c23] at H
            have c23b0 := dT c23
            have c23b1 : decide (2 < (l0.take ((ji3) : Int).toNat).length) = true := dT (by omega)
            clear c23
            by_cases c24 : (rd (l0.take ((ji3) : Int).toNat) 2) = 84
            ·rw [if_pos c24] at H
             have c24b0 : ((rd (l0.take ((ji3) : Int).toNat) 2) == 84) = true := bI.mpr c24
             have c24b1 : ((rd (l0.take ((ji3) : Int).toNat) 2) != 84) = false := nF.mpr c24
             clear c24
             by_cases c25 : 3 < ((l0.take ((ji3) : Int).toNat).length : Int)
             ·rw [if_pos c25] at H
              have c25b0 := dT c25
              have c25b1 : decide (3 < (l0.take ((ji3) : Int).toNat).length) = true := dT (by omega)
              clear c25
              have H' := Aside0.mk H
              clear H
              have p621 : 0 ≤ (0 : Int) := (by omega)
              have q621 : 0 < ((l0.take ((ji3) : Int).toNat).length : Int) := oD (jA)
              obtain ⟨ad621, e621, hx621_0⟩ := Kd.at_int HR620.out 0 p621 q621
              cases e621
              have qi621 : (0 < (l0.take ((ji3) : Int).toNat).length) = True := eq_true (by omega)
              (try rw [show ((0 : Int)).toNat = 0 from rfl] at hx621_0)
              (try rw [Addr.add_zero'] at hx621_0)
              replace hx621_0 := (HB.out.cell (bL w _ hx621_0)).trans hx621_0
              replace p621 := eq_true p621
              replace q621 := eq_true q621
              have p622 : 0 ≤ (1 : Int) := (by omega)
              have q622 : 1 < ((l0.take ((ji3) : Int).toNat).length : Int) := oD (jA)
              obtain ⟨ad622, e622, hx622_0⟩ := Kd.at_int HR620.out 1 p622 q622
              obtain rfl : ad621 = ad622 := (by injection e622)
              (try simp only [show (1 : Int).toNat = 1 from rfl, Nat.reduceMul, Nat.reduceEqDiff, Go.Addr.add, ↓reduceIte] at hx622_0)
              have qi622 : (1 < (l0.take ((ji3) : Int).toNat).length) = True := eq_true (by omega)
              (try rw [show ((1 : Int)).toNat = 1 from rfl] at hx622_0)
              replace hx622_0 := (HB.out.cell (bL w _ hx622_0)).trans hx622_0
              replace p622 := eq_true p622
              replace q622 := eq_true q622
              have p623 : 0 ≤ (2 : Int) := (by omega)
              have q623 : 2 < ((l0.take ((ji3) : Int).toNat).length : Int) := oD (jA)
              obtain ⟨ad623, e623, hx623_0⟩ := Kd.at_int HR620.out 2 p623 q623
              obtain rfl : ad621 = ad623 := (by injection e623)
              (try simp only [show (2 : Int).toNat = 2 from rfl, Nat.reduceMul, Nat.reduceEqDiff, Go.Addr.add, ↓reduceIte] at hx623_0)
              have qi623 : (2 < (l0.take ((ji3) : Int).toNat).length) = True := eq_true (by omega)
              (try rw [show ((2 : Int)).toNat = 2 from rfl] at hx623_0)
              replace hx623_0 := (HB.out.cell (bL w _ hx623_0)).trans hx623_0
              replace p623 := eq_true p623
              replace q623 := eq_true q623
              have p624 : 0 ≤ (3 : Int) := (by omega)
              have q624 : 3 < ((l0.take ((ji3) : Int).toNat).length : Int) := oD (jA)
              obtain ⟨ad624, e624, hx624_0⟩ := Kd.at_int HR620.out 3 p624 q624
              obtain rfl : ad621 = ad624 := (by injection e624)
              (try simp only [show (3 : Int).toNat = 3 from rfl, Nat.reduceMul, Nat.reduceEqDiff, Go.Addr.add, ↓reduceIte] at hx624_0)
              have qi624 : (3 < (l0.take ((ji3) : Int).toNat).length) = True := eq_true (by omega)
              (try rw [show ((3 : Int)).toNat = 3 from rfl] at hx624_0)
              replace hx624_0 := (HB.out.cell (bL w _ hx624_0)).trans hx624_0
              replace p624 := eq_true p624
              replace q624 := eq_true q624
              go_wp2
              go_meet
              case rel => exact ⟨_, (((rd (l0.take ((ji3) : Int).toNat) 3) != 49)), (by first | rfl | (simp; done) | (simp only [← hji3] <;> (first | rfl | simp)) | (simp [*]; done)), H', ⟨jO⟩, ⟨jH HB⟩⟩
             ·rw [if_neg c25] at H
              exact absurd H (by simp)
            ·rw [if_neg c24] at H
             have c24b0 : ((rd (l0.take ((ji3) : Int).toNat) 2) == 84) = false := bF.mpr c24
             have c24b1 : ((rd (l0.take ((ji3) : Int).toNat) 2) != 84) = true := nI.mpr c24
             have H' := Aside0.mk H
             clear H
             have p621 : 0 ≤ (0 : Int) := (by omega)
             have q621 : 0 < ((l0.take ((ji3) : Int).toNat).length : Int) := oD (jA)
             obtain ⟨ad621, e621, hx621_0⟩ := Kd.at_int HR620.out 0 p621 q621
             cases e621
             have qi621 : (0 < (l0.take ((ji3) : Int).toNat).length) = True := eq_true (by omega)
             (try rw [show ((0 : Int)).toNat = 0 from rfl] at hx621_0)
             (try rw [Addr.add_zero'] at hx621_0)
             replace hx621_0 := (HB.out.cell (bL w _ hx621_0)).trans hx621_0
             replace p621 := eq_true p621
             replace q621 := eq_true q621
             have p622 : 0 ≤ (1 : Int) := (by omega)
             have q622 : 1 < ((l0.take ((ji3) : Int).toNat).length : Int) := oD (jA)
             obtain ⟨ad622, e622, hx622_0⟩ := Kd.at_int HR620.out 1 p622 q622
             obtain rfl : ad621 = ad622 := (by injection e622)
             (try simp only [show (1 : Int).toNat = 1 from rfl, Nat.reduceMul, Nat.reduceEqDiff, Go.Addr.add, ↓reduceIte] at hx622_0)
             have qi622 : (1 < (l0.take ((ji3) : Int).toNat).length) = True := eq_true (by omega)
             (try rw [show ((1 : Int)).toNat = 1 from rfl] at hx622_0)
             replace hx622_0 := (HB.out.cell (bL w _ hx622_0)).trans hx622_0
             replace p622 := eq_true p622
             replace q622 := eq_true q622
             have p623 : 0 ≤ (2 : Int) := (by omega)
             have q623 : 2 < ((l0.take ((ji3) : Int).toNat).length : Int) := oD (jA)
             obtain ⟨ad623, e623, hx623_0⟩ := Kd.at_int HR620.out 2 p623 q623
             obtain rfl : ad621 = ad623 := (by injection e623)
             (try simp only [show (2 : Int).toNat = 2 from rfl, Nat.reduceMul, Nat.reduceEqDiff, Go.Addr.add, ↓reduceIte] at hx623_0)
             have qi623 : (2 < (l0.take ((ji3) : Int).toNat).length) = True := eq_true (by omega)
             (try rw [show ((2 : Int)).toNat = 2 from rfl] at hx623_0)
             replace hx623_0 := (HB.out.cell (bL w _ hx623_0)).trans hx623_0
             replace p623 := eq_true p623
             replace q623 := eq_true q623
             go_wp2
             go_meet
             case rel => exact ⟨_, (true), jS, H', ⟨jO⟩, ⟨jH HB⟩⟩
           ·rw [if_neg c23] at H
            exact absurd H (by simp)
          ·rw [if_neg c22] at H
           have c22b0 : ((rd (l0.take ((ji3) : Int).toNat) 1) == 82) = false := bF.mpr c22
           have c22b1 : ((rd (l0.take ((ji3) : Int).toNat) 1) != 82) = true := nI.mpr c22
           have H' := Aside0.mk H
           clear H
           have p621 : 0 ≤ (0 : Int) := (by omega)
           have q621 : 0 < ((l0.take ((ji3) : Int).toNat).length : Int) := oD (jA)
           obtain ⟨ad621, e621, hx621_0⟩ := Kd.at_int HR620.out 0 p621 q621
           cases e621
           have qi621 : (0 < (l0.take ((ji3) : Int).toNat).length) = True := eq_true (by omega)
           (try rw [show ((0 : Int)).toNat = 0 from rfl] at hx621_0)
           (try rw [Addr.add_zero'] at hx621_0)
           replace hx621_0 := (HB.out.cell (bL w _ hx621_0)).trans hx621_0
           replace p621 := eq_true p621
           replace q621 := eq_true q621
           have p622 : 0 ≤ (1 : Int) := (by omega)
           have q622 : 1 < ((l0.take ((ji3) : Int).toNat).length : Int) := oD (jA)
           obtain ⟨ad622, e622, hx622_0⟩ := Kd.at_int HR620.out 1 p622 q622
           obtain rfl : ad621 = ad622 := (by injection e622)
           (try simp only [show (1 : Int).toNat = 1 from rfl, Nat.reduceMul, Nat.reduceEqDiff, Go.Addr.add, ↓reduceIte] at hx622_0)
           have qi622 : (1 < (l0.take ((ji3) : Int).toNat).length) = True := eq_true (by omega)
           (try rw [show ((1 : Int)).toNat = 1 from rfl] at hx622_0)
           replace hx622_0 := (HB.out.cell (bL w _ hx622_0)).trans hx622_0
           replace p622 := eq_true p622
           replace q622 := eq_true q622
           go_wp2
           go_meet
           case rel => exact ⟨_, (true), jS, H', ⟨jO⟩, ⟨jH HB⟩⟩
         ·rw [if_neg c21] at H
          exact absurd H (by simp)
        ·rw [if_neg c20] at H
         have c20b0 : ((rd (l0.take ((ji3) : Int).toNat) 0) == 72) = false := bF.mpr c20
         have c20b1 : ((rd (l0.take ((ji3) : Int).toNat) 0) != 72) = true := nI.mpr c20
         have H' := Aside0.mk H
         clear H
         have p621 : 0 ≤ (0 : Int) := (by omega)
         have q621 : 0 < ((l0.take ((ji3) : Int).toNat).length : Int) := oD (jA)
         obtain ⟨ad621, e621, hx621_0⟩ := Kd.at_int HR620.out 0 p621 q621
         cases e621
         have qi621 : (0 < (l0.take ((ji3) : Int).toNat).length) = True := eq_true (by omega)
         (try rw [show ((0 : Int)).toNat = 0 from rfl] at hx621_0)
         (try rw [Addr.add_zero'] at hx621_0)
         replace hx621_0 := (HB.out.cell (bL w _ hx621_0)).trans hx621_0
         replace p621 := eq_true p621
         replace q621 := eq_true q621
         go_wp2
         go_meet
         case rel => exact ⟨_, (true), jS, H', ⟨jO⟩, ⟨jH HB⟩⟩
       ·rw [if_neg c19] at H
        exact absurd H (by simp)
     case rest =>
      clear HC10
      obtain ⟨kq, x52_9, rfl, HA, HJ9, HB⟩ := hcut
      cases kq with
      | zero => exact absurd HA.out (by simp [r21_Decode.j0])
      | succ kj9 =>
       have H := HA.out
       clear HA
       simp only [r21_Decode.j0] at H
       by_cases c26 : x52_9 = true
       ·subst c26
        rw [if_pos rfl] at H
        simp only [Option.some.injEq, Prod.mk.injEq] at H
        obtain ⟨rfl, rfl⟩ := H
        go_wp2
        go_ret2
        exact ⟨_, by first | rfl | (simp [errW_none, errW_some] <;> rfl) | (simp only [← hji3]; first | rfl | (simp [errW_none, errW_some] <;> rfl)) | (simp [*, errW_none, errW_some] <;> rfl), by first | exact Kd.S_nil _ _ _ _ _ | exact Kd.N_nil _ _ _ _ _ | exact Kd.V_nil _ _ _ _ _ | exact Kd.Q_nil _ _ _ _ _ | exact Kd.R_nil _ _ _ _ _, jH HB⟩
       ·replace c26 := Bool.eq_false_iff.mpr c26
        subst c26
        rw [if_neg (show ¬ (false = true) by decide)] at H
        have H' := Aside0.mk H
        clear H
        go_wp2
        go_loopg [5, 6, 7] kj9 (fun kq v5 v6 v7 w' => ∃ (x5_2 : List (S45)) (x6_2 : Int) (x7_2 : Int), v6 = .int .i64 x6_2 ∧ v7 = .int .i64 x7_2 ∧ Aside0 (r21_Decode.l0 kq (l0.take ((ji3) : Int).toNat) ji3 x5_2 x6_2 x7_2 = some (r1, r2)) ∧ Aside0 (kq ≤ kj9) ∧ Aside0 (Kd.S k45 45 w' w.heap.size (fun _ => True) v5 x5_2) ∧ Aside0 (Below w.heap.size w w'))
        case atStart => exact ⟨(([] : List (S45))), (5), (0), jS, jS, H', ⟨Nat.le_refl _⟩, ⟨by first | exact Kd.S_nil _ _ _ _ _ | exact Kd.N_nil _ _ _ _ _ | exact Kd.V_nil _ _ _ _ _ | exact Kd.Q_nil _ _ _ _ _ | exact Kd.R_nil _ _ _ _ _⟩, ⟨jH HB⟩⟩
        case round =>
         clear H'
         obtain ⟨x5_2, x6_2, x7_2, rfl, rfl, HA, HK2, HO_5, HB⟩ := hrel
         cases gk with
         | zero => exact absurd HA.out (by simp [r21_Decode.l0])
         | succ k2 =>
          have H := HA.out
          clear HA
          simp only [r21_Decode.l0] at H
          by_cases c27 : 4 < ((l0.take ((ji3) : Int).toNat).length : Int)
          ·rw [if_pos c27] at H
           have m4 : (4 < max ji3 0) = True := eq_true (by have h1 := c27; rw [List.length_take] at h1; omega)
           have c27b0 := dT c27
           have c27b1 : decide (4 < (l0.take ((ji3) : Int).toNat).length) = true := dT (by omega)
           clear c27
           by_cases c28 : x7_2 < (wrap64 (rd (l0.take ((ji3) : Int).toNat) 4))
           ·rw [if_pos c28] at H
            have c28b0 := dT c28
            clear c28
            replace H := Option.bind_eq_some_iff.mp H
            obtain ⟨⟨t626, t629, t632, t633, t634⟩, A290, H⟩ := H
            try dsimp only at H
            have A29 := Aside0.mk A290
            clear A290
            by_cases c30 : t634 = true
            ·subst c30
             rw [if_pos rfl] at H
             by_cases c31 : x5_2.length < 2513169434916
             ·rw [if_pos c31] at H
              have LMc31 := Aside0.mk c31
              clear c31
              obtain ⟨y636, hy636⟩ : ∃ y_ : List (S45), y_ = (x5_2 ++ [(⟨t626, t629, t632⟩ : S45)]) := ⟨_, rfl⟩
              simp only [Option.bind_some, ← hy636] at H
              have Ny636 := Aside0.mk hy636
              clear hy636
              have H' := Aside0.mk H
              clear H
              have p625 : 0 ≤ (4 : Int) := (by omega)
              have q625 : 4 < ((l0.take ((ji3) : Int).toNat).length : Int) := oD (jA)
              obtain ⟨ad625, e625, hx625_0⟩ := Kd.at_int HR620.out 4 p625 q625
              cases e625
              (try simp only [show (4 : Int).toNat = 4 from rfl, Nat.reduceMul, Nat.reduceEqDiff, Go.Addr.add, ↓reduceIte] at hx625_0)
              have qi625 : (4 < (l0.take ((ji3) : Int).toNat).length) = True := eq_true (by omega)
              (try rw [show ((4 : Int)).toNat = 4 from rfl] at hx625_0)
              replace hx625_0 := (HB.out.cell (bL w _ hx625_0)).trans hx625_0
              replace p625 := eq_true p625
              replace q625 := eq_true q625
              go_wp2_with (first | ((with_reducible refine gate_callee (f := 36) rfl ?_); refine goesL_ (some 64) rfl rfl Tryd.func36 (by kernel_rfl) rfl #[.slice (some ad625) (l0.take ((ji3) : Int).toNat).length c0, .int .i64 x6_2] rfl (by (try simp only [List.map_toArray, List.map_cons, List.map_nil]); first | done | (rw [show (l0.take ((ji3) : Int).toNat).length = (ji3).toNat from (by rw [List.length_take]; have h_ : ((ji3) : Int) ≤ (l0.length : Int) := oD (jA); omega)] <;> rfl) | (simp only [hji3]; rfl) | rfl | (simp only [List.length_drop, List.length_take]; rfl)) ?_; (with_reducible refine (r21_read.calls k2 _ _ (l0.take ((ji3) : Int).toNat) x6_2 t626 t629 t632 t633 true _ ?side1 ?side2 A29.out).mono ?_); (case side1 => exact jC (Kd.C_below HR620.out HB.out)); (case side2 => exact HC620.out); rintro e w32 ⟨v627, v630, rfl, ho0, ho1, hb⟩; refine ⟨_, rfl, ?_⟩; have HO628 := Aside0.mk (Kd.R_lower ho0 (zZ (jH HB))); have HO631 := Aside0.mk (Kd.R_lower ho1 (zZ (jH HB))); replace HO_5 := Aside0.mk (Kd.S_mono (Kd.S_told (Kd.S_told (Kd.S_old (by (with_reducible repeat (first | apply Kd.S_alloc | apply Kd.S_drewN | apply Kd.S_drew)); exact HO_5.out) hb) (Kd.R_base ho0)) (Kd.R_base ho1)) (fun _ h_ => h_.1)); replace HB := Aside0.mk (zT (jH HB) hb); (try clear hb); (try clear hb2); (try clear hk); (try clear hi); (try clear ho0); (try clear ho1)) | ((with_reducible refine gate_dst (N := 8) rfl ?_); refine box_event rfl (N := 8) rfl (cs := #[.slice none 0 0, .slice none 0 0, .int .u32 0]) (t := 45) jW ?_; intro gb635 hg w33 hbox hb; have BK635 := Aside0.mk hbox; have GW635 := Aside0.mk (jG hg HB); have GE635 := Aside0.mk (jG hg HB); replace HO_5 := Aside0.mk (Kd.S_below (Kd.S_elderB (by (with_reducible repeat (first | apply Kd.S_alloc | apply Kd.S_drewN | apply Kd.S_drew)); exact HO_5.out) gb635 (Nat.le_of_eq hg.symm)) hb); replace HO628 := Aside0.mk (Kd.R_below (jR HO628) hb); replace HO631 := Aside0.mk (Kd.R_below (jR HO631) hb); replace HB := Aside0.mk (zT (jH HB) hb); clear hb hbox hg; obtain ⟨Ao34, co34, eo34⟩ := Kd.R_slice HO628.out; subst eo34; obtain ⟨hcz35_0, hcz35_1, hcz35_2, hfz35_0, hfz35_1, hfz35_2⟩ := kQ3 BK635.out; obtain ⟨Ao36, co36, eo36⟩ := Kd.R_slice HO631.out; subst eo36) | ((with_reducible refine gate_store (t := 45) (p := 8) rfl ?_); refine store_event (t := 45) (p := 8) (v := ?vo_w37) (w1 := (((w33.setCell ⟨gb635, 0, none⟩ (.slice Ao34 t626.length co34)).setCell ⟨gb635, 1, none⟩ (.slice Ao36 t629.length co36)).setCell ⟨gb635, 2, none⟩ (.int .u32 t632))) ?hg ?ho ?hn ?hr ?_; (case ho => rfl); (case hg => rfl); (case hn => rfl); (case hr => first | (go_simp; done) | (go_simp; rfl)); intro w37 hw; have n0_ : Aside0 (Kd.S k45 45 w37 w.heap.size (fun k_ => some k_ ≠ (.slice Ao34 t626.length co34 : Value).ownBlock ∧ some k_ ≠ (.slice Ao36 t629.length co36 : Value).ownBlock ∧ k_ ≠ gb635) u5 x5_2) := ⟨(by rw [hw]; exact (by (with_reducible repeat (first | apply Kd.S_alloc | apply Kd.S_drewN | apply Kd.S_drew)); exact Kd.S_mono (Kd.S_far (p := ⟨gb635, 2, none⟩) (Kd.S_far (p := ⟨gb635, 1, none⟩) (Kd.S_far (p := ⟨gb635, 0, none⟩) (Kd.S_mono HO_5.out (fun k_ hk => (⟨hk, hk.2⟩ : _ ∧ k_ ≠ gb635))) (fun _ hk => hk.2) (.slice Ao34 t626.length co34)) (fun _ hk => hk.2) (.slice Ao36 t629.length co36)) (fun _ hk => hk.2) (.int .u32 t632)) (fun _ hk => ⟨hk.1.1.1.2, ⟨hk.1.1.2, hk.1.2⟩⟩)))⟩; have n1_ : Aside0 (Kd.R k59 59 w37 w.heap.size (fun k_ => some k_ ≠ (.slice Ao36 t629.length co36 : Value).ownBlock) (.slice Ao34 t626.length co34) t626) := ⟨(by rw [hw]; exact (by (with_reducible repeat (first | apply Kd.R_alloc | apply Kd.R_drewN | apply Kd.R_drew)); exact Kd.R_mono (Kd.R_far (p := ⟨gb635, 2, none⟩) (Kd.R_far (p := ⟨gb635, 1, none⟩) (Kd.R_far (p := ⟨gb635, 0, none⟩) (Kd.R_types HO628.out BK635.out (by decide)) (fun _ hk => hk.2) (.slice Ao34 t626.length co34)) (fun _ hk => hk.2) (.slice Ao36 t629.length co36)) (fun _ hk => hk.2) (.int .u32 t632)) (fun _ hk => hk.1)))⟩; have n2_ : Aside0 (Kd.R k59 59 w37 w.heap.size (fun k_ => some k_ ≠ (.slice Ao34 t626.length co34 : Value).ownBlock) (.slice Ao36 t629.length co36) t629) := ⟨(by rw [hw]; exact (by (with_reducible repeat (first | apply Kd.R_alloc | apply Kd.R_drewN | apply Kd.R_drew)); exact Kd.R_mono (Kd.R_far (p := ⟨gb635, 2, none⟩) (Kd.R_far (p := ⟨gb635, 1, none⟩) (Kd.R_far (p := ⟨gb635, 0, none⟩) (Kd.R_types HO631.out BK635.out (by decide)) (fun _ hk => hk.2) (.slice Ao34 t626.length co34)) (fun _ hk => hk.2) (.slice Ao36 t629.length co36)) (fun _ hk => hk.2) (.int .u32 t632)) (fun _ hk => hk.1)))⟩; have n3_ : Aside0 (w37.heap[gb635]? = some (.cells #[.slice Ao34 t626.length co34, .slice Ao36 t629.length co36, .int .u32 t632] 45 (0, 0))) := ⟨(by rw [hw]; exact (by (with_reducible repeat (first | refine kN ?_ _ | refine kD ?_ | refine kA ?_ _)); refine kP (cs := #[.slice Ao34 t626.length co34, .slice Ao36 t629.length co36, .int .u32 0]) ?_ 2 _ rfl; (with_reducible repeat (first | refine kN ?_ _ | refine kD ?_ | refine kA ?_ _)); refine kP (cs := #[.slice Ao34 t626.length co34, .slice none 0 0, .int .u32 0]) ?_ 1 _ rfl; (with_reducible repeat (first | refine kN ?_ _ | refine kD ?_ | refine kA ?_ _)); refine kP (cs := #[.slice none 0 0, .slice none 0 0, .int .u32 0]) ?_ 0 _ rfl; (with_reducible repeat (first | refine kN ?_ _ | refine kD ?_ | refine kA ?_ _)); exact BK635.out))⟩; have n4_ : Aside0 (Below w.heap.size w w37) := ⟨(by rw [hw]; exact (jH HB))⟩; clear hw; clear HO_5; clear HO628; clear HO631; clear BK635; clear HB; have HO_5 := n0_; have HO628 := n1_; have HO631 := n2_; have BK635 := n3_; have HB := n4_; clear n0_ n1_ n2_ n3_ n4_; obtain ⟨hcz38_0, hcz38_1, hcz38_2, hfz38_0, hfz38_1, hfz38_2⟩ := kQ3 BK635.out) | ((with_reducible refine gate_builtin (b := .append) (xs := #[.tmp 70, .tmp 72]) rfl ?_); at_builtin; refine Kd.S_append k45 (w0 := w) w.heap.size rfl (.tmp 70) (.tmp 72) 30 45 (.agg #[(.slice none 0 0), (.slice none 0 0), (.int .u32 0)]) 56 rfl Tryd.underlying30 info45 rfl (by decide) (by omega) u5 x5_2 (⟨t626, t629, t632⟩ : S45) [.slice Ao34 t626.length co34, .slice Ao36 t629.length co36, .int .u32 t632] (fun k_ => k_ ≠ gb635) (fun k_ => some k_ = (.slice Ao34 t626.length co34 : Value).ownBlock ∨ some k_ = (.slice Ao36 t629.length co36 : Value).ownBlock) rfl rfl ?aP (fun k_ hk_ => hk_.elim (fun h_ => ((Kd.R_mono (ok' := fun k_ => ((fun k_ => k_ ≠ gb635)) k_ ∧ some k_ ≠ (u5 : Value).ownBlock) (Kd.R_types (Kd.R_apart' (HO628.out) (Kd.S_typed HO_5.out) (by decide)) BK635.out (by decide)) (fun k_ hk => ⟨hk.2, hk.1.2⟩))).1 k_ h_.symm) (fun h_ => ((Kd.R_mono (ok' := fun k_ => ((fun k_ => k_ ≠ gb635)) k_ ∧ some k_ ≠ (u5 : Value).ownBlock) (Kd.R_types (Kd.R_apart' (HO631.out) (Kd.S_typed HO_5.out) (by decide)) BK635.out (by decide)) (fun k_ hk => ⟨hk.2, hk.1.2⟩))).1 k_ h_.symm)) ?aF ?aO ?aB ?aS ?aL ?_; (case aP => exact k45_mkM _ _ _ (⟨t626, t629, t632⟩ : S45) (Kd.R_mono (Kd.R_tight rfl (Kd.R_mono (ok' := fun k_ => ((fun k_ => k_ ≠ gb635)) k_ ∧ some k_ ≠ (u5 : Value).ownBlock) (Kd.R_types (Kd.R_apart' (HO628.out) (Kd.S_typed HO_5.out) (by decide)) BK635.out (by decide)) (fun k_ hk => ⟨hk.2, hk.1.2⟩))) (fun _ h_ => Or.inl h_)) (Kd.R_mono (Kd.R_tight rfl (Kd.R_mono (ok' := fun k_ => ((fun k_ => k_ ≠ gb635)) k_ ∧ some k_ ≠ (u5 : Value).ownBlock) (Kd.R_types (Kd.R_apart' (HO631.out) (Kd.S_typed HO_5.out) (by decide)) BK635.out (by decide)) (fun k_ hk => ⟨hk.2, hk.1.2⟩))) (fun _ h_ => Or.inr (h_)))); (case aB => exact (jH HB)); (case aF => exact (fun k_ hk => Kd.freshB (g := gb635) (o := .cells #[.slice Ao34 t626.length co34, .slice Ao36 t629.length co36, .int .u32 t632] 45 (0, 0)) (jK BK635) k_ hk)); (case aO => exact (by (with_reducible repeat (first | apply Kd.S_alloc | apply Kd.S_drewN | apply Kd.S_drew)); exact Kd.S_mono HO_5.out (fun k_ hk => ⟨hk.2.2, fun e_ => e_.elim (fun h_ => hk.1 h_) (fun h_ => hk.2.1 h_)⟩))); (case aS => exact (zZ (jH HB))); (case aL => have := LMc31.out; omega); intro v637 w39 ho hb hg hat; rw [← Ny636.out] at ho; have HO638 := Aside0.mk (ho); replace BK635 := Aside0.mk (kG (g := gb635) (o := .cells #[.slice Ao34 t626.length co34, .slice Ao36 t629.length co36, .int .u32 t632] 45 (0, 0)) (jK BK635) hg (Kd.S_away HO_5.out (fun _ hk => hk.2.2))); replace HB := Aside0.mk (hb); clear HO_5; clear HO628; clear HO631; clear ho hb hg hat))
              go_roundg k2
              case measure => have := HJ9.out; have := HK2.out; omega
              case rel => exact ⟨(y636), (t633), (wrap64 (x7_2 + 1)), jS, jS, H', ⟨by have := HJ9.out; have := HK2.out; omega⟩, ⟨by (with_reducible repeat (first | apply Kd.S_alloc | apply Kd.S_drewN | apply Kd.S_drew)); exact Kd.S_mono HO638.out (fun _ hk => trivial)⟩, ⟨jH HB⟩⟩
             ·rw [if_neg c31] at H
              exact absurd H (by simp)
            ·replace c30 := Bool.eq_false_iff.mpr c30
             subst c30
             rw [if_neg (show ¬ (false = true) by decide)] at H
             simp only [Option.some.injEq, Prod.mk.injEq] at H
             obtain ⟨rfl, rfl⟩ := H
             have p625 : 0 ≤ (4 : Int) := (by omega)
             have q625 : 4 < ((l0.take ((ji3) : Int).toNat).length : Int) := oD (jA)
             obtain ⟨ad625, e625, hx625_0⟩ := Kd.at_int HR620.out 4 p625 q625
             cases e625
             (try simp only [show (4 : Int).toNat = 4 from rfl, Nat.reduceMul, Nat.reduceEqDiff, Go.Addr.add, ↓reduceIte] at hx625_0)
             have qi625 : (4 < (l0.take ((ji3) : Int).toNat).length) = True := eq_true (by omega)
             (try rw [show ((4 : Int)).toNat = 4 from rfl] at hx625_0)
             replace hx625_0 := (HB.out.cell (bL w _ hx625_0)).trans hx625_0
             replace p625 := eq_true p625
             replace q625 := eq_true q625
             go_wp2_with (first | ((with_reducible refine gate_callee (f := 36) rfl ?_); refine goesL_ (some 64) rfl rfl Tryd.func36 (by kernel_rfl) rfl #[.slice (some ad625) (l0.take ((ji3) : Int).toNat).length c0, .int .i64 x6_2] rfl (by (try simp only [List.map_toArray, List.map_cons, List.map_nil]); first | done | (rw [show (l0.take ((ji3) : Int).toNat).length = (ji3).toNat from (by rw [List.length_take]; have h_ : ((ji3) : Int) ≤ (l0.length : Int) := oD (jA); omega)] <;> rfl) | (simp only [hji3]; rfl) | rfl | (simp only [List.length_drop, List.length_take]; rfl)) ?_; (with_reducible refine (r21_read.calls k2 _ _ (l0.take ((ji3) : Int).toNat) x6_2 t626 t629 t632 t633 false _ ?side1 ?side2 A29.out).mono ?_); (case side1 => exact jC (Kd.C_below HR620.out HB.out)); (case side2 => exact HC620.out); rintro e w40 ⟨v627, v630, rfl, ho0, ho1, hb⟩; refine ⟨_, rfl, ?_⟩; have HO628 := Aside0.mk (Kd.R_lower ho0 (zZ (jH HB))); have HO631 := Aside0.mk (Kd.R_lower ho1 (zZ (jH HB))); replace HO_5 := Aside0.mk (Kd.S_mono (Kd.S_told (Kd.S_told (Kd.S_old (by (with_reducible repeat (first | apply Kd.S_alloc | apply Kd.S_drewN | apply Kd.S_drew)); exact HO_5.out) hb) (Kd.R_base ho0)) (Kd.R_base ho1)) (fun _ h_ => h_.1)); replace HB := Aside0.mk (zT (jH HB) hb); (try clear hb); (try clear hb2); (try clear hk); (try clear hi); (try clear ho0); (try clear ho1)) | ((with_reducible refine gate_dst (N := 8) rfl ?_); refine box_event rfl (N := 8) rfl (cs := #[.slice none 0 0, .slice none 0 0, .int .u32 0]) (t := 45) jW ?_; intro gb635 hg w41 hbox hb; have BK635 := Aside0.mk hbox; have GW635 := Aside0.mk (jG hg HB); have GE635 := Aside0.mk (jG hg HB); replace HO_5 := Aside0.mk (Kd.S_below (Kd.S_elderB (by (with_reducible repeat (first | apply Kd.S_alloc | apply Kd.S_drewN | apply Kd.S_drew)); exact HO_5.out) gb635 (Nat.le_of_eq hg.symm)) hb); replace HO628 := Aside0.mk (Kd.R_below (jR HO628) hb); replace HO631 := Aside0.mk (Kd.R_below (jR HO631) hb); replace HB := Aside0.mk (zT (jH HB) hb); clear hb hbox hg; obtain ⟨Ao42, co42, eo42⟩ := Kd.R_slice HO628.out; subst eo42; obtain ⟨hcz43_0, hcz43_1, hcz43_2, hfz43_0, hfz43_1, hfz43_2⟩ := kQ3 BK635.out; obtain ⟨Ao44, co44, eo44⟩ := Kd.R_slice HO631.out; subst eo44))
             go_ret2
             exact ⟨_, by first | rfl | (simp [errW_none, errW_some] <;> rfl) | (simp only [← hji3]; first | rfl | (simp [errW_none, errW_some] <;> rfl)) | (simp [*, errW_none, errW_some] <;> rfl), by first | exact Kd.S_nil _ _ _ _ _ | exact Kd.N_nil _ _ _ _ _ | exact Kd.V_nil _ _ _ _ _ | exact Kd.Q_nil _ _ _ _ _ | exact Kd.R_nil _ _ _ _ _, jH HB⟩
           ·rw [if_neg c28] at H
            have c28b0 := dF c28
            clear c28
            by_cases c45 : x6_2 = ji3
            ·rw [if_pos c45] at H
             have c45b0 : (x6_2 == ji3) = true := bI.mpr c45
             have c45b1 : (x6_2 != ji3) = false := nF.mpr c45
             clear c45
             replace H := Option.bind_eq_some_iff.mp H
             obtain ⟨t639, A460, H⟩ := H
             try dsimp only at H
             have A46 := Aside0.mk A460
             clear A460
             by_cases c47 : t639 = true
             ·subst c47
              rw [if_pos rfl] at H
              simp only [Option.some.injEq, Prod.mk.injEq] at H
              obtain ⟨rfl, rfl⟩ := H
              have p625 : 0 ≤ (4 : Int) := (by omega)
              have q625 : 4 < ((l0.take ((ji3) : Int).toNat).length : Int) := oD (jA)
              obtain ⟨ad625, e625, hx625_0⟩ := Kd.at_int HR620.out 4 p625 q625
              cases e625
              (try simp only [show (4 : Int).toNat = 4 from rfl, Nat.reduceMul, Nat.reduceEqDiff, Go.Addr.add, ↓reduceIte] at hx625_0)
              have qi625 : (4 < (l0.take ((ji3) : Int).toNat).length) = True := eq_true (by omega)
              (try rw [show ((4 : Int)).toNat = 4 from rfl] at hx625_0)
              replace hx625_0 := (HB.out.cell (bL w _ hx625_0)).trans hx625_0
              replace p625 := eq_true p625
              replace q625 := eq_true q625
              obtain ⟨Ao48, co48, eo48⟩ := Kd.S_slice HO_5.out
              subst eo48
              go_wp2_with (first | (go_at_call 13; (with_reducible refine (r21_Right.calls k2 _ _ x5_2 true _ ?side1 ?side2 A46.out).mono ?_); (case side1 => exact jC (Kd.S_reads' HO_5.out).2.2); (case side2 => exact (Kd.S_reads' HO_5.out).2.1); rintro e w49 ⟨rfl, hb⟩; replace HO_5 := Aside0.mk (Kd.S_below (by (with_reducible repeat (first | apply Kd.S_alloc | apply Kd.S_drewN | apply Kd.S_drew)); exact HO_5.out) hb); replace HB := Aside0.mk (zT (jH HB) hb); (try clear hb); (try clear hb2); (try clear hk); (try clear hi)))
              go_ret2
              exact ⟨_, by first | rfl | (simp [errW_none, errW_some] <;> rfl) | (simp only [← hji3]; first | rfl | (simp [errW_none, errW_some] <;> rfl)) | (simp [*, errW_none, errW_some] <;> rfl), by (with_reducible repeat (first | apply Kd.S_alloc | apply Kd.S_drewN | apply Kd.S_drew)); exact HO_5.out, jH HB⟩
             ·replace c47 := Bool.eq_false_iff.mpr c47
              subst c47
              rw [if_neg (show ¬ (false = true) by decide)] at H
              simp only [Option.some.injEq, Prod.mk.injEq] at H
              obtain ⟨rfl, rfl⟩ := H
              have p625 : 0 ≤ (4 : Int) := (by omega)
              have q625 : 4 < ((l0.take ((ji3) : Int).toNat).length : Int) := oD (jA)
              obtain ⟨ad625, e625, hx625_0⟩ := Kd.at_int HR620.out 4 p625 q625
              cases e625
              (try simp only [show (4 : Int).toNat = 4 from rfl, Nat.reduceMul, Nat.reduceEqDiff, Go.Addr.add, ↓reduceIte] at hx625_0)
              have qi625 : (4 < (l0.take ((ji3) : Int).toNat).length) = True := eq_true (by omega)
              (try rw [show ((4 : Int)).toNat = 4 from rfl] at hx625_0)
              replace hx625_0 := (HB.out.cell (bL w _ hx625_0)).trans hx625_0
              replace p625 := eq_true p625
              replace q625 := eq_true q625
              obtain ⟨Ao50, co50, eo50⟩ := Kd.S_slice HO_5.out
              subst eo50
              go_wp2_with (first | (go_at_call 13; (with_reducible refine (r21_Right.calls k2 _ _ x5_2 false _ ?side1 ?side2 A46.out).mono ?_); (case side1 => exact jC (Kd.S_reads' HO_5.out).2.2); (case side2 => exact (Kd.S_reads' HO_5.out).2.1); rintro e w51 ⟨rfl, hb⟩; replace HO_5 := Aside0.mk (Kd.S_below (by (with_reducible repeat (first | apply Kd.S_alloc | apply Kd.S_drewN | apply Kd.S_drew)); exact HO_5.out) hb); replace HB := Aside0.mk (zT (jH HB) hb); (try clear hb); (try clear hb2); (try clear hk); (try clear hi)))
              go_ret2
              exact ⟨_, by first | rfl | (simp [errW_none, errW_some] <;> rfl) | (simp only [← hji3]; first | rfl | (simp [errW_none, errW_some] <;> rfl)) | (simp [*, errW_none, errW_some] <;> rfl), by first | exact Kd.S_nil _ _ _ _ _ | exact Kd.N_nil _ _ _ _ _ | exact Kd.V_nil _ _ _ _ _ | exact Kd.Q_nil _ _ _ _ _ | exact Kd.R_nil _ _ _ _ _, jH HB⟩
            ·rw [if_neg c45] at H
             have c45b0 : (x6_2 == ji3) = false := bF.mpr c45
             have c45b1 : (x6_2 != ji3) = true := nI.mpr c45
             simp only [Option.some.injEq, Prod.mk.injEq] at H
             obtain ⟨rfl, rfl⟩ := H
             have p625 : 0 ≤ (4 : Int) := (by omega)
             have q625 : 4 < ((l0.take ((ji3) : Int).toNat).length : Int) := oD (jA)
             obtain ⟨ad625, e625, hx625_0⟩ := Kd.at_int HR620.out 4 p625 q625
             cases e625
             (try simp only [show (4 : Int).toNat = 4 from rfl, Nat.reduceMul, Nat.reduceEqDiff, Go.Addr.add, ↓reduceIte] at hx625_0)
             have qi625 : (4 < (l0.take ((ji3) : Int).toNat).length) = True := eq_true (by omega)
             (try rw [show ((4 : Int)).toNat = 4 from rfl] at hx625_0)
             replace hx625_0 := (HB.out.cell (bL w _ hx625_0)).trans hx625_0
             replace p625 := eq_true p625
             replace q625 := eq_true q625
             go_wp2
             go_ret2
             exact ⟨_, by first | rfl | (simp [errW_none, errW_some] <;> rfl) | (simp only [← hji3]; first | rfl | (simp [errW_none, errW_some] <;> rfl)) | (simp [*, errW_none, errW_some] <;> rfl), by first | exact Kd.S_nil _ _ _ _ _ | exact Kd.N_nil _ _ _ _ _ | exact Kd.V_nil _ _ _ _ _ | exact Kd.Q_nil _ _ _ _ _ | exact Kd.R_nil _ _ _ _ _, jH HB⟩
          ·rw [if_neg c27] at H
           exact absurd H (by simp)
    ·rw [if_neg c7] at H
     have c7b0 : ((strOfNums t617).toList == (strOfNums l0).toList) = false := bF.mpr c7
     have c7b1 : ((strOfNums t617).toList != (strOfNums l0).toList) = true := nI.mpr c7
     simp only [Option.some.injEq, Prod.mk.injEq] at H
     obtain ⟨rfl, rfl⟩ := H
     go_enter Tryd.func18, Tryd.ntmps18
     try go_wp2
     replace HB := Aside0.mk (zD HB.out)
     obtain ⟨i053, hi053, _, hsz53, _⟩ := info_parts info5
     obtain ⟨hcut53, hA53, hC53⟩ := print_take_of (P := Tryd.prog) (Value.int .u8) 0 25 5 .i64 Tryd.underlying25 hi053 hsz53 A0 c0 l0 (ji3) (oD (jA)) (oD (jA)) HC0.out
     have HR616 := Aside0.mk (Kd.C_of_reads (h1 := fun _ => rfl) (hA53 _ (Kd.reads_of_C HR0.out)))
     have HC616 := Aside0.mk hC53
     clear hA53 hC53 hi053 hsz53
     refine start_ (n := 8) (S := fun w' => True) (ds := []) #[false, false, false, false, false, false, false, false] (by kernel_rfl) rfl rfl trivial (fun hHeld => ?_); refine with_tabW r21_Decode.tab4 r21_Decode.bits4 (fun HT_ HW_ => ?_)
     generalize w.drew = w52 at HB HR616 hHeld ⊢
     refine qP 0 16 (tB 8 1) ?_
     refine qP 1 17 (tB 8 3) ?_
     refine qP 2 18 (tB 8 7) ?_
     refine qP 5 21 (tB 8 39) ?_
     refine join_ (σ := Value) 1 #[true, true, true, true, true, true, true, false] (fun s_ => [(19, s_), (20, .string (strOfNums t617)), (22, .string (strOfNums l0))]) (fun s_ w' => (Kd.R (Kd.int .u8) 5 w' w.heap.size (fun _ => True) s_ t617) ∧ (Below w.heap.size w w')) ?_ ?_
     rotate_left
     ·intro hCont
      refine two_ (i := 3) (j := 6) (Ni := some 19) (Nj := some 22) #[true, true, true, true, false, true, false, false] (tB 8 103) rfl rfl rfl rfl (two_of HT_.out (by kernel_rfl)) (by decide) (by decide) (fun K hK => ?_) (fun K hK => ?_)
      ·skip
       refine goes_ Tryd.func33 (by kernel_rfl) rfl #[.slice A0 (l0.take ((ji3) : Int).toNat).length c0] (by rfl) rfl rfl (by (try simp only [List.map_toArray, List.map_cons, List.map_nil]); first | done | (rw [show (l0.take ((ji3) : Int).toNat).length = (ji3).toNat from (by rw [List.length_take]; have h_ : ((ji3) : Int) ≤ (l0.length : Int) := oD (jA); omega)] <;> rfl) | (simp only [hji3]; rfl) | rfl | (simp only [List.length_drop, List.length_take]; rfl)) ?_
       with_reducible refine (r20_Seal.calls k _ _ (l0.take ((ji3) : Int).toNat) t617 _ ?side1 ?side2 A6.out).mono ?_
       (case side1 => exact jC (Kd.C_below HR616.out HB.out))
       (case side2 => exact HC616.out)
       rintro e w54 ⟨v618, rfl, ho0, hb⟩
       refine ⟨_, rfl, ?_⟩
       have HO619 := Aside0.mk (Kd.R_lower ho0 (zZ (jH HB)))
       replace HB := Aside0.mk (zT (jH HB) hb)
       (try clear hb)
       (try clear hb2)
       (try clear hk)
       (try clear hi)
       (try clear ho0)
       refine hK.out _ _ trivial (fun hHeld => ?_)
       clear hK K
       refine qN 19 ?_
       refine two_ (i := 4) (j := 6) (Ni := some 20) (Nj := some 22) #[true, true, true, true, true, true, false, false] (tB 8 111) rfl rfl rfl rfl (two_of HT_.out (by kernel_rfl)) (by decide) (by decide) (fun K hK => ?_) (fun K hK => ?_)
       ·skip
        have hcv55 := own_string (P := Tryd.prog) Tryd.underlying25 Tryd.underlying5 Tryd.underlying9 (Kd.own_of_R HO619.out)
        refine value_ (w1 := ?_) (v := ?_) (by rfl) rfl ?_ ?_
        rotate_left 2
        ·go_simp
         constructor
         ·rfl
         ·rfl
        clear hcv55
        refine hK.out _ _ trivial (fun hHeld => ?_)
        clear hK K
        refine qN 20 ?_
        refine one_ (i := 6) (N := some 22) (tB 8 127) rfl rfl (one_of HT_.out (by kernel_rfl)) (by decide) (fun K hK => ?_)
        have hcv56 := Kd.C_string (P := Tryd.prog) (A := A0) (c := c0) Tryd.underlying25 Tryd.underlying5 Tryd.underlying9 (Kd.C_below HR0.out HB.out)
        refine value_ (w1 := ?_) (v := ?_) (by rfl) rfl ?_ ?_
        rotate_left 2
        ·go_simp
         constructor
         ·rfl
         ·rfl
        clear hcv56
        refine hK.out _ _ trivial (fun hHeld => ?_)
        clear hK K
        refine qN 22 ?_
        exact norm_ (by simp only [putAll, Act.put, List.setIfInBounds_toArray, List.set_cons_zero, List.set_cons_succ]) (hCont (v618) _ ⟨(jR HO619), (jH HB)⟩)
       ·skip
        have hcv55 := Kd.C_string (P := Tryd.prog) (A := A0) (c := c0) Tryd.underlying25 Tryd.underlying5 Tryd.underlying9 (Kd.C_below HR0.out HB.out)
        refine value_ (w1 := ?_) (v := ?_) (by rfl) rfl ?_ ?_
        rotate_left 2
        ·go_simp
         constructor
         ·rfl
         ·rfl
        clear hcv55
        refine hK.out _ _ trivial (fun hHeld => ?_)
        clear hK K
        refine qN 22 ?_
        refine one_ (i := 4) (N := some 20) (tB 8 127) rfl rfl (one_of HT_.out (by kernel_rfl)) (by decide) (fun K hK => ?_)
        have hcv56 := own_string (P := Tryd.prog) Tryd.underlying25 Tryd.underlying5 Tryd.underlying9 (Kd.own_of_R HO619.out)
        refine value_ (w1 := ?_) (v := ?_) (by rfl) rfl ?_ ?_
        rotate_left 2
        ·go_simp
         constructor
         ·rfl
         ·rfl
        clear hcv56
        refine hK.out _ _ trivial (fun hHeld => ?_)
        clear hK K
        refine qN 20 ?_
        exact norm_ (by simp only [putAll, Act.put, List.setIfInBounds_toArray, List.set_cons_zero, List.set_cons_succ]) (hCont (v618) _ ⟨(jR HO619), (jH HB)⟩)
      ·skip
       have hcv54 := Kd.C_string (P := Tryd.prog) (A := A0) (c := c0) Tryd.underlying25 Tryd.underlying5 Tryd.underlying9 (Kd.C_below HR0.out HB.out)
       refine value_ (w1 := ?_) (v := ?_) (by rfl) rfl ?_ ?_
       rotate_left 2
       ·go_simp
        constructor
        ·rfl
        ·rfl
       clear hcv54
       refine hK.out _ _ trivial (fun hHeld => ?_)
       clear hK K
       refine qN 22 ?_
       refine one_ (i := 3) (N := some 19) (tB 8 111) rfl rfl (one_of HT_.out (by kernel_rfl)) (by decide) (fun K hK => ?_)
       refine goes_ Tryd.func33 (by kernel_rfl) rfl #[.slice A0 (l0.take ((ji3) : Int).toNat).length c0] (by rfl) rfl rfl (by (try simp only [List.map_toArray, List.map_cons, List.map_nil]); first | done | (rw [show (l0.take ((ji3) : Int).toNat).length = (ji3).toNat from (by rw [List.length_take]; have h_ : ((ji3) : Int) ≤ (l0.length : Int) := oD (jA); omega)] <;> rfl) | (simp only [hji3]; rfl) | rfl | (simp only [List.length_drop, List.length_take]; rfl)) ?_
       with_reducible refine (r20_Seal.calls k _ _ (l0.take ((ji3) : Int).toNat) t617 _ ?side1 ?side2 A6.out).mono ?_
       (case side1 => exact jC (Kd.C_below HR616.out HB.out))
       (case side2 => exact HC616.out)
       rintro e w55 ⟨v618, rfl, ho0, hb⟩
       refine ⟨_, rfl, ?_⟩
       have HO619 := Aside0.mk (Kd.R_lower ho0 (zZ (jH HB)))
       replace HB := Aside0.mk (zT (jH HB) hb)
       (try clear hb)
       (try clear hb2)
       (try clear hk)
       (try clear hi)
       (try clear ho0)
       refine hK.out _ _ trivial (fun hHeld => ?_)
       clear hK K
       refine qN 19 ?_
       refine one_ (i := 4) (N := some 20) (tB 8 127) rfl rfl (one_of HT_.out (by kernel_rfl)) (by decide) (fun K hK => ?_)
       have hcv56 := own_string (P := Tryd.prog) Tryd.underlying25 Tryd.underlying5 Tryd.underlying9 (Kd.own_of_R HO619.out)
       refine value_ (w1 := ?_) (v := ?_) (by rfl) rfl ?_ ?_
       rotate_left 2
       ·go_simp
        constructor
        ·rfl
        ·rfl
       clear hcv56
       refine hK.out _ _ trivial (fun hHeld => ?_)
       clear hK K
       refine qN 20 ?_
       exact norm_ (by simp only [putAll, Act.put, List.setIfInBounds_toArray, List.set_cons_zero, List.set_cons_succ]) (hCont (v618) _ ⟨(jR HO619), (jH HB)⟩)
     rintro v618 w57 ⟨h0_, h1_⟩
     have n0_ : Aside0 (Kd.R (Kd.int .u8) 5 w57 w.heap.size (fun _ => True) v618 t617) := ⟨h0_⟩
     have n1_ : Aside0 (Below w.heap.size w w57) := ⟨h1_⟩
     clear HB
     clear h0_ h1_
     have HO619 := n0_
     have HB := n1_
     clear n0_ n1_
     have hHeld := trivial
     refine norm_ (a' := ?_) ?_ ?_
     rotate_left
     ·simp only [putAll, Act.put, List.setIfInBounds_toArray, List.set_cons_zero, List.set_cons_succ]
      rfl
     refine qP 7 23 (tB 8 255) ?_
     refine done_ (done_of HT_.out (by kernel_rfl)) ?_
     try go_wp2
     go_ret2
     exact ⟨_, by first | rfl | (simp [errW_none, errW_some] <;> rfl) | (simp only [← hji3]; first | rfl | (simp [errW_none, errW_some] <;> rfl)) | (simp [*, errW_none, errW_some] <;> rfl), by first | exact Kd.S_nil _ _ _ _ _ | exact Kd.N_nil _ _ _ _ _ | exact Kd.V_nil _ _ _ _ _ | exact Kd.Q_nil _ _ _ _ _ | exact Kd.R_nil _ _ _ _ _, jH HB⟩
   ·rw [if_neg c5] at H
    exact absurd H (by simp)
  ·rw [if_neg c4] at H
   exact absurd H (by simp)
end Go.Proofs.YtahacmdhhfmhiaaDoor.M
