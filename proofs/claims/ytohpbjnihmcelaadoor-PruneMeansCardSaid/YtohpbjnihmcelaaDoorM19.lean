/- What Go functions compute; their calls come to it. No condition. -/
import Derived.Test.YtohpbjnihmcelaaDoorM0
import Derived.Test.YtohpbjnihmcelaaDoorM17
import Derived.Test.YtohpbjnihmcelaaDoorM18
namespace Go.Proofs.YtohpbjnihmcelaaDoor.M
open Go.RowKit Go.Proofs.YtohpbjnihmcelaaDoorW.PrintWords Go.Proofs.YtohpbjnihmcelaaDoorW.PrintLast Go.Proofs.YtohpbjnihmcelaaDoorW.PrintMore
attribute [local go_sem] max2_int min2_int max_two min_two max_three min_three max_four min_four   -- for this text's walks alone
set_option linter.unusedVariables false
set_option linter.unusedSimpArgs false
def r01_Do.f (k : Nat) (a0 : Int) (a1 : Int) (a2 : Int) : Option (Int × Bool) := if a0 = 4 then (some ((Int.tmod (IntKind.u64.wrap ((IntKind.u64.wrap (a1)) + (IntKind.u64.wrap (a2)))) 4294967296) % 4294967296, true)) else (if a0 = 20 then (some ((Int.tmod (IntKind.u64.wrap ((IntKind.u64.wrap ((IntKind.u64.wrap (a1)) + 4294967296)) - (IntKind.u64.wrap (a2)))) 4294967296) % 4294967296, true)) else (if a0 = 36 then (some ((Int.tmod (IntKind.u64.wrap ((IntKind.u64.wrap (a1)) * (IntKind.u64.wrap (a2)))) 4294967296) % 4294967296, true)) else (if a0 = 52 then (if a2 = 0 then (some (0, false)) else (if (IntKind.u64.wrap (a2)) = 0 then (none) else (some ((IntKind.u64.wrap (Int.tdiv (IntKind.u64.wrap (a1)) (IntKind.u64.wrap (a2)))) % 4294967296, true)))) else (if a0 = 68 then ((r01_bits.f k a1 a2 (([0, 1, 1, 1] : List Int))).bind fun t188 => (some (t188, true))) else (if a0 = 84 then ((r01_bits.f k a1 a2 (([0, 0, 0, 1] : List Int))).bind fun t192 => (some (t192, true))) else (if a0 = 100 then ((r01_power.f k a2).bind fun t193 => (some ((Int.tmod (IntKind.u64.wrap ((IntKind.u64.wrap (a1)) * t193)) 4294967296) % 4294967296, true))) else (if a0 = 116 then ((r01_power.f k a2).bind fun t194 => (if t194 = 0 then (none) else (some ((IntKind.u64.wrap (Int.tdiv (IntKind.u64.wrap (a1)) t194)) % 4294967296, true)))) else (if a0 = 164 then ((r01_bits.f k a1 a2 (([0, 1, 1, 0] : List Int))).bind fun t198 => (some (t198, true))) else (some (0, false))))))))))
theorem r01_Do.mono : ∀ a0 a1 a2 k, LeO (r01_Do.f k a0 a1 a2) (r01_Do.f (k + 1) a0 a1 a2) := by
 intro a0 a1 a2 k
 unfold r01_Do.f
 repeat' first
   | (with_reducible apply r01_bits.mono)
   | (with_reducible apply r01_power.mono)
   | (with_reducible exact LeO.refl _)
   | (with_reducible exact LeO.none _)
   | (with_reducible refine LeO.ite ?_ ?_)
   | (with_reducible refine LeO.bind ?_ (fun _ => ?_))
   | apply r01_bits.mono
   | apply r01_power.mono
   | exact LeO.none _
   | refine LeO.ite ?_ ?_
   | refine LeO.bind ?_ (fun _ => ?_)
set_option maxHeartbeats 8000000 in
set_option maxRecDepth 100000 in
theorem r01_Do.calls (k : Nat) (a0 : Int) (a1 : Int) (a2 : Int) (r1 : Int) (r2 : Bool) (w : World) (h : r01_Do.f k a0 a1 a2 = some (r1, r2)) :
  Calls Tryd.prog 49 #[.int .i64 a0, .int .u32 a1, .int .u32 a2] w fun e w' => e = .returned (.tuple #[.int .u32 r1, .bool r2]) ∧ Below w.heap.size w w' := by
 have HB := Aside0.mk (Below.refl w.heap.size w)
 have H : (if a0 = 4 then (some ((Int.tmod (IntKind.u64.wrap ((IntKind.u64.wrap (a1)) + (IntKind.u64.wrap (a2)))) 4294967296) % 4294967296, true)) else (if a0 = 20 then (some ((Int.tmod (IntKind.u64.wrap ((IntKind.u64.wrap ((IntKind.u64.wrap (a1)) + 4294967296)) - (IntKind.u64.wrap (a2)))) 4294967296) % 4294967296, true)) else (if a0 = 36 then (some ((Int.tmod (IntKind.u64.wrap ((IntKind.u64.wrap (a1)) * (IntKind.u64.wrap (a2)))) 4294967296) % 4294967296, true)) else (if a0 = 52 then (if a2 = 0 then (some (0, false)) else (if (IntKind.u64.wrap (a2)) = 0 then (none) else (some ((IntKind.u64.wrap (Int.tdiv (IntKind.u64.wrap (a1)) (IntKind.u64.wrap (a2)))) % 4294967296, true)))) else (if a0 = 68 then ((r01_bits.f k a1 a2 (([0, 1, 1, 1] : List Int))).bind fun t188 => (some (t188, true))) else (if a0 = 84 then ((r01_bits.f k a1 a2 (([0, 0, 0, 1] : List Int))).bind fun t192 => (some (t192, true))) else (if a0 = 100 then ((r01_power.f k a2).bind fun t193 => (some ((Int.tmod (IntKind.u64.wrap ((IntKind.u64.wrap (a1)) * t193)) 4294967296) % 4294967296, true))) else (if a0 = 116 then ((r01_power.f k a2).bind fun t194 => (if t194 = 0 then (none) else (some ((IntKind.u64.wrap (Int.tdiv (IntKind.u64.wrap (a1)) t194)) % 4294967296, true)))) else (if a0 = 164 then ((r01_bits.f k a1 a2 (([0, 1, 1, 0] : List Int))).bind fun t198 => (some (t198, true))) else (some (0, false))))))))))) = some (r1, r2) := h
 clear h
 by_cases c4 : a0 = 4
 ·rw [if_pos c4] at H
  have c4b0 : (a0 == 4) = true := bI.mpr c4
  have c4b1 : (a0 != 4) = false := nF.mpr c4
  clear c4
  simp only [Option.some.injEq, Prod.mk.injEq] at H
  obtain ⟨rfl, rfl⟩ := H
  go_enter Tryd.func49, Tryd.ntmps49
  go_wp2
  go_ret2
  exact ⟨jE, jH HB⟩
 ·rw [if_neg c4] at H
  have c4b0 : (a0 == 4) = false := bF.mpr c4
  have c4b1 : (a0 != 4) = true := nI.mpr c4
  by_cases c5 : a0 = 20
  ·rw [if_pos c5] at H
   have c5b0 : (a0 == 20) = true := bI.mpr c5
   have c5b1 : (a0 != 20) = false := nF.mpr c5
   clear c5
   simp only [Option.some.injEq, Prod.mk.injEq] at H
   obtain ⟨rfl, rfl⟩ := H
   go_enter Tryd.func49, Tryd.ntmps49
   go_wp2
   go_ret2
   exact ⟨jE, jH HB⟩
  ·rw [if_neg c5] at H
   have c5b0 : (a0 == 20) = false := bF.mpr c5
   have c5b1 : (a0 != 20) = true := nI.mpr c5
   by_cases c6 : a0 = 36
   ·rw [if_pos c6] at H
    have c6b0 : (a0 == 36) = true := bI.mpr c6
    have c6b1 : (a0 != 36) = false := nF.mpr c6
    clear c6
    simp only [Option.some.injEq, Prod.mk.injEq] at H
    obtain ⟨rfl, rfl⟩ := H
    go_enter Tryd.func49, Tryd.ntmps49
    go_wp2
    go_ret2
    exact ⟨jE, jH HB⟩
   ·rw [if_neg c6] at H
    have c6b0 : (a0 == 36) = false := bF.mpr c6
    have c6b1 : (a0 != 36) = true := nI.mpr c6
    by_cases c7 : a0 = 52
    ·rw [if_pos c7] at H
     have c7b0 : (a0 == 52) = true := bI.mpr c7
     have c7b1 : (a0 != 52) = false := nF.mpr c7
     clear c7
     by_cases c8 : a2 = 0
     ·rw [if_pos c8] at H
      have c8b0 : (a2 == 0) = true := bI.mpr c8
      have c8b1 : (a2 != 0) = false := nF.mpr c8
      clear c8
      simp only [Option.some.injEq, Prod.mk.injEq] at H
      obtain ⟨rfl, rfl⟩ := H
      go_enter Tryd.func49, Tryd.ntmps49
      go_wp2
      go_ret2
      exact ⟨jE, jH HB⟩
     ·rw [if_neg c8] at H
      have c8b0 : (a2 == 0) = false := bF.mpr c8
      have c8b1 : (a2 != 0) = true := nI.mpr c8
      by_cases c9 : (IntKind.u64.wrap (a2)) = 0
      ·rw [if_pos c9] at H
       exact absurd H (by simp)
      ·rw [if_neg c9] at H
       have c9b0 : ((IntKind.u64.wrap (a2)) == 0) = false := bF.mpr c9
       have c9b1 : ((IntKind.u64.wrap (a2)) != 0) = true := nI.mpr c9
       simp only [Option.some.injEq, Prod.mk.injEq] at H
       obtain ⟨rfl, rfl⟩ := H
       go_enter Tryd.func49, Tryd.ntmps49
       go_wp2
       go_ret2
       exact ⟨jE, jH HB⟩
    ·rw [if_neg c7] at H
     have c7b0 : (a0 == 52) = false := bF.mpr c7
     have c7b1 : (a0 != 52) = true := nI.mpr c7
     by_cases c10 : a0 = 68
     ·rw [if_pos c10] at H
      have c10b0 : (a0 == 68) = true := bI.mpr c10
      have c10b1 : (a0 != 68) = false := nF.mpr c10
      clear c10
      obtain ⟨y185, hy185⟩ : ∃ y_ : List Int, y_ = (([0, 1, 1, 1] : List Int)) := ⟨_, rfl⟩
      simp only [Option.bind_some, ← hy185] at H
      have Ny185 := Aside0.mk hy185
      clear hy185
      replace H := Option.bind_eq_some_iff.mp H
      obtain ⟨t188, A110, H⟩ := H
      try dsimp only at H
      have A11 := Aside0.mk A110
      clear A110
      simp only [Option.some.injEq, Prod.mk.injEq] at H
      obtain ⟨rfl, rfl⟩ := H
      go_enter Tryd.func49, Tryd.ntmps49
      go_wp2_with (first | ((with_reducible refine gate_dst (N := 49) rfl ?_); refine Kd.R_lit (Kd.int .u32) _ 34 ?hg (N := 49) ?hd (xs := ([0, 1, 1, 1] : List Int)) (inner := [.int .u32 0, .int .u32 1, .int .u32 1, .int .u32 1]) (ok := fun _ => True) (okp := fun _ => True) ?hr ?hp (fun _ hk => hk) trivial (Below.refl _ _) (Nat.le_refl _) (by simp) ?_; (case hd => rfl); (case hg => rfl); (case hr => first | (go_simp; done) | (go_simp; rfl)); (case hp => exact (Reps.one (show Kd.M (Kd.int .u32) _ _ _ 0 [.int .u32 0] from rfl) (Reps.one (show Kd.M (Kd.int .u32) _ _ _ 1 [.int .u32 1] from rfl) (Reps.one (show Kd.M (Kd.int .u32) _ _ _ 1 [.int .u32 1] from rfl) (Reps.one (show Kd.M (Kd.int .u32) _ _ _ 1 [.int .u32 1] from rfl) (Reps.none _ _)))))); intro v186 w12 ho13 hb hg_ hnew_; clear hg_ hnew_; (first | rw [← Ny185.out] at ho13 | (simp only [Int.reduceToNat] at ho13; rw [← Ny185.out] at ho13)); have n0_ := Aside0.mk (Kd.R_lower ho13 (zZ (jH HB))); have n1_ := Aside0.mk (zT (jH HB) hb); clear HB; have HO187 := n0_; have HB := n1_; clear n0_ n1_; clear hb ho13; obtain ⟨Ao14, co14, eo14⟩ := Kd.R_slice HO187.out; subst eo14) | ((with_reducible refine gate_callee (f := 54) rfl ?_); refine goesL_ (some 50) rfl rfl Tryd.func54 (by kernel_rfl) rfl #[.int .u32 a1, .int .u32 a2, .slice Ao14 y185.length co14] rfl jZ ?_; (with_reducible refine (r01_bits.calls k a1 a2 _ _ y185 t188 _ ?side1 ?side2 A11.out).mono ?_); (case side1 => exact jC (Kd.R_reads' HO187.out).2.2); (case side2 => exact (Kd.R_reads' HO187.out).2.1); rintro e w' ⟨rfl, ⟨nd, rfl⟩⟩; refine ⟨_, rfl, ?_⟩))
      go_ret2
      exact ⟨jE, jH HB⟩
     ·rw [if_neg c10] at H
      have c10b0 : (a0 == 68) = false := bF.mpr c10
      have c10b1 : (a0 != 68) = true := nI.mpr c10
      by_cases c15 : a0 = 84
      ·rw [if_pos c15] at H
       have c15b0 : (a0 == 84) = true := bI.mpr c15
       have c15b1 : (a0 != 84) = false := nF.mpr c15
       clear c15
       obtain ⟨y189, hy189⟩ : ∃ y_ : List Int, y_ = (([0, 0, 0, 1] : List Int)) := ⟨_, rfl⟩
       simp only [Option.bind_some, ← hy189] at H
       have Ny189 := Aside0.mk hy189
       clear hy189
       replace H := Option.bind_eq_some_iff.mp H
       obtain ⟨t192, A160, H⟩ := H
       try dsimp only at H
       have A16 := Aside0.mk A160
       clear A160
       simp only [Option.some.injEq, Prod.mk.injEq] at H
       obtain ⟨rfl, rfl⟩ := H
       go_enter Tryd.func49, Tryd.ntmps49
       go_wp2_with (first | ((with_reducible refine gate_dst (N := 55) rfl ?_); refine Kd.R_lit (Kd.int .u32) _ 34 ?hg (N := 55) ?hd (xs := ([0, 0, 0, 1] : List Int)) (inner := [.int .u32 0, .int .u32 0, .int .u32 0, .int .u32 1]) (ok := fun _ => True) (okp := fun _ => True) ?hr ?hp (fun _ hk => hk) trivial (Below.refl _ _) (Nat.le_refl _) (by simp) ?_; (case hd => rfl); (case hg => rfl); (case hr => first | (go_simp; done) | (go_simp; rfl)); (case hp => exact (Reps.one (show Kd.M (Kd.int .u32) _ _ _ 0 [.int .u32 0] from rfl) (Reps.one (show Kd.M (Kd.int .u32) _ _ _ 0 [.int .u32 0] from rfl) (Reps.one (show Kd.M (Kd.int .u32) _ _ _ 0 [.int .u32 0] from rfl) (Reps.one (show Kd.M (Kd.int .u32) _ _ _ 1 [.int .u32 1] from rfl) (Reps.none _ _)))))); intro v190 w17 ho18 hb hg_ hnew_; clear hg_ hnew_; (first | rw [← Ny189.out] at ho18 | (simp only [Int.reduceToNat] at ho18; rw [← Ny189.out] at ho18)); have n0_ := Aside0.mk (Kd.R_lower ho18 (zZ (jH HB))); have n1_ := Aside0.mk (zT (jH HB) hb); clear HB; have HO191 := n0_; have HB := n1_; clear n0_ n1_; clear hb ho18; obtain ⟨Ao19, co19, eo19⟩ := Kd.R_slice HO191.out; subst eo19) | ((with_reducible refine gate_callee (f := 54) rfl ?_); refine goesL_ (some 56) rfl rfl Tryd.func54 (by kernel_rfl) rfl #[.int .u32 a1, .int .u32 a2, .slice Ao19 y189.length co19] rfl jZ ?_; (with_reducible refine (r01_bits.calls k a1 a2 _ _ y189 t192 _ ?side1 ?side2 A16.out).mono ?_); (case side1 => exact jC (Kd.R_reads' HO191.out).2.2); (case side2 => exact (Kd.R_reads' HO191.out).2.1); rintro e w' ⟨rfl, ⟨nd, rfl⟩⟩; refine ⟨_, rfl, ?_⟩))
       go_ret2
       exact ⟨jE, jH HB⟩
      ·rw [if_neg c15] at H
       have c15b0 : (a0 == 84) = false := bF.mpr c15
       have c15b1 : (a0 != 84) = true := nI.mpr c15
       by_cases c20 : a0 = 100
       ·rw [if_pos c20] at H
        have c20b0 : (a0 == 100) = true := bI.mpr c20
        have c20b1 : (a0 != 100) = false := nF.mpr c20
        clear c20
        replace H := Option.bind_eq_some_iff.mp H
        obtain ⟨t193, A210, H⟩ := H
        try dsimp only at H
        have A21 := Aside0.mk A210
        clear A210
        simp only [Option.some.injEq, Prod.mk.injEq] at H
        obtain ⟨rfl, rfl⟩ := H
        go_enter Tryd.func49, Tryd.ntmps49
        go_wp2_with (first | ((with_reducible refine gate_callee (f := 55) rfl ?_); refine goesL_ (some 61) rfl rfl Tryd.func55 (by kernel_rfl) rfl #[.int .u32 a2] rfl jZ ?_; (with_reducible refine (r01_power.calls k a2 t193 _ A21.out).mono ?_); rintro e w' ⟨rfl, ⟨nd, rfl⟩⟩; refine ⟨_, rfl, ?_⟩))
        go_ret2
        exact ⟨jE, jH HB⟩
       ·rw [if_neg c20] at H
        have c20b0 : (a0 == 100) = false := bF.mpr c20
        have c20b1 : (a0 != 100) = true := nI.mpr c20
        by_cases c22 : a0 = 116
        ·rw [if_pos c22] at H
         have c22b0 : (a0 == 116) = true := bI.mpr c22
         have c22b1 : (a0 != 116) = false := nF.mpr c22
         clear c22
         replace H := Option.bind_eq_some_iff.mp H
         obtain ⟨t194, A230, H⟩ := H
         try dsimp only at H
         have A23 := Aside0.mk A230
         clear A230
         by_cases c24 : t194 = 0
         ·rw [if_pos c24] at H
          exact absurd H (by simp)
         ·rw [if_neg c24] at H
          have c24b0 : (t194 == 0) = false := bF.mpr c24
          have c24b1 : (t194 != 0) = true := nI.mpr c24
          simp only [Option.some.injEq, Prod.mk.injEq] at H
          obtain ⟨rfl, rfl⟩ := H
          go_enter Tryd.func49, Tryd.ntmps49
          go_wp2_with (first | ((with_reducible refine gate_callee (f := 55) rfl ?_); refine goesL_ (some 69) rfl rfl Tryd.func55 (by kernel_rfl) rfl #[.int .u32 a2] rfl jZ ?_; (with_reducible refine (r01_power.calls k a2 t194 _ A23.out).mono ?_); rintro e w' ⟨rfl, ⟨nd, rfl⟩⟩; refine ⟨_, rfl, ?_⟩))
          go_ret2
          exact ⟨jE, jH HB⟩
        ·rw [if_neg c22] at H
         have c22b0 : (a0 == 116) = false := bF.mpr c22
         have c22b1 : (a0 != 116) = true := nI.mpr c22
         by_cases c25 : a0 = 164
         ·rw [if_pos c25] at H
          have c25b0 : (a0 == 164) = true := bI.mpr c25
          have c25b1 : (a0 != 164) = false := nF.mpr c25
          clear c25
          obtain ⟨y195, hy195⟩ : ∃ y_ : List Int, y_ = (([0, 1, 1, 0] : List Int)) := ⟨_, rfl⟩
          simp only [Option.bind_some, ← hy195] at H
          have Ny195 := Aside0.mk hy195
          clear hy195
          replace H := Option.bind_eq_some_iff.mp H
          obtain ⟨t198, A260, H⟩ := H
          try dsimp only at H
          have A26 := Aside0.mk A260
          clear A260
          simp only [Option.some.injEq, Prod.mk.injEq] at H
          obtain ⟨rfl, rfl⟩ := H
          go_enter Tryd.func49, Tryd.ntmps49
          go_wp2_with (first | ((with_reducible refine gate_dst (N := 76) rfl ?_); refine Kd.R_lit (Kd.int .u32) _ 34 ?hg (N := 76) ?hd (xs := ([0, 1, 1, 0] : List Int)) (inner := [.int .u32 0, .int .u32 1, .int .u32 1, .int .u32 0]) (ok := fun _ => True) (okp := fun _ => True) ?hr ?hp (fun _ hk => hk) trivial (Below.refl _ _) (Nat.le_refl _) (by simp) ?_; (case hd => rfl); (case hg => rfl); (case hr => first | (go_simp; done) | (go_simp; rfl)); (case hp => exact (Reps.one (show Kd.M (Kd.int .u32) _ _ _ 0 [.int .u32 0] from rfl) (Reps.one (show Kd.M (Kd.int .u32) _ _ _ 1 [.int .u32 1] from rfl) (Reps.one (show Kd.M (Kd.int .u32) _ _ _ 1 [.int .u32 1] from rfl) (Reps.one (show Kd.M (Kd.int .u32) _ _ _ 0 [.int .u32 0] from rfl) (Reps.none _ _)))))); intro v196 w27 ho28 hb hg_ hnew_; clear hg_ hnew_; (first | rw [← Ny195.out] at ho28 | (simp only [Int.reduceToNat] at ho28; rw [← Ny195.out] at ho28)); have n0_ := Aside0.mk (Kd.R_lower ho28 (zZ (jH HB))); have n1_ := Aside0.mk (zT (jH HB) hb); clear HB; have HO197 := n0_; have HB := n1_; clear n0_ n1_; clear hb ho28; obtain ⟨Ao29, co29, eo29⟩ := Kd.R_slice HO197.out; subst eo29) | ((with_reducible refine gate_callee (f := 54) rfl ?_); refine goesL_ (some 77) rfl rfl Tryd.func54 (by kernel_rfl) rfl #[.int .u32 a1, .int .u32 a2, .slice Ao29 y195.length co29] rfl jZ ?_; (with_reducible refine (r01_bits.calls k a1 a2 _ _ y195 t198 _ ?side1 ?side2 A26.out).mono ?_); (case side1 => exact jC (Kd.R_reads' HO197.out).2.2); (case side2 => exact (Kd.R_reads' HO197.out).2.1); rintro e w' ⟨rfl, ⟨nd, rfl⟩⟩; refine ⟨_, rfl, ?_⟩))
          go_ret2
          exact ⟨jE, jH HB⟩
         ·rw [if_neg c25] at H
          have c25b0 : (a0 == 164) = false := bF.mpr c25
          have c25b1 : (a0 != 164) = true := nI.mpr c25
          simp only [Option.some.injEq, Prod.mk.injEq] at H
          obtain ⟨rfl, rfl⟩ := H
          go_enter Tryd.func49, Tryd.ntmps49
          go_wp2
          go_ret2
          exact ⟨jE, jH HB⟩
end Go.Proofs.YtohpbjnihmcelaaDoor.M
