/- By a program of this session: what Go functions of the seat compute, as Lean functions, each with a proof that the call of the Go function comes to that. -/
import Derived.Test.YtoaflnpjmpijgaaM0
import Derived.Test.YtoaflnpjmpijgaaM1
import Derived.Test.YtoaflnpjmpijgaaM2
namespace Go.Proofs.Ytoaflnpjmpijgaa.M
open Go.RowKit Go.Proofs.YtoaflnpjmpijgaaW.PrintWords Go.Proofs.YtoaflnpjmpijgaaW.PrintLast Go.Proofs.YtoaflnpjmpijgaaW.PrintMore
attribute [local go_sem] max2_int min2_int max_two min_two max_three min_three max_four min_four   -- for this text's walks alone
set_option linter.unusedVariables false
set_option linter.unusedSimpArgs false

/-! ### hurdlelaw20_knows: function 9 -/
def hurdlelaw20_knows.f (k : Nat)  : Option (Bool) := (crc_Seal.f k (([104, 97, 121] : List Int))).bind fun t129 => ((crc_Open.f k t129).bind fun bt132 => ((crc_Open.f k (([104, 97, 121] : List Int))).bind fun bt139 => ((crc_Sum.f k (([49, 50, 51, 52, 53, 54, 55, 56, 57] : List Int))).bind fun t146 => (if t146 = 3421780262 then ((crc_Sum.f k ([] : List Int)).bind fun t147 => (if t147 = 0 then (if (strOfNums bt132.1).toList = ([104, 97, 121] : List UInt8) then (if bt132.2 = 0 then (some (bt139.2 == 9)) else (none)) else (none)) else (none))) else (none)))))
theorem hurdlelaw20_knows.mono : ∀ k, LeO (hurdlelaw20_knows.f k ) (hurdlelaw20_knows.f (k + 1) ) := by
  intro  k
  unfold hurdlelaw20_knows.f
  repeat' first
      | (with_reducible exact crc_Open.mono _ _)
      | (with_reducible exact crc_Seal.mono _ _)
      | (with_reducible exact crc_Sum.mono _ _)
      | (with_reducible exact LeO.refl _)
      | (with_reducible exact LeO.none _)
      | (with_reducible refine LeO.ite ?_ ?_)
      | (with_reducible refine LeO.bind ?_ (fun _ => ?_))
      | exact crc_Open.mono _ _
      | exact crc_Seal.mono _ _
      | exact crc_Sum.mono _ _
      | exact LeO.none _
      | refine LeO.ite ?_ ?_
      | refine LeO.bind ?_ (fun _ => ?_)
set_option maxHeartbeats 8000000 in
set_option maxRecDepth 100000 in
theorem hurdlelaw20_knows.calls (k : Nat)  (r : Bool) (w : World) (h : hurdlelaw20_knows.f k  = some r) :
    Calls Try.prog 9 #[] w fun e w' => e = .returned (.bool r) ∧ Below w.heap.size w w' := by
  unfold hurdlelaw20_knows.f at h
  obtain ⟨t129, A1, h⟩ := Option.bind_eq_some_iff.mp h
  obtain ⟨⟨t132, t133⟩, A2, h⟩ := Option.bind_eq_some_iff.mp h
  obtain ⟨⟨t139, t140⟩, A3, h⟩ := Option.bind_eq_some_iff.mp h
  obtain ⟨t146, A4, h⟩ := Option.bind_eq_some_iff.mp h
  have A1 := Aside0.mk A1; have A2 := Aside0.mk A2; have A3 := Aside0.mk A3; have A4 := Aside0.mk A4
  have kc := fun (w : World) (C : Array Value) (n c : Nat) => Lib.run_convert_bytes_const (P := Try.prog) w 22 5 C n c Try.underlying22 Try.underlying5
  have hc3 : ∀ W : World, Kd.C (Kd.int .u8) (W.alloc (.cells #[.int .u8 104, .int .u8 97, .int .u8 121] 5 (3, 4))) (some ⟨W.heap.size, 0, none⟩) 3 [104, 97, 121] := fun W => Kd.C_lit .u8 W [104, 97, 121] 5 (3, 4) (by decide)
  have hc9 : ∀ W : World, Kd.C (Kd.int .u8) (W.alloc (.cells #[.int .u8 49, .int .u8 50, .int .u8 51, .int .u8 52, .int .u8 53, .int .u8 54, .int .u8 55, .int .u8 56, .int .u8 57] 5 (9, 10))) (some ⟨W.heap.size, 0, none⟩) 9 [49, 50, 51, 52, 53, 54, 55, 56, 57] := fun W => Kd.C_lit .u8 W [49, 50, 51, 52, 53, 54, 55, 56, 57] 5 (9, 10) (by decide)
  have hc3 := Aside0.mk hc3
  have hc9 := Aside0.mk hc9
  by_cases c5 : t146 = 3421780262
  · rw [if_pos c5] at h
    have c5b0 : (t146 == 3421780262) = true := beq_iff_eq.mpr c5
    have c5b1 : (t146 != 3421780262) = false := bne_eq_false_iff_eq.mpr c5
    clear c5
    obtain ⟨t147, A5, h⟩ := Option.bind_eq_some_iff.mp h
    have A5 := Aside0.mk A5
    by_cases c7 : t147 = 0
    · rw [if_pos c7] at h
      have c7b0 : (t147 == 0) = true := beq_iff_eq.mpr c7
      have c7b1 : (t147 != 0) = false := bne_eq_false_iff_eq.mpr c7
      clear c7
      by_cases c8 : (strOfNums t132).toList = ([104, 97, 121] : List UInt8)
      · rw [if_pos c8] at h
        have c8b0 : ((strOfNums t132).toList == ([104, 97, 121] : List UInt8)) = true := beq_iff_eq.mpr c8
        have c8b1 : ((strOfNums t132).toList != ([104, 97, 121] : List UInt8)) = false := bne_eq_false_iff_eq.mpr c8
        clear c8
        by_cases c9 : t133 = 0
        · rw [if_pos c9] at h
          have c9b0 : (t133 == 0) = true := beq_iff_eq.mpr c9
          have c9b1 : (t133 != 0) = false := bne_eq_false_iff_eq.mpr c9
          clear c9
          obtain rfl := Option.some.inj h
          go_enter Try.func9, Try.ntmps9
          go_wp2_with fail
          (refine (crc_Seal.calls k _ 3 [104, 97, 121] t129 _ (hc3.out w) (Nat.le_refl _) A1.out).mono ?_)
          rintro e w1 ⟨v1, rfl, ho1, hb1⟩
          have HB1 := Aside0.mk (below_step (below_alloc (Below.refl w.heap.size w) _) hb1)
          obtain ⟨S1, c1, e1⟩ := Kd.R_slice ho1
          subst e1
          have HO1 := Aside0.mk (Kd.R_reads' ho1).2
          clear ho1 hb1
          go_wp2_with fail
          (with_reducible refine (crc_Open.calls k _ _ t129 t132 t133 _ HO1.out.2 HO1.out.1 A2.out).mono ?_)
          rintro e w2 ⟨v2, rfl, ho2, hb2⟩
          have HB2 := Aside0.mk (below_step HB1.out hb2)
          obtain ⟨S2, c2, e2⟩ := Kd.R_slice ho2
          subst e2
          have HO2 := Aside0.mk (Kd.R_reads' ho2).2.2
          clear ho2 hb2 HO1 HB1
          go_wp2_with fail
          (refine (crc_Open.calls k _ 3 [104, 97, 121] t139 t140 _ (hc3.out w2) (Nat.le_refl _) A3.out).mono ?_)
          rintro e w3 ⟨v3, rfl, ho3, hb3⟩
          have HB3 := Aside0.mk (below_step (below_alloc HB2.out _) hb3)
          have HO3 := Aside0.mk (Kd.C_below HO2.out (below_step (below_alloc (Below.refl w2.heap.size w2) _) hb3))
          clear ho3 hb3 HO2 HB2
          go_wp2_with fail
          (refine (crc_Sum.calls k _ 9 [49, 50, 51, 52, 53, 54, 55, 56, 57] t146 _ (hc9.out w3) (Nat.le_refl _) A4.out).mono ?_)
          rintro e w4 ⟨rfl, ⟨n4, rfl⟩⟩
          have hcv := fun n => Kd.C_string (P := Try.prog) (A := S2) (c := c2) Try.underlying22 Try.underlying5 Try.underlying9 (Kd.C_drewN (Kd.C_alloc HO3.out (.cells #[.int .u8 49, .int .u8 50, .int .u8 51, .int .u8 52, .int .u8 53, .int .u8 54, .int .u8 55, .int .u8 56, .int .u8 57] 5 (9, 10))) n)
          go_wp2_with fail
          (refine (crc_Sum.calls k _ _ ([] : List Int) t147 _ (Kd.C_nil _ _) (Nat.le_refl _) A5.out).mono ?_)
          rintro e w5 ⟨rfl, ⟨n5, rfl⟩⟩
          go_wp2
          go_ret
          exact ⟨by first | rfl | simp, by repeat (first | (with_reducible first | exact HB3.out | apply below_alloc | apply pw_below_drewN | apply below_drew1) | exact HB3.out)⟩

        · rw [if_neg c9] at h; cases h
      · rw [if_neg c8] at h; cases h
    · rw [if_neg c7] at h; cases h
  · rw [if_neg c5] at h; cases h

end Go.Proofs.Ytoaflnpjmpijgaa.M
