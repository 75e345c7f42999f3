/- By a program of this session: what Go functions of the seat compute, as Lean functions, each with a proof that the call of the Go function comes to that. -/
import Derived.Test.YtidlcpflfokehaaDoorM0
import Derived.Test.YtidlcpflfokehaaDoorM1
import Derived.Test.YtidlcpflfokehaaDoorM4
import Derived.Test.YtidlcpflfokehaaDoorM7
import Derived.Test.YtidlcpflfokehaaDoorM8
import Derived.Test.YtidlcpflfokehaaDoorM9
namespace Go.Proofs.YtidlcpflfokehaaDoor.M
open Go.RowKit Go.Proofs.YtidlcpflfokehaaDoorW.PrintWords Go.Proofs.YtidlcpflfokehaaDoorW.PrintLast Go.Proofs.YtidlcpflfokehaaDoorW.PrintMore
attribute [local go_sem] max2_int min2_int max_two min_two max_three min_three max_four min_four   -- for this text's walks alone
set_option linter.unusedVariables false
set_option linter.unusedSimpArgs false

attribute [local go_sem high] eqA48
/-! ### codec_Right: function 18 -/
def codec_Right.f (k : Nat) (l0 : List (S48)) : Option (Bool) := (codec_check.f k l0).bind fun t147 => (some (t147 == 0))
theorem codec_Right.mono : ∀ a0 k, LeO (codec_Right.f k a0) (codec_Right.f (k + 1) a0) := by
  intro a0 k
  unfold codec_Right.f
  repeat' first
      | (with_reducible exact codec_check.mono _ _)
      | (with_reducible exact LeO.refl _)
      | (with_reducible exact LeO.none _)
      | (with_reducible refine LeO.ite ?_ ?_)
      | (with_reducible refine LeO.bind ?_ (fun _ => ?_))
      | exact codec_check.mono _ _
      | exact LeO.none _
      | refine LeO.ite ?_ ?_
      | refine LeO.bind ?_ (fun _ => ?_)
set_option maxHeartbeats 8000000 in
set_option maxRecDepth 100000 in
theorem codec_Right.calls (k : Nat) (A0 : Option Addr) (c0 : Nat) (l0 : List (S48)) (r : Bool) (w : World) (hr0 : Kd.C k48 w A0 l0.length l0) (hc0 : l0.length ≤ c0) (hG : Glob w) (h : codec_Right.f k l0 = some r) :
    Calls Tryd.prog 18 #[.slice A0 l0.length c0] w fun e w' => e = .returned (.bool r) ∧ Below w.heap.size w w' := by
  have HG := Aside0.mk hG
  clear hG
  have HR0 := Aside0.mk hr0
  have HC0 := Aside0.mk hc0
  clear hr0 hc0
  have HB := Aside0.mk (Below.refl w.heap.size w)
  have H : ((codec_check.f k l0).bind fun t147 => (some (t147 == 0))) = some r := h
  clear h
  replace H := Option.bind_eq_some_iff.mp H
  obtain ⟨t147, A20, H⟩ := H
  replace H : (some (t147 == 0)) = some r := H
  have A2 := Aside0.mk A20
  clear A20
  obtain rfl := Option.some.inj H
  go_enter Tryd.func18, Tryd.ntmps18
  go_wp2_with (first | ((with_reducible refine gate_callee (f := 26) rfl ?_); refine goesL_ (some 4) rfl rfl Tryd.func26 (by kernel_rfl) rfl #[.slice A0 l0.length c0] rfl (by (try simp only [List.map_toArray, List.map_cons, List.map_nil]); first | done | rfl | (simp only [List.length_drop, List.length_take]; rfl)) ?_; (with_reducible refine (codec_check.calls k _ _ l0 t147 _ ?side1 ?side2 ?side3 A2.out).mono ?_); (case side1 => repeat (first | exact HR0.out | (with_reducible refine Kd.C_alloc ?_ _) | (with_reducible refine Kd.C_drewN ?_ _) | (with_reducible refine Kd.C_drew ?_))); (case side2 => exact HC0.out); (case side3 => exact Glob.below HG.out (by repeat (first | (with_reducible first | exact HB.out | apply below_alloc | apply pw_below_drewN | apply below_drew1) | exact HB.out))); rintro e w3 ⟨rfl, hb⟩; refine ⟨_, rfl, ?_⟩; have n0_ := Aside0.mk (below_step (by repeat (first | (with_reducible first | exact HB.out | apply below_alloc | apply pw_below_drewN | apply below_drew1) | exact HB.out)) hb); clear HB; have HB := n0_; clear n0_; (try clear hb); (try clear hb2); (try clear hk); (try clear hi)))
  go_ret
  exact ⟨by first | rfl | (simp [errW_none, errW_some] <;> rfl) | (simp [*, errW_none, errW_some] <;> rfl), by repeat (first | (with_reducible first | exact HB.out | apply below_alloc | apply pw_below_drewN | apply below_drew1) | exact HB.out)⟩

/-! ### hurdlelaw03_knows: function 9 -/
def hurdlelaw03_knows.f (k : Nat)  : Option (Bool) := (codec_Encode.f k (([(⟨6, 0, 0, 2147418112⟩ : S48)] : List (S48)))).bind fun bt151 => ((codec_Decode.f k (([21, 0, 1, 0, 5, 0, 0, 0] : List Int))).bind fun bt158 => ((codec_Parse.f k (⟨#[114, 101, 116, 32, 48, 120, 48, 10]⟩ : ByteArray)).bind fun bt162 => (if (strOfNums bt151.1).toList = ([6, 0, 0, 0, 0, 0, 255, 127] : List UInt8) then (if bt151.2 = 0 then (if (bt158.1.length : Int) = 1 then (if 0 < (bt158.1.length : Int) then (if (((rd_T48 bt158.1 0).f0) == 21 && (((rd_T48 bt158.1 0).f1) == 1 && (((rd_T48 bt158.1 0).f2) == 0 && (((rd_T48 bt158.1 0).f3) == 5)))) = true then (if bt158.2 = 0 then (if (bt162.1.length : Int) = 1 then (if bt162.2.2 = 0 then ((codec_Right.f k bt162.1).bind fun t168 => (some t168)) else (none)) else (none)) else (none)) else (none)) else (none)) else (none)) else (none)) else (none))))
theorem hurdlelaw03_knows.mono : ∀ k, LeO (hurdlelaw03_knows.f k ) (hurdlelaw03_knows.f (k + 1) ) := by
  intro  k
  unfold hurdlelaw03_knows.f
  repeat' first
      | (with_reducible exact codec_Decode.mono _ _)
      | (with_reducible exact codec_Encode.mono _ _)
      | (with_reducible exact codec_Parse.mono _ _)
      | (with_reducible exact codec_Right.mono _ _)
      | (with_reducible exact LeO.refl _)
      | (with_reducible exact LeO.none _)
      | (with_reducible refine LeO.ite ?_ ?_)
      | (with_reducible refine LeO.bind ?_ (fun _ => ?_))
      | exact codec_Decode.mono _ _
      | exact codec_Encode.mono _ _
      | exact codec_Parse.mono _ _
      | exact codec_Right.mono _ _
      | exact LeO.none _
      | refine LeO.ite ?_ ?_
      | refine LeO.bind ?_ (fun _ => ?_)
set_option maxHeartbeats 8000000 in
set_option maxRecDepth 100000 in
theorem hurdlelaw03_knows.calls (k : Nat)  (r : Bool) (w : World) (hG : Glob w) (h : hurdlelaw03_knows.f k  = some r) :
    Calls Tryd.prog 9 #[] w fun e w' => e = .returned (.bool r) ∧ Below w.heap.size w w' := by
  have hu48 := Tryd.underlying48
  have HG := Aside0.mk hG
  clear hG
  have HB := Aside0.mk (Below.refl w.heap.size w)
  have H : ((codec_Encode.f k (([(⟨6, 0, 0, 2147418112⟩ : S48)] : List (S48)))).bind fun bt151 => ((codec_Decode.f k (([21, 0, 1, 0, 5, 0, 0, 0] : List Int))).bind fun bt158 => ((codec_Parse.f k (⟨#[114, 101, 116, 32, 48, 120, 48, 10]⟩ : ByteArray)).bind fun bt162 => (if (strOfNums bt151.1).toList = ([6, 0, 0, 0, 0, 0, 255, 127] : List UInt8) then (if bt151.2 = 0 then (if (bt158.1.length : Int) = 1 then (if 0 < (bt158.1.length : Int) then (if (((rd_T48 bt158.1 0).f0) == 21 && (((rd_T48 bt158.1 0).f1) == 1 && (((rd_T48 bt158.1 0).f2) == 0 && (((rd_T48 bt158.1 0).f3) == 5)))) = true then (if bt158.2 = 0 then (if (bt162.1.length : Int) = 1 then (if bt162.2.2 = 0 then ((codec_Right.f k bt162.1).bind fun t168 => (some t168)) else (none)) else (none)) else (none)) else (none)) else (none)) else (none)) else (none)) else (none))))) = some r := h
  clear h
  obtain ⟨y148, hy148⟩ : ∃ y_ : List (S48), y_ = (([(⟨6, 0, 0, 2147418112⟩ : S48)] : List (S48))) := ⟨_, rfl⟩
  replace H : ((codec_Encode.f k y148).bind fun bt151 => ((codec_Decode.f k (([21, 0, 1, 0, 5, 0, 0, 0] : List Int))).bind fun bt158 => ((codec_Parse.f k (⟨#[114, 101, 116, 32, 48, 120, 48, 10]⟩ : ByteArray)).bind fun bt162 => (if (strOfNums bt151.1).toList = ([6, 0, 0, 0, 0, 0, 255, 127] : List UInt8) then (if bt151.2 = 0 then (if (bt158.1.length : Int) = 1 then (if 0 < (bt158.1.length : Int) then (if (((rd_T48 bt158.1 0).f0) == 21 && (((rd_T48 bt158.1 0).f1) == 1 && (((rd_T48 bt158.1 0).f2) == 0 && (((rd_T48 bt158.1 0).f3) == 5)))) = true then (if bt158.2 = 0 then (if (bt162.1.length : Int) = 1 then (if bt162.2.2 = 0 then ((codec_Right.f k bt162.1).bind fun t168 => (some t168)) else (none)) else (none)) else (none)) else (none)) else (none)) else (none)) else (none)) else (none))))) = some r := by first | (rw [hy148]; with_reducible exact H) | (have H2_ := (Option.bind_some _ _).symm.trans H; rw [hy148]; with_reducible exact H2_) | (have H2_ := (Option.bind_some _ _).symm.trans H; with_reducible exact H2_) | with_reducible exact H | (rw [hy148]; exact H) | exact H
  have Ny148 := Aside0.mk hy148
  clear hy148
  replace H := Option.bind_eq_some_iff.mp H
  obtain ⟨⟨t151, t152⟩, A10, H⟩ := H
  replace H : ((codec_Decode.f k (([21, 0, 1, 0, 5, 0, 0, 0] : List Int))).bind fun bt158 => ((codec_Parse.f k (⟨#[114, 101, 116, 32, 48, 120, 48, 10]⟩ : ByteArray)).bind fun bt162 => (if (strOfNums t151).toList = ([6, 0, 0, 0, 0, 0, 255, 127] : List UInt8) then (if t152 = 0 then (if (bt158.1.length : Int) = 1 then (if 0 < (bt158.1.length : Int) then (if (((rd_T48 bt158.1 0).f0) == 21 && (((rd_T48 bt158.1 0).f1) == 1 && (((rd_T48 bt158.1 0).f2) == 0 && (((rd_T48 bt158.1 0).f3) == 5)))) = true then (if bt158.2 = 0 then (if (bt162.1.length : Int) = 1 then (if bt162.2.2 = 0 then ((codec_Right.f k bt162.1).bind fun t168 => (some t168)) else (none)) else (none)) else (none)) else (none)) else (none)) else (none)) else (none)) else (none)))) = some r := H
  have A1 := Aside0.mk A10
  clear A10
  obtain ⟨y155, hy155⟩ : ∃ y_ : List Int, y_ = (([21, 0, 1, 0, 5, 0, 0, 0] : List Int)) := ⟨_, rfl⟩
  replace H : ((codec_Decode.f k y155).bind fun bt158 => ((codec_Parse.f k (⟨#[114, 101, 116, 32, 48, 120, 48, 10]⟩ : ByteArray)).bind fun bt162 => (if (strOfNums t151).toList = ([6, 0, 0, 0, 0, 0, 255, 127] : List UInt8) then (if t152 = 0 then (if (bt158.1.length : Int) = 1 then (if 0 < (bt158.1.length : Int) then (if (((rd_T48 bt158.1 0).f0) == 21 && (((rd_T48 bt158.1 0).f1) == 1 && (((rd_T48 bt158.1 0).f2) == 0 && (((rd_T48 bt158.1 0).f3) == 5)))) = true then (if bt158.2 = 0 then (if (bt162.1.length : Int) = 1 then (if bt162.2.2 = 0 then ((codec_Right.f k bt162.1).bind fun t168 => (some t168)) else (none)) else (none)) else (none)) else (none)) else (none)) else (none)) else (none)) else (none)))) = some r := by first | (rw [hy155]; with_reducible exact H) | (have H2_ := (Option.bind_some _ _).symm.trans H; rw [hy155]; with_reducible exact H2_) | (have H2_ := (Option.bind_some _ _).symm.trans H; with_reducible exact H2_) | with_reducible exact H | (rw [hy155]; exact H) | exact H
  have Ny155 := Aside0.mk hy155
  clear hy155
  replace H := Option.bind_eq_some_iff.mp H
  obtain ⟨⟨t158, t161⟩, A20, H⟩ := H
  replace H : ((codec_Parse.f k (⟨#[114, 101, 116, 32, 48, 120, 48, 10]⟩ : ByteArray)).bind fun bt162 => (if (strOfNums t151).toList = ([6, 0, 0, 0, 0, 0, 255, 127] : List UInt8) then (if t152 = 0 then (if (t158.length : Int) = 1 then (if 0 < (t158.length : Int) then (if (((rd_T48 t158 0).f0) == 21 && (((rd_T48 t158 0).f1) == 1 && (((rd_T48 t158 0).f2) == 0 && (((rd_T48 t158 0).f3) == 5)))) = true then (if t161 = 0 then (if (bt162.1.length : Int) = 1 then (if bt162.2.2 = 0 then ((codec_Right.f k bt162.1).bind fun t168 => (some t168)) else (none)) else (none)) else (none)) else (none)) else (none)) else (none)) else (none)) else (none))) = some r := H
  have A2 := Aside0.mk A20
  clear A20
  replace H := Option.bind_eq_some_iff.mp H
  obtain ⟨⟨t162, t163, t164⟩, A30, H⟩ := H
  replace H : (if (strOfNums t151).toList = ([6, 0, 0, 0, 0, 0, 255, 127] : List UInt8) then (if t152 = 0 then (if (t158.length : Int) = 1 then (if 0 < (t158.length : Int) then (if (((rd_T48 t158 0).f0) == 21 && (((rd_T48 t158 0).f1) == 1 && (((rd_T48 t158 0).f2) == 0 && (((rd_T48 t158 0).f3) == 5)))) = true then (if t161 = 0 then (if (t162.length : Int) = 1 then (if t164 = 0 then ((codec_Right.f k t162).bind fun t168 => (some t168)) else (none)) else (none)) else (none)) else (none)) else (none)) else (none)) else (none)) else (none)) = some r := H
  have A3 := Aside0.mk A30
  clear A30
  by_cases c4 : (strOfNums t151).toList = ([6, 0, 0, 0, 0, 0, 255, 127] : List UInt8)
  · rw [if_pos c4] at H
    have c4b0 : ((strOfNums t151).toList == ([6, 0, 0, 0, 0, 0, 255, 127] : List UInt8)) = true := beq_iff_eq.mpr c4
    have c4b1 : ((strOfNums t151).toList != ([6, 0, 0, 0, 0, 0, 255, 127] : List UInt8)) = false := bne_eq_false_iff_eq.mpr c4
    clear c4
    by_cases c5 : t152 = 0
    · rw [if_pos c5] at H
      have c5b0 : (t152 == 0) = true := beq_iff_eq.mpr c5
      have c5b1 : (t152 != 0) = false := bne_eq_false_iff_eq.mpr c5
      clear c5
      by_cases c6 : (t158.length : Int) = 1
      · rw [if_pos c6] at H
        have c6b0 : ((t158.length : Int) == 1) = true := beq_iff_eq.mpr c6
        have c6b1 : ((t158.length : Int) != 1) = false := bne_eq_false_iff_eq.mpr c6
        clear c6
        by_cases c7 : 0 < (t158.length : Int)
        · rw [if_pos c7] at H
          have c7b0 : decide (0 < (t158.length : Int)) = true := decide_eq_true c7
          have c7b1 : decide (0 < t158.length) = true := decide_eq_true (by omega)
          clear c7
          by_cases c8 : (((rd_T48 t158 0).f0) == 21 && (((rd_T48 t158 0).f1) == 1 && (((rd_T48 t158 0).f2) == 0 && (((rd_T48 t158 0).f3) == 5)))) = true
          · rw [if_pos c8] at H
            have c8b0 : (((rd_T48 t158 0).f0) == 21 && (((rd_T48 t158 0).f1) == 1 && (((rd_T48 t158 0).f2) == 0 && (((rd_T48 t158 0).f3) == 5)))) = true := c8
            (try (have c8b1 : decide (((rd_T48 t158 0).f0) = 21 && (((rd_T48 t158 0).f1) == 1 && (((rd_T48 t158 0).f2) == 0 && (((rd_T48 t158 0).f3) == 5)))) = true := by simpa using c8))
            (try (have c8b2 : (((rd_T48 t158 0).f0) == 21 && (((rd_T48 t158 0).f1) == 1 && (((rd_T48 t158 0).f2) == 0 && (((rd_T48 t158 0).f3) == 5)))) = true := by simpa using c8))
            clear c8
            by_cases c9 : t161 = 0
            · rw [if_pos c9] at H
              have c9b0 : (t161 == 0) = true := beq_iff_eq.mpr c9
              have c9b1 : (t161 != 0) = false := bne_eq_false_iff_eq.mpr c9
              clear c9
              by_cases c10 : (t162.length : Int) = 1
              · rw [if_pos c10] at H
                have c10b0 : ((t162.length : Int) == 1) = true := beq_iff_eq.mpr c10
                have c10b1 : ((t162.length : Int) != 1) = false := bne_eq_false_iff_eq.mpr c10
                clear c10
                by_cases c11 : t164 = 0
                · rw [if_pos c11] at H
                  have c11b0 : (t164 == 0) = true := beq_iff_eq.mpr c11
                  have c11b1 : (t164 != 0) = false := bne_eq_false_iff_eq.mpr c11
                  clear c11
                  replace H := Option.bind_eq_some_iff.mp H
                  obtain ⟨t168, A120, H⟩ := H
                  replace H : (some t168) = some r := H
                  have A12 := Aside0.mk A120
                  clear A120
                  obtain rfl := Option.some.inj H
                  go_enter Tryd.func9, Tryd.ntmps9
                  go_wp2_with (first | ((with_reducible refine gate_dst (N := 10) rfl ?_); (try (refine gate_guard (by rfl) ?_; dsimp only)); refine Kd.R_lit k48 _ 48 ?hg (N := 10) ?hd (xs := ([(⟨6, 0, 0, 2147418112⟩ : S48)] : List (S48))) (inner := [.int .i64 6, .int .i64 0, .int .i64 0, .int .u32 2147418112]) (ok := fun _ => True) (okp := fun _ => True) ?hr ?hp (fun _ hk => hk) trivial (Below.refl _ _) (Nat.le_refl _) (by simp) ?_; (case hd => rfl); (case hg => rfl); (case hr => first | (go_simp; done) | (go_simp; rfl)); (case hp => exact (Reps.c4 (show Kd.M k48 _ _ _ (⟨6, 0, 0, 2147418112⟩ : S48) [.int .i64 6, .int .i64 0, .int .i64 0, .int .u32 2147418112] from (k48_mkM _ _ _ (⟨6, 0, 0, 2147418112⟩ : S48) )) (Reps.none _ _))); intro v149 w13 ho14 hb hg_ hnew_; clear hg_ hnew_; (first | rw [← Ny148.out] at ho14 | (simp only [Int.reduceToNat] at ho14; rw [← Ny148.out] at ho14)); have n0_ := Aside0.mk (Kd.R_lower ho14 (below_size (by repeat (first | (with_reducible first | exact HB.out | apply below_alloc | apply pw_below_drewN | apply below_drew1) | exact HB.out)))); have n1_ := Aside0.mk (below_step (by repeat (first | (with_reducible first | exact HB.out | apply below_alloc | apply pw_below_drewN | apply below_drew1) | exact HB.out)) hb); clear HB; have HO150 := n0_; have HB := n1_; clear n0_ n1_; clear hb ho14; obtain ⟨Ao15, co15, eo15⟩ := Kd.R_slice HO150.out; subst eo15) | ((with_reducible refine gate_callee (f := 15) rfl ?_); refine goesL_ (some 11) rfl rfl Tryd.func15 (by kernel_rfl) rfl #[.slice Ao15 y148.length co15] rfl (by (try simp only [List.map_toArray, List.map_cons, List.map_nil]); first | done | rfl | (simp only [List.length_drop, List.length_take]; rfl)) ?_; (with_reducible refine (codec_Encode.calls k _ _ y148 t151 t152 _ ?side1 ?side2 ?side3 A1.out).mono ?_); (case side1 => repeat (first | exact (Kd.R_reads' HO150.out).2.2 | (with_reducible refine Kd.C_alloc ?_ _) | (with_reducible refine Kd.C_drewN ?_ _) | (with_reducible refine Kd.C_drew ?_))); (case side2 => exact (Kd.R_reads' HO150.out).2.1); (case side3 => exact Glob.below HG.out (by repeat (first | (with_reducible first | exact HB.out | apply below_alloc | apply pw_below_drewN | apply below_drew1) | exact HB.out))); rintro e w16 ⟨v153, rfl, ho0, hb⟩; refine ⟨_, rfl, ?_⟩; have n0_ := Aside0.mk (Kd.R_below (by (with_reducible repeat (first | apply Kd.R_alloc | apply Kd.R_drewN | apply Kd.R_drew)); exact HO150.out) hb); have n1_ := Aside0.mk (Kd.R_lower ho0 (below_size (by repeat (first | (with_reducible first | exact HB.out | apply below_alloc | apply pw_below_drewN | apply below_drew1) | exact HB.out)))); have n2_ := Aside0.mk (below_step (by repeat (first | (with_reducible first | exact HB.out | apply below_alloc | apply pw_below_drewN | apply below_drew1) | exact HB.out)) hb); clear HO150; clear HB; have HO150 := n0_; have HO154 := n1_; have HB := n2_; clear n0_ n1_ n2_; (try clear hb); (try clear hb2); (try clear hk); (try clear hi); (try clear ho0)) | ((with_reducible refine gate_dst (N := 15) rfl ?_); (try (refine gate_guard (by rfl) ?_; dsimp only)); refine Kd.R_lit (Kd.int .u8) _ 5 ?hg (N := 15) ?hd (xs := ([21, 0, 1, 0, 5, 0, 0, 0] : List Int)) (inner := [.int .u8 21, .int .u8 0, .int .u8 1, .int .u8 0, .int .u8 5, .int .u8 0, .int .u8 0, .int .u8 0]) (ok := fun _ => True) (okp := fun _ => True) ?hr ?hp (fun _ hk => hk) trivial (Below.refl _ _) (Nat.le_refl _) (by simp) ?_; (case hd => rfl); (case hg => rfl); (case hr => first | (go_simp; done) | (go_simp; rfl)); (case hp => exact (Reps.one (show Kd.M (Kd.int .u8) _ _ _ 21 [.int .u8 21] from rfl) (Reps.one (show Kd.M (Kd.int .u8) _ _ _ 0 [.int .u8 0] from rfl) (Reps.one (show Kd.M (Kd.int .u8) _ _ _ 1 [.int .u8 1] from rfl) (Reps.one (show Kd.M (Kd.int .u8) _ _ _ 0 [.int .u8 0] from rfl) (Reps.one (show Kd.M (Kd.int .u8) _ _ _ 5 [.int .u8 5] from rfl) (Reps.one (show Kd.M (Kd.int .u8) _ _ _ 0 [.int .u8 0] from rfl) (Reps.one (show Kd.M (Kd.int .u8) _ _ _ 0 [.int .u8 0] from rfl) (Reps.one (show Kd.M (Kd.int .u8) _ _ _ 0 [.int .u8 0] from rfl) (Reps.none _ _)))))))))); intro v156 w17 ho18 hb hg_ hnew_; clear hg_ hnew_; (first | rw [← Ny155.out] at ho18 | (simp only [Int.reduceToNat] at ho18; rw [← Ny155.out] at ho18)); have n0_ := Aside0.mk (Kd.R_below (by (with_reducible repeat (first | apply Kd.R_alloc | apply Kd.R_drewN | apply Kd.R_drew)); exact HO150.out) hb); have n1_ := Aside0.mk (Kd.R_elder' (by (with_reducible repeat (first | apply Kd.R_alloc | apply Kd.R_drewN | apply Kd.R_drew)); exact HO154.out) (Kd.R_base ho18) hb); have n2_ := Aside0.mk (Kd.R_lower (Kd.R_new' ho18 (Kd.R_lt (by (with_reducible repeat (first | apply Kd.R_alloc | apply Kd.R_drewN | apply Kd.R_drew)); exact HO154.out))) (below_size (by repeat (first | (with_reducible first | exact HB.out | apply below_alloc | apply pw_below_drewN | apply below_drew1) | exact HB.out)))); have n3_ := Aside0.mk (below_step (by repeat (first | (with_reducible first | exact HB.out | apply below_alloc | apply pw_below_drewN | apply below_drew1) | exact HB.out)) hb); clear HO150; clear HO154; clear HB; have HO150 := n0_; have HO154 := n1_; have HO157 := n2_; have HB := n3_; clear n0_ n1_ n2_ n3_; clear hb ho18; obtain ⟨Ao19, co19, eo19⟩ := Kd.R_slice HO157.out; subst eo19) | ((with_reducible refine gate_callee (f := 10) rfl ?_); refine goesL_ (some 16) rfl rfl Tryd.func10 (by kernel_rfl) rfl #[.slice Ao19 y155.length co19] rfl (by (try simp only [List.map_toArray, List.map_cons, List.map_nil]); first | done | rfl | (simp only [List.length_drop, List.length_take]; rfl)) ?_; (with_reducible refine (codec_Decode.calls k (fun k_ => some k_ = (.slice Ao19 y155.length co19 : Value).ownBlock) _ _ y155 t158 t161 _ ?side1 ?side2 A2.out).mono ?_); (case side1 => exact Kd.R_V (Kd.R_tight rfl (Kd.R_apart' (HO157.out) (Kd.R_typed HO150.out) (by decide)))); (case side2 => exact Glob.below HG.out (by repeat (first | (with_reducible first | exact HB.out | apply below_alloc | apply pw_below_drewN | apply below_drew1) | exact HB.out))); rintro e w20 ⟨v159, rfl, ho0, hb⟩; refine ⟨_, rfl, ?_⟩; have n0_ := Aside0.mk (Kd.R_elder' (by (with_reducible repeat (first | apply Kd.R_alloc | apply Kd.R_drewN | apply Kd.R_drew)); exact HO150.out) (Kd.R_base ho0) hb); have n1_ := Aside0.mk (Kd.R_below (by (with_reducible repeat (first | apply Kd.R_alloc | apply Kd.R_drewN | apply Kd.R_drew)); exact HO154.out) hb); have n2_ := Aside0.mk (Kd.R_below (by (with_reducible repeat (first | apply Kd.R_alloc | apply Kd.R_drewN | apply Kd.R_drew)); exact HO157.out) hb); have n3_ := Aside0.mk (Kd.R_lower (Kd.R_new' (Kd.R_mono (ok' := fun k_ => True) ho0 (fun _ hk_ => trivial)) (Kd.R_lt (by (with_reducible repeat (first | apply Kd.R_alloc | apply Kd.R_drewN | apply Kd.R_drew)); exact HO150.out))) (below_size (by repeat (first | (with_reducible first | exact HB.out | apply below_alloc | apply pw_below_drewN | apply below_drew1) | exact HB.out)))); have n4_ := Aside0.mk (below_step (by repeat (first | (with_reducible first | exact HB.out | apply below_alloc | apply pw_below_drewN | apply below_drew1) | exact HB.out)) hb); clear HO150; clear HO154; clear HO157; clear HB; have HO150 := n0_; have HO154 := n1_; have HO157 := n2_; have HO160 := n3_; have HB := n4_; clear n0_ n1_ n2_ n3_ n4_; (try clear hb); (try clear hb2); (try clear hk); (try clear hi); (try clear ho0)) | ((with_reducible refine gate_callee (f := 13) rfl ?_); refine goesL_ (some 20) rfl rfl Tryd.func13 (by kernel_rfl) rfl #[.string (⟨#[114, 101, 116, 32, 48, 120, 48, 10]⟩ : ByteArray)] rfl (by (try simp only [List.map_toArray, List.map_cons, List.map_nil]); first | done | rfl | (simp only [List.length_drop, List.length_take]; rfl)) ?_; (with_reducible refine (codec_Parse.calls k (⟨#[114, 101, 116, 32, 48, 120, 48, 10]⟩ : ByteArray) t162 t163 t164 _ ?side1 A3.out).mono ?_); (case side1 => exact Glob.below HG.out (by repeat (first | (with_reducible first | exact HB.out | apply below_alloc | apply pw_below_drewN | apply below_drew1) | exact HB.out))); rintro e w21 ⟨v165, rfl, ho0, hb⟩; refine ⟨_, rfl, ?_⟩; have n0_ := Aside0.mk (Kd.R_elder' (by (with_reducible repeat (first | apply Kd.R_alloc | apply Kd.R_drewN | apply Kd.R_drew)); exact HO150.out) (Kd.R_base ho0) hb); have n1_ := Aside0.mk (Kd.R_below (by (with_reducible repeat (first | apply Kd.R_alloc | apply Kd.R_drewN | apply Kd.R_drew)); exact HO154.out) hb); have n2_ := Aside0.mk (Kd.R_below (by (with_reducible repeat (first | apply Kd.R_alloc | apply Kd.R_drewN | apply Kd.R_drew)); exact HO157.out) hb); have n3_ := Aside0.mk (Kd.R_elder' (by (with_reducible repeat (first | apply Kd.R_alloc | apply Kd.R_drewN | apply Kd.R_drew)); exact HO160.out) (Kd.R_base ho0) hb); have n4_ := Aside0.mk (Kd.R_lower (Kd.R_new' (Kd.R_new' ho0 (Kd.R_lt (by (with_reducible repeat (first | apply Kd.R_alloc | apply Kd.R_drewN | apply Kd.R_drew)); exact HO150.out))) (Kd.R_lt (by (with_reducible repeat (first | apply Kd.R_alloc | apply Kd.R_drewN | apply Kd.R_drew)); exact HO160.out))) (below_size (by repeat (first | (with_reducible first | exact HB.out | apply below_alloc | apply pw_below_drewN | apply below_drew1) | exact HB.out)))); have n5_ := Aside0.mk (below_step (by repeat (first | (with_reducible first | exact HB.out | apply below_alloc | apply pw_below_drewN | apply below_drew1) | exact HB.out)) hb); clear HO150; clear HO154; clear HO157; clear HO160; clear HB; have HO150 := n0_; have HO154 := n1_; have HO157 := n2_; have HO160 := n3_; have HO166 := n4_; have HB := n5_; clear n0_ n1_ n2_ n3_ n4_ n5_; (try clear hb); (try clear hb2); (try clear hk); (try clear hi); (try clear ho0); have hcv22 := own_string (P := Tryd.prog) Tryd.underlying22 Tryd.underlying5 Tryd.underlying9 (Kd.own_of_R HO154.out); obtain ⟨Ao23, co23, eo23⟩ := Kd.R_slice HO160.out; subst eo23; have p167 : 0 ≤ (0 : Int) := (by omega); have q167 : 0 < (t158.length : Int) := of_decide_eq_true (by first | (with_reducible assumption) | assumption); obtain ⟨ad167, e167, hx167_0, hx167_1, hx167_2, hx167_3⟩ := at_T48 (Kd.R_reads' HO160.out).2.2 0 p167 q167; cases e167; have qi167 : (0 < t158.length) = True := eq_true (by omega); (try rw [show ((0 : Int)).toNat = 0 from rfl] at hx167_0); (try rw [show 0 * 4 = 0 from rfl] at hx167_0); (try rw [Addr.add_zero'] at hx167_0); (try rw [show ((0 : Int)).toNat = 0 from rfl] at hx167_1); (try rw [show 0 * 4 = 0 from rfl] at hx167_1); (try rw [Addr.add_zero'] at hx167_1); (try rw [show ((0 : Int)).toNat = 0 from rfl] at hx167_2); (try rw [show 0 * 4 = 0 from rfl] at hx167_2); (try rw [Addr.add_zero'] at hx167_2); (try rw [show ((0 : Int)).toNat = 0 from rfl] at hx167_3); (try rw [show 0 * 4 = 0 from rfl] at hx167_3); (try rw [Addr.add_zero'] at hx167_3); replace p167 := eq_true p167; replace q167 := eq_true q167; obtain ⟨Ao24, co24, eo24⟩ := Kd.R_slice HO166.out; subst eo24) | (go_at_call 18; (with_reducible refine (codec_Right.calls k _ _ t162 t168 _ ?side1 ?side2 ?side3 A12.out).mono ?_); (case side1 => repeat (first | exact (Kd.R_reads' HO166.out).2.2 | (with_reducible refine Kd.C_alloc ?_ _) | (with_reducible refine Kd.C_drewN ?_ _) | (with_reducible refine Kd.C_drew ?_))); (case side2 => exact (Kd.R_reads' HO166.out).2.1); (case side3 => exact Glob.below HG.out (by repeat (first | (with_reducible first | exact HB.out | apply below_alloc | apply pw_below_drewN | apply below_drew1) | exact HB.out))); rintro e w25 ⟨rfl, hb⟩; have n0_ := Aside0.mk (Kd.R_below (by (with_reducible repeat (first | apply Kd.R_alloc | apply Kd.R_drewN | apply Kd.R_drew)); exact HO150.out) hb); have n1_ := Aside0.mk (Kd.R_below (by (with_reducible repeat (first | apply Kd.R_alloc | apply Kd.R_drewN | apply Kd.R_drew)); exact HO154.out) hb); have n2_ := Aside0.mk (Kd.R_below (by (with_reducible repeat (first | apply Kd.R_alloc | apply Kd.R_drewN | apply Kd.R_drew)); exact HO157.out) hb); have n3_ := Aside0.mk (Kd.R_below (by (with_reducible repeat (first | apply Kd.R_alloc | apply Kd.R_drewN | apply Kd.R_drew)); exact HO160.out) hb); have n4_ := Aside0.mk (Kd.R_below (by (with_reducible repeat (first | apply Kd.R_alloc | apply Kd.R_drewN | apply Kd.R_drew)); exact HO166.out) hb); have n5_ := Aside0.mk (below_step (by repeat (first | (with_reducible first | exact HB.out | apply below_alloc | apply pw_below_drewN | apply below_drew1) | exact HB.out)) hb); clear HO150; clear HO154; clear HO157; clear HO160; clear HO166; clear HB; have HO150 := n0_; have HO154 := n1_; have HO157 := n2_; have HO160 := n3_; have HO166 := n4_; have HB := n5_; clear n0_ n1_ n2_ n3_ n4_ n5_; (try clear hb); (try clear hb2); (try clear hk); (try clear hi)))
                  go_ret
                  exact ⟨by first | rfl | (simp [errW_none, errW_some] <;> rfl) | (simp [*, errW_none, errW_some] <;> rfl), by repeat (first | (with_reducible first | exact HB.out | apply below_alloc | apply pw_below_drewN | apply below_drew1) | exact HB.out)⟩
                · rw [if_neg c11] at H
                  exact absurd H (by simp)
              · rw [if_neg c10] at H
                exact absurd H (by simp)
            · rw [if_neg c9] at H
              exact absurd H (by simp)
          · rw [if_neg c8] at H
            exact absurd H (by simp)
        · rw [if_neg c7] at H
          exact absurd H (by simp)
      · rw [if_neg c6] at H
        exact absurd H (by simp)
    · rw [if_neg c5] at H
      exact absurd H (by simp)
  · rw [if_neg c4] at H
    exact absurd H (by simp)

end Go.Proofs.YtidlcpflfokehaaDoor.M
