/- By a program of this session: what Go functions of the seat compute, as Lean functions, each with a proof that the call of the Go function comes to that. -/
import Derived.Test.YtbgneakihibmbaaDoorM0
namespace Go.Proofs.YtbgneakihibmbaaDoor.M
open Go.RowKit Go.Proofs.YtbgneakihibmbaaDoorW.PrintWords Go.Proofs.YtbgneakihibmbaaDoorW.PrintLast Go.Proofs.YtbgneakihibmbaaDoorW.PrintMore
attribute [local go_sem] max2_int min2_int max_two min_two max_three min_three max_four min_four   -- for this text's walks alone
set_option linter.unusedVariables false
set_option linter.unusedSimpArgs false

/-! ### word_Text: function 23 -/
def word_Text.l0 : Nat → Int → List Int → Bool → Int → Option (ByteArray)
  | 0, _, _, _, _ => none
  | k + 1, x0, x3, x4, x5 => if x5 ≥ 0 then (if 0 ≤ x5 then (if x4 = true then (if 0 ≤ (Go.bits .and .u64 (shr .u64 x0 x5) 15) then (if (Go.bits .and .u64 (shr .u64 x0 x5) 15) < 16 then (if x3.length < 140737488355328 then (word_Text.l0 k x0 (x3 ++ [bt (⟨#[48, 49, 50, 51, 52, 53, 54, 55, 56, 57, 97, 98, 99, 100, 101, 102]⟩ : ByteArray) (Go.bits .and .u64 (shr .u64 x0 x5) 15)]) true (wrap64 (x5 - 4))) else (none)) else (none)) else (none)) else (if (Go.bits .and .u64 (shr .u64 x0 x5) 15) > 0 then (if 0 ≤ (Go.bits .and .u64 (shr .u64 x0 x5) 15) then (if (Go.bits .and .u64 (shr .u64 x0 x5) 15) < 16 then (if x3.length < 140737488355328 then (word_Text.l0 k x0 (x3 ++ [bt (⟨#[48, 49, 50, 51, 52, 53, 54, 55, 56, 57, 97, 98, 99, 100, 101, 102]⟩ : ByteArray) (Go.bits .and .u64 (shr .u64 x0 x5) 15)]) true (wrap64 (x5 - 4))) else (none)) else (none)) else (none)) else (if x5 = 0 then (if 0 ≤ (Go.bits .and .u64 (shr .u64 x0 x5) 15) then (if (Go.bits .and .u64 (shr .u64 x0 x5) 15) < 16 then (if x3.length < 140737488355328 then (word_Text.l0 k x0 (x3 ++ [bt (⟨#[48, 49, 50, 51, 52, 53, 54, 55, 56, 57, 97, 98, 99, 100, 101, 102]⟩ : ByteArray) (Go.bits .and .u64 (shr .u64 x0 x5) 15)]) (x5 == 0) (wrap64 (x5 - 4))) else (none)) else (none)) else (none)) else (word_Text.l0 k x0 x3 (x5 == 0) (wrap64 (x5 - 4)))))) else (none)) else (some (strOfNums x3))
def word_Text.f (k : Nat) (a0 : Int) : Option (ByteArray) := word_Text.l0 k a0 (([48, 120] : List Int)) false 60
theorem word_Text.mono_l : ∀ k, (∀ y0 y1 y2 y3, LeO (word_Text.l0 k y0 y1 y2 y3) (word_Text.l0 (k + 1) y0 y1 y2 y3))
  | 0 => fun _ _ _ _ r h => by simp [word_Text.l0] at h
  | k + 1 => by
    have ih0 := word_Text.mono_l k
    · intro y0 y1 y2 y3
      unfold word_Text.l0
      repeat' first
      | (with_reducible exact ih0 _ _ _ _)
      | (with_reducible exact LeO.refl _)
      | (with_reducible exact LeO.none _)
      | (with_reducible refine LeO.ite ?_ ?_)
      | (with_reducible refine LeO.bind ?_ (fun _ => ?_))
      | exact ih0 _ _ _ _
      | exact LeO.none _
      | refine LeO.ite ?_ ?_
      | refine LeO.bind ?_ (fun _ => ?_)
theorem word_Text.mono : ∀ a0 k, LeO (word_Text.f k a0) (word_Text.f (k + 1) a0) := by
  intro a0 k
  have ih0 := word_Text.mono_l k
  unfold word_Text.f
  repeat' first
      | (with_reducible exact ih0 _ _ _ _)
      | (with_reducible exact LeO.refl _)
      | (with_reducible exact LeO.none _)
      | (with_reducible refine LeO.ite ?_ ?_)
      | (with_reducible refine LeO.bind ?_ (fun _ => ?_))
      | exact ih0 _ _ _ _
      | exact LeO.none _
      | refine LeO.ite ?_ ?_
      | refine LeO.bind ?_ (fun _ => ?_)
set_option maxHeartbeats 8000000 in
set_option maxRecDepth 100000 in
theorem word_Text.calls (k : Nat) (a0 : Int) (r : ByteArray) (w : World) (h : word_Text.f k a0 = some r) :
    Calls Tryd.prog 23 #[.int .u64 a0] w fun e w' => e = .returned (.string r) ∧ Below w.heap.size w w' := by
  have HB := Aside0.mk (Below.refl w.heap.size w)
  have H : (word_Text.l0 k a0 (([48, 120] : List Int)) false 60) = some r := h
  clear h
  have H' := Aside0.mk H
  clear H
  have kc := fun (w : World) (C : Array Value) (n c : Nat) => Lib.run_convert_bytes_const (P := Tryd.prog) w 60 5 C n c Tryd.underlying60 Tryd.underlying5
  have hc2 := Kd.C_lit .u8 w [48, 120] 5 (2, 3) (by decide)
  have HO205 : Aside0 (RowT 5 (w.alloc (.cells #[.int .u8 48, .int .u8 120] 5 (2, 3))) w.heap.size (.slice (some ⟨w.heap.size, 0, none⟩) 2 2) [48, 120]) := ⟨.inr ⟨w.heap.size, 2, Nat.le_refl _, rfl, by decide, hc2⟩⟩
  clear hc2
  go_enter Tryd.func23, Tryd.ntmps23
  go_wp2
  clear kc
  go_loopg [3, 4, 5] k (fun kq v3 v4 v5 w' => ∃ (x3_1 : List Int) (x4_1 : Bool) (x5_1 : Int), v4 = .bool x4_1 ∧ v5 = .int .i64 x5_1 ∧ Aside0 (word_Text.l0 kq a0 x3_1 x4_1 x5_1 = some r) ∧ Aside0 (kq ≤ k) ∧ Aside0 (RowT 5 w' w.heap.size v3 x3_1) ∧ Aside0 (Below w.heap.size w w'))
  case atStart => exact ⟨([48, 120]), (false), (60), (by first | rfl | (simp; done) | (simp [*]; done)), (by first | rfl | (simp; done) | (simp [*]; done)), H', ⟨Nat.le_refl _⟩, ⟨HO205.out⟩, ⟨by repeat (first | (with_reducible first | exact HB.out | apply below_alloc | apply pw_below_drewN | apply below_drew1) | exact HB.out)⟩⟩
  case round =>
    clear H'
    try clear p2
    obtain ⟨x3_1, x4_1, x5_1, rfl, rfl, HA, HK1, HO_3, HB⟩ := hrel
    cases gk with
    | zero => exact absurd HA.out (by simp [word_Text.l0])
    | succ k1 =>
      have H := HA.out
      clear HA
      simp only [word_Text.l0] at H
      by_cases c4 : x5_1 ≥ 0
      · rw [if_pos c4] at H
        have c4b0 : decide (0 ≤ x5_1) = true := decide_eq_true c4
        clear c4
        by_cases c5 : 0 ≤ x5_1
        · rw [if_pos c5] at H
          have c5b0 := eq_true c5
          have c5b1 : decide (0 ≤ x5_1) = true := decide_eq_true c5
          clear c5
          obtain ⟨ji6, hji6⟩ : ∃ j_ : Int, (shr .u64 a0 x5_1) = j_ := ⟨_, rfl⟩
          replace H : (if x4_1 = true then (if 0 ≤ (Go.bits .and .u64 (ji6) 15) then (if (Go.bits .and .u64 (ji6) 15) < 16 then (if x3_1.length < 140737488355328 then (word_Text.l0 k1 a0 (x3_1 ++ [bt (⟨#[48, 49, 50, 51, 52, 53, 54, 55, 56, 57, 97, 98, 99, 100, 101, 102]⟩ : ByteArray) (Go.bits .and .u64 (ji6) 15)]) true (wrap64 (x5_1 - 4))) else (none)) else (none)) else (none)) else (if (Go.bits .and .u64 (ji6) 15) > 0 then (if 0 ≤ (Go.bits .and .u64 (ji6) 15) then (if (Go.bits .and .u64 (ji6) 15) < 16 then (if x3_1.length < 140737488355328 then (word_Text.l0 k1 a0 (x3_1 ++ [bt (⟨#[48, 49, 50, 51, 52, 53, 54, 55, 56, 57, 97, 98, 99, 100, 101, 102]⟩ : ByteArray) (Go.bits .and .u64 (ji6) 15)]) true (wrap64 (x5_1 - 4))) else (none)) else (none)) else (none)) else (if x5_1 = 0 then (if 0 ≤ (Go.bits .and .u64 (ji6) 15) then (if (Go.bits .and .u64 (ji6) 15) < 16 then (if x3_1.length < 140737488355328 then (word_Text.l0 k1 a0 (x3_1 ++ [bt (⟨#[48, 49, 50, 51, 52, 53, 54, 55, 56, 57, 97, 98, 99, 100, 101, 102]⟩ : ByteArray) (Go.bits .and .u64 (ji6) 15)]) (x5_1 == 0) (wrap64 (x5_1 - 4))) else (none)) else (none)) else (none)) else (word_Text.l0 k1 a0 x3_1 (x5_1 == 0) (wrap64 (x5_1 - 4)))))) = some r := by first | (rw [hji6] at H; exact H) | (simp only [hji6] at H ⊢; exact H)
          have hji6_ : (a0 / 2 ^ min x5_1.toNat 64) = ji6 := hji6
          have hji6z : x5_1 ≤ 64 → (a0 / 2 ^ x5_1.toNat) = ji6 := shr_small hji6
          by_cases c7 : x4_1 = true
          · subst c7
            have H1 : (if 0 ≤ (Go.bits .and .u64 (ji6) 15) then (if (Go.bits .and .u64 (ji6) 15) < 16 then (if x3_1.length < 140737488355328 then (word_Text.l0 k1 a0 (x3_1 ++ [bt (⟨#[48, 49, 50, 51, 52, 53, 54, 55, 56, 57, 97, 98, 99, 100, 101, 102]⟩ : ByteArray) (Go.bits .and .u64 (ji6) 15)]) true (wrap64 (x5_1 - 4))) else (none)) else (none)) else (none)) = some r := by rw [if_pos rfl] at H; exact H
            clear H
            have H := H1
            clear H1
            by_cases c8 : 0 ≤ (Go.bits .and .u64 (ji6) 15)
            · rw [if_pos c8] at H
              have c8b0 : decide (0 ≤ (Go.bits .and .u64 (ji6) 15)) = true := decide_eq_true c8
              clear c8
              by_cases c9 : (Go.bits .and .u64 (ji6) 15) < 16
              · rw [if_pos c9] at H
                have c9b0 : decide ((Go.bits .and .u64 (ji6) 15) < 16) = true := decide_eq_true c9
                clear c9
                by_cases c11 : x3_1.length < 140737488355328
                · rw [if_pos c11] at H
                  have LMc11 := Aside0.mk c11
                  clear c11
                  obtain ⟨y206, hy206⟩ : ∃ y_ : List Int, y_ = (x3_1 ++ [bt (⟨#[48, 49, 50, 51, 52, 53, 54, 55, 56, 57, 97, 98, 99, 100, 101, 102]⟩ : ByteArray) (Go.bits .and .u64 (ji6) 15)]) := ⟨_, rfl⟩
                  replace H : (word_Text.l0 k1 a0 y206 true (wrap64 (x5_1 - 4))) = some r := by first | (rw [hy206]; with_reducible exact H) | (have H2_ := (Option.bind_some _ _).symm.trans H; rw [hy206]; with_reducible exact H2_) | (have H2_ := (Option.bind_some _ _).symm.trans H; with_reducible exact H2_) | with_reducible exact H | (rw [hy206]; exact H) | exact H
                  have Ny206 := Aside0.mk hy206
                  clear hy206
                  have H' := Aside0.mk H
                  clear H
                  have p10 : 0 ≤ ((Go.bits .and .u64 (ji6) 15) : Int) := of_decide_eq_true (by first | (with_reducible assumption) | assumption)
                  have q10 : (Go.bits .and .u64 (ji6) 15) < (16 : Int) := of_decide_eq_true (by first | (with_reducible assumption) | assumption)
                  have hx10 := bt_at (⟨#[48, 49, 50, 51, 52, 53, 54, 55, 56, 57, 97, 98, 99, 100, 101, 102]⟩ : ByteArray) (Go.bits .and .u64 (ji6) 15)
                  replace p10 := eq_true p10
                  replace q10 := eq_true q10
                  go_wp2_with (first | ((with_reducible refine gate_builtin (b := .append) (xs := #[.tmp 27, .tmp 30]) rfl ?_); at_builtin; refine RowT.append (w0 := w) w.heap.size rfl (.tmp 27) (.tmp 30) 60 5 rfl Tryd.underlying60 info5 u3 x3_1 (bt (⟨#[48, 49, 50, 51, 52, 53, 54, 55, 56, 57, 97, 98, 99, 100, 101, 102]⟩ : ByteArray) (Go.bits .and .u64 (ji6) 15)) rfl rfl ?aO ?aB ?aS ?aL ?_; (case aB => exact (by repeat (first | (with_reducible first | exact HB.out | apply below_alloc | apply pw_below_drewN | apply below_drew1) | exact HB.out))); (case aO => exact HO_3.out); (case aS => exact (below_size (by repeat (first | (with_reducible first | exact HB.out | apply below_alloc | apply pw_below_drewN | apply below_drew1) | exact HB.out)))); (case aL => have := LMc11.out; omega); intro v207 w12 ho hb; rw [← Ny206.out] at ho; have n0_ := Aside0.mk (hb); have n1_ := Aside0.mk (ho); clear HB; clear HO_3; have HB := n0_; have HO208 := n1_; clear n0_ n1_;clear ho hb))
                  go_roundg k1
                  case measure => have := HK1.out; omega
                  case rel => exact ⟨(y206), (true), (wrap64 (x5_1 - 4)), (by first | rfl | (simp; done) | (simp [*]; done)), (by first | rfl | (simp; done) | (simp [*]; done)), H', ⟨by have := HK1.out; omega⟩, ⟨.inl HO208.out⟩, ⟨by repeat (first | (with_reducible first | exact HB.out | apply below_alloc | apply pw_below_drewN | apply below_drew1) | exact HB.out)⟩⟩
                · rw [if_neg c11] at H
                  exact absurd H (by simp)
              · rw [if_neg c9] at H
                exact absurd H (by simp)
            · rw [if_neg c8] at H
              exact absurd H (by simp)
          · replace c7 := Bool.eq_false_iff.mpr c7
            subst c7
            have H1 : (if (Go.bits .and .u64 (ji6) 15) > 0 then (if 0 ≤ (Go.bits .and .u64 (ji6) 15) then (if (Go.bits .and .u64 (ji6) 15) < 16 then (if x3_1.length < 140737488355328 then (word_Text.l0 k1 a0 (x3_1 ++ [bt (⟨#[48, 49, 50, 51, 52, 53, 54, 55, 56, 57, 97, 98, 99, 100, 101, 102]⟩ : ByteArray) (Go.bits .and .u64 (ji6) 15)]) true (wrap64 (x5_1 - 4))) else (none)) else (none)) else (none)) else (if x5_1 = 0 then (if 0 ≤ (Go.bits .and .u64 (ji6) 15) then (if (Go.bits .and .u64 (ji6) 15) < 16 then (if x3_1.length < 140737488355328 then (word_Text.l0 k1 a0 (x3_1 ++ [bt (⟨#[48, 49, 50, 51, 52, 53, 54, 55, 56, 57, 97, 98, 99, 100, 101, 102]⟩ : ByteArray) (Go.bits .and .u64 (ji6) 15)]) (x5_1 == 0) (wrap64 (x5_1 - 4))) else (none)) else (none)) else (none)) else (word_Text.l0 k1 a0 x3_1 (x5_1 == 0) (wrap64 (x5_1 - 4))))) = some r := by rw [if_neg (show ¬ (false = true) by decide)] at H; exact H
            clear H
            have H := H1
            clear H1
            by_cases c13 : (Go.bits .and .u64 (ji6) 15) > 0
            · rw [if_pos c13] at H
              have c13b0 : decide (0 < (Go.bits .and .u64 (ji6) 15)) = true := decide_eq_true c13
              clear c13
              by_cases c14 : 0 ≤ (Go.bits .and .u64 (ji6) 15)
              · rw [if_pos c14] at H
                have c14b0 : decide (0 ≤ (Go.bits .and .u64 (ji6) 15)) = true := decide_eq_true c14
                clear c14
                by_cases c15 : (Go.bits .and .u64 (ji6) 15) < 16
                · rw [if_pos c15] at H
                  have c15b0 : decide ((Go.bits .and .u64 (ji6) 15) < 16) = true := decide_eq_true c15
                  clear c15
                  by_cases c17 : x3_1.length < 140737488355328
                  · rw [if_pos c17] at H
                    have LMc17 := Aside0.mk c17
                    clear c17
                    obtain ⟨y209, hy209⟩ : ∃ y_ : List Int, y_ = (x3_1 ++ [bt (⟨#[48, 49, 50, 51, 52, 53, 54, 55, 56, 57, 97, 98, 99, 100, 101, 102]⟩ : ByteArray) (Go.bits .and .u64 (ji6) 15)]) := ⟨_, rfl⟩
                    replace H : (word_Text.l0 k1 a0 y209 true (wrap64 (x5_1 - 4))) = some r := by first | (rw [hy209]; with_reducible exact H) | (have H2_ := (Option.bind_some _ _).symm.trans H; rw [hy209]; with_reducible exact H2_) | (have H2_ := (Option.bind_some _ _).symm.trans H; with_reducible exact H2_) | with_reducible exact H | (rw [hy209]; exact H) | exact H
                    have Ny209 := Aside0.mk hy209
                    clear hy209
                    have H' := Aside0.mk H
                    clear H
                    have p16 : 0 ≤ ((Go.bits .and .u64 (ji6) 15) : Int) := of_decide_eq_true (by first | (with_reducible assumption) | assumption)
                    have q16 : (Go.bits .and .u64 (ji6) 15) < (16 : Int) := of_decide_eq_true (by first | (with_reducible assumption) | assumption)
                    have hx16 := bt_at (⟨#[48, 49, 50, 51, 52, 53, 54, 55, 56, 57, 97, 98, 99, 100, 101, 102]⟩ : ByteArray) (Go.bits .and .u64 (ji6) 15)
                    replace p16 := eq_true p16
                    replace q16 := eq_true q16
                    go_wp2_with (first | ((with_reducible refine gate_builtin (b := .append) (xs := #[.tmp 27, .tmp 30]) rfl ?_); at_builtin; refine RowT.append (w0 := w) w.heap.size rfl (.tmp 27) (.tmp 30) 60 5 rfl Tryd.underlying60 info5 u3 x3_1 (bt (⟨#[48, 49, 50, 51, 52, 53, 54, 55, 56, 57, 97, 98, 99, 100, 101, 102]⟩ : ByteArray) (Go.bits .and .u64 (ji6) 15)) rfl rfl ?aO ?aB ?aS ?aL ?_; (case aB => exact (by repeat (first | (with_reducible first | exact HB.out | apply below_alloc | apply pw_below_drewN | apply below_drew1) | exact HB.out))); (case aO => exact HO_3.out); (case aS => exact (below_size (by repeat (first | (with_reducible first | exact HB.out | apply below_alloc | apply pw_below_drewN | apply below_drew1) | exact HB.out)))); (case aL => have := LMc17.out; omega); intro v210 w18 ho hb; rw [← Ny209.out] at ho; have n0_ := Aside0.mk (hb); have n1_ := Aside0.mk (ho); clear HB; clear HO_3; have HB := n0_; have HO211 := n1_; clear n0_ n1_;clear ho hb))
                    go_roundg k1
                    case measure => have := HK1.out; omega
                    case rel => exact ⟨(y209), (true), (wrap64 (x5_1 - 4)), (by first | rfl | (simp; done) | (simp [*]; done)), (by first | rfl | (simp; done) | (simp [*]; done)), H', ⟨by have := HK1.out; omega⟩, ⟨.inl HO211.out⟩, ⟨by repeat (first | (with_reducible first | exact HB.out | apply below_alloc | apply pw_below_drewN | apply below_drew1) | exact HB.out)⟩⟩
                  · rw [if_neg c17] at H
                    exact absurd H (by simp)
                · rw [if_neg c15] at H
                  exact absurd H (by simp)
              · rw [if_neg c14] at H
                exact absurd H (by simp)
            · rw [if_neg c13] at H
              have c13b0 : decide (0 < (Go.bits .and .u64 (ji6) 15)) = false := decide_eq_false c13
              clear c13
              by_cases c19 : x5_1 = 0
              · rw [if_pos c19] at H
                have c19b0 : (x5_1 == 0) = true := beq_iff_eq.mpr c19
                have c19b1 : (x5_1 != 0) = false := bne_eq_false_iff_eq.mpr c19
                clear c19
                by_cases c20 : 0 ≤ (Go.bits .and .u64 (ji6) 15)
                · rw [if_pos c20] at H
                  have c20b0 : decide (0 ≤ (Go.bits .and .u64 (ji6) 15)) = true := decide_eq_true c20
                  clear c20
                  by_cases c21 : (Go.bits .and .u64 (ji6) 15) < 16
                  · rw [if_pos c21] at H
                    have c21b0 : decide ((Go.bits .and .u64 (ji6) 15) < 16) = true := decide_eq_true c21
                    clear c21
                    by_cases c23 : x3_1.length < 140737488355328
                    · rw [if_pos c23] at H
                      have LMc23 := Aside0.mk c23
                      clear c23
                      obtain ⟨y212, hy212⟩ : ∃ y_ : List Int, y_ = (x3_1 ++ [bt (⟨#[48, 49, 50, 51, 52, 53, 54, 55, 56, 57, 97, 98, 99, 100, 101, 102]⟩ : ByteArray) (Go.bits .and .u64 (ji6) 15)]) := ⟨_, rfl⟩
                      replace H : (word_Text.l0 k1 a0 y212 (x5_1 == 0) (wrap64 (x5_1 - 4))) = some r := by first | (rw [hy212]; with_reducible exact H) | (have H2_ := (Option.bind_some _ _).symm.trans H; rw [hy212]; with_reducible exact H2_) | (have H2_ := (Option.bind_some _ _).symm.trans H; with_reducible exact H2_) | with_reducible exact H | (rw [hy212]; exact H) | exact H
                      have Ny212 := Aside0.mk hy212
                      clear hy212
                      have H' := Aside0.mk H
                      clear H
                      have p22 : 0 ≤ ((Go.bits .and .u64 (ji6) 15) : Int) := of_decide_eq_true (by first | (with_reducible assumption) | assumption)
                      have q22 : (Go.bits .and .u64 (ji6) 15) < (16 : Int) := of_decide_eq_true (by first | (with_reducible assumption) | assumption)
                      have hx22 := bt_at (⟨#[48, 49, 50, 51, 52, 53, 54, 55, 56, 57, 97, 98, 99, 100, 101, 102]⟩ : ByteArray) (Go.bits .and .u64 (ji6) 15)
                      replace p22 := eq_true p22
                      replace q22 := eq_true q22
                      have hji6y := hji6z (by have := beq_iff_eq.mp c19b0; omega)
                      go_wp2_with (first | ((with_reducible refine gate_builtin (b := .append) (xs := #[.tmp 27, .tmp 30]) rfl ?_); at_builtin; refine RowT.append (w0 := w) w.heap.size rfl (.tmp 27) (.tmp 30) 60 5 rfl Tryd.underlying60 info5 u3 x3_1 (bt (⟨#[48, 49, 50, 51, 52, 53, 54, 55, 56, 57, 97, 98, 99, 100, 101, 102]⟩ : ByteArray) (Go.bits .and .u64 (ji6) 15)) rfl rfl ?aO ?aB ?aS ?aL ?_; (case aB => exact (by repeat (first | (with_reducible first | exact HB.out | apply below_alloc | apply pw_below_drewN | apply below_drew1) | exact HB.out))); (case aO => exact HO_3.out); (case aS => exact (below_size (by repeat (first | (with_reducible first | exact HB.out | apply below_alloc | apply pw_below_drewN | apply below_drew1) | exact HB.out)))); (case aL => have := LMc23.out; omega); intro v213 w24 ho hb; rw [← Ny212.out] at ho; have n0_ := Aside0.mk (hb); have n1_ := Aside0.mk (ho); clear HB; clear HO_3; have HB := n0_; have HO214 := n1_; clear n0_ n1_;clear ho hb))
                      go_roundg k1
                      case measure => have := HK1.out; omega
                      case rel => exact ⟨(y212), ((x5_1 == 0)), (wrap64 (x5_1 - 4)), (by first | rfl | (simp; done) | (simp [*]; done)), (by first | rfl | (simp; done) | (simp [*]; done)), H', ⟨by have := HK1.out; omega⟩, ⟨.inl HO214.out⟩, ⟨by repeat (first | (with_reducible first | exact HB.out | apply below_alloc | apply pw_below_drewN | apply below_drew1) | exact HB.out)⟩⟩
                    · rw [if_neg c23] at H
                      exact absurd H (by simp)
                  · rw [if_neg c21] at H
                    exact absurd H (by simp)
                · rw [if_neg c20] at H
                  exact absurd H (by simp)
              · rw [if_neg c19] at H
                have c19b0 : (x5_1 == 0) = false := beq_eq_false_iff_ne.mpr c19
                have c19b1 : (x5_1 != 0) = true := bne_iff_ne.mpr c19
                have H' := Aside0.mk H
                clear H
                go_wp2
                go_roundg k1
                case measure => have := HK1.out; omega
                case rel => exact ⟨(x3_1), ((x5_1 == 0)), (wrap64 (x5_1 - 4)), (by first | rfl | (simp; done) | (simp [*]; done)), (by first | rfl | (simp; done) | (simp [*]; done)), H', ⟨by have := HK1.out; omega⟩, ⟨HO_3.out⟩, ⟨by repeat (first | (with_reducible first | exact HB.out | apply below_alloc | apply pw_below_drewN | apply below_drew1) | exact HB.out)⟩⟩
        · rw [if_neg c5] at H
          exact absurd H (by simp)
      · rw [if_neg c4] at H
        have c4b0 : decide (0 ≤ x5_1) = false := decide_eq_false c4
        clear c4
        obtain rfl := Option.some.inj H
        have hcv25 := RowT.string (P := Tryd.prog) Tryd.underlying60 Tryd.underlying5 Tryd.underlying9 HO_3.out
        go_wp2
        go_ret
        exact ⟨by first | rfl | (simp [errW_none, errW_some] <;> rfl) | (simp [*, errW_none, errW_some] <;> rfl), by repeat (first | (with_reducible first | exact HB.out | apply below_alloc | apply pw_below_drewN | apply below_drew1) | exact HB.out)⟩


end Go.Proofs.YtbgneakihibmbaaDoor.M
