/- By a program of this session: what Go functions of the seat compute, as Lean functions, each with a proof that the call of the Go function comes to that. -/
import Derived.Test.YtidlcpflfokehaaDoorM0
import Derived.Test.YtidlcpflfokehaaDoorM7
import Derived.Test.YtidlcpflfokehaaDoorM10
import Derived.Test.YtidlcpflfokehaaDoorM11
import Derived.Test.YtidlcpflfokehaaDoorM19
namespace Go.Proofs.YtidlcpflfokehaaDoor.M
open Go.RowKit Go.Proofs.YtidlcpflfokehaaDoorW.PrintWords Go.Proofs.YtidlcpflfokehaaDoorW.PrintLast Go.Proofs.YtidlcpflfokehaaDoorW.PrintMore
attribute [local go_sem] max2_int min2_int max_two min_two max_three min_three max_four min_four   -- for this text's walks alone
set_option linter.unusedVariables false
set_option linter.unusedSimpArgs false

/-! ### hurdlelaw03_CodecParses: function 4 -/
def hurdlelaw03_CodecParses.f (k : Nat) (a0 : ByteArray) : Option (Bool) := if (a0.size : Int) > 5000 then ((hurdlelaw03_knows.f k).bind fun t226 => (some t226)) else ((codec_Parse.f k a0).bind fun bt227 => ((hurdleref03_Parse.f k a0).bind fun bt232 => ((hurdleref03_Same.f k bt227.1 bt232.1).bind fun t237 => (if t237 = true then (if bt227.2.1 = bt232.2.1 then (if bt227.2.2 = bt232.2.2 then ((hurdlelaw03_knows.f k).bind fun t238 => (some t238)) else (none)) else (none)) else (none)))))
theorem hurdlelaw03_CodecParses.mono : ∀ a0 k, LeO (hurdlelaw03_CodecParses.f k a0) (hurdlelaw03_CodecParses.f (k + 1) a0) := by
  intro a0 k
  unfold hurdlelaw03_CodecParses.f
  repeat' first
      | (with_reducible exact codec_Parse.mono _ _)
      | (with_reducible exact hurdlelaw03_knows.mono _)
      | (with_reducible exact hurdleref03_Parse.mono _ _)
      | (with_reducible exact hurdleref03_Same.mono _ _ _)
      | (with_reducible exact LeO.refl _)
      | (with_reducible exact LeO.none _)
      | (with_reducible refine LeO.ite ?_ ?_)
      | (with_reducible refine LeO.bind ?_ (fun _ => ?_))
      | exact codec_Parse.mono _ _
      | exact hurdlelaw03_knows.mono _
      | exact hurdleref03_Parse.mono _ _
      | exact hurdleref03_Same.mono _ _ _
      | exact LeO.none _
      | refine LeO.ite ?_ ?_
      | refine LeO.bind ?_ (fun _ => ?_)
set_option maxHeartbeats 8000000 in
set_option maxRecDepth 100000 in
theorem hurdlelaw03_CodecParses.calls (k : Nat) (a0 : ByteArray) (r : Bool) (w : World) (hG : Glob w) (h : hurdlelaw03_CodecParses.f k a0 = some r) :
    Calls Tryd.prog 4 #[.string a0] w fun e w' => e = .returned (.bool r) ∧ Below w.heap.size w w' := by
  have HG := Aside0.mk hG
  clear hG
  have HB := Aside0.mk (Below.refl w.heap.size w)
  have H : (if (a0.size : Int) > 5000 then ((hurdlelaw03_knows.f k).bind fun t226 => (some t226)) else ((codec_Parse.f k a0).bind fun bt227 => ((hurdleref03_Parse.f k a0).bind fun bt232 => ((hurdleref03_Same.f k bt227.1 bt232.1).bind fun t237 => (if t237 = true then (if bt227.2.1 = bt232.2.1 then (if bt227.2.2 = bt232.2.2 then ((hurdlelaw03_knows.f k).bind fun t238 => (some t238)) else (none)) else (none)) else (none)))))) = some r := h
  clear h
  by_cases c2 : (a0.size : Int) > 5000
  · rw [if_pos c2] at H
    have c2b0 : decide (5000 < (a0.size : Int)) = true := decide_eq_true c2
    have c2b1 : decide (5000 < a0.size) = true := decide_eq_true (by omega)
    clear c2
    replace H := Option.bind_eq_some_iff.mp H
    obtain ⟨t226, A30, H⟩ := H
    replace H : (some t226) = some r := H
    have A3 := Aside0.mk A30
    clear A30
    obtain rfl := Option.some.inj H
    go_enter Tryd.func4, Tryd.ntmps4
    go_wp2_with (first | ((with_reducible refine gate_callee (f := 9) rfl ?_); refine goesL_ (some 12) rfl rfl Tryd.func9 (by kernel_rfl) rfl #[] rfl (by (try simp only [List.map_toArray, List.map_cons, List.map_nil]); first | done | rfl | (simp only [List.length_drop, List.length_take]; rfl)) ?_; (with_reducible refine (hurdlelaw03_knows.calls k  t226 _ ?side1 A3.out).mono ?_); (case side1 => exact Glob.below HG.out (by repeat (first | (with_reducible first | exact HB.out | apply below_alloc | apply pw_below_drewN | apply below_drew1) | exact HB.out))); rintro e w4 ⟨rfl, hb⟩; refine ⟨_, rfl, ?_⟩; have n0_ := Aside0.mk (below_step (by repeat (first | (with_reducible first | exact HB.out | apply below_alloc | apply pw_below_drewN | apply below_drew1) | exact HB.out)) hb); clear HB; have HB := n0_; clear n0_; (try clear hb); (try clear hb2); (try clear hk); (try clear hi)))
    go_ret
    exact ⟨by first | rfl | (simp [errW_none, errW_some] <;> rfl) | (simp [*, errW_none, errW_some] <;> rfl), by repeat (first | (with_reducible first | exact HB.out | apply below_alloc | apply pw_below_drewN | apply below_drew1) | exact HB.out)⟩
  · rw [if_neg c2] at H
    have c2b0 : decide (5000 < (a0.size : Int)) = false := decide_eq_false c2
    have c2b1 : decide (5000 < a0.size) = false := decide_eq_false (by omega)
    clear c2
    replace H := Option.bind_eq_some_iff.mp H
    obtain ⟨⟨t227, t228, t229⟩, A50, H⟩ := H
    replace H : ((hurdleref03_Parse.f k a0).bind fun bt232 => ((hurdleref03_Same.f k t227 bt232.1).bind fun t237 => (if t237 = true then (if t228 = bt232.2.1 then (if t229 = bt232.2.2 then ((hurdlelaw03_knows.f k).bind fun t238 => (some t238)) else (none)) else (none)) else (none)))) = some r := H
    have A5 := Aside0.mk A50
    clear A50
    replace H := Option.bind_eq_some_iff.mp H
    obtain ⟨⟨t232, t233, t234⟩, A60, H⟩ := H
    replace H : ((hurdleref03_Same.f k t227 t232).bind fun t237 => (if t237 = true then (if t228 = t233 then (if t229 = t234 then ((hurdlelaw03_knows.f k).bind fun t238 => (some t238)) else (none)) else (none)) else (none))) = some r := H
    have A6 := Aside0.mk A60
    clear A60
    replace H := Option.bind_eq_some_iff.mp H
    obtain ⟨t237, A70, H⟩ := H
    replace H : (if t237 = true then (if t228 = t233 then (if t229 = t234 then ((hurdlelaw03_knows.f k).bind fun t238 => (some t238)) else (none)) else (none)) else (none)) = some r := H
    have A7 := Aside0.mk A70
    clear A70
    by_cases c8 : t237 = true
    · subst c8
      have H1 : (if t228 = t233 then (if t229 = t234 then ((hurdlelaw03_knows.f k).bind fun t238 => (some t238)) else (none)) else (none)) = some r := by rw [if_pos rfl] at H; exact H
      clear H
      have H := H1
      clear H1
      by_cases c9 : t228 = t233
      · rw [if_pos c9] at H
        have c9b0 : (t228 == t233) = true := beq_iff_eq.mpr c9
        have c9b1 : (t228 != t233) = false := bne_eq_false_iff_eq.mpr c9
        clear c9
        by_cases c10 : t229 = t234
        · rw [if_pos c10] at H
          have c10b0 : (t229 == t234) = true := beq_iff_eq.mpr c10
          have c10b1 : (t229 != t234) = false := bne_eq_false_iff_eq.mpr c10
          clear c10
          replace H := Option.bind_eq_some_iff.mp H
          obtain ⟨t238, A110, H⟩ := H
          replace H : (some t238) = some r := H
          have A11 := Aside0.mk A110
          clear A110
          obtain rfl := Option.some.inj H
          go_enter Tryd.func4, Tryd.ntmps4
          go_wp2_with (first | ((with_reducible refine gate_callee (f := 13) rfl ?_); refine goesL_ (some 15) rfl rfl Tryd.func13 (by kernel_rfl) rfl #[.string a0] rfl (by (try simp only [List.map_toArray, List.map_cons, List.map_nil]); first | done | rfl | (simp only [List.length_drop, List.length_take]; rfl)) ?_; (with_reducible refine (codec_Parse.calls k a0 t227 t228 t229 _ ?side1 A5.out).mono ?_); (case side1 => exact Glob.below HG.out (by repeat (first | (with_reducible first | exact HB.out | apply below_alloc | apply pw_below_drewN | apply below_drew1) | exact HB.out))); rintro e w12 ⟨v230, rfl, ho0, hb⟩; refine ⟨_, rfl, ?_⟩; have n0_ := Aside0.mk (Kd.R_lower ho0 (below_size (by repeat (first | (with_reducible first | exact HB.out | apply below_alloc | apply pw_below_drewN | apply below_drew1) | exact HB.out)))); have n1_ := Aside0.mk (below_step (by repeat (first | (with_reducible first | exact HB.out | apply below_alloc | apply pw_below_drewN | apply below_drew1) | exact HB.out)) hb); clear HB; have HO231 := n0_; have HB := n1_; clear n0_ n1_; (try clear hb); (try clear hb2); (try clear hk); (try clear hi); (try clear ho0)) | ((with_reducible refine gate_callee (f := 14) rfl ?_); refine goesL_ (some 21) rfl rfl Tryd.func14 (by kernel_rfl) rfl #[.string a0] rfl (by (try simp only [List.map_toArray, List.map_cons, List.map_nil]); first | done | rfl | (simp only [List.length_drop, List.length_take]; rfl)) ?_; (with_reducible refine (hurdleref03_Parse.calls k a0 t232 t233 t234 _ A6.out).mono ?_); rintro e w13 ⟨v235, rfl, ho0, hb⟩; refine ⟨_, rfl, ?_⟩; have n0_ := Aside0.mk (Kd.R_elder' (by (with_reducible repeat (first | apply Kd.R_alloc | apply Kd.R_drewN | apply Kd.R_drew)); exact HO231.out) (Kd.R_base ho0) hb); have n1_ := Aside0.mk (Kd.R_lower (Kd.R_new' ho0 (Kd.R_lt (by (with_reducible repeat (first | apply Kd.R_alloc | apply Kd.R_drewN | apply Kd.R_drew)); exact HO231.out))) (below_size (by repeat (first | (with_reducible first | exact HB.out | apply below_alloc | apply pw_below_drewN | apply below_drew1) | exact HB.out)))); have n2_ := Aside0.mk (below_step (by repeat (first | (with_reducible first | exact HB.out | apply below_alloc | apply pw_below_drewN | apply below_drew1) | exact HB.out)) hb); clear HO231; clear HB; have HO231 := n0_; have HO236 := n1_; have HB := n2_; clear n0_ n1_ n2_; (try clear hb); (try clear hb2); (try clear hk); (try clear hi); (try clear ho0); obtain ⟨Ao14, co14, eo14⟩ := Kd.R_slice HO231.out; subst eo14; obtain ⟨Ao15, co15, eo15⟩ := Kd.R_slice HO236.out; subst eo15) | ((with_reducible refine gate_callee (f := 12) rfl ?_); refine goesL_ (some 27) rfl rfl Tryd.func12 (by kernel_rfl) rfl #[.slice Ao14 t227.length co14, .slice Ao15 t232.length co15] rfl (by (try simp only [List.map_toArray, List.map_cons, List.map_nil]); first | done | rfl | (simp only [List.length_drop, List.length_take]; rfl)) ?_; (with_reducible refine (hurdleref03_Same.calls k _ _ t227 _ _ t232 true _ ?side1 ?side2 ?side3 ?side4 A7.out).mono ?_); (case side1 => repeat (first | exact (Kd.R_reads' HO231.out).2.2 | (with_reducible refine Kd.C_alloc ?_ _) | (with_reducible refine Kd.C_drewN ?_ _) | (with_reducible refine Kd.C_drew ?_))); (case side2 => exact (Kd.R_reads' HO231.out).2.1); (case side3 => repeat (first | exact (Kd.R_reads' HO236.out).2.2 | (with_reducible refine Kd.C_alloc ?_ _) | (with_reducible refine Kd.C_drewN ?_ _) | (with_reducible refine Kd.C_drew ?_))); (case side4 => exact (Kd.R_reads' HO236.out).2.1); rintro e w' ⟨rfl, ⟨nd, rfl⟩⟩; refine ⟨_, rfl, ?_⟩) | (go_at_call 9; (with_reducible refine (hurdlelaw03_knows.calls k  t238 _ ?side1 A11.out).mono ?_); (case side1 => exact Glob.below HG.out (by repeat (first | (with_reducible first | exact HB.out | apply below_alloc | apply pw_below_drewN | apply below_drew1) | exact HB.out))); rintro e w16 ⟨rfl, hb⟩; have n0_ := Aside0.mk (Kd.R_below (by (with_reducible repeat (first | apply Kd.R_alloc | apply Kd.R_drewN | apply Kd.R_drew)); exact HO231.out) hb); have n1_ := Aside0.mk (Kd.R_below (by (with_reducible repeat (first | apply Kd.R_alloc | apply Kd.R_drewN | apply Kd.R_drew)); exact HO236.out) hb); have n2_ := Aside0.mk (below_step (by repeat (first | (with_reducible first | exact HB.out | apply below_alloc | apply pw_below_drewN | apply below_drew1) | exact HB.out)) hb); clear HO231; clear HO236; clear HB; have HO231 := n0_; have HO236 := n1_; have HB := n2_; clear n0_ n1_ n2_; (try clear hb); (try clear hb2); (try clear hk); (try clear hi)))
          go_ret
          exact ⟨by first | rfl | (simp [errW_none, errW_some] <;> rfl) | (simp [*, errW_none, errW_some] <;> rfl), by repeat (first | (with_reducible first | exact HB.out | apply below_alloc | apply pw_below_drewN | apply below_drew1) | exact HB.out)⟩
        · rw [if_neg c10] at H
          exact absurd H (by simp)
      · rw [if_neg c9] at H
        exact absurd H (by simp)
    · replace c8 := Bool.eq_false_iff.mpr c8
      subst c8
      have H1 : (none) = some r := by rw [if_neg (show ¬ (false = true) by decide)] at H; exact H
      clear H
      have H := H1
      clear H1
      exact absurd H (by simp)

/-- THE ONE PURE STATEMENT of hurdlelaw03_CodecParses: yours. -/
def hurdlelaw03_CodecParses.Pure : Prop := ∀ (a0 : ByteArray), a0.size ≤ 140737488351232 → ∃ k, hurdlelaw03_CodecParses.f k a0 = some true
theorem hurdlelaw03_CodecParses.walk (P : hurdlelaw03_CodecParses.Pure) (a0 : ByteArray) (w : World) (w0 : a0.size ≤ 140737488351232) (hG : Glob w) :
    Calls Tryd.prog 4 #[.string a0] w fun e w' => e = .returned (.bool true) ∧ Below w.heap.size w w' := by
  obtain ⟨k, h⟩ := P a0 w0
  refine (hurdlelaw03_CodecParses.calls k a0 true w hG h).mono ?_
  rintro e w' ⟨rfl, hd⟩
  exact ⟨rfl, hd⟩

end Go.Proofs.YtidlcpflfokehaaDoor.M
