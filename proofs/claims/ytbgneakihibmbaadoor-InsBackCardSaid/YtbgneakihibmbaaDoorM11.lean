/- By a program of this session: what Go functions of the seat compute, as Lean functions, each with a proof that the call of the Go function comes to that. -/
import Derived.Test.YtbgneakihibmbaaDoorM0
import Derived.Test.YtbgneakihibmbaaDoorM1
import Derived.Test.YtbgneakihibmbaaDoorM3
import Derived.Test.YtbgneakihibmbaaDoorM5
import Derived.Test.YtbgneakihibmbaaDoorM9
import Derived.Test.YtbgneakihibmbaaDoorM10
namespace Go.Proofs.YtbgneakihibmbaaDoor.M
open Go.RowKit Go.Proofs.YtbgneakihibmbaaDoorW.PrintWords Go.Proofs.YtbgneakihibmbaaDoorW.PrintLast Go.Proofs.YtbgneakihibmbaaDoorW.PrintMore
attribute [local go_sem] max2_int min2_int max_two min_two max_three min_three max_four min_four   -- for this text's walks alone
set_option linter.unusedVariables false
set_option linter.unusedSimpArgs false

attribute [local go_sem high] eqA24
/-! ### hurdlelaw02_knows: function 12 -/
def hurdlelaw02_knows.f (k : Nat)  : Option (Bool) := (ins_Parse.f (⟨#[106, 101, 113, 32, 48, 120, 53, 32, 48, 120, 49, 32, 48, 120, 48]⟩ : ByteArray)).bind fun bt157 => ((ins_Print.f k 6 0 0 2147418112).bind fun bt163 => ((ins_Alu.f 12 0 0 0).bind fun bt165 => (if (bt157.1 == 21 && (bt157.2.1 == 1 && (bt157.2.2.1 == 0 && (bt157.2.2.2.1 == 5)))) = true then (if bt157.2.2.2.2 = 0 then (if bt163.1.toList = ([114, 101, 116, 32, 48, 120, 55, 102, 102, 102, 48, 48, 48, 48] : List UInt8) then (if bt163.2 = 0 then (if bt165.1 = 4 then (if bt165.2.1 = true then (if bt165.2.2 = true then ((ins_Branch.f bt157.1 bt157.2.1 bt157.2.2.1 bt157.2.2.2.1).bind fun t168 => (if t168 = true then ((ins_Ends.f 22 0 0 0).bind fun t169 => (if t169 = true then ((ins_Right.f k bt157.1 bt157.2.1 bt157.2.2.1 bt157.2.2.2.1).bind fun t170 => (some t170)) else (none))) else (none))) else (none)) else (none)) else (none)) else (none)) else (none)) else (none)) else (none))))
theorem hurdlelaw02_knows.mono : ∀ k, LeO (hurdlelaw02_knows.f k ) (hurdlelaw02_knows.f (k + 1) ) := by
  intro  k
  unfold hurdlelaw02_knows.f
  repeat' first
      | (with_reducible exact ins_Print.mono _ _ _ _ _)
      | (with_reducible exact ins_Right.mono _ _ _ _ _)
      | (with_reducible exact LeO.refl _)
      | (with_reducible exact LeO.none _)
      | (with_reducible refine LeO.ite ?_ ?_)
      | (with_reducible refine LeO.bind ?_ (fun _ => ?_))
      | exact ins_Print.mono _ _ _ _ _
      | exact ins_Right.mono _ _ _ _ _
      | exact LeO.none _
      | refine LeO.ite ?_ ?_
      | refine LeO.bind ?_ (fun _ => ?_)
set_option maxHeartbeats 8000000 in
set_option maxRecDepth 100000 in
theorem hurdlelaw02_knows.calls (k : Nat)  (r : Bool) (w : World) (hG : Glob w) (h : hurdlelaw02_knows.f k  = some r) :
    Calls Tryd.prog 12 #[] w fun e w' => e = .returned (.bool r) ∧ Below w.heap.size w w' := by
  have hu24 := Tryd.underlying24
  have HG := Aside0.mk hG
  clear hG
  have HB := Aside0.mk (Below.refl w.heap.size w)
  have H : ((ins_Parse.f (⟨#[106, 101, 113, 32, 48, 120, 53, 32, 48, 120, 49, 32, 48, 120, 48]⟩ : ByteArray)).bind fun bt157 => ((ins_Print.f k 6 0 0 2147418112).bind fun bt163 => ((ins_Alu.f 12 0 0 0).bind fun bt165 => (if (bt157.1 == 21 && (bt157.2.1 == 1 && (bt157.2.2.1 == 0 && (bt157.2.2.2.1 == 5)))) = true then (if bt157.2.2.2.2 = 0 then (if bt163.1.toList = ([114, 101, 116, 32, 48, 120, 55, 102, 102, 102, 48, 48, 48, 48] : List UInt8) then (if bt163.2 = 0 then (if bt165.1 = 4 then (if bt165.2.1 = true then (if bt165.2.2 = true then ((ins_Branch.f bt157.1 bt157.2.1 bt157.2.2.1 bt157.2.2.2.1).bind fun t168 => (if t168 = true then ((ins_Ends.f 22 0 0 0).bind fun t169 => (if t169 = true then ((ins_Right.f k bt157.1 bt157.2.1 bt157.2.2.1 bt157.2.2.2.1).bind fun t170 => (some t170)) else (none))) else (none))) else (none)) else (none)) else (none)) else (none)) else (none)) else (none)) else (none))))) = some r := h
  clear h
  replace H := Option.bind_eq_some_iff.mp H
  obtain ⟨⟨t157, t158, t159, t160, t161⟩, A10, H⟩ := H
  replace H : ((ins_Print.f k 6 0 0 2147418112).bind fun bt163 => ((ins_Alu.f 12 0 0 0).bind fun bt165 => (if (t157 == 21 && (t158 == 1 && (t159 == 0 && (t160 == 5)))) = true then (if t161 = 0 then (if bt163.1.toList = ([114, 101, 116, 32, 48, 120, 55, 102, 102, 102, 48, 48, 48, 48] : List UInt8) then (if bt163.2 = 0 then (if bt165.1 = 4 then (if bt165.2.1 = true then (if bt165.2.2 = true then ((ins_Branch.f t157 t158 t159 t160).bind fun t168 => (if t168 = true then ((ins_Ends.f 22 0 0 0).bind fun t169 => (if t169 = true then ((ins_Right.f k t157 t158 t159 t160).bind fun t170 => (some t170)) else (none))) else (none))) else (none)) else (none)) else (none)) else (none)) else (none)) else (none)) else (none)))) = some r := H
  have A1 := Aside0.mk A10
  clear A10
  replace H := Option.bind_eq_some_iff.mp H
  obtain ⟨⟨t163, t164⟩, A20, H⟩ := H
  replace H : ((ins_Alu.f 12 0 0 0).bind fun bt165 => (if (t157 == 21 && (t158 == 1 && (t159 == 0 && (t160 == 5)))) = true then (if t161 = 0 then (if t163.toList = ([114, 101, 116, 32, 48, 120, 55, 102, 102, 102, 48, 48, 48, 48] : List UInt8) then (if t164 = 0 then (if bt165.1 = 4 then (if bt165.2.1 = true then (if bt165.2.2 = true then ((ins_Branch.f t157 t158 t159 t160).bind fun t168 => (if t168 = true then ((ins_Ends.f 22 0 0 0).bind fun t169 => (if t169 = true then ((ins_Right.f k t157 t158 t159 t160).bind fun t170 => (some t170)) else (none))) else (none))) else (none)) else (none)) else (none)) else (none)) else (none)) else (none)) else (none))) = some r := H
  have A2 := Aside0.mk A20
  clear A20
  replace H := Option.bind_eq_some_iff.mp H
  obtain ⟨⟨t165, t166, t167⟩, A30, H⟩ := H
  replace H : (if (t157 == 21 && (t158 == 1 && (t159 == 0 && (t160 == 5)))) = true then (if t161 = 0 then (if t163.toList = ([114, 101, 116, 32, 48, 120, 55, 102, 102, 102, 48, 48, 48, 48] : List UInt8) then (if t164 = 0 then (if t165 = 4 then (if t166 = true then (if t167 = true then ((ins_Branch.f t157 t158 t159 t160).bind fun t168 => (if t168 = true then ((ins_Ends.f 22 0 0 0).bind fun t169 => (if t169 = true then ((ins_Right.f k t157 t158 t159 t160).bind fun t170 => (some t170)) else (none))) else (none))) else (none)) else (none)) else (none)) else (none)) else (none)) else (none)) else (none)) = some r := H
  have A3 := Aside0.mk A30
  clear A30
  by_cases c4 : (t157 == 21 && (t158 == 1 && (t159 == 0 && (t160 == 5)))) = true
  · rw [if_pos c4] at H
    have c4b0 : (t157 == 21 && (t158 == 1 && (t159 == 0 && (t160 == 5)))) = true := c4
    (try (have c4b1 : decide (t157 = 21 && (t158 == 1 && (t159 == 0 && (t160 == 5)))) = true := by simpa using c4))
    (try (have c4b2 : (t157 == 21 && (t158 == 1 && (t159 == 0 && (t160 == 5)))) = true := by simpa using c4))
    clear c4
    by_cases c5 : t161 = 0
    · rw [if_pos c5] at H
      have c5b0 : (t161 == 0) = true := beq_iff_eq.mpr c5
      have c5b1 : (t161 != 0) = false := bne_eq_false_iff_eq.mpr c5
      clear c5
      by_cases c6 : t163.toList = ([114, 101, 116, 32, 48, 120, 55, 102, 102, 102, 48, 48, 48, 48] : List UInt8)
      · rw [if_pos c6] at H
        have c6b0 : (t163.toList == ([114, 101, 116, 32, 48, 120, 55, 102, 102, 102, 48, 48, 48, 48] : List UInt8)) = true := beq_iff_eq.mpr c6
        have c6b1 : (t163.toList != ([114, 101, 116, 32, 48, 120, 55, 102, 102, 102, 48, 48, 48, 48] : List UInt8)) = false := bne_eq_false_iff_eq.mpr c6
        clear c6
        by_cases c7 : t164 = 0
        · rw [if_pos c7] at H
          have c7b0 : (t164 == 0) = true := beq_iff_eq.mpr c7
          have c7b1 : (t164 != 0) = false := bne_eq_false_iff_eq.mpr c7
          clear c7
          by_cases c8 : t165 = 4
          · rw [if_pos c8] at H
            have c8b0 : (t165 == 4) = true := beq_iff_eq.mpr c8
            have c8b1 : (t165 != 4) = false := bne_eq_false_iff_eq.mpr c8
            clear c8
            by_cases c9 : t166 = true
            · subst c9
              have H1 : (if t167 = true then ((ins_Branch.f t157 t158 t159 t160).bind fun t168 => (if t168 = true then ((ins_Ends.f 22 0 0 0).bind fun t169 => (if t169 = true then ((ins_Right.f k t157 t158 t159 t160).bind fun t170 => (some t170)) else (none))) else (none))) else (none)) = some r := by rw [if_pos rfl] at H; exact H
              clear H
              have H := H1
              clear H1
              by_cases c10 : t167 = true
              · subst c10
                have H1 : ((ins_Branch.f t157 t158 t159 t160).bind fun t168 => (if t168 = true then ((ins_Ends.f 22 0 0 0).bind fun t169 => (if t169 = true then ((ins_Right.f k t157 t158 t159 t160).bind fun t170 => (some t170)) else (none))) else (none))) = some r := by rw [if_pos rfl] at H; exact H
                clear H
                have H := H1
                clear H1
                replace H := Option.bind_eq_some_iff.mp H
                obtain ⟨t168, A110, H⟩ := H
                replace H : (if t168 = true then ((ins_Ends.f 22 0 0 0).bind fun t169 => (if t169 = true then ((ins_Right.f k t157 t158 t159 t160).bind fun t170 => (some t170)) else (none))) else (none)) = some r := H
                have A11 := Aside0.mk A110
                clear A110
                by_cases c12 : t168 = true
                · subst c12
                  have H1 : ((ins_Ends.f 22 0 0 0).bind fun t169 => (if t169 = true then ((ins_Right.f k t157 t158 t159 t160).bind fun t170 => (some t170)) else (none))) = some r := by rw [if_pos rfl] at H; exact H
                  clear H
                  have H := H1
                  clear H1
                  replace H := Option.bind_eq_some_iff.mp H
                  obtain ⟨t169, A130, H⟩ := H
                  replace H : (if t169 = true then ((ins_Right.f k t157 t158 t159 t160).bind fun t170 => (some t170)) else (none)) = some r := H
                  have A13 := Aside0.mk A130
                  clear A130
                  by_cases c14 : t169 = true
                  · subst c14
                    have H1 : ((ins_Right.f k t157 t158 t159 t160).bind fun t170 => (some t170)) = some r := by rw [if_pos rfl] at H; exact H
                    clear H
                    have H := H1
                    clear H1
                    replace H := Option.bind_eq_some_iff.mp H
                    obtain ⟨t170, A150, H⟩ := H
                    replace H : (some t170) = some r := H
                    have A15 := Aside0.mk A150
                    clear A150
                    obtain rfl := Option.some.inj H
                    go_enter Tryd.func12, Tryd.ntmps12
                    go_wp2_with (first | ((with_reducible refine gate_callee (f := 14) rfl ?_); refine goesL_ (some 9) rfl rfl Tryd.func14 (by kernel_rfl) rfl #[.string (⟨#[106, 101, 113, 32, 48, 120, 53, 32, 48, 120, 49, 32, 48, 120, 48]⟩ : ByteArray)] rfl (by (try simp only [List.map_toArray, List.map_cons, List.map_nil]); first | done | rfl | (simp only [List.length_drop, List.length_take]; rfl)) ?_; (with_reducible refine (ins_Parse.calls (⟨#[106, 101, 113, 32, 48, 120, 53, 32, 48, 120, 49, 32, 48, 120, 48]⟩ : ByteArray) t157 t158 t159 t160 t161 _ ?side1 A1.out).mono ?_); (case side1 => exact Glob.below HG.out (by repeat (first | (with_reducible first | exact HB.out | apply below_alloc | apply pw_below_drewN | apply below_drew1) | exact HB.out))); rintro e w16 ⟨rfl, hb⟩; refine ⟨_, rfl, ?_⟩; have n0_ := Aside0.mk (below_step (by repeat (first | (with_reducible first | exact HB.out | apply below_alloc | apply pw_below_drewN | apply below_drew1) | exact HB.out)) hb); clear HB; have HB := n0_; clear n0_; (try clear hb); (try clear hb2); (try clear hk); (try clear hi)) | ((with_reducible refine gate_dst (N := 1) rfl ?_); refine box_event ?hg (N := 1) ?hd (cs := #[.int .i64 0, .int .i64 0, .int .i64 0, .int .u32 0]) (t := 24) ?hr ?_; (case hd => rfl); (case hg => rfl); (case hr => first | (go_simp; done) | (go_simp; rfl)); intro gb162 hg w17 hbox hb; have n0_ := Aside0.mk (below_step (by repeat (first | (with_reducible first | exact HB.out | apply below_alloc | apply pw_below_drewN | apply below_drew1) | exact HB.out)) hb); have n1_ := Aside0.mk (hbox); have n2_ := Aside0.mk ((by rw [hg]; exact (below_size (by repeat (first | (with_reducible first | exact HB.out | apply below_alloc | apply pw_below_drewN | apply below_drew1) | exact HB.out))) : w.heap.size ≤ gb162)); have n3_ := Aside0.mk ((by rw [hg]; exact (below_size (by repeat (first | (with_reducible first | exact HB.out | apply below_alloc | apply pw_below_drewN | apply below_drew1) | exact HB.out))) : w.heap.size ≤ gb162)); clear HB; have HB := n0_; have BK162 := n1_; have GW162 := n2_; have GE162 := n3_; clear n0_ n1_ n2_ n3_; clear hb hbox hg; have hcz18_0 : w17.cell? ⟨gb162, 0, none⟩ = some (.int .i64 0) := (blk_cell BK162.out 0).trans rfl; have hcz18_1 : w17.cell? ⟨gb162, 1, none⟩ = some (.int .i64 0) := (blk_cell BK162.out 1).trans rfl; have hcz18_2 : w17.cell? ⟨gb162, 2, none⟩ = some (.int .i64 0) := (blk_cell BK162.out 2).trans rfl; have hcz18_3 : w17.cell? ⟨gb162, 3, none⟩ = some (.int .u32 0) := (blk_cell BK162.out 3).trans rfl; have hfz18_0 := blk_frozen BK162.out 0; have hfz18_1 := blk_frozen BK162.out 1; have hfz18_2 := blk_frozen BK162.out 2; have hfz18_3 := blk_frozen BK162.out 3) | ((with_reducible refine gate_callee (f := 9) rfl ?_); refine goesL_ (some 14) rfl rfl Tryd.func9 (by kernel_rfl) rfl #[.agg #[.int .i64 6, .int .i64 0, .int .i64 0, .int .u32 2147418112]] rfl (by (try simp only [List.map_toArray, List.map_cons, List.map_nil]); first | done | rfl | (simp only [List.length_drop, List.length_take]; rfl)) ?_; (with_reducible refine (ins_Print.calls k 6 0 0 2147418112 t163 t164 _ ?side1 A2.out).mono ?_); (case side1 => exact Glob.below HG.out (by repeat (first | (with_reducible first | exact HB.out | apply below_alloc | apply pw_below_drewN | apply below_drew1 | refine below_set ?_ GE162.out) | exact HB.out))); rintro e w19 ⟨rfl, hb⟩; refine ⟨_, rfl, ?_⟩; have n0_ := Aside0.mk (blk_below (g := gb162) (o := .cells #[.int .i64 t157, .int .i64 t158, .int .i64 t159, .int .u32 t160] 24 (0, 0)) (by (with_reducible repeat (first | refine blk_drewN ?_ _ | refine blk_drew ?_ | refine blk_alloc ?_ _)); refine blk_put (cs := #[.int .i64 t157, .int .i64 t158, .int .i64 t159, .int .u32 0]) ?_ 3 _ rfl; (with_reducible repeat (first | refine blk_drewN ?_ _ | refine blk_drew ?_ | refine blk_alloc ?_ _)); refine blk_put (cs := #[.int .i64 t157, .int .i64 t158, .int .i64 0, .int .u32 0]) ?_ 2 _ rfl; (with_reducible repeat (first | refine blk_drewN ?_ _ | refine blk_drew ?_ | refine blk_alloc ?_ _)); refine blk_put (cs := #[.int .i64 t157, .int .i64 0, .int .i64 0, .int .u32 0]) ?_ 1 _ rfl; (with_reducible repeat (first | refine blk_drewN ?_ _ | refine blk_drew ?_ | refine blk_alloc ?_ _)); refine blk_put (cs := #[.int .i64 0, .int .i64 0, .int .i64 0, .int .u32 0]) ?_ 0 _ rfl; (with_reducible repeat (first | refine blk_drewN ?_ _ | refine blk_drew ?_ | refine blk_alloc ?_ _)); exact BK162.out) hb); have n1_ := Aside0.mk (below_step (by repeat (first | (with_reducible first | exact HB.out | apply below_alloc | apply pw_below_drewN | apply below_drew1 | refine below_set ?_ GE162.out) | exact HB.out)) hb); clear BK162; clear HB; have BK162 := n0_; have HB := n1_; clear n0_ n1_; (try clear hb); (try clear hb2); (try clear hk); (try clear hi)) | ((with_reducible refine gate_callee (f := 16) rfl ?_); refine goesL_ (some 19) rfl rfl Tryd.func16 (by kernel_rfl) rfl #[.agg #[.int .i64 12, .int .i64 0, .int .i64 0, .int .u32 0]] rfl (by (try simp only [List.map_toArray, List.map_cons, List.map_nil]); first | done | rfl | (simp only [List.length_drop, List.length_take]; rfl)) ?_; (with_reducible refine (ins_Alu.calls 12 0 0 0 t165 true true _ ?side1 A3.out).mono ?_); (case side1 => exact Glob.below HG.out (by repeat (first | (with_reducible first | exact HB.out | apply below_alloc | apply pw_below_drewN | apply below_drew1 | refine below_set ?_ GE162.out) | exact HB.out))); rintro e w20 ⟨rfl, hb⟩; refine ⟨_, rfl, ?_⟩; have n0_ := Aside0.mk (blk_below (g := gb162) (o := .cells #[.int .i64 t157, .int .i64 t158, .int .i64 t159, .int .u32 t160] 24 (0, 0)) (by (with_reducible repeat (first | refine blk_drewN ?_ _ | refine blk_drew ?_ | refine blk_alloc ?_ _)); exact BK162.out) hb); have n1_ := Aside0.mk (below_step (by repeat (first | (with_reducible first | exact HB.out | apply below_alloc | apply pw_below_drewN | apply below_drew1 | refine below_set ?_ GE162.out) | exact HB.out)) hb); clear BK162; clear HB; have BK162 := n0_; have HB := n1_; clear n0_ n1_; (try clear hb); (try clear hb2); (try clear hk); (try clear hi); have hcz21_0 : w20.cell? ⟨gb162, 0, none⟩ = some (.int .i64 t157) := (blk_cell BK162.out 0).trans rfl; have hcz21_1 : w20.cell? ⟨gb162, 1, none⟩ = some (.int .i64 t158) := (blk_cell BK162.out 1).trans rfl; have hcz21_2 : w20.cell? ⟨gb162, 2, none⟩ = some (.int .i64 t159) := (blk_cell BK162.out 2).trans rfl; have hcz21_3 : w20.cell? ⟨gb162, 3, none⟩ = some (.int .u32 t160) := (blk_cell BK162.out 3).trans rfl; have hfz21_0 := blk_frozen BK162.out 0; have hfz21_1 := blk_frozen BK162.out 1; have hfz21_2 := blk_frozen BK162.out 2; have hfz21_3 := blk_frozen BK162.out 3) | (go_at_call 18; (with_reducible refine (ins_Branch.calls t157 t158 t159 t160 true _ ?side1 A11.out).mono ?_); (case side1 => exact Glob.below HG.out (by repeat (first | (with_reducible first | exact HB.out | apply below_alloc | apply pw_below_drewN | apply below_drew1 | refine below_set ?_ GE162.out) | exact HB.out))); rintro e w22 ⟨rfl, hb⟩; have n0_ := Aside0.mk (blk_below (g := gb162) (o := .cells #[.int .i64 t157, .int .i64 t158, .int .i64 t159, .int .u32 t160] 24 (0, 0)) (by (with_reducible repeat (first | refine blk_drewN ?_ _ | refine blk_drew ?_ | refine blk_alloc ?_ _)); exact BK162.out) hb); have n1_ := Aside0.mk (below_step (by repeat (first | (with_reducible first | exact HB.out | apply below_alloc | apply pw_below_drewN | apply below_drew1 | refine below_set ?_ GE162.out) | exact HB.out)) hb); clear BK162; clear HB; have BK162 := n0_; have HB := n1_; clear n0_ n1_; (try clear hb); (try clear hb2); (try clear hk); (try clear hi)) | (go_at_call 20; (with_reducible refine (ins_Ends.calls 22 0 0 0 true _ A13.out).mono ?_); rintro e w23 ⟨rfl, hb⟩; have n0_ := Aside0.mk (blk_below (g := gb162) (o := .cells #[.int .i64 t157, .int .i64 t158, .int .i64 t159, .int .u32 t160] 24 (0, 0)) (by (with_reducible repeat (first | refine blk_drewN ?_ _ | refine blk_drew ?_ | refine blk_alloc ?_ _)); exact BK162.out) hb); have n1_ := Aside0.mk (below_step (by repeat (first | (with_reducible first | exact HB.out | apply below_alloc | apply pw_below_drewN | apply below_drew1 | refine below_set ?_ GE162.out) | exact HB.out)) hb); clear BK162; clear HB; have BK162 := n0_; have HB := n1_; clear n0_ n1_; (try clear hb); (try clear hb2); (try clear hk); (try clear hi); have hcz24_0 : w23.cell? ⟨gb162, 0, none⟩ = some (.int .i64 t157) := (blk_cell BK162.out 0).trans rfl; have hcz24_1 : w23.cell? ⟨gb162, 1, none⟩ = some (.int .i64 t158) := (blk_cell BK162.out 1).trans rfl; have hcz24_2 : w23.cell? ⟨gb162, 2, none⟩ = some (.int .i64 t159) := (blk_cell BK162.out 2).trans rfl; have hcz24_3 : w23.cell? ⟨gb162, 3, none⟩ = some (.int .u32 t160) := (blk_cell BK162.out 3).trans rfl; have hfz24_0 := blk_frozen BK162.out 0; have hfz24_1 := blk_frozen BK162.out 1; have hfz24_2 := blk_frozen BK162.out 2; have hfz24_3 := blk_frozen BK162.out 3) | (go_at_call 11; (with_reducible refine (ins_Right.calls k t157 t158 t159 t160 t170 _ ?side1 A15.out).mono ?_); (case side1 => exact Glob.below HG.out (by repeat (first | (with_reducible first | exact HB.out | apply below_alloc | apply pw_below_drewN | apply below_drew1 | refine below_set ?_ GE162.out) | exact HB.out))); rintro e w25 ⟨rfl, hb⟩; have n0_ := Aside0.mk (blk_below (g := gb162) (o := .cells #[.int .i64 t157, .int .i64 t158, .int .i64 t159, .int .u32 t160] 24 (0, 0)) (by (with_reducible repeat (first | refine blk_drewN ?_ _ | refine blk_drew ?_ | refine blk_alloc ?_ _)); exact BK162.out) hb); have n1_ := Aside0.mk (below_step (by repeat (first | (with_reducible first | exact HB.out | apply below_alloc | apply pw_below_drewN | apply below_drew1 | refine below_set ?_ GE162.out) | exact HB.out)) hb); clear BK162; clear HB; have BK162 := n0_; have HB := n1_; clear n0_ n1_; (try clear hb); (try clear hb2); (try clear hk); (try clear hi)))
                    go_ret
                    exact ⟨by first | rfl | (simp [errW_none, errW_some] <;> rfl) | (simp [*, errW_none, errW_some] <;> rfl), by repeat (first | (with_reducible first | exact HB.out | apply below_alloc | apply pw_below_drewN | apply below_drew1 | refine below_set ?_ GE162.out) | exact HB.out)⟩
                  · replace c14 := Bool.eq_false_iff.mpr c14
                    subst c14
                    have H1 : (none) = some r := by rw [if_neg (show ¬ (false = true) by decide)] at H; exact H
                    clear H
                    have H := H1
                    clear H1
                    exact absurd H (by simp)
                · replace c12 := Bool.eq_false_iff.mpr c12
                  subst c12
                  have H1 : (none) = some r := by rw [if_neg (show ¬ (false = true) by decide)] at H; exact H
                  clear H
                  have H := H1
                  clear H1
                  exact absurd H (by simp)
              · replace c10 := Bool.eq_false_iff.mpr c10
                subst c10
                have H1 : (none) = some r := by rw [if_neg (show ¬ (false = true) by decide)] at H; exact H
                clear H
                have H := H1
                clear H1
                exact absurd H (by simp)
            · replace c9 := Bool.eq_false_iff.mpr c9
              subst c9
              have H1 : (none) = some r := by rw [if_neg (show ¬ (false = true) by decide)] at H; exact H
              clear H
              have H := H1
              clear H1
              exact absurd H (by simp)
          · rw [if_neg c8] at H
            exact absurd H (by simp)
        · rw [if_neg c7] at H
          exact absurd H (by simp)
      · rw [if_neg c6] at H
        exact absurd H (by simp)
    · rw [if_neg c5] at H
      exact absurd H (by simp)
  · rw [if_neg c4] at H
    exact absurd H (by simp)

/-! ### hurdleref02_Words: function 27 -/
def hurdleref02_Words.f  : Option (List ByteArray) := some (([(⟨#[108, 100]⟩ : ByteArray), (⟨#[108, 100, 120]⟩ : ByteArray), (⟨#[115, 116]⟩ : ByteArray), (⟨#[115, 116, 120]⟩ : ByteArray), (⟨#[97, 100, 100]⟩ : ByteArray), (⟨#[115, 117, 98]⟩ : ByteArray), (⟨#[109, 117, 108]⟩ : ByteArray), (⟨#[100, 105, 118]⟩ : ByteArray), (⟨#[111, 114]⟩ : ByteArray), (⟨#[97, 110, 100]⟩ : ByteArray), (⟨#[108, 115, 104]⟩ : ByteArray), (⟨#[114, 115, 104]⟩ : ByteArray), (⟨#[120, 111, 114]⟩ : ByteArray), (⟨#[97, 100, 100, 120]⟩ : ByteArray), (⟨#[115, 117, 98, 120]⟩ : ByteArray), (⟨#[109, 117, 108, 120]⟩ : ByteArray), (⟨#[100, 105, 118, 120]⟩ : ByteArray), (⟨#[111, 114, 120]⟩ : ByteArray), (⟨#[97, 110, 100, 120]⟩ : ByteArray), (⟨#[108, 115, 104, 120]⟩ : ByteArray), (⟨#[114, 115, 104, 120]⟩ : ByteArray), (⟨#[120, 111, 114, 120]⟩ : ByteArray), (⟨#[110, 101, 103]⟩ : ByteArray), (⟨#[116, 97, 120]⟩ : ByteArray), (⟨#[116, 120, 97]⟩ : ByteArray), (⟨#[97, 98, 115]⟩ : ByteArray), (⟨#[109, 101, 109]⟩ : ByteArray), (⟨#[109, 101, 109, 120]⟩ : ByteArray), (⟨#[106, 97]⟩ : ByteArray), (⟨#[114, 101, 116]⟩ : ByteArray), (⟨#[114, 101, 116, 97]⟩ : ByteArray), (⟨#[106, 101, 113]⟩ : ByteArray), (⟨#[106, 103, 116]⟩ : ByteArray), (⟨#[106, 103, 101]⟩ : ByteArray), (⟨#[106, 115, 101, 116]⟩ : ByteArray), (⟨#[106, 101, 113, 120]⟩ : ByteArray), (⟨#[106, 103, 116, 120]⟩ : ByteArray), (⟨#[106, 103, 101, 120]⟩ : ByteArray), (⟨#[106, 115, 101, 116, 120]⟩ : ByteArray)] : List ByteArray))
set_option maxHeartbeats 8000000 in
set_option maxRecDepth 100000 in
theorem hurdleref02_Words.calls  (r : List ByteArray) (w : World) (h : hurdleref02_Words.f  = some r) :
    Calls Tryd.prog 27 #[] w fun e w' => ∃ v0_ : Value, e = .returned (v0_) ∧ Kd.R Kd.string 9 w' w.heap.size (fun _ => True) v0_ r ∧ Below w.heap.size w w' := by
  have HB := Aside0.mk (Below.refl w.heap.size w)
  have H : (some (([(⟨#[108, 100]⟩ : ByteArray), (⟨#[108, 100, 120]⟩ : ByteArray), (⟨#[115, 116]⟩ : ByteArray), (⟨#[115, 116, 120]⟩ : ByteArray), (⟨#[97, 100, 100]⟩ : ByteArray), (⟨#[115, 117, 98]⟩ : ByteArray), (⟨#[109, 117, 108]⟩ : ByteArray), (⟨#[100, 105, 118]⟩ : ByteArray), (⟨#[111, 114]⟩ : ByteArray), (⟨#[97, 110, 100]⟩ : ByteArray), (⟨#[108, 115, 104]⟩ : ByteArray), (⟨#[114, 115, 104]⟩ : ByteArray), (⟨#[120, 111, 114]⟩ : ByteArray), (⟨#[97, 100, 100, 120]⟩ : ByteArray), (⟨#[115, 117, 98, 120]⟩ : ByteArray), (⟨#[109, 117, 108, 120]⟩ : ByteArray), (⟨#[100, 105, 118, 120]⟩ : ByteArray), (⟨#[111, 114, 120]⟩ : ByteArray), (⟨#[97, 110, 100, 120]⟩ : ByteArray), (⟨#[108, 115, 104, 120]⟩ : ByteArray), (⟨#[114, 115, 104, 120]⟩ : ByteArray), (⟨#[120, 111, 114, 120]⟩ : ByteArray), (⟨#[110, 101, 103]⟩ : ByteArray), (⟨#[116, 97, 120]⟩ : ByteArray), (⟨#[116, 120, 97]⟩ : ByteArray), (⟨#[97, 98, 115]⟩ : ByteArray), (⟨#[109, 101, 109]⟩ : ByteArray), (⟨#[109, 101, 109, 120]⟩ : ByteArray), (⟨#[106, 97]⟩ : ByteArray), (⟨#[114, 101, 116]⟩ : ByteArray), (⟨#[114, 101, 116, 97]⟩ : ByteArray), (⟨#[106, 101, 113]⟩ : ByteArray), (⟨#[106, 103, 116]⟩ : ByteArray), (⟨#[106, 103, 101]⟩ : ByteArray), (⟨#[106, 115, 101, 116]⟩ : ByteArray), (⟨#[106, 101, 113, 120]⟩ : ByteArray), (⟨#[106, 103, 116, 120]⟩ : ByteArray), (⟨#[106, 103, 101, 120]⟩ : ByteArray), (⟨#[106, 115, 101, 116, 120]⟩ : ByteArray)] : List ByteArray))) = some r := h
  clear h
  obtain ⟨y171, hy171⟩ : ∃ y_ : List ByteArray, y_ = (([(⟨#[108, 100]⟩ : ByteArray), (⟨#[108, 100, 120]⟩ : ByteArray), (⟨#[115, 116]⟩ : ByteArray), (⟨#[115, 116, 120]⟩ : ByteArray), (⟨#[97, 100, 100]⟩ : ByteArray), (⟨#[115, 117, 98]⟩ : ByteArray), (⟨#[109, 117, 108]⟩ : ByteArray), (⟨#[100, 105, 118]⟩ : ByteArray), (⟨#[111, 114]⟩ : ByteArray), (⟨#[97, 110, 100]⟩ : ByteArray), (⟨#[108, 115, 104]⟩ : ByteArray), (⟨#[114, 115, 104]⟩ : ByteArray), (⟨#[120, 111, 114]⟩ : ByteArray), (⟨#[97, 100, 100, 120]⟩ : ByteArray), (⟨#[115, 117, 98, 120]⟩ : ByteArray), (⟨#[109, 117, 108, 120]⟩ : ByteArray), (⟨#[100, 105, 118, 120]⟩ : ByteArray), (⟨#[111, 114, 120]⟩ : ByteArray), (⟨#[97, 110, 100, 120]⟩ : ByteArray), (⟨#[108, 115, 104, 120]⟩ : ByteArray), (⟨#[114, 115, 104, 120]⟩ : ByteArray), (⟨#[120, 111, 114, 120]⟩ : ByteArray), (⟨#[110, 101, 103]⟩ : ByteArray), (⟨#[116, 97, 120]⟩ : ByteArray), (⟨#[116, 120, 97]⟩ : ByteArray), (⟨#[97, 98, 115]⟩ : ByteArray), (⟨#[109, 101, 109]⟩ : ByteArray), (⟨#[109, 101, 109, 120]⟩ : ByteArray), (⟨#[106, 97]⟩ : ByteArray), (⟨#[114, 101, 116]⟩ : ByteArray), (⟨#[114, 101, 116, 97]⟩ : ByteArray), (⟨#[106, 101, 113]⟩ : ByteArray), (⟨#[106, 103, 116]⟩ : ByteArray), (⟨#[106, 103, 101]⟩ : ByteArray), (⟨#[106, 115, 101, 116]⟩ : ByteArray), (⟨#[106, 101, 113, 120]⟩ : ByteArray), (⟨#[106, 103, 116, 120]⟩ : ByteArray), (⟨#[106, 103, 101, 120]⟩ : ByteArray), (⟨#[106, 115, 101, 116, 120]⟩ : ByteArray)] : List ByteArray)) := ⟨_, rfl⟩
  replace H : (some y171) = some r := by first | (rw [hy171]; with_reducible exact H) | (have H2_ := (Option.bind_some _ _).symm.trans H; rw [hy171]; with_reducible exact H2_) | (have H2_ := (Option.bind_some _ _).symm.trans H; with_reducible exact H2_) | with_reducible exact H | (rw [hy171]; exact H) | exact H
  have Ny171 := Aside0.mk hy171
  clear hy171
  obtain rfl := Option.some.inj H
  go_enter Tryd.func27, Tryd.ntmps27
  go_wp2_with (first | ((with_reducible refine gate_dst (N := 1) rfl ?_); refine Kd.R_lit Kd.string _ 9 ?hg (N := 1) ?hd (xs := ([(⟨#[108, 100]⟩ : ByteArray), (⟨#[108, 100, 120]⟩ : ByteArray), (⟨#[115, 116]⟩ : ByteArray), (⟨#[115, 116, 120]⟩ : ByteArray), (⟨#[97, 100, 100]⟩ : ByteArray), (⟨#[115, 117, 98]⟩ : ByteArray), (⟨#[109, 117, 108]⟩ : ByteArray), (⟨#[100, 105, 118]⟩ : ByteArray), (⟨#[111, 114]⟩ : ByteArray), (⟨#[97, 110, 100]⟩ : ByteArray), (⟨#[108, 115, 104]⟩ : ByteArray), (⟨#[114, 115, 104]⟩ : ByteArray), (⟨#[120, 111, 114]⟩ : ByteArray), (⟨#[97, 100, 100, 120]⟩ : ByteArray), (⟨#[115, 117, 98, 120]⟩ : ByteArray), (⟨#[109, 117, 108, 120]⟩ : ByteArray), (⟨#[100, 105, 118, 120]⟩ : ByteArray), (⟨#[111, 114, 120]⟩ : ByteArray), (⟨#[97, 110, 100, 120]⟩ : ByteArray), (⟨#[108, 115, 104, 120]⟩ : ByteArray), (⟨#[114, 115, 104, 120]⟩ : ByteArray), (⟨#[120, 111, 114, 120]⟩ : ByteArray), (⟨#[110, 101, 103]⟩ : ByteArray), (⟨#[116, 97, 120]⟩ : ByteArray), (⟨#[116, 120, 97]⟩ : ByteArray), (⟨#[97, 98, 115]⟩ : ByteArray), (⟨#[109, 101, 109]⟩ : ByteArray), (⟨#[109, 101, 109, 120]⟩ : ByteArray), (⟨#[106, 97]⟩ : ByteArray), (⟨#[114, 101, 116]⟩ : ByteArray), (⟨#[114, 101, 116, 97]⟩ : ByteArray), (⟨#[106, 101, 113]⟩ : ByteArray), (⟨#[106, 103, 116]⟩ : ByteArray), (⟨#[106, 103, 101]⟩ : ByteArray), (⟨#[106, 115, 101, 116]⟩ : ByteArray), (⟨#[106, 101, 113, 120]⟩ : ByteArray), (⟨#[106, 103, 116, 120]⟩ : ByteArray), (⟨#[106, 103, 101, 120]⟩ : ByteArray), (⟨#[106, 115, 101, 116, 120]⟩ : ByteArray)] : List ByteArray)) (inner := [.string (⟨#[108, 100]⟩ : ByteArray), .string (⟨#[108, 100, 120]⟩ : ByteArray), .string (⟨#[115, 116]⟩ : ByteArray), .string (⟨#[115, 116, 120]⟩ : ByteArray), .string (⟨#[97, 100, 100]⟩ : ByteArray), .string (⟨#[115, 117, 98]⟩ : ByteArray), .string (⟨#[109, 117, 108]⟩ : ByteArray), .string (⟨#[100, 105, 118]⟩ : ByteArray), .string (⟨#[111, 114]⟩ : ByteArray), .string (⟨#[97, 110, 100]⟩ : ByteArray), .string (⟨#[108, 115, 104]⟩ : ByteArray), .string (⟨#[114, 115, 104]⟩ : ByteArray), .string (⟨#[120, 111, 114]⟩ : ByteArray), .string (⟨#[97, 100, 100, 120]⟩ : ByteArray), .string (⟨#[115, 117, 98, 120]⟩ : ByteArray), .string (⟨#[109, 117, 108, 120]⟩ : ByteArray), .string (⟨#[100, 105, 118, 120]⟩ : ByteArray), .string (⟨#[111, 114, 120]⟩ : ByteArray), .string (⟨#[97, 110, 100, 120]⟩ : ByteArray), .string (⟨#[108, 115, 104, 120]⟩ : ByteArray), .string (⟨#[114, 115, 104, 120]⟩ : ByteArray), .string (⟨#[120, 111, 114, 120]⟩ : ByteArray), .string (⟨#[110, 101, 103]⟩ : ByteArray), .string (⟨#[116, 97, 120]⟩ : ByteArray), .string (⟨#[116, 120, 97]⟩ : ByteArray), .string (⟨#[97, 98, 115]⟩ : ByteArray), .string (⟨#[109, 101, 109]⟩ : ByteArray), .string (⟨#[109, 101, 109, 120]⟩ : ByteArray), .string (⟨#[106, 97]⟩ : ByteArray), .string (⟨#[114, 101, 116]⟩ : ByteArray), .string (⟨#[114, 101, 116, 97]⟩ : ByteArray), .string (⟨#[106, 101, 113]⟩ : ByteArray), .string (⟨#[106, 103, 116]⟩ : ByteArray), .string (⟨#[106, 103, 101]⟩ : ByteArray), .string (⟨#[106, 115, 101, 116]⟩ : ByteArray), .string (⟨#[106, 101, 113, 120]⟩ : ByteArray), .string (⟨#[106, 103, 116, 120]⟩ : ByteArray), .string (⟨#[106, 103, 101, 120]⟩ : ByteArray), .string (⟨#[106, 115, 101, 116, 120]⟩ : ByteArray)]) (ok := fun _ => True) (okp := fun _ => True) ?hr ?hp (fun _ hk => hk) trivial (Below.refl _ _) (Nat.le_refl _) (by simp) ?_; (case hd => rfl); (case hg => rfl); (case hr => first | (go_simp; done) | (go_simp; rfl)); (case hp => exact (Reps.one (show Kd.M Kd.string _ _ _ (⟨#[108, 100]⟩ : ByteArray) [.string (⟨#[108, 100]⟩ : ByteArray)] from rfl) (Reps.one (show Kd.M Kd.string _ _ _ (⟨#[108, 100, 120]⟩ : ByteArray) [.string (⟨#[108, 100, 120]⟩ : ByteArray)] from rfl) (Reps.one (show Kd.M Kd.string _ _ _ (⟨#[115, 116]⟩ : ByteArray) [.string (⟨#[115, 116]⟩ : ByteArray)] from rfl) (Reps.one (show Kd.M Kd.string _ _ _ (⟨#[115, 116, 120]⟩ : ByteArray) [.string (⟨#[115, 116, 120]⟩ : ByteArray)] from rfl) (Reps.one (show Kd.M Kd.string _ _ _ (⟨#[97, 100, 100]⟩ : ByteArray) [.string (⟨#[97, 100, 100]⟩ : ByteArray)] from rfl) (Reps.one (show Kd.M Kd.string _ _ _ (⟨#[115, 117, 98]⟩ : ByteArray) [.string (⟨#[115, 117, 98]⟩ : ByteArray)] from rfl) (Reps.one (show Kd.M Kd.string _ _ _ (⟨#[109, 117, 108]⟩ : ByteArray) [.string (⟨#[109, 117, 108]⟩ : ByteArray)] from rfl) (Reps.one (show Kd.M Kd.string _ _ _ (⟨#[100, 105, 118]⟩ : ByteArray) [.string (⟨#[100, 105, 118]⟩ : ByteArray)] from rfl) (Reps.one (show Kd.M Kd.string _ _ _ (⟨#[111, 114]⟩ : ByteArray) [.string (⟨#[111, 114]⟩ : ByteArray)] from rfl) (Reps.one (show Kd.M Kd.string _ _ _ (⟨#[97, 110, 100]⟩ : ByteArray) [.string (⟨#[97, 110, 100]⟩ : ByteArray)] from rfl) (Reps.one (show Kd.M Kd.string _ _ _ (⟨#[108, 115, 104]⟩ : ByteArray) [.string (⟨#[108, 115, 104]⟩ : ByteArray)] from rfl) (Reps.one (show Kd.M Kd.string _ _ _ (⟨#[114, 115, 104]⟩ : ByteArray) [.string (⟨#[114, 115, 104]⟩ : ByteArray)] from rfl) (Reps.one (show Kd.M Kd.string _ _ _ (⟨#[120, 111, 114]⟩ : ByteArray) [.string (⟨#[120, 111, 114]⟩ : ByteArray)] from rfl) (Reps.one (show Kd.M Kd.string _ _ _ (⟨#[97, 100, 100, 120]⟩ : ByteArray) [.string (⟨#[97, 100, 100, 120]⟩ : ByteArray)] from rfl) (Reps.one (show Kd.M Kd.string _ _ _ (⟨#[115, 117, 98, 120]⟩ : ByteArray) [.string (⟨#[115, 117, 98, 120]⟩ : ByteArray)] from rfl) (Reps.one (show Kd.M Kd.string _ _ _ (⟨#[109, 117, 108, 120]⟩ : ByteArray) [.string (⟨#[109, 117, 108, 120]⟩ : ByteArray)] from rfl) (Reps.one (show Kd.M Kd.string _ _ _ (⟨#[100, 105, 118, 120]⟩ : ByteArray) [.string (⟨#[100, 105, 118, 120]⟩ : ByteArray)] from rfl) (Reps.one (show Kd.M Kd.string _ _ _ (⟨#[111, 114, 120]⟩ : ByteArray) [.string (⟨#[111, 114, 120]⟩ : ByteArray)] from rfl) (Reps.one (show Kd.M Kd.string _ _ _ (⟨#[97, 110, 100, 120]⟩ : ByteArray) [.string (⟨#[97, 110, 100, 120]⟩ : ByteArray)] from rfl) (Reps.one (show Kd.M Kd.string _ _ _ (⟨#[108, 115, 104, 120]⟩ : ByteArray) [.string (⟨#[108, 115, 104, 120]⟩ : ByteArray)] from rfl) (Reps.one (show Kd.M Kd.string _ _ _ (⟨#[114, 115, 104, 120]⟩ : ByteArray) [.string (⟨#[114, 115, 104, 120]⟩ : ByteArray)] from rfl) (Reps.one (show Kd.M Kd.string _ _ _ (⟨#[120, 111, 114, 120]⟩ : ByteArray) [.string (⟨#[120, 111, 114, 120]⟩ : ByteArray)] from rfl) (Reps.one (show Kd.M Kd.string _ _ _ (⟨#[110, 101, 103]⟩ : ByteArray) [.string (⟨#[110, 101, 103]⟩ : ByteArray)] from rfl) (Reps.one (show Kd.M Kd.string _ _ _ (⟨#[116, 97, 120]⟩ : ByteArray) [.string (⟨#[116, 97, 120]⟩ : ByteArray)] from rfl) (Reps.one (show Kd.M Kd.string _ _ _ (⟨#[116, 120, 97]⟩ : ByteArray) [.string (⟨#[116, 120, 97]⟩ : ByteArray)] from rfl) (Reps.one (show Kd.M Kd.string _ _ _ (⟨#[97, 98, 115]⟩ : ByteArray) [.string (⟨#[97, 98, 115]⟩ : ByteArray)] from rfl) (Reps.one (show Kd.M Kd.string _ _ _ (⟨#[109, 101, 109]⟩ : ByteArray) [.string (⟨#[109, 101, 109]⟩ : ByteArray)] from rfl) (Reps.one (show Kd.M Kd.string _ _ _ (⟨#[109, 101, 109, 120]⟩ : ByteArray) [.string (⟨#[109, 101, 109, 120]⟩ : ByteArray)] from rfl) (Reps.one (show Kd.M Kd.string _ _ _ (⟨#[106, 97]⟩ : ByteArray) [.string (⟨#[106, 97]⟩ : ByteArray)] from rfl) (Reps.one (show Kd.M Kd.string _ _ _ (⟨#[114, 101, 116]⟩ : ByteArray) [.string (⟨#[114, 101, 116]⟩ : ByteArray)] from rfl) (Reps.one (show Kd.M Kd.string _ _ _ (⟨#[114, 101, 116, 97]⟩ : ByteArray) [.string (⟨#[114, 101, 116, 97]⟩ : ByteArray)] from rfl) (Reps.one (show Kd.M Kd.string _ _ _ (⟨#[106, 101, 113]⟩ : ByteArray) [.string (⟨#[106, 101, 113]⟩ : ByteArray)] from rfl) (Reps.one (show Kd.M Kd.string _ _ _ (⟨#[106, 103, 116]⟩ : ByteArray) [.string (⟨#[106, 103, 116]⟩ : ByteArray)] from rfl) (Reps.one (show Kd.M Kd.string _ _ _ (⟨#[106, 103, 101]⟩ : ByteArray) [.string (⟨#[106, 103, 101]⟩ : ByteArray)] from rfl) (Reps.one (show Kd.M Kd.string _ _ _ (⟨#[106, 115, 101, 116]⟩ : ByteArray) [.string (⟨#[106, 115, 101, 116]⟩ : ByteArray)] from rfl) (Reps.one (show Kd.M Kd.string _ _ _ (⟨#[106, 101, 113, 120]⟩ : ByteArray) [.string (⟨#[106, 101, 113, 120]⟩ : ByteArray)] from rfl) (Reps.one (show Kd.M Kd.string _ _ _ (⟨#[106, 103, 116, 120]⟩ : ByteArray) [.string (⟨#[106, 103, 116, 120]⟩ : ByteArray)] from rfl) (Reps.one (show Kd.M Kd.string _ _ _ (⟨#[106, 103, 101, 120]⟩ : ByteArray) [.string (⟨#[106, 103, 101, 120]⟩ : ByteArray)] from rfl) (Reps.one (show Kd.M Kd.string _ _ _ (⟨#[106, 115, 101, 116, 120]⟩ : ByteArray) [.string (⟨#[106, 115, 101, 116, 120]⟩ : ByteArray)] from rfl) (Reps.none _ _))))))))))))))))))))))))))))))))))))))))); intro v172 w1 ho2 hb hg_ hnew_; clear hg_ hnew_; (first | rw [← Ny171.out] at ho2 | (simp only [Int.reduceToNat] at ho2; rw [← Ny171.out] at ho2)); have n0_ := Aside0.mk (Kd.R_lower ho2 (below_size (by repeat (first | (with_reducible first | exact HB.out | apply below_alloc | apply pw_below_drewN | apply below_drew1) | exact HB.out)))); have n1_ := Aside0.mk (below_step (by repeat (first | (with_reducible first | exact HB.out | apply below_alloc | apply pw_below_drewN | apply below_drew1) | exact HB.out)) hb); clear HB; have HO173 := n0_; have HB := n1_; clear n0_ n1_; clear hb ho2))
  go_ret
  exact ⟨_, by first | rfl | (simp [errW_none, errW_some] <;> rfl) | (simp [*, errW_none, errW_some] <;> rfl), by (with_reducible repeat (first | apply Kd.R_alloc | apply Kd.R_drewN | apply Kd.R_drew)); exact HO173.out, by repeat (first | (with_reducible first | exact HB.out | apply below_alloc | apply pw_below_drewN | apply below_drew1) | exact HB.out)⟩

end Go.Proofs.YtbgneakihibmbaaDoor.M
