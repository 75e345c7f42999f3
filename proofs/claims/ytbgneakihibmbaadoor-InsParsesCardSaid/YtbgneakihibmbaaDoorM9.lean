/- By a program of this session: what Go functions of the seat compute, as Lean functions, each with a proof that the call of the Go function comes to that. -/
import Derived.Test.YtbgneakihibmbaaDoorM0
import Derived.Test.YtbgneakihibmbaaDoorM1
import Derived.Test.YtbgneakihibmbaaDoorM3
import Derived.Test.YtbgneakihibmbaaDoorM5
import Derived.Test.YtbgneakihibmbaaDoorM7
import Derived.Test.YtbgneakihibmbaaDoorM8
namespace Go.Proofs.YtbgneakihibmbaaDoor.M
open Go.RowKit Go.Proofs.YtbgneakihibmbaaDoorW.PrintWords Go.Proofs.YtbgneakihibmbaaDoorW.PrintLast Go.Proofs.YtbgneakihibmbaaDoorW.PrintMore
attribute [local go_sem] max2_int min2_int max_two min_two max_three min_three max_four min_four   -- for this text's walks alone
set_option linter.unusedVariables false
set_option linter.unusedSimpArgs false

attribute [local go_sem high] eqA24
/-! ### hurdlelaw02_knows: function 12 -/
def hurdlelaw02_knows.f (k : Nat)  : Option (Bool) := (ins_Parse.f (⟨#[106, 101, 113, 32, 48, 120, 53, 32, 48, 120, 49, 32, 48, 120, 48]⟩ : ByteArray)).bind fun bt146 => ((ins_Print.f k 6 0 0 2147418112).bind fun bt152 => ((ins_Alu.f 12 0 0 0).bind fun bt154 => (if (bt146.1 == 21 && (bt146.2.1 == 1 && (bt146.2.2.1 == 0 && (bt146.2.2.2.1 == 5)))) = true then (if bt146.2.2.2.2 = 0 then (if bt152.1.toList = ([114, 101, 116, 32, 48, 120, 55, 102, 102, 102, 48, 48, 48, 48] : List UInt8) then (if bt152.2 = 0 then (if bt154.1 = 4 then (if bt154.2.1 = true then (if bt154.2.2 = true then ((ins_Branch.f bt146.1 bt146.2.1 bt146.2.2.1 bt146.2.2.2.1).bind fun t157 => (if t157 = true then ((ins_Ends.f 22 0 0 0).bind fun t158 => (if t158 = true then ((ins_Right.f k bt146.1 bt146.2.1 bt146.2.2.1 bt146.2.2.2.1).bind fun t159 => (some t159)) else (none))) else (none))) else (none)) else (none)) else (none)) else (none)) else (none)) else (none)) else (none))))
theorem hurdlelaw02_knows.mono : ∀ k, LeO (hurdlelaw02_knows.f k ) (hurdlelaw02_knows.f (k + 1) ) := by
  intro  k
  unfold hurdlelaw02_knows.f
  repeat' first
      | (with_reducible exact ins_Print.mono _ _ _ _ _)
      | (with_reducible exact ins_Right.mono _ _ _ _ _)
      | (with_reducible exact LeO.refl _)
      | (with_reducible exact LeO.none _)
      | (with_reducible refine LeO.ite ?_ ?_)
      | (with_reducible refine LeO.bind ?_ (fun _ => ?_))
      | exact ins_Print.mono _ _ _ _ _
      | exact ins_Right.mono _ _ _ _ _
      | exact LeO.none _
      | refine LeO.ite ?_ ?_
      | refine LeO.bind ?_ (fun _ => ?_)
set_option maxHeartbeats 8000000 in
set_option maxRecDepth 100000 in
theorem hurdlelaw02_knows.calls (k : Nat)  (r : Bool) (w : World) (hG : Glob w) (h : hurdlelaw02_knows.f k  = some r) :
    Calls Tryd.prog 12 #[] w fun e w' => e = .returned (.bool r) ∧ Below w.heap.size w w' := by
  have hu24 := Tryd.underlying24
  have HG := Aside0.mk hG
  clear hG
  have HB := Aside0.mk (Below.refl w.heap.size w)
  have H : ((ins_Parse.f (⟨#[106, 101, 113, 32, 48, 120, 53, 32, 48, 120, 49, 32, 48, 120, 48]⟩ : ByteArray)).bind fun bt146 => ((ins_Print.f k 6 0 0 2147418112).bind fun bt152 => ((ins_Alu.f 12 0 0 0).bind fun bt154 => (if (bt146.1 == 21 && (bt146.2.1 == 1 && (bt146.2.2.1 == 0 && (bt146.2.2.2.1 == 5)))) = true then (if bt146.2.2.2.2 = 0 then (if bt152.1.toList = ([114, 101, 116, 32, 48, 120, 55, 102, 102, 102, 48, 48, 48, 48] : List UInt8) then (if bt152.2 = 0 then (if bt154.1 = 4 then (if bt154.2.1 = true then (if bt154.2.2 = true then ((ins_Branch.f bt146.1 bt146.2.1 bt146.2.2.1 bt146.2.2.2.1).bind fun t157 => (if t157 = true then ((ins_Ends.f 22 0 0 0).bind fun t158 => (if t158 = true then ((ins_Right.f k bt146.1 bt146.2.1 bt146.2.2.1 bt146.2.2.2.1).bind fun t159 => (some t159)) else (none))) else (none))) else (none)) else (none)) else (none)) else (none)) else (none)) else (none)) else (none))))) = some r := h
  clear h
  replace H := Option.bind_eq_some_iff.mp H
  obtain ⟨⟨t146, t147, t148, t149, t150⟩, A10, H⟩ := H
  replace H : ((ins_Print.f k 6 0 0 2147418112).bind fun bt152 => ((ins_Alu.f 12 0 0 0).bind fun bt154 => (if (t146 == 21 && (t147 == 1 && (t148 == 0 && (t149 == 5)))) = true then (if t150 = 0 then (if bt152.1.toList = ([114, 101, 116, 32, 48, 120, 55, 102, 102, 102, 48, 48, 48, 48] : List UInt8) then (if bt152.2 = 0 then (if bt154.1 = 4 then (if bt154.2.1 = true then (if bt154.2.2 = true then ((ins_Branch.f t146 t147 t148 t149).bind fun t157 => (if t157 = true then ((ins_Ends.f 22 0 0 0).bind fun t158 => (if t158 = true then ((ins_Right.f k t146 t147 t148 t149).bind fun t159 => (some t159)) else (none))) else (none))) else (none)) else (none)) else (none)) else (none)) else (none)) else (none)) else (none)))) = some r := H
  have A1 := Aside0.mk A10
  clear A10
  replace H := Option.bind_eq_some_iff.mp H
  obtain ⟨⟨t152, t153⟩, A20, H⟩ := H
  replace H : ((ins_Alu.f 12 0 0 0).bind fun bt154 => (if (t146 == 21 && (t147 == 1 && (t148 == 0 && (t149 == 5)))) = true then (if t150 = 0 then (if t152.toList = ([114, 101, 116, 32, 48, 120, 55, 102, 102, 102, 48, 48, 48, 48] : List UInt8) then (if t153 = 0 then (if bt154.1 = 4 then (if bt154.2.1 = true then (if bt154.2.2 = true then ((ins_Branch.f t146 t147 t148 t149).bind fun t157 => (if t157 = true then ((ins_Ends.f 22 0 0 0).bind fun t158 => (if t158 = true then ((ins_Right.f k t146 t147 t148 t149).bind fun t159 => (some t159)) else (none))) else (none))) else (none)) else (none)) else (none)) else (none)) else (none)) else (none)) else (none))) = some r := H
  have A2 := Aside0.mk A20
  clear A20
  replace H := Option.bind_eq_some_iff.mp H
  obtain ⟨⟨t154, t155, t156⟩, A30, H⟩ := H
  replace H : (if (t146 == 21 && (t147 == 1 && (t148 == 0 && (t149 == 5)))) = true then (if t150 = 0 then (if t152.toList = ([114, 101, 116, 32, 48, 120, 55, 102, 102, 102, 48, 48, 48, 48] : List UInt8) then (if t153 = 0 then (if t154 = 4 then (if t155 = true then (if t156 = true then ((ins_Branch.f t146 t147 t148 t149).bind fun t157 => (if t157 = true then ((ins_Ends.f 22 0 0 0).bind fun t158 => (if t158 = true then ((ins_Right.f k t146 t147 t148 t149).bind fun t159 => (some t159)) else (none))) else (none))) else (none)) else (none)) else (none)) else (none)) else (none)) else (none)) else (none)) = some r := H
  have A3 := Aside0.mk A30
  clear A30
  by_cases c4 : (t146 == 21 && (t147 == 1 && (t148 == 0 && (t149 == 5)))) = true
  · rw [if_pos c4] at H
    have c4b0 : (t146 == 21 && (t147 == 1 && (t148 == 0 && (t149 == 5)))) = true := c4
    (try (have c4b1 : decide (t146 = 21 && (t147 == 1 && (t148 == 0 && (t149 == 5)))) = true := by simpa using c4))
    (try (have c4b2 : (t146 == 21 && (t147 == 1 && (t148 == 0 && (t149 == 5)))) = true := by simpa using c4))
    clear c4
    by_cases c5 : t150 = 0
    · rw [if_pos c5] at H
      have c5b0 : (t150 == 0) = true := beq_iff_eq.mpr c5
      have c5b1 : (t150 != 0) = false := bne_eq_false_iff_eq.mpr c5
      clear c5
      by_cases c6 : t152.toList = ([114, 101, 116, 32, 48, 120, 55, 102, 102, 102, 48, 48, 48, 48] : List UInt8)
      · rw [if_pos c6] at H
        have c6b0 : (t152.toList == ([114, 101, 116, 32, 48, 120, 55, 102, 102, 102, 48, 48, 48, 48] : List UInt8)) = true := beq_iff_eq.mpr c6
        have c6b1 : (t152.toList != ([114, 101, 116, 32, 48, 120, 55, 102, 102, 102, 48, 48, 48, 48] : List UInt8)) = false := bne_eq_false_iff_eq.mpr c6
        clear c6
        by_cases c7 : t153 = 0
        · rw [if_pos c7] at H
          have c7b0 : (t153 == 0) = true := beq_iff_eq.mpr c7
          have c7b1 : (t153 != 0) = false := bne_eq_false_iff_eq.mpr c7
          clear c7
          by_cases c8 : t154 = 4
          · rw [if_pos c8] at H
            have c8b0 : (t154 == 4) = true := beq_iff_eq.mpr c8
            have c8b1 : (t154 != 4) = false := bne_eq_false_iff_eq.mpr c8
            clear c8
            by_cases c9 : t155 = true
            · subst c9
              have H1 : (if t156 = true then ((ins_Branch.f t146 t147 t148 t149).bind fun t157 => (if t157 = true then ((ins_Ends.f 22 0 0 0).bind fun t158 => (if t158 = true then ((ins_Right.f k t146 t147 t148 t149).bind fun t159 => (some t159)) else (none))) else (none))) else (none)) = some r := by rw [if_pos rfl] at H; exact H
              clear H
              have H := H1
              clear H1
              by_cases c10 : t156 = true
              · subst c10
                have H1 : ((ins_Branch.f t146 t147 t148 t149).bind fun t157 => (if t157 = true then ((ins_Ends.f 22 0 0 0).bind fun t158 => (if t158 = true then ((ins_Right.f k t146 t147 t148 t149).bind fun t159 => (some t159)) else (none))) else (none))) = some r := by rw [if_pos rfl] at H; exact H
                clear H
                have H := H1
                clear H1
                replace H := Option.bind_eq_some_iff.mp H
                obtain ⟨t157, A110, H⟩ := H
                replace H : (if t157 = true then ((ins_Ends.f 22 0 0 0).bind fun t158 => (if t158 = true then ((ins_Right.f k t146 t147 t148 t149).bind fun t159 => (some t159)) else (none))) else (none)) = some r := H
                have A11 := Aside0.mk A110
                clear A110
                by_cases c12 : t157 = true
                · subst c12
                  have H1 : ((ins_Ends.f 22 0 0 0).bind fun t158 => (if t158 = true then ((ins_Right.f k t146 t147 t148 t149).bind fun t159 => (some t159)) else (none))) = some r := by rw [if_pos rfl] at H; exact H
                  clear H
                  have H := H1
                  clear H1
                  replace H := Option.bind_eq_some_iff.mp H
                  obtain ⟨t158, A130, H⟩ := H
                  replace H : (if t158 = true then ((ins_Right.f k t146 t147 t148 t149).bind fun t159 => (some t159)) else (none)) = some r := H
                  have A13 := Aside0.mk A130
                  clear A130
                  by_cases c14 : t158 = true
                  · subst c14
                    have H1 : ((ins_Right.f k t146 t147 t148 t149).bind fun t159 => (some t159)) = some r := by rw [if_pos rfl] at H; exact H
                    clear H
                    have H := H1
                    clear H1
                    replace H := Option.bind_eq_some_iff.mp H
                    obtain ⟨t159, A150, H⟩ := H
                    replace H : (some t159) = some r := H
                    have A15 := Aside0.mk A150
                    clear A150
                    obtain rfl := Option.some.inj H
                    go_enter Tryd.func12, Tryd.ntmps12
                    go_wp2_with (first | ((with_reducible refine gate_callee (f := 14) rfl ?_); refine goesL_ (some 9) rfl rfl Tryd.func14 (by kernel_rfl) rfl #[.string (⟨#[106, 101, 113, 32, 48, 120, 53, 32, 48, 120, 49, 32, 48, 120, 48]⟩ : ByteArray)] rfl (by (try simp only [List.map_toArray, List.map_cons, List.map_nil]); first | done | rfl | (simp only [List.length_drop, List.length_take]; rfl)) ?_; (with_reducible refine (ins_Parse.calls (⟨#[106, 101, 113, 32, 48, 120, 53, 32, 48, 120, 49, 32, 48, 120, 48]⟩ : ByteArray) t146 t147 t148 t149 t150 _ ?side1 A1.out).mono ?_); (case side1 => exact Glob.below HG.out (by repeat (first | (with_reducible first | exact HB.out | apply below_alloc | apply pw_below_drewN | apply below_drew1) | exact HB.out))); rintro e w16 ⟨rfl, hb⟩; refine ⟨_, rfl, ?_⟩; have n0_ := Aside0.mk (below_step (by repeat (first | (with_reducible first | exact HB.out | apply below_alloc | apply pw_below_drewN | apply below_drew1) | exact HB.out)) hb); clear HB; have HB := n0_; clear n0_; (try clear hb); (try clear hb2); (try clear hk); (try clear hi)) | ((with_reducible refine gate_dst (N := 1) rfl ?_); refine box_event ?hg (N := 1) ?hd (cs := #[.int .i64 0, .int .i64 0, .int .i64 0, .int .u32 0]) (t := 24) ?hr ?_; (case hd => rfl); (case hg => rfl); (case hr => first | (go_simp; done) | (go_simp; rfl)); intro gb151 hg w17 hbox hb; have n0_ := Aside0.mk (below_step (by repeat (first | (with_reducible first | exact HB.out | apply below_alloc | apply pw_below_drewN | apply below_drew1) | exact HB.out)) hb); have n1_ := Aside0.mk (hbox); have n2_ := Aside0.mk ((by rw [hg]; exact (below_size (by repeat (first | (with_reducible first | exact HB.out | apply below_alloc | apply pw_below_drewN | apply below_drew1) | exact HB.out))) : w.heap.size ≤ gb151)); have n3_ := Aside0.mk ((by rw [hg]; exact (below_size (by repeat (first | (with_reducible first | exact HB.out | apply below_alloc | apply pw_below_drewN | apply below_drew1) | exact HB.out))) : w.heap.size ≤ gb151)); clear HB; have HB := n0_; have BK151 := n1_; have GW151 := n2_; have GE151 := n3_; clear n0_ n1_ n2_ n3_; clear hb hbox hg; have hcz18_0 : w17.cell? ⟨gb151, 0, none⟩ = some (.int .i64 0) := (blk_cell BK151.out 0).trans rfl; have hcz18_1 : w17.cell? ⟨gb151, 1, none⟩ = some (.int .i64 0) := (blk_cell BK151.out 1).trans rfl; have hcz18_2 : w17.cell? ⟨gb151, 2, none⟩ = some (.int .i64 0) := (blk_cell BK151.out 2).trans rfl; have hcz18_3 : w17.cell? ⟨gb151, 3, none⟩ = some (.int .u32 0) := (blk_cell BK151.out 3).trans rfl; have hfz18_0 := blk_frozen BK151.out 0; have hfz18_1 := blk_frozen BK151.out 1; have hfz18_2 := blk_frozen BK151.out 2; have hfz18_3 := blk_frozen BK151.out 3) | ((with_reducible refine gate_callee (f := 9) rfl ?_); refine goesL_ (some 14) rfl rfl Tryd.func9 (by kernel_rfl) rfl #[.agg #[.int .i64 6, .int .i64 0, .int .i64 0, .int .u32 2147418112]] rfl (by (try simp only [List.map_toArray, List.map_cons, List.map_nil]); first | done | rfl | (simp only [List.length_drop, List.length_take]; rfl)) ?_; (with_reducible refine (ins_Print.calls k 6 0 0 2147418112 t152 t153 _ ?side1 A2.out).mono ?_); (case side1 => exact Glob.below HG.out (by repeat (first | (with_reducible first | exact HB.out | apply below_alloc | apply pw_below_drewN | apply below_drew1 | refine below_set ?_ GE151.out) | exact HB.out))); rintro e w19 ⟨rfl, hb⟩; refine ⟨_, rfl, ?_⟩; have n0_ := Aside0.mk (blk_below (g := gb151) (o := .cells #[.int .i64 t146, .int .i64 t147, .int .i64 t148, .int .u32 t149] 24 (0, 0)) (by (with_reducible repeat (first | refine blk_drewN ?_ _ | refine blk_drew ?_ | refine blk_alloc ?_ _)); refine blk_put (cs := #[.int .i64 t146, .int .i64 t147, .int .i64 t148, .int .u32 0]) ?_ 3 _ rfl; (with_reducible repeat (first | refine blk_drewN ?_ _ | refine blk_drew ?_ | refine blk_alloc ?_ _)); refine blk_put (cs := #[.int .i64 t146, .int .i64 t147, .int .i64 0, .int .u32 0]) ?_ 2 _ rfl; (with_reducible repeat (first | refine blk_drewN ?_ _ | refine blk_drew ?_ | refine blk_alloc ?_ _)); refine blk_put (cs := #[.int .i64 t146, .int .i64 0, .int .i64 0, .int .u32 0]) ?_ 1 _ rfl; (with_reducible repeat (first | refine blk_drewN ?_ _ | refine blk_drew ?_ | refine blk_alloc ?_ _)); refine blk_put (cs := #[.int .i64 0, .int .i64 0, .int .i64 0, .int .u32 0]) ?_ 0 _ rfl; (with_reducible repeat (first | refine blk_drewN ?_ _ | refine blk_drew ?_ | refine blk_alloc ?_ _)); exact BK151.out) hb); have n1_ := Aside0.mk (below_step (by repeat (first | (with_reducible first | exact HB.out | apply below_alloc | apply pw_below_drewN | apply below_drew1 | refine below_set ?_ GE151.out) | exact HB.out)) hb); clear BK151; clear HB; have BK151 := n0_; have HB := n1_; clear n0_ n1_; (try clear hb); (try clear hb2); (try clear hk); (try clear hi)) | ((with_reducible refine gate_callee (f := 16) rfl ?_); refine goesL_ (some 19) rfl rfl Tryd.func16 (by kernel_rfl) rfl #[.agg #[.int .i64 12, .int .i64 0, .int .i64 0, .int .u32 0]] rfl (by (try simp only [List.map_toArray, List.map_cons, List.map_nil]); first | done | rfl | (simp only [List.length_drop, List.length_take]; rfl)) ?_; (with_reducible refine (ins_Alu.calls 12 0 0 0 t154 true true _ ?side1 A3.out).mono ?_); (case side1 => exact Glob.below HG.out (by repeat (first | (with_reducible first | exact HB.out | apply below_alloc | apply pw_below_drewN | apply below_drew1 | refine below_set ?_ GE151.out) | exact HB.out))); rintro e w20 ⟨rfl, hb⟩; refine ⟨_, rfl, ?_⟩; have n0_ := Aside0.mk (blk_below (g := gb151) (o := .cells #[.int .i64 t146, .int .i64 t147, .int .i64 t148, .int .u32 t149] 24 (0, 0)) (by (with_reducible repeat (first | refine blk_drewN ?_ _ | refine blk_drew ?_ | refine blk_alloc ?_ _)); exact BK151.out) hb); have n1_ := Aside0.mk (below_step (by repeat (first | (with_reducible first | exact HB.out | apply below_alloc | apply pw_below_drewN | apply below_drew1 | refine below_set ?_ GE151.out) | exact HB.out)) hb); clear BK151; clear HB; have BK151 := n0_; have HB := n1_; clear n0_ n1_; (try clear hb); (try clear hb2); (try clear hk); (try clear hi); have hcz21_0 : w20.cell? ⟨gb151, 0, none⟩ = some (.int .i64 t146) := (blk_cell BK151.out 0).trans rfl; have hcz21_1 : w20.cell? ⟨gb151, 1, none⟩ = some (.int .i64 t147) := (blk_cell BK151.out 1).trans rfl; have hcz21_2 : w20.cell? ⟨gb151, 2, none⟩ = some (.int .i64 t148) := (blk_cell BK151.out 2).trans rfl; have hcz21_3 : w20.cell? ⟨gb151, 3, none⟩ = some (.int .u32 t149) := (blk_cell BK151.out 3).trans rfl; have hfz21_0 := blk_frozen BK151.out 0; have hfz21_1 := blk_frozen BK151.out 1; have hfz21_2 := blk_frozen BK151.out 2; have hfz21_3 := blk_frozen BK151.out 3) | (go_at_call 18; (with_reducible refine (ins_Branch.calls t146 t147 t148 t149 true _ ?side1 A11.out).mono ?_); (case side1 => exact Glob.below HG.out (by repeat (first | (with_reducible first | exact HB.out | apply below_alloc | apply pw_below_drewN | apply below_drew1 | refine below_set ?_ GE151.out) | exact HB.out))); rintro e w22 ⟨rfl, hb⟩; have n0_ := Aside0.mk (blk_below (g := gb151) (o := .cells #[.int .i64 t146, .int .i64 t147, .int .i64 t148, .int .u32 t149] 24 (0, 0)) (by (with_reducible repeat (first | refine blk_drewN ?_ _ | refine blk_drew ?_ | refine blk_alloc ?_ _)); exact BK151.out) hb); have n1_ := Aside0.mk (below_step (by repeat (first | (with_reducible first | exact HB.out | apply below_alloc | apply pw_below_drewN | apply below_drew1 | refine below_set ?_ GE151.out) | exact HB.out)) hb); clear BK151; clear HB; have BK151 := n0_; have HB := n1_; clear n0_ n1_; (try clear hb); (try clear hb2); (try clear hk); (try clear hi)) | (go_at_call 20; (with_reducible refine (ins_Ends.calls 22 0 0 0 true _ A13.out).mono ?_); rintro e w23 ⟨rfl, hb⟩; have n0_ := Aside0.mk (blk_below (g := gb151) (o := .cells #[.int .i64 t146, .int .i64 t147, .int .i64 t148, .int .u32 t149] 24 (0, 0)) (by (with_reducible repeat (first | refine blk_drewN ?_ _ | refine blk_drew ?_ | refine blk_alloc ?_ _)); exact BK151.out) hb); have n1_ := Aside0.mk (below_step (by repeat (first | (with_reducible first | exact HB.out | apply below_alloc | apply pw_below_drewN | apply below_drew1 | refine below_set ?_ GE151.out) | exact HB.out)) hb); clear BK151; clear HB; have BK151 := n0_; have HB := n1_; clear n0_ n1_; (try clear hb); (try clear hb2); (try clear hk); (try clear hi); have hcz24_0 : w23.cell? ⟨gb151, 0, none⟩ = some (.int .i64 t146) := (blk_cell BK151.out 0).trans rfl; have hcz24_1 : w23.cell? ⟨gb151, 1, none⟩ = some (.int .i64 t147) := (blk_cell BK151.out 1).trans rfl; have hcz24_2 : w23.cell? ⟨gb151, 2, none⟩ = some (.int .i64 t148) := (blk_cell BK151.out 2).trans rfl; have hcz24_3 : w23.cell? ⟨gb151, 3, none⟩ = some (.int .u32 t149) := (blk_cell BK151.out 3).trans rfl; have hfz24_0 := blk_frozen BK151.out 0; have hfz24_1 := blk_frozen BK151.out 1; have hfz24_2 := blk_frozen BK151.out 2; have hfz24_3 := blk_frozen BK151.out 3) | (go_at_call 11; (with_reducible refine (ins_Right.calls k t146 t147 t148 t149 t159 _ ?side1 A15.out).mono ?_); (case side1 => exact Glob.below HG.out (by repeat (first | (with_reducible first | exact HB.out | apply below_alloc | apply pw_below_drewN | apply below_drew1 | refine below_set ?_ GE151.out) | exact HB.out))); rintro e w25 ⟨rfl, hb⟩; have n0_ := Aside0.mk (blk_below (g := gb151) (o := .cells #[.int .i64 t146, .int .i64 t147, .int .i64 t148, .int .u32 t149] 24 (0, 0)) (by (with_reducible repeat (first | refine blk_drewN ?_ _ | refine blk_drew ?_ | refine blk_alloc ?_ _)); exact BK151.out) hb); have n1_ := Aside0.mk (below_step (by repeat (first | (with_reducible first | exact HB.out | apply below_alloc | apply pw_below_drewN | apply below_drew1 | refine below_set ?_ GE151.out) | exact HB.out)) hb); clear BK151; clear HB; have BK151 := n0_; have HB := n1_; clear n0_ n1_; (try clear hb); (try clear hb2); (try clear hk); (try clear hi)))
                    go_ret
                    exact ⟨by first | rfl | (simp [errW_none, errW_some] <;> rfl) | (simp [*, errW_none, errW_some] <;> rfl), by repeat (first | (with_reducible first | exact HB.out | apply below_alloc | apply pw_below_drewN | apply below_drew1 | refine below_set ?_ GE151.out) | exact HB.out)⟩
                  · replace c14 := Bool.eq_false_iff.mpr c14
                    subst c14
                    have H1 : (none) = some r := by rw [if_neg (show ¬ (false = true) by decide)] at H; exact H
                    clear H
                    have H := H1
                    clear H1
                    exact absurd H (by simp)
                · replace c12 := Bool.eq_false_iff.mpr c12
                  subst c12
                  have H1 : (none) = some r := by rw [if_neg (show ¬ (false = true) by decide)] at H; exact H
                  clear H
                  have H := H1
                  clear H1
                  exact absurd H (by simp)
              · replace c10 := Bool.eq_false_iff.mpr c10
                subst c10
                have H1 : (none) = some r := by rw [if_neg (show ¬ (false = true) by decide)] at H; exact H
                clear H
                have H := H1
                clear H1
                exact absurd H (by simp)
            · replace c9 := Bool.eq_false_iff.mpr c9
              subst c9
              have H1 : (none) = some r := by rw [if_neg (show ¬ (false = true) by decide)] at H; exact H
              clear H
              have H := H1
              clear H1
              exact absurd H (by simp)
          · rw [if_neg c8] at H
            exact absurd H (by simp)
        · rw [if_neg c7] at H
          exact absurd H (by simp)
      · rw [if_neg c6] at H
        exact absurd H (by simp)
    · rw [if_neg c5] at H
      exact absurd H (by simp)
  · rw [if_neg c4] at H
    exact absurd H (by simp)

/-! ### hurdleref02_Ops: function 33 -/
def hurdleref02_Ops.f  : Option (List Int) := some (([0, 1, 2, 3, 4, 20, 36, 52, 68, 84, 100, 116, 164, 12, 28, 44, 60, 76, 92, 108, 124, 172, 132, 7, 135, 32, 96, 97, 5, 6, 22, 21, 37, 53, 69, 29, 45, 61, 77] : List Int))
set_option maxHeartbeats 8000000 in
set_option maxRecDepth 100000 in
theorem hurdleref02_Ops.calls  (r : List Int) (w : World) (h : hurdleref02_Ops.f  = some r) :
    Calls Tryd.prog 33 #[] w fun e w' => ∃ v0_ : Value, e = .returned (v0_) ∧ Kd.R (Kd.int .i64) 3 w' w.heap.size (fun _ => True) v0_ r ∧ Below w.heap.size w w' := by
  have HB := Aside0.mk (Below.refl w.heap.size w)
  have H : (some (([0, 1, 2, 3, 4, 20, 36, 52, 68, 84, 100, 116, 164, 12, 28, 44, 60, 76, 92, 108, 124, 172, 132, 7, 135, 32, 96, 97, 5, 6, 22, 21, 37, 53, 69, 29, 45, 61, 77] : List Int))) = some r := h
  clear h
  obtain ⟨y160, hy160⟩ : ∃ y_ : List Int, y_ = (([0, 1, 2, 3, 4, 20, 36, 52, 68, 84, 100, 116, 164, 12, 28, 44, 60, 76, 92, 108, 124, 172, 132, 7, 135, 32, 96, 97, 5, 6, 22, 21, 37, 53, 69, 29, 45, 61, 77] : List Int)) := ⟨_, rfl⟩
  replace H : (some y160) = some r := by first | (rw [hy160]; with_reducible exact H) | (have H2_ := (Option.bind_some _ _).symm.trans H; rw [hy160]; with_reducible exact H2_) | (have H2_ := (Option.bind_some _ _).symm.trans H; with_reducible exact H2_) | with_reducible exact H | (rw [hy160]; exact H) | exact H
  have Ny160 := Aside0.mk hy160
  clear hy160
  obtain rfl := Option.some.inj H
  go_enter Tryd.func33, Tryd.ntmps33
  go_wp2_with (first | ((with_reducible refine gate_dst (N := 1) rfl ?_); refine Kd.R_lit (Kd.int .i64) _ 3 ?hg (N := 1) ?hd (xs := ([0, 1, 2, 3, 4, 20, 36, 52, 68, 84, 100, 116, 164, 12, 28, 44, 60, 76, 92, 108, 124, 172, 132, 7, 135, 32, 96, 97, 5, 6, 22, 21, 37, 53, 69, 29, 45, 61, 77] : List Int)) (inner := [.int .i64 0, .int .i64 1, .int .i64 2, .int .i64 3, .int .i64 4, .int .i64 20, .int .i64 36, .int .i64 52, .int .i64 68, .int .i64 84, .int .i64 100, .int .i64 116, .int .i64 164, .int .i64 12, .int .i64 28, .int .i64 44, .int .i64 60, .int .i64 76, .int .i64 92, .int .i64 108, .int .i64 124, .int .i64 172, .int .i64 132, .int .i64 7, .int .i64 135, .int .i64 32, .int .i64 96, .int .i64 97, .int .i64 5, .int .i64 6, .int .i64 22, .int .i64 21, .int .i64 37, .int .i64 53, .int .i64 69, .int .i64 29, .int .i64 45, .int .i64 61, .int .i64 77]) (ok := fun _ => True) (okp := fun _ => True) ?hr ?hp (fun _ hk => hk) trivial (Below.refl _ _) (Nat.le_refl _) (by simp) ?_; (case hd => rfl); (case hg => rfl); (case hr => first | (go_simp; done) | (go_simp; rfl)); (case hp => exact (Reps.one (show Kd.M (Kd.int .i64) _ _ _ 0 [.int .i64 0] from rfl) (Reps.one (show Kd.M (Kd.int .i64) _ _ _ 1 [.int .i64 1] from rfl) (Reps.one (show Kd.M (Kd.int .i64) _ _ _ 2 [.int .i64 2] from rfl) (Reps.one (show Kd.M (Kd.int .i64) _ _ _ 3 [.int .i64 3] from rfl) (Reps.one (show Kd.M (Kd.int .i64) _ _ _ 4 [.int .i64 4] from rfl) (Reps.one (show Kd.M (Kd.int .i64) _ _ _ 20 [.int .i64 20] from rfl) (Reps.one (show Kd.M (Kd.int .i64) _ _ _ 36 [.int .i64 36] from rfl) (Reps.one (show Kd.M (Kd.int .i64) _ _ _ 52 [.int .i64 52] from rfl) (Reps.one (show Kd.M (Kd.int .i64) _ _ _ 68 [.int .i64 68] from rfl) (Reps.one (show Kd.M (Kd.int .i64) _ _ _ 84 [.int .i64 84] from rfl) (Reps.one (show Kd.M (Kd.int .i64) _ _ _ 100 [.int .i64 100] from rfl) (Reps.one (show Kd.M (Kd.int .i64) _ _ _ 116 [.int .i64 116] from rfl) (Reps.one (show Kd.M (Kd.int .i64) _ _ _ 164 [.int .i64 164] from rfl) (Reps.one (show Kd.M (Kd.int .i64) _ _ _ 12 [.int .i64 12] from rfl) (Reps.one (show Kd.M (Kd.int .i64) _ _ _ 28 [.int .i64 28] from rfl) (Reps.one (show Kd.M (Kd.int .i64) _ _ _ 44 [.int .i64 44] from rfl) (Reps.one (show Kd.M (Kd.int .i64) _ _ _ 60 [.int .i64 60] from rfl) (Reps.one (show Kd.M (Kd.int .i64) _ _ _ 76 [.int .i64 76] from rfl) (Reps.one (show Kd.M (Kd.int .i64) _ _ _ 92 [.int .i64 92] from rfl) (Reps.one (show Kd.M (Kd.int .i64) _ _ _ 108 [.int .i64 108] from rfl) (Reps.one (show Kd.M (Kd.int .i64) _ _ _ 124 [.int .i64 124] from rfl) (Reps.one (show Kd.M (Kd.int .i64) _ _ _ 172 [.int .i64 172] from rfl) (Reps.one (show Kd.M (Kd.int .i64) _ _ _ 132 [.int .i64 132] from rfl) (Reps.one (show Kd.M (Kd.int .i64) _ _ _ 7 [.int .i64 7] from rfl) (Reps.one (show Kd.M (Kd.int .i64) _ _ _ 135 [.int .i64 135] from rfl) (Reps.one (show Kd.M (Kd.int .i64) _ _ _ 32 [.int .i64 32] from rfl) (Reps.one (show Kd.M (Kd.int .i64) _ _ _ 96 [.int .i64 96] from rfl) (Reps.one (show Kd.M (Kd.int .i64) _ _ _ 97 [.int .i64 97] from rfl) (Reps.one (show Kd.M (Kd.int .i64) _ _ _ 5 [.int .i64 5] from rfl) (Reps.one (show Kd.M (Kd.int .i64) _ _ _ 6 [.int .i64 6] from rfl) (Reps.one (show Kd.M (Kd.int .i64) _ _ _ 22 [.int .i64 22] from rfl) (Reps.one (show Kd.M (Kd.int .i64) _ _ _ 21 [.int .i64 21] from rfl) (Reps.one (show Kd.M (Kd.int .i64) _ _ _ 37 [.int .i64 37] from rfl) (Reps.one (show Kd.M (Kd.int .i64) _ _ _ 53 [.int .i64 53] from rfl) (Reps.one (show Kd.M (Kd.int .i64) _ _ _ 69 [.int .i64 69] from rfl) (Reps.one (show Kd.M (Kd.int .i64) _ _ _ 29 [.int .i64 29] from rfl) (Reps.one (show Kd.M (Kd.int .i64) _ _ _ 45 [.int .i64 45] from rfl) (Reps.one (show Kd.M (Kd.int .i64) _ _ _ 61 [.int .i64 61] from rfl) (Reps.one (show Kd.M (Kd.int .i64) _ _ _ 77 [.int .i64 77] from rfl) (Reps.none _ _))))))))))))))))))))))))))))))))))))))))); intro v161 w1 ho2 hb hg_ hnew_; clear hg_ hnew_; (first | rw [← Ny160.out] at ho2 | (simp only [Int.reduceToNat] at ho2; rw [← Ny160.out] at ho2)); have n0_ := Aside0.mk (Kd.R_lower ho2 (below_size (by repeat (first | (with_reducible first | exact HB.out | apply below_alloc | apply pw_below_drewN | apply below_drew1) | exact HB.out)))); have n1_ := Aside0.mk (below_step (by repeat (first | (with_reducible first | exact HB.out | apply below_alloc | apply pw_below_drewN | apply below_drew1) | exact HB.out)) hb); clear HB; have HO162 := n0_; have HB := n1_; clear n0_ n1_; clear hb ho2))
  go_ret
  exact ⟨_, by first | rfl | (simp [errW_none, errW_some] <;> rfl) | (simp [*, errW_none, errW_some] <;> rfl), by (with_reducible repeat (first | apply Kd.R_alloc | apply Kd.R_drewN | apply Kd.R_drew)); exact HO162.out, by repeat (first | (with_reducible first | exact HB.out | apply below_alloc | apply pw_below_drewN | apply below_drew1) | exact HB.out)⟩

end Go.Proofs.YtbgneakihibmbaaDoor.M
