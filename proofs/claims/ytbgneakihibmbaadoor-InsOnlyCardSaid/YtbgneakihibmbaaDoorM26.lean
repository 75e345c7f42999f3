/- By a program of this session: what Go functions of the seat compute, as Lean functions, each with a proof that the call of the Go function comes to that. -/
import Derived.Test.YtbgneakihibmbaaDoorM0
import Derived.Test.YtbgneakihibmbaaDoorM7
import Derived.Test.YtbgneakihibmbaaDoorM9
namespace Go.Proofs.YtbgneakihibmbaaDoor.M
open Go.RowKit Go.Proofs.YtbgneakihibmbaaDoorW.PrintWords Go.Proofs.YtbgneakihibmbaaDoorW.PrintLast Go.Proofs.YtbgneakihibmbaaDoorW.PrintMore
attribute [local go_sem] max2_int min2_int max_two min_two max_three min_three max_four min_four   -- for this text's walks alone
set_option linter.unusedVariables false
set_option linter.unusedSimpArgs false

/-! ### hurdleref02_Branch: function 19 -/
def hurdleref02_Branch.f (k : Nat) (a0_0 : Int) (a0_1 : Int) (a0_2 : Int) (a0_3 : Int) : Option (Bool) := (hurdleref02_place.f k a0_0).bind fun t238 => ((hurdleref02_branch.f t238).bind fun t239 => (some t239))
theorem hurdleref02_Branch.mono : ∀ a0 a1 a2 a3 k, LeO (hurdleref02_Branch.f k a0 a1 a2 a3) (hurdleref02_Branch.f (k + 1) a0 a1 a2 a3) := by
  intro a0 a1 a2 a3 k
  unfold hurdleref02_Branch.f
  repeat' first
      | (with_reducible exact hurdleref02_place.mono _ _)
      | (with_reducible exact LeO.refl _)
      | (with_reducible exact LeO.none _)
      | (with_reducible refine LeO.ite ?_ ?_)
      | (with_reducible refine LeO.bind ?_ (fun _ => ?_))
      | exact hurdleref02_place.mono _ _
      | exact LeO.none _
      | refine LeO.ite ?_ ?_
      | refine LeO.bind ?_ (fun _ => ?_)
set_option maxHeartbeats 8000000 in
set_option maxRecDepth 100000 in
theorem hurdleref02_Branch.calls (k : Nat) (a0_0 : Int) (a0_1 : Int) (a0_2 : Int) (a0_3 : Int) (r : Bool) (w : World) (h : hurdleref02_Branch.f k a0_0 a0_1 a0_2 a0_3 = some r) :
    Calls Tryd.prog 19 #[.agg #[.int .i64 a0_0, .int .i64 a0_1, .int .i64 a0_2, .int .u32 a0_3]] w fun e w' => e = .returned (.bool r) ∧ Below w.heap.size w w' := by
  have hu24 := Tryd.underlying24
  have HB := Aside0.mk (Below.refl w.heap.size w)
  have H : ((hurdleref02_place.f k a0_0).bind fun t238 => ((hurdleref02_branch.f t238).bind fun t239 => (some t239))) = some r := h
  clear h
  replace H := Option.bind_eq_some_iff.mp H
  obtain ⟨t238, A20, H⟩ := H
  replace H : ((hurdleref02_branch.f t238).bind fun t239 => (some t239)) = some r := H
  have A2 := Aside0.mk A20
  clear A20
  replace H := Option.bind_eq_some_iff.mp H
  obtain ⟨t239, A30, H⟩ := H
  replace H : (some t239) = some r := H
  have A3 := Aside0.mk A30
  clear A30
  obtain rfl := Option.some.inj H
  go_enter Tryd.func19, Tryd.ntmps19
  go_wp2_with (first | ((with_reducible refine gate_dst (N := 1) rfl ?_); refine box_event ?hg (N := 1) ?hd (cs := #[.int .i64 a0_0, .int .i64 a0_1, .int .i64 a0_2, .int .u32 a0_3]) (t := 24) ?hr ?_; (case hd => rfl); (case hg => rfl); (case hr => first | (go_simp; done) | (go_simp; rfl)); intro gb237 hg w4 hbox hb; have n0_ := Aside0.mk (below_step (by repeat (first | (with_reducible first | exact HB.out | apply below_alloc | apply pw_below_drewN | apply below_drew1) | exact HB.out)) hb); have n1_ := Aside0.mk (hbox); have n2_ := Aside0.mk ((by rw [hg]; exact (below_size (by repeat (first | (with_reducible first | exact HB.out | apply below_alloc | apply pw_below_drewN | apply below_drew1) | exact HB.out))) : w.heap.size ≤ gb237)); have n3_ := Aside0.mk ((by rw [hg]; exact (below_size (by repeat (first | (with_reducible first | exact HB.out | apply below_alloc | apply pw_below_drewN | apply below_drew1) | exact HB.out))) : w.heap.size ≤ gb237)); clear HB; have HB := n0_; have BK237 := n1_; have GW237 := n2_; have GE237 := n3_; clear n0_ n1_ n2_ n3_; clear hb hbox hg; have hcz5_0 : w4.cell? ⟨gb237, 0, none⟩ = some (.int .i64 a0_0) := (blk_cell BK237.out 0).trans rfl; have hcz5_1 : w4.cell? ⟨gb237, 1, none⟩ = some (.int .i64 a0_1) := (blk_cell BK237.out 1).trans rfl; have hcz5_2 : w4.cell? ⟨gb237, 2, none⟩ = some (.int .i64 a0_2) := (blk_cell BK237.out 2).trans rfl; have hcz5_3 : w4.cell? ⟨gb237, 3, none⟩ = some (.int .u32 a0_3) := (blk_cell BK237.out 3).trans rfl; have hfz5_0 := blk_frozen BK237.out 0; have hfz5_1 := blk_frozen BK237.out 1; have hfz5_2 := blk_frozen BK237.out 2; have hfz5_3 := blk_frozen BK237.out 3) | ((with_reducible refine gate_callee (f := 24) rfl ?_); refine goesL_ (some 5) rfl rfl Tryd.func24 (by kernel_rfl) rfl #[.int .i64 a0_0] rfl (by (try simp only [List.map_toArray, List.map_cons, List.map_nil]); first | done | rfl | (simp only [List.length_drop, List.length_take]; rfl)) ?_; (with_reducible refine (hurdleref02_place.calls k a0_0 t238 _ A2.out).mono ?_); rintro e w6 ⟨rfl, hb⟩; refine ⟨_, rfl, ?_⟩; have n0_ := Aside0.mk (blk_below (g := gb237) (o := .cells #[.int .i64 a0_0, .int .i64 a0_1, .int .i64 a0_2, .int .u32 a0_3] 24 (0, 0)) (by (with_reducible repeat (first | refine blk_drewN ?_ _ | refine blk_drew ?_ | refine blk_alloc ?_ _)); exact BK237.out) hb); have n1_ := Aside0.mk (below_step (by repeat (first | (with_reducible first | exact HB.out | apply below_alloc | apply pw_below_drewN | apply below_drew1 | refine below_set ?_ GE237.out) | exact HB.out)) hb); clear BK237; clear HB; have BK237 := n0_; have HB := n1_; clear n0_ n1_; (try clear hb); (try clear hb2); (try clear hk); (try clear hi)) | ((with_reducible refine gate_callee (f := 26) rfl ?_); refine goesL_ (some 6) rfl rfl Tryd.func26 (by kernel_rfl) rfl #[.int .i64 t238] rfl (by (try simp only [List.map_toArray, List.map_cons, List.map_nil]); first | done | rfl | (simp only [List.length_drop, List.length_take]; rfl)) ?_; (with_reducible refine (hurdleref02_branch.calls t238 t239 _ A3.out).mono ?_); rintro e w' ⟨rfl, ⟨nd, rfl⟩⟩; refine ⟨_, rfl, ?_⟩))
  go_ret
  exact ⟨by first | rfl | (simp [errW_none, errW_some] <;> rfl) | (simp [*, errW_none, errW_some] <;> rfl), by repeat (first | (with_reducible first | exact HB.out | apply below_alloc | apply pw_below_drewN | apply below_drew1 | refine below_set ?_ GE237.out) | exact HB.out)⟩

end Go.Proofs.YtbgneakihibmbaaDoor.M
