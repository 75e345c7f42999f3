/- What Go functions compute; their calls come to it. No condition. -/
import Derived.Test.YtohpbjnihmcelaaDoorM0
import Derived.Test.YtohpbjnihmcelaaDoorM26
namespace Go.Proofs.YtohpbjnihmcelaaDoor.M
open Go.RowKit Go.Proofs.YtohpbjnihmcelaaDoorW.PrintWords Go.Proofs.YtohpbjnihmcelaaDoorW.PrintLast Go.Proofs.YtohpbjnihmcelaaDoorW.PrintMore
attribute [local go_sem] max2_int min2_int max_two min_two max_three min_three max_four min_four   -- for this text's walks alone
set_option linter.unusedVariables false
set_option linter.unusedSimpArgs false
def r06_Run.f (k : Nat) (l0 : List (S45)) (a1_0 : Int) (a1_1 : Int) (a1_2 : Int) (a1_3 : List Int) : Option (Int × Int) := (r06_From.f k l0 0 0 ([] : List Int) 0 a1_0 a1_1 a1_2 a1_3).bind fun bt271 => (some (bt271.1, bt271.2))
theorem r06_Run.mono : ∀ a0 a1 a2 a3 a4 k, LeO (r06_Run.f k a0 a1 a2 a3 a4) (r06_Run.f (k + 1) a0 a1 a2 a3 a4) := by
 intro a0 a1 a2 a3 a4 k
 unfold r06_Run.f
 repeat' first
   | (with_reducible apply r06_From.mono)
   | (with_reducible exact LeO.refl _)
   | (with_reducible exact LeO.none _)
   | (with_reducible refine LeO.ite ?_ ?_)
   | (with_reducible refine LeO.bind ?_ (fun _ => ?_))
   | apply r06_From.mono
   | exact LeO.none _
   | refine LeO.ite ?_ ?_
   | refine LeO.bind ?_ (fun _ => ?_)
set_option maxHeartbeats 8000000 in
set_option maxRecDepth 100000 in
theorem r06_Run.calls (k : Nat) (A0 : Option Addr) (c0 : Nat) (l0 : List (S45)) (a1_0 : Int) (a1_1 : Int) (a1_2 : Int) (a1_3 : List Int) (r1 : Int) (r2 : Int) (w : World) (hr0 : Kd.C k45 w A0 l0.length l0) (hc0 : l0.length ≤ c0) (h : r06_Run.f k l0 a1_0 a1_1 a1_2 a1_3 = some (r1, r2)) :
  Calls Tryd.prog 16 #[.slice A0 l0.length c0, .agg (arC [.int .u32 a1_0, .int .u32 a1_1, .int .u64 a1_2] .u64 6 a1_3)] w fun e w' => e = .returned (.tuple #[.int .u32 r1, .int .i64 r2]) ∧ Below w.heap.size w w' := by
 have hu38 := Tryd.underlying38
 have hu59 := Tryd.underlying59
 have HR0 := Aside0.mk hr0
 have HC0 := Aside0.mk hc0
 clear hr0 hc0
 have HB := Aside0.mk (Below.refl w.heap.size w)
 have H : ((r06_From.f k l0 0 0 ([] : List Int) 0 a1_0 a1_1 a1_2 a1_3).bind fun bt271 => (some (bt271.1, bt271.2))) = some (r1, r2) := h
 clear h
 replace H := Option.bind_eq_some_iff.mp H
 obtain ⟨⟨t271, t272⟩, A30, H⟩ := H
 try dsimp only at H
 have A3 := Aside0.mk A30
 clear A30
 simp only [Option.some.injEq, Prod.mk.injEq] at H
 obtain ⟨rfl, rfl⟩ := H
 go_enter Tryd.func16, Tryd.ntmps16
 go_wp2_with (first | ((with_reducible refine gate_dst (N := 3) rfl ?_); refine box_event rfl (N := 3) rfl (cs := (arC [.int .u32 a1_0, .int .u32 a1_1, .int .u64 a1_2] .u64 6 a1_3)) (t := 38) jW ?_; intro gb270 hg w4 hbox hb; have n0_ := Aside0.mk (zT (jH HB) hb); have n1_ := Aside0.mk hbox; have n2_ := Aside0.mk (jG hg HB); have n3_ := Aside0.mk (jG hg HB); clear HB; have HB := n0_; have BK270 := n1_; have GW270 := n2_; have GE270 := n3_; clear n0_ n1_ n2_ n3_; clear hb hbox hg) | ((with_reducible refine gate_dst (N := 8) rfl ?_); refine wpList_load_row rfl 38 (.tmp 3) rfl gb270 rfl 38 (arC [.int .u32 a1_0, .int .u32 a1_1, .int .u64 a1_2] .u64 6 a1_3) (0, 0) _ (jK BK270) Tryd.underlying38 rfl (by kernel_rfl) ?_) | ((with_reducible refine gate_callee (f := 27) rfl ?_); refine goesL_ (some 9) rfl rfl Tryd.func27 (by kernel_rfl) rfl #[.slice A0 l0.length c0, .agg (arC [.int .u32 0, .int .u32 0] .u32 16 ([] : List Int)), .int .i64 0, .agg (arC [.int .u32 a1_0, .int .u32 a1_1, .int .u64 a1_2] .u64 6 a1_3)] rfl jZ ?_; (with_reducible refine (r06_From.calls k _ _ l0 0 0 ([] : List Int) 0 a1_0 a1_1 a1_2 a1_3 t271 t272 _ ?side1 ?side2 A3.out).mono ?_); (case side1 => exact jC (Kd.C_below HR0.out HB.out)); (case side2 => exact HC0.out); rintro e w5 ⟨rfl, hb⟩; refine ⟨_, rfl, ?_⟩; have n0_ := Aside0.mk (jB BK270 hb); have n1_ := Aside0.mk (zT (jH HB) hb); clear BK270; clear HB; have BK270 := n0_; have HB := n1_; clear n0_ n1_; (try clear hb); (try clear hb2); (try clear hk); (try clear hi)))
 go_ret2
 exact ⟨jE, jH HB⟩
end Go.Proofs.YtohpbjnihmcelaaDoor.M
