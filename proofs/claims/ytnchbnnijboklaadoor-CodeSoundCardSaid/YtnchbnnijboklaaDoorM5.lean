/- By a program of this session: what Go functions of the seat compute, as Lean functions, each with a proof that the call of the Go function comes to that. -/
import Derived.Test.YtnchbnnijboklaaDoorM0
import Derived.Test.YtnchbnnijboklaaDoorM2
namespace Go.Proofs.YtnchbnnijboklaaDoor.M
open Go.RowKit Go.Proofs.YtnchbnnijboklaaDoorW.PrintWords Go.Proofs.YtnchbnnijboklaaDoorW.PrintLast Go.Proofs.YtnchbnnijboklaaDoorW.PrintMore
attribute [local go_sem] max2_int min2_int max_two min_two max_three min_three max_four min_four   -- for this text's walks alone
set_option linter.unusedVariables false
set_option linter.unusedSimpArgs false
def code_closer.f (l0 : List (S30)) (a1 : Int) : Option ((List (S30)) × Int × Int) := if (wrap64 ((l0.length : Int) - a1)) ≤ 254 then (some (l0, a1, 0)) else ((code_Jump.f l0 a1).bind fun bt133 => (some (bt133.1, bt133.2.1, bt133.2.2)))
set_option maxHeartbeats 8000000 in
set_option maxRecDepth 100000 in
theorem code_closer.calls (P0_ : Nat → Prop) (A0 : Option Addr) (c0 : Nat) (l0 : List (S30)) (a1 : Int) (r1 : List (S30)) (r2 : Int) (r3 : Int) (w : World) (hs0 : Kd.V k30 30 w w.heap.size (fun k_ => P0_ k_) (.slice A0 l0.length c0) l0) (h : code_closer.f l0 a1 = some (r1, r2, r3)) :
  Calls Tryd.prog 29 #[.slice A0 l0.length c0, .int .i64 a1] w fun e w' => ∃ v0_ : Value, e = .returned (.tuple #[v0_, .int .i64 r2, .int .i64 r3]) ∧ Kd.V k30 30 w' w.heap.size (fun k_ => (P0_ k_ ∨ w.heap.size ≤ k_)) v0_ r1 ∧ Below w.heap.size w w' := by
 have HO0 := Aside0.mk (show Kd.V k30 30 w w.heap.size (fun k_ => (P0_ k_ ∨ w.heap.size ≤ k_)) (.slice A0 l0.length c0) l0 from Kd.V_mono hs0 (fun k_ hk => .inl hk))
 have HB := Aside0.mk (Below.refl w.heap.size w)
 have H : (if (wrap64 ((l0.length : Int) - a1)) ≤ 254 then (some (l0, a1, 0)) else ((code_Jump.f l0 a1).bind fun bt133 => (some (bt133.1, bt133.2.1, bt133.2.2)))) = some (r1, r2, r3) := h
 clear h
 by_cases c3 : (wrap64 ((l0.length : Int) - a1)) ≤ 254
 ·rw [if_pos c3] at H
  have c3b0 : decide ((wrap64 ((l0.length : Int) - a1)) ≤ 254) = true := dT c3
  clear c3
  simp only [Option.some.injEq, Prod.mk.injEq] at H
  obtain ⟨rfl, rfl, rfl⟩ := H
  go_enter Tryd.func29, Tryd.ntmps29
  go_wp2
  go_ret3
  exact ⟨_, jE, by (with_reducible repeat (first | apply Kd.V_alloc | apply Kd.V_drewN | apply Kd.V_drew)); exact HO0.out, jH HB⟩
 ·rw [if_neg c3] at H
  have c3b0 : decide ((wrap64 ((l0.length : Int) - a1)) ≤ 254) = false := dF c3
  clear c3
  replace H := Option.bind_eq_some_iff.mp H
  obtain ⟨⟨t133, t136, t137⟩, A40, H⟩ := H
  try dsimp only at H
  have A4 := Aside0.mk A40
  clear A40
  simp only [Option.some.injEq, Prod.mk.injEq] at H
  obtain ⟨rfl, rfl, rfl⟩ := H
  go_enter Tryd.func29, Tryd.ntmps29
  go_wp2_with (first | ((with_reducible refine gate_callee (f := 12) rfl ?_); refine goesL_ (some 16) rfl rfl Tryd.func12 (by kernel_rfl) rfl #[.slice A0 l0.length c0, .int .i64 a1] rfl jZ ?_; (with_reducible refine (code_Jump.calls (fun k_ => (P0_ k_ ∨ w.heap.size ≤ k_)) _ _ l0 a1 t133 t136 t137 _ ?side1 A4.out).mono ?_); (case side1 => exact HO0.out); rintro e w5 ⟨v134, rfl, ho0, hb⟩; refine ⟨_, rfl, ?_⟩; have n0_ := Aside0.mk (Kd.V_below (jV HO0) hb); have n1_ := Aside0.mk (Kd.V_lower (Kd.V_mono (ok' := fun k_ => (P0_ k_ ∨ w.heap.size ≤ k_)) ho0 (fun k_ hk_ => Or.elim hk_ (fun hs_ => hs_) (fun hn_ => (.inr (Nat.le_trans (zZ (jH HB)) hn_))))) (zZ (jH HB))); have n2_ := Aside0.mk (zT (jH HB) hb); clear HO0; clear HB; have HO0 := n0_; have HO135 := n1_; have HB := n2_; clear n0_ n1_ n2_; (try clear hb); (try clear hb2); (try clear hk); (try clear hi); (try clear ho0)))
  go_ret3
  exact ⟨_, jE, by (with_reducible repeat (first | apply Kd.V_alloc | apply Kd.V_drewN | apply Kd.V_drew)); exact HO135.out, jH HB⟩
end Go.Proofs.YtnchbnnijboklaaDoor.M
