/- By a program of this session: what Go functions of the seat compute, as Lean functions, each with a proof that the call of the Go function comes to that. -/
import Derived.Test.YtnchbnnijboklaaDoorM0
namespace Go.Proofs.YtnchbnnijboklaaDoor.M
open Go.RowKit Go.Proofs.YtnchbnnijboklaaDoorW.PrintWords Go.Proofs.YtnchbnnijboklaaDoorW.PrintLast Go.Proofs.YtnchbnnijboklaaDoorW.PrintMore
attribute [local go_sem] max2_int min2_int max_two min_two max_three min_three max_four min_four   -- for this text's walks alone
set_option linter.unusedVariables false
set_option linter.unusedSimpArgs false
def code_label.f (l0 : List (S30)) (a1 : Int) : Option (Bool) := if a1 ≥ 1 then (some (decide (a1 ≤ (l0.length : Int)))) else (some false)
set_option maxHeartbeats 8000000 in
set_option maxRecDepth 100000 in
theorem code_label.calls (A0 : Option Addr) (c0 : Nat) (l0 : List (S30)) (a1 : Int) (r : Bool) (w : World) (hr0 : Kd.C k30 w A0 l0.length l0) (hc0 : l0.length ≤ c0) (h : code_label.f l0 a1 = some r) :
  Calls Tryd.prog 25 #[.slice A0 l0.length c0, .int .i64 a1] w fun e w' => e = .returned (.bool r) ∧ Drawn0 w w' := by
 have HR0 := Aside0.mk hr0
 have HC0 := Aside0.mk hc0
 clear hr0 hc0
 have H : (if a1 ≥ 1 then (some (decide (a1 ≤ (l0.length : Int)))) else (some false)) = some r := h
 clear h
 by_cases c3 : a1 ≥ 1
 ·rw [if_pos c3] at H
  have c3b0 : decide (1 ≤ a1) = true := dT c3
  clear c3
  obtain rfl := Option.some.inj H
  go_enter Tryd.func25, Tryd.ntmps25
  go_wp2
  go_ret
  exact ⟨by first | rfl | (simp; done) | (simp [*]; done), by repeat (first | exact Drawn0.refl _ | apply Drawn0.step)⟩
 ·rw [if_neg c3] at H
  have c3b0 : decide (1 ≤ a1) = false := dF c3
  clear c3
  obtain rfl := Option.some.inj H
  go_enter Tryd.func25, Tryd.ntmps25
  go_wp2
  go_ret
  exact ⟨by first | rfl | (simp; done) | (simp [*]; done), by repeat (first | exact Drawn0.refl _ | apply Drawn0.step)⟩
def code_ahead.f (l0 : List (S30)) (l1 : List (S30)) : Option ((List (S30)) × Int × Int) := if (wrap64 ((l0.length : Int) + (l1.length : Int))) > 4096 then (some (l0, 0, 3)) else ((some (([] : List (S30)) : List (S30))).bind fun y101 => (if y101.length + l1.length < 4398046511104 then ((some (y101 ++ l1 : List (S30))).bind fun y104 => (if y104.length + l0.length < 4398046511104 then ((some (y104 ++ l0 : List (S30))).bind fun y107 => (some (y107, (y107.length : Int), 0))) else (none))) else (none)))
set_option maxHeartbeats 8000000 in
set_option maxRecDepth 100000 in
theorem code_ahead.calls (P0_ : Nat → Prop) (A0 : Option Addr) (c0 : Nat) (l0 : List (S30)) (A1 : Option Addr) (c1 : Nat) (l1 : List (S30)) (r1 : List (S30)) (r2 : Int) (r3 : Int) (w : World) (hs0 : Kd.V k30 30 w w.heap.size (fun k_ => P0_ k_) (.slice A0 l0.length c0) l0) (hr1 : Kd.C k30 w A1 l1.length l1) (hc1 : l1.length ≤ c1) (h : code_ahead.f l0 l1 = some (r1, r2, r3)) :
  Calls Tryd.prog 26 #[.slice A0 l0.length c0, .slice A1 l1.length c1] w fun e w' => ∃ v0_ : Value, e = .returned (.tuple #[v0_, .int .i64 r2, .int .i64 r3]) ∧ Kd.V k30 30 w' w.heap.size (fun k_ => (P0_ k_ ∨ w.heap.size ≤ k_)) v0_ r1 ∧ Below w.heap.size w w' := by
 have HO0 := Aside0.mk (show Kd.V k30 30 w w.heap.size (fun k_ => (P0_ k_ ∨ w.heap.size ≤ k_)) (.slice A0 l0.length c0) l0 from Kd.V_mono hs0 (fun k_ hk => .inl hk))
 have HR1 := Aside0.mk hr1
 have HC1 := Aside0.mk hc1
 clear hr1 hc1
 have HB := Aside0.mk (Below.refl w.heap.size w)
 have H : (if (wrap64 ((l0.length : Int) + (l1.length : Int))) > 4096 then (some (l0, 0, 3)) else ((some (([] : List (S30)) : List (S30))).bind fun y101 => (if y101.length + l1.length < 4398046511104 then ((some (y101 ++ l1 : List (S30))).bind fun y104 => (if y104.length + l0.length < 4398046511104 then ((some (y104 ++ l0 : List (S30))).bind fun y107 => (some (y107, (y107.length : Int), 0))) else (none))) else (none)))) = some (r1, r2, r3) := h
 clear h
 by_cases c3 : (wrap64 ((l0.length : Int) + (l1.length : Int))) > 4096
 ·rw [if_pos c3] at H
  have c3b0 : decide (4096 < (wrap64 ((l0.length : Int) + (l1.length : Int)))) = true := dT c3
  clear c3
  simp only [Option.some.injEq, Prod.mk.injEq] at H
  obtain ⟨rfl, rfl, rfl⟩ := H
  go_enter Tryd.func26, Tryd.ntmps26
  go_wp2
  go_ret3
  exact ⟨_, jE, by (with_reducible repeat (first | apply Kd.V_alloc | apply Kd.V_drewN | apply Kd.V_drew)); exact HO0.out, jH HB⟩
 ·rw [if_neg c3] at H
  have c3b0 : decide (4096 < (wrap64 ((l0.length : Int) + (l1.length : Int)))) = false := dF c3
  clear c3
  obtain ⟨y101, hy101⟩ : ∃ y_ : List (S30), y_ = (([] : List (S30))) := ⟨_, rfl⟩
  simp only [Option.bind_some, ← hy101] at H
  have Ny101 := Aside0.mk hy101
  clear hy101
  by_cases c4 : y101.length + l1.length < 4398046511104
  ·rw [if_pos c4] at H
   have LMc4 := Aside0.mk c4
   clear c4
   obtain ⟨y104, hy104⟩ : ∃ y_ : List (S30), y_ = (y101 ++ l1) := ⟨_, rfl⟩
   simp only [Option.bind_some, ← hy104] at H
   have Ny104 := Aside0.mk hy104
   clear hy104
   by_cases c5 : y104.length + l0.length < 4398046511104
   ·rw [if_pos c5] at H
    have LMc5 := Aside0.mk c5
    clear c5
    obtain ⟨y107, hy107⟩ : ∃ y_ : List (S30), y_ = (y104 ++ l0) := ⟨_, rfl⟩
    simp only [Option.bind_some, ← hy107] at H
    have Ny107 := Aside0.mk hy107
    clear hy107
    simp only [Option.some.injEq, Prod.mk.injEq] at H
    obtain ⟨rfl, rfl, rfl⟩ := H
    go_enter Tryd.func26, Tryd.ntmps26
    go_wp2_with (first | ((with_reducible refine gate_dst (N := 15) rfl ?_); refine Kd.R_lit k30 _ 30 ?hg (N := 15) ?hd (xs := ([] : List (S30))) (inner := []) (ok := fun _ => True) (okp := fun _ => True) ?hr ?hp (fun _ hk => hk) trivial (Below.refl _ _) (Nat.le_refl _) (by simp) ?_; (case hd => rfl); (case hg => rfl); (case hr => first | (go_simp; done) | (go_simp; rfl)); (case hp => exact (Reps.none _ _)); intro v102 w6 ho7 hb hg_ hnew_; clear hg_ hnew_; (first | rw [← Ny101.out] at ho7 | (simp only [Int.reduceToNat] at ho7; rw [← Ny101.out] at ho7)); have n0_ := Aside0.mk (Kd.V_elder' (jV HO0) (Kd.R_base ho7) hb); have n1_ := Aside0.mk (Kd.R_lower (Kd.R_newM (M := fun k_ => (w.heap.size ≤ k_)) ho7 (zZ (jH HB)) (fun k_ h_ => h_)) (zZ (jH HB))); have n2_ := Aside0.mk (zT (jH HB) hb); clear HO0; clear HB; have HO0 := n0_; have HO103 := n1_; have HB := n2_; clear n0_ n1_ n2_; clear hb ho7) | ((with_reducible refine gate_builtin (b := .append) (xs := #[.tmp 15, .tmp 16]) rfl ?_); at_builtin; refine Kd.R_append_rows k30 (w0 := w) w.heap.size rfl (.tmp 15) (.tmp 16) 22 30 (.agg #[(.int .i64 0), (.int .i64 0), (.int .i64 0), (.int .u32 0)]) 32 rfl Tryd.underlying22 info30 rfl (by decide) (by omega) v102 y101 l1 _ _ _ (fun k_ => (w.heap.size ≤ k_)) (fun _ => False) rfl rfl ?aO ?aR (fun _ _ h => h) (fun _ h => h.elim) ?aF ?aB ?aS ?aL ?_; (case aR => repeat (first | exact (Kd.C_below HR1.out HB.out) | (with_reducible refine Kd.C_alloc ?_ _) | (with_reducible refine Kd.C_drewN ?_ _) | (with_reducible refine Kd.C_drew ?_))); (case aB => exact (jH HB)); (case aF => exact (fun k_ hk => (Nat.le_trans (zZ (jH HB)) hk))); (case aO => exact (by (with_reducible repeat (first | apply Kd.R_alloc | apply Kd.R_drewN | apply Kd.R_drew)); exact Kd.R_mono HO103.out (fun _ hk => hk.1))); (case aS => exact (zZ (jH HB))); (case aL => have := LMc4.out; omega); intro v105 w8 ho hb hg hat; rw [← Ny104.out] at ho; have n0_ := Aside0.mk (Kd.V_afterv (ok := (fun k_ => (P0_ k_ ∨ w.heap.size ≤ k_))) (jV HO0) hg hat); have n1_ := Aside0.mk (hb); have n2_ := Aside0.mk (ho); clear HO0; clear HB; clear HO103; have HO0 := n0_; have HB := n1_; have HO106 := n2_; clear n0_ n1_ n2_; clear ho hb hg hat) | ((with_reducible refine gate_builtin (b := .append) (xs := #[.tmp 17, .tmp 18]) rfl ?_); at_builtin; refine Kd.R_append_rows k30 (w0 := w) w.heap.size rfl (.tmp 17) (.tmp 18) 22 30 (.agg #[(.int .i64 0), (.int .i64 0), (.int .i64 0), (.int .u32 0)]) 32 rfl Tryd.underlying22 info30 rfl (by decide) (by omega) v105 y104 l0 _ _ _ (fun k_ => (w.heap.size ≤ k_)) (fun _ => False) rfl rfl ?aO ?aR (fun _ _ h => h) (fun _ h => h.elim) ?aF ?aB ?aS ?aL ?_; (case aR => repeat (first | exact (Kd.V_reads' HO0.out).2.2 | (with_reducible refine Kd.C_alloc ?_ _) | (with_reducible refine Kd.C_drewN ?_ _) | (with_reducible refine Kd.C_drew ?_))); (case aB => exact (jH HB)); (case aF => exact (fun k_ hk => (Nat.le_trans (zZ (jH HB)) hk))); (case aO => exact (jR HO106)); (case aS => exact (zZ (jH HB))); (case aL => have := LMc5.out; omega); intro v108 w9 ho hb hg hat; rw [← Ny107.out] at ho; have n0_ := Aside0.mk (Kd.V_afterv (ok := (fun k_ => (P0_ k_ ∨ w.heap.size ≤ k_))) (jV HO0) hg hat); have n1_ := Aside0.mk (hb); have n2_ := Aside0.mk (ho); clear HO0; clear HB; clear HO106; have HO0 := n0_; have HB := n1_; have HO109 := n2_; clear n0_ n1_ n2_; clear ho hb hg hat; obtain ⟨Ao10, co10, eo10⟩ := Kd.R_slice HO109.out; subst eo10))
    go_ret3
    exact ⟨_, jE, Kd.V_mono (Kd.R_V (jR HO109)) (fun k_ hk => by first | exact ⟨(.inr (hk.1)), hk.2⟩ | exact (.inr (hk))), jH HB⟩
   ·rw [if_neg c5] at H
    exact absurd H (by simp)
  ·rw [if_neg c4] at H
   exact absurd H (by simp)
def code_Jump.f (l0 : List (S30)) (a1 : Int) : Option ((List (S30)) × Int × Int) := (code_label.f l0 a1).bind fun t110 => (if t110 = true then (if a1 = (l0.length : Int) then (some (l0, a1, 0)) else ((code_ahead.f l0 (([(⟨5, 0, 0, (wrap64 ((l0.length : Int) - a1)) % 4294967296⟩ : S30)] : List (S30)))).bind fun bt114 => (some (bt114.1, bt114.2.1, bt114.2.2)))) else (some (l0, 0, 4)))
set_option maxHeartbeats 8000000 in
set_option maxRecDepth 100000 in
theorem code_Jump.calls (P0_ : Nat → Prop) (A0 : Option Addr) (c0 : Nat) (l0 : List (S30)) (a1 : Int) (r1 : List (S30)) (r2 : Int) (r3 : Int) (w : World) (hs0 : Kd.V k30 30 w w.heap.size (fun k_ => P0_ k_) (.slice A0 l0.length c0) l0) (h : code_Jump.f l0 a1 = some (r1, r2, r3)) :
  Calls Tryd.prog 12 #[.slice A0 l0.length c0, .int .i64 a1] w fun e w' => ∃ v0_ : Value, e = .returned (.tuple #[v0_, .int .i64 r2, .int .i64 r3]) ∧ Kd.V k30 30 w' w.heap.size (fun k_ => (P0_ k_ ∨ w.heap.size ≤ k_)) v0_ r1 ∧ Below w.heap.size w w' := by
 have hu30 := Tryd.underlying30
 have HO0 := Aside0.mk (show Kd.V k30 30 w w.heap.size (fun k_ => (P0_ k_ ∨ w.heap.size ≤ k_)) (.slice A0 l0.length c0) l0 from Kd.V_mono hs0 (fun k_ hk => .inl hk))
 have HB := Aside0.mk (Below.refl w.heap.size w)
 have H : ((code_label.f l0 a1).bind fun t110 => (if t110 = true then (if a1 = (l0.length : Int) then (some (l0, a1, 0)) else ((code_ahead.f l0 (([(⟨5, 0, 0, (wrap64 ((l0.length : Int) - a1)) % 4294967296⟩ : S30)] : List (S30)))).bind fun bt114 => (some (bt114.1, bt114.2.1, bt114.2.2)))) else (some (l0, 0, 4)))) = some (r1, r2, r3) := h
 clear h
 replace H := Option.bind_eq_some_iff.mp H
 obtain ⟨t110, A30, H⟩ := H
 try dsimp only at H
 have A3 := Aside0.mk A30
 clear A30
 by_cases c4 : t110 = true
 ·subst c4
  rw [if_pos rfl] at H
  by_cases c5 : a1 = (l0.length : Int)
  ·rw [if_pos c5] at H
   have c5b0 : (a1 == (l0.length : Int)) = true := bI.mpr c5
   have c5b1 : (a1 != (l0.length : Int)) = false := nF.mpr c5
   clear c5
   simp only [Option.some.injEq, Prod.mk.injEq] at H
   obtain ⟨rfl, rfl, rfl⟩ := H
   go_enter Tryd.func12, Tryd.ntmps12
   go_wp2_with (first | ((with_reducible refine gate_callee (f := 25) rfl ?_); refine goesL_ (some 10) rfl rfl Tryd.func25 (by kernel_rfl) rfl #[.slice A0 l0.length c0, .int .i64 a1] rfl jZ ?_; (with_reducible refine (code_label.calls _ _ l0 a1 true _ ?side1 ?side2 A3.out).mono ?_); (case side1 => exact jC (Kd.V_reads' HO0.out).2.2); (case side2 => exact (Kd.V_reads' HO0.out).2.1); rintro e w' ⟨rfl, ⟨nd, rfl⟩⟩; refine ⟨_, rfl, ?_⟩))
   go_ret3
   exact ⟨_, jE, by (with_reducible repeat (first | apply Kd.V_alloc | apply Kd.V_drewN | apply Kd.V_drew)); exact HO0.out, jH HB⟩
  ·rw [if_neg c5] at H
   have c5b0 : (a1 == (l0.length : Int)) = false := bF.mpr c5
   have c5b1 : (a1 != (l0.length : Int)) = true := nI.mpr c5
   obtain ⟨y111, hy111⟩ : ∃ y_ : List (S30), y_ = (([(⟨5, 0, 0, (wrap64 ((l0.length : Int) - a1)) % 4294967296⟩ : S30)] : List (S30))) := ⟨_, rfl⟩
   simp only [Option.bind_some, ← hy111] at H
   have Ny111 := Aside0.mk hy111
   clear hy111
   replace H := Option.bind_eq_some_iff.mp H
   obtain ⟨⟨t114, t117, t118⟩, A60, H⟩ := H
   try dsimp only at H
   have A6 := Aside0.mk A60
   clear A60
   simp only [Option.some.injEq, Prod.mk.injEq] at H
   obtain ⟨rfl, rfl, rfl⟩ := H
   go_enter Tryd.func12, Tryd.ntmps12
   go_wp2_with (first | ((with_reducible refine gate_callee (f := 25) rfl ?_); refine goesL_ (some 10) rfl rfl Tryd.func25 (by kernel_rfl) rfl #[.slice A0 l0.length c0, .int .i64 a1] rfl jZ ?_; (with_reducible refine (code_label.calls _ _ l0 a1 true _ ?side1 ?side2 A3.out).mono ?_); (case side1 => exact jC (Kd.V_reads' HO0.out).2.2); (case side2 => exact (Kd.V_reads' HO0.out).2.1); rintro e w' ⟨rfl, ⟨nd, rfl⟩⟩; refine ⟨_, rfl, ?_⟩) | ((with_reducible refine gate_dst (N := 27) rfl ?_); refine Kd.R_lit k30 _ 30 ?hg (N := 27) ?hd (xs := ([(⟨5, 0, 0, (wrap64 ((l0.length : Int) - a1)) % 4294967296⟩ : S30)] : List (S30))) (inner := [.int .i64 5, .int .i64 0, .int .i64 0, .int .u32 ((wrap64 ((l0.length : Int) - a1)) % 4294967296)]) (ok := fun _ => True) (okp := fun _ => True) ?hr ?hp (fun _ hk => hk) trivial (Below.refl _ _) (Nat.le_refl _) (by simp) ?_; (case hd => rfl); (case hg => rfl); (case hr => first | (go_simp; done) | (go_simp; rfl)); (case hp => exact (Reps.c4 (show Kd.M k30 _ _ _ (⟨5, 0, 0, (wrap64 ((l0.length : Int) - a1)) % 4294967296⟩ : S30) [.int .i64 5, .int .i64 0, .int .i64 0, .int .u32 ((wrap64 ((l0.length : Int) - a1)) % 4294967296)] from (k30_mkM _ _ _ (⟨5, 0, 0, (wrap64 ((l0.length : Int) - a1)) % 4294967296⟩ : S30) )) (Reps.none _ _))); intro v112 w7 ho8 hb hg_ hnew_; clear hg_ hnew_; (first | rw [← Ny111.out] at ho8 | (simp only [Int.reduceToNat] at ho8; rw [← Ny111.out] at ho8)); have n0_ := Aside0.mk (Kd.V_elder' (jV HO0) (Kd.R_base ho8) hb); have n1_ := Aside0.mk (Kd.R_lower (Kd.R_newM (M := fun k_ => (w.heap.size ≤ k_)) ho8 (zZ (jH HB)) (fun k_ h_ => h_)) (zZ (jH HB))); have n2_ := Aside0.mk (zT (jH HB) hb); clear HO0; clear HB; have HO0 := n0_; have HO113 := n1_; have HB := n2_; clear n0_ n1_ n2_; clear hb ho8; obtain ⟨Ao9, co9, eo9⟩ := Kd.R_slice HO113.out; subst eo9) | ((with_reducible refine gate_callee (f := 26) rfl ?_); refine goesL_ (some 28) rfl rfl Tryd.func26 (by kernel_rfl) rfl #[.slice A0 l0.length c0, .slice Ao9 y111.length co9] rfl jZ ?_; (with_reducible refine (code_ahead.calls (fun k_ => ((P0_ k_ ∨ w.heap.size ≤ k_) ∧ some k_ ≠ (.slice Ao9 y111.length co9 : Value).ownBlock)) _ _ l0 _ _ y111 t114 t117 t118 _ ?side1 ?side2 ?side3 A6.out).mono ?_); (case side1 => exact HO0.out); (case side2 => exact jC (Kd.R_reads' HO113.out).2.2); (case side3 => exact (Kd.R_reads' HO113.out).2.1); rintro e w10 ⟨v115, rfl, ho0, hb⟩; refine ⟨_, rfl, ?_⟩; have n0_ := Aside0.mk (Kd.V_below (jV HO0) hb); have n1_ := Aside0.mk (Kd.R_below (jR HO113) hb); have n2_ := Aside0.mk (Kd.V_lower (Kd.V_mono (ok' := fun k_ => (P0_ k_ ∨ w.heap.size ≤ k_) ∧ some k_ ≠ (.slice Ao9 y111.length co9 : Value).ownBlock) ho0 (fun k_ hk_ => ⟨Or.elim hk_ (fun hs_ => hs_.1) (fun hn_ => (.inr (Nat.le_trans (zZ (jH HB)) hn_))), Or.elim hk_ (fun hs_ => hs_.2) (fun hn_ => (Kd.fresh' (Kd.R_lt (jR HO113)) k_ hn_))⟩)) (zZ (jH HB))); have n3_ := Aside0.mk (zT (jH HB) hb); clear HO0; clear HO113; clear HB; have HO0 := n0_; have HO113 := n1_; have HO116 := n2_; have HB := n3_; clear n0_ n1_ n2_ n3_; (try clear hb); (try clear hb2); (try clear hk); (try clear hi); (try clear ho0)))
   go_ret3
   exact ⟨_, jE, by (with_reducible repeat (first | apply Kd.V_alloc | apply Kd.V_drewN | apply Kd.V_drew)); exact Kd.V_mono HO116.out (fun _ hk => hk.1), jH HB⟩
 ·replace c4 := Bool.eq_false_iff.mpr c4
  subst c4
  rw [if_neg (show ¬ (false = true) by decide)] at H
  simp only [Option.some.injEq, Prod.mk.injEq] at H
  obtain ⟨rfl, rfl, rfl⟩ := H
  go_enter Tryd.func12, Tryd.ntmps12
  go_wp2_with (first | ((with_reducible refine gate_callee (f := 25) rfl ?_); refine goesL_ (some 10) rfl rfl Tryd.func25 (by kernel_rfl) rfl #[.slice A0 l0.length c0, .int .i64 a1] rfl jZ ?_; (with_reducible refine (code_label.calls _ _ l0 a1 false _ ?side1 ?side2 A3.out).mono ?_); (case side1 => exact jC (Kd.V_reads' HO0.out).2.2); (case side2 => exact (Kd.V_reads' HO0.out).2.1); rintro e w' ⟨rfl, ⟨nd, rfl⟩⟩; refine ⟨_, rfl, ?_⟩))
  go_ret3
  exact ⟨_, jE, by (with_reducible repeat (first | apply Kd.V_alloc | apply Kd.V_drewN | apply Kd.V_drew)); exact HO0.out, jH HB⟩
def ins_of.f (a0 : Int) : Option (Int × ByteArray × Bool × Bool × Bool) := ofRest shapeT a0
set_option maxHeartbeats 8000000 in
set_option maxRecDepth 100000 in
theorem ins_of.calls (a0 : Int) (r1 : Int) (r2 : ByteArray) (r3 : Bool) (r4 : Bool) (r5 : Bool) (w : World) (hG : Glob w) (h : ins_of.f a0 = some (r1, r2, r3, r4, r5)) :
  Calls Tryd.prog 36 #[.int .i64 a0] w fun e w' => e = .returned (.tuple #[.agg #[.int .i64 r1, .string r2, .bool r3, .bool r4], .bool r5]) ∧ Below w.heap.size w w' := by
 have HG := Aside0.mk hG
 have HH : Aside0 (ofRest (shapeT.drop 0) a0 = some (r1, r2, r3, r4, r5)) := ⟨h⟩
 clear hG h
 go_enter Tryd.func36, Tryd.ntmps36
 go_wp2_with ((with_reducible refine gate_dst (N := 6) rfl ?_); refine wpList_shape_load 89 rfl rfl (HG.out.alloc _) Tryd.underlying89 (by kernel_rfl) ?_)
 have HB := Aside0.mk (Below.refl (w.heap.size + 1) (w.alloc (.cells #[.int .i64 0, .string ⟨#[]⟩, .bool false, .bool false] 72)))
 go_loopw [7] (fun v7 wr => ∃ i : Nat, i ≤ 39 ∧ v7 = .int .i64 (i : Int) ∧ Aside0 (ofRest (shapeT.drop i) a0 = some (r1, r2, r3, r4, r5)) ∧ Aside0 (Below (w.heap.size + 1) (w.alloc (.cells #[.int .i64 0, .string ⟨#[]⟩, .bool false, .bool false] 72)) wr)) (fun v7 _ => 39 - (intOf v7).toNat)
 case atStart => exact ⟨0, by omega, rfl, HH, HB⟩
 case round =>
  clear HB HH
  obtain ⟨i, hi, rfl, HH, HB⟩ := hrel
  by_cases hlt : i < 39
  ·have hidx := fun W => shape_index (P := Tryd.prog) W 89 72 i hlt Tryd.underlying89 Tryd.underlying72 (by kernel_rfl)
   obtain ⟨s, hs⟩ : ∃ s, s = shapeT.getD i shapeZ := ⟨_, rfl⟩
   rw [← hs] at hidx
   have hd := shape_snoc i hlt
   rw [← hs] at hd
   have HD := Aside0.mk hd
   clear hs hd
   obtain ⟨s1, s2, s3, s4⟩ := s
   simp only [shapeRow] at hidx
   by_cases he : s1 = a0
   ·subst he
    have HR : Aside0 (some (s1, s2, s3, s4, true) = some (r1, r2, r3, r4, r5)) := by
     constructor
     rw [← HH.out, HD.out]
     simp [ofRest]
    have hr := HR.out
    simp only [Option.some.injEq, Prod.mk.injEq] at hr
    obtain ⟨rfl, rfl, rfl, rfl, rfl⟩ := hr
    clear HH HD HR
    have hbk : wr.heap[w.heap.size]? = some (.cells #[.int .i64 0, .string ⟨#[]⟩, .bool false, .bool false] 72 (0, 0)) := (HB.out.block _ (Nat.lt_succ_self _)).trans (heap_alloc_new w _)
    have hsz : w.heap.size < wr.heap.size := by have := HB.out.size; simp at this; omega
    have hc0 : wr.cell? ⟨w.heap.size, 0, none⟩ = some (.int .i64 0) := by simp [World.cell?, hbk]
    have hc1 : wr.cell? ⟨w.heap.size, 1, none⟩ = some (.string ⟨#[]⟩) := by simp [World.cell?, hbk]
    have hc2 : wr.cell? ⟨w.heap.size, 2, none⟩ = some (.bool false) := by simp [World.cell?, hbk]
    have hc3 : wr.cell? ⟨w.heap.size, 3, none⟩ = some (.bool false) := by simp [World.cell?, hbk]
    have hf0 : wr.frozen? ⟨w.heap.size, 0, none⟩ = false := by simp [World.frozen?, hbk]
    have hf1 : wr.frozen? ⟨w.heap.size, 1, none⟩ = false := by simp [World.frozen?, hbk]
    have hf2 : wr.frozen? ⟨w.heap.size, 2, none⟩ = false := by simp [World.frozen?, hbk]
    have hf3 : wr.frozen? ⟨w.heap.size, 3, none⟩ = false := by simp [World.frozen?, hbk]
    clear hbk
    go_wp2
    refine bodyPost_ret (v := .tuple #[.agg #[.int .i64 s1, .string s2, .bool s3, .bool s4], .bool true]) (by simp [results, Tryd.results36, go_sem, hc0, hc1, hc2, hc3, hsz]) rfl ⟨rfl, ?_⟩
    have HBw : Below w.heap.size w wr := ((Below.refl w.heap.size w).alloc (Nat.le_refl _) _).trans (HB.out.mono (Nat.le_succ _))
    exact ((((HBw.setCell (Nat.le_refl _) _).setCell (Nat.le_refl _) _).setCell (Nat.le_refl _) _).setCell (Nat.le_refl _) _).alloc (by simp; omega) _
   ·have heb : (s1 == a0) = false := bF.mpr he
    have HH2 : Aside0 (ofRest (shapeT.drop (i + 1)) a0 = some (r1, r2, r3, r4, r5)) := by
     constructor
     rw [← HH.out, HD.out]
     simp [ofRest, heb]
    clear HH HD he
    go_wp2
    go_roundw
    case rel => exact ⟨i + 1, by omega, by go_num, HH2, ⟨HB.out.alloc (by have := HB.out.size; simp at this; omega) _⟩⟩
    case measure => simp [intOf]; omega
  ·obtain rfl : i = 39 := by omega
   have HR : Aside0 (some (0, ⟨#[]⟩, false, false, false) = some (r1, r2, r3, r4, r5)) := by
    constructor
    rw [← HH.out]
    rfl
   have hr := HR.out
   simp only [Option.some.injEq, Prod.mk.injEq] at hr
   obtain ⟨rfl, rfl, rfl, rfl, rfl⟩ := hr
   clear HH HR
   have hbk : wr.heap[w.heap.size]? = some (.cells #[.int .i64 0, .string ⟨#[]⟩, .bool false, .bool false] 72 (0, 0)) := (HB.out.block _ (Nat.lt_succ_self _)).trans (heap_alloc_new w _)
   have hsz : w.heap.size < wr.heap.size := by have := HB.out.size; simp at this; omega
   have hc0 : wr.cell? ⟨w.heap.size, 0, none⟩ = some (.int .i64 0) := by simp [World.cell?, hbk]
   have hc1 : wr.cell? ⟨w.heap.size, 1, none⟩ = some (.string ⟨#[]⟩) := by simp [World.cell?, hbk]
   have hc2 : wr.cell? ⟨w.heap.size, 2, none⟩ = some (.bool false) := by simp [World.cell?, hbk]
   have hc3 : wr.cell? ⟨w.heap.size, 3, none⟩ = some (.bool false) := by simp [World.cell?, hbk]
   have hf0 : wr.frozen? ⟨w.heap.size, 0, none⟩ = false := by simp [World.frozen?, hbk]
   have hf1 : wr.frozen? ⟨w.heap.size, 1, none⟩ = false := by simp [World.frozen?, hbk]
   have hf2 : wr.frozen? ⟨w.heap.size, 2, none⟩ = false := by simp [World.frozen?, hbk]
   have hf3 : wr.frozen? ⟨w.heap.size, 3, none⟩ = false := by simp [World.frozen?, hbk]
   clear hbk
   go_wp2
   refine bodyPost_ret (v := .tuple #[.agg #[.int .i64 0, .string ⟨#[]⟩, .bool false, .bool false], .bool false]) (by simp [results, Tryd.results36, go_sem, hc0, hc1, hc2, hc3, hsz]) rfl ⟨rfl, ?_⟩
   have HBw : Below w.heap.size w wr := ((Below.refl w.heap.size w).alloc (Nat.le_refl _) _).trans (HB.out.mono (Nat.le_succ _))
   exact (((HBw.setCell (Nat.le_refl _) _).setCell (Nat.le_refl _) _).setCell (Nat.le_refl _) _).setCell (Nat.le_refl _) _
end Go.Proofs.YtnchbnnijboklaaDoor.M
