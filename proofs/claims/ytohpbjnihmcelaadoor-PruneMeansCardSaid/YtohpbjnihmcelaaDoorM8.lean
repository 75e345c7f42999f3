/- What Go functions compute; their calls come to it. No condition. -/
import Derived.Test.YtohpbjnihmcelaaDoorM0
import Derived.Test.YtohpbjnihmcelaaDoorM2
import Derived.Test.YtohpbjnihmcelaaDoorM7
namespace Go.Proofs.YtohpbjnihmcelaaDoor.M
open Go.RowKit Go.Proofs.YtohpbjnihmcelaaDoorW.PrintWords Go.Proofs.YtohpbjnihmcelaaDoorW.PrintLast Go.Proofs.YtohpbjnihmcelaaDoorW.PrintMore
attribute [local go_sem] max2_int min2_int max_two min_two max_three min_three max_four min_four   -- for this text's walks alone
set_option linter.unusedVariables false
set_option linter.unusedSimpArgs false
theorem goesV_ {P : Program} {ops : Array Oper} {Q : Exit → Act → World → Prop} {oi : Oper} {N : Option Tmp} {a : Act} {w : World} {K : Act → World → Prop} {f : FuncId} {fn : Func} {op : Operand} {xs : Array Operand} {ts : Array TypeId} (hf : P.funcs[f]? = some fn) (hname : (fn.name == "runtime.NumGoroutine") = false) (hb : fn.body.isSome = true) (args caps : Array Value)
  (hw : Region.wanted oi (yielded ops a.tmps) = true) (hN : oi.dst = N) (hop : oi.op = .call { callee := .value op, args := xs, argTypes := ts }) (hv : a.eval op = .func (.func f) #[] caps) (hargs : xs.map a.eval = args)
  (h : Calls P f (args ++ caps) w fun e w' => ∃ v, e = .returned v ∧ K (a.put N v) w') : if Region.wanted oi (yielded ops a.tmps) = true then Oper.wp P oi a w K Q else K (a.put N undef) w := by
 refine call_ f (args ++ caps) hw hN ?_ h
 have he := enters_ hf hname hb (args ++ caps) w
 unfold execOp
 simp [hop, resolve, Deferred.ofValue, invoke, hv, hargs, he]
theorem box4_set3 {w : World} {g : Nat} {t : TypeId} {a0 a1 a2 a3 : Value} (b0 b1 b2 b3 : Value) (n : Nat) (h : w.heap[g]? = some (.cells #[a0, a1, a2, a3] t (0, 0))) (u : Value) : ((((((w.setCell ⟨g, 0, none⟩ b0).setCell ⟨g, 1, none⟩ b1).setCell ⟨g, 2, none⟩ b2).setCell ⟨g, 3, none⟩ b3).drewN n).setCell ⟨g, 3, none⟩ u).cell? ⟨g, 3, none⟩ = some u := by
 have h1 := kP (cs' := #[b0, a1, a2, a3]) h 0 b0 rfl
 have h2 := kP (cs' := #[b0, b1, a2, a3]) h1 1 b1 rfl
 have h3 := kP (cs' := #[b0, b1, b2, a3]) h2 2 b2 rfl
 have h4 := kP (cs' := #[b0, b1, b2, b3]) h3 3 b3 rfl
 exact World.cell?_setCell_same _ _ _ (u := b3) ((kC (w := (((((w.setCell ⟨g, 0, none⟩ b0).setCell ⟨g, 1, none⟩ b1).setCell ⟨g, 2, none⟩ b2).setCell ⟨g, 3, none⟩ b3).drewN n)) h4 3).trans rfl)
def prune_off.f (l0 : List Int) (a1 : Int) (a2 : Int) : Option (Int) := if 0 ≤ (wrap64 ((wrap64 (a1 + 1)) + a2)) then (if (wrap64 ((wrap64 (a1 + 1)) + a2)) < (l0.length : Int) then (if 0 ≤ a1 then (if a1 < (l0.length : Int) then (some (wrap64 ((wrap64 ((rd l0 (wrap64 ((wrap64 (a1 + 1)) + a2))) - (rd l0 a1))) - 1))) else (none)) else (none)) else (none)) else (none)
set_option maxHeartbeats 8000000 in
set_option maxRecDepth 100000 in
theorem prune_off.calls (A0 : Option Addr) (c0 : Nat) (l0 : List Int) (a1 : Int) (a2 : Int) (r : Int) (gb : Nat) (w : World) (hr0 : Kd.C (Kd.int .i64) w A0 l0.length l0) (hb : w.heap[gb]? = some (.cells #[.slice A0 l0.length c0] 48 (0, 0))) (h : prune_off.f l0 a1 a2 = some r) :
  Calls Tryd.prog 21 #[.int .i64 a1, .int .i64 a2, .pointer (some ⟨gb, 0, none⟩)] w fun e w' => e = .returned (.int .i64 r) ∧ Drawn0 w w' := by
 have HR0 := Aside0.mk hr0
 have BKB := Aside0.mk hb
 clear hr0 hb
 have H : (if 0 ≤ (wrap64 ((wrap64 (a1 + 1)) + a2)) then (if (wrap64 ((wrap64 (a1 + 1)) + a2)) < (l0.length : Int) then (if 0 ≤ a1 then (if a1 < (l0.length : Int) then (some (wrap64 ((wrap64 ((rd l0 (wrap64 ((wrap64 (a1 + 1)) + a2))) - (rd l0 a1))) - 1))) else (none)) else (none)) else (none)) else (none)) = some r := h
 clear h
 obtain ⟨ji4, hji4⟩ : ∃ j_ : Int, (wrap64 ((wrap64 (a1 + 1)) + a2)) = j_ := ⟨_, rfl⟩
 replace H : (if 0 ≤ (ji4) then (if (ji4) < (l0.length : Int) then (if 0 ≤ a1 then (if a1 < (l0.length : Int) then (some (wrap64 ((wrap64 ((rd l0 (ji4)) - (rd l0 a1))) - 1))) else (none)) else (none)) else (none)) else (none)) = some r := by first | (rw [hji4] at H; exact H) | (simp only [hji4] at H ⊢; exact H)
 have hji4w : (IntKind.i64.wrap ((wrap64 (a1 + 1)) + a2)) = ji4 := (i64_w _).trans hji4
 by_cases c5 : 0 ≤ (ji4)
 ·rw [if_pos c5] at H
  have c5b0 : decide (0 ≤ (ji4)) = true := dT c5
  clear c5
  by_cases c6 : (ji4) < (l0.length : Int)
  ·rw [if_pos c6] at H
   have c6b0 : decide ((ji4) < (l0.length : Int)) = true := dT c6
   clear c6
   by_cases c7 : 0 ≤ a1
   ·rw [if_pos c7] at H
    have c7b0 : decide (0 ≤ a1) = true := dT c7
    clear c7
    by_cases c8 : a1 < (l0.length : Int)
    ·rw [if_pos c8] at H
     have c8b0 : decide (a1 < (l0.length : Int)) = true := dT c8
     clear c8
     obtain rfl := Option.some.inj H
     have p138 : 0 ≤ ((ji4) : Int) := oD (jA)
     have q138 : (ji4) < (l0.length : Int) := oD (jA)
     obtain ⟨ad138, e138, hx138_0⟩ := Kd.at_int HR0.out (ji4) p138 q138
     cases e138
     replace p138 := eq_true p138
     replace q138 := eq_true q138
     have p139 : 0 ≤ (a1 : Int) := oD (jA)
     have q139 : a1 < (l0.length : Int) := oD (jA)
     obtain ⟨ad139, e139, hx139_0⟩ := Kd.at_int HR0.out a1 p139 q139
     obtain rfl : ad138 = ad139 := (by injection e139)
     replace p139 := eq_true p139
     replace q139 := eq_true q139
     go_enter Tryd.func21, Tryd.ntmps21
     have hcb : w.cell? ⟨gb, 0, none⟩ = some (.slice (some ad138) l0.length c0) := (kC BKB.out 0).trans rfl
     have hfb := kF BKB.out 0
     go_wp2
     repeat (go_quiet (fail); try go_wp2)
     go_ret
     exact ⟨by first | rfl | (simp; done) | (simp only [← hji4] <;> (first | rfl | simp)) | (simp [*]; done), by repeat (first | exact Drawn0.refl _ | apply Drawn0.step)⟩
    ·rw [if_neg c8] at H
     exact absurd H (by simp)
   ·rw [if_neg c7] at H
    exact absurd H (by simp)
  ·rw [if_neg c6] at H
   exact absurd H (by simp)
 ·rw [if_neg c5] at H
  exact absurd H (by simp)
mutual
def prune_Prune.l0 : Nat → List (S45) → List Bool → Int → List Int → List Bool → Int → Int → Option ((List (S45)) × Int)
 | 0, _, _, _, _, _, _, _ => none
 | k + 1, x0, x4, x7, x24, x25, x26, x27 => if x27 < x26 then (if 0 ≤ x27 then (if x27 < (x25.length : Int) then (if x27 < (x24.length : Int) then ((some (x24.set (x27 : Int).toNat x7 : List Int)).bind fun y149 => (if rdOf false x25 x27 = true then (prune_Prune.l0 k x0 x4 (wrap64 (x7 + 1)) y149 x25 x26 (wrap64 (x27 + 1))) else (prune_Prune.l0 k x0 x4 x7 y149 x25 x26 (wrap64 (x27 + 1))))) else (none)) else (none)) else (none)) else (prune_Prune.l1 k x4 ([] : List (S45)) x24 x0 (x0.length : Int) 0)
def prune_Prune.l1 : Nat → List Bool → List (S45) → List Int → List (S45) → Int → Int → Option ((List (S45)) × Int)
 | 0, _, _, _, _, _, _ => none
 | k + 1, x4, x11, x24, x41, x42, x43 => if x43 < x42 then (if 0 ≤ x43 then (if x43 < (x41.length : Int) then (if x43 < (x4.length : Int) then (if rdOf false x4 x43 = true then (if ((rd_T45 x41 x43).f0) = 5 then ((prune_off.f x24 x43 (wrap64 ((rd_T45 x41 x43).f3))).bind fun t153 => (if x11.length < 4398046511104 then (prune_Prune.l1 k x4 (x11 ++ [(⟨(rd_T45 x41 x43).f0, (rd_T45 x41 x43).f1, (rd_T45 x41 x43).f2, (t153) % 4294967296⟩ : S45)]) x24 x41 x42 (wrap64 (x43 + 1))) else (none))) else ((ins_Branch.f ((rd_T45 x41 x43).f0) ((rd_T45 x41 x43).f1) ((rd_T45 x41 x43).f2) ((rd_T45 x41 x43).f3)).bind fun t157 => (if t157 = true then ((prune_off.f x24 x43 ((rd_T45 x41 x43).f1)).bind fun t158 => ((prune_off.f x24 x43 ((rd_T45 x41 x43).f2)).bind fun t159 => (if x11.length < 4398046511104 then (prune_Prune.l1 k x4 (x11 ++ [(⟨(rd_T45 x41 x43).f0, t158, t159, (rd_T45 x41 x43).f3⟩ : S45)]) x24 x41 x42 (wrap64 (x43 + 1))) else (none)))) else (if x11.length < 4398046511104 then (prune_Prune.l1 k x4 (x11 ++ [(⟨(rd_T45 x41 x43).f0, (rd_T45 x41 x43).f1, (rd_T45 x41 x43).f2, (rd_T45 x41 x43).f3⟩ : S45)]) x24 x41 x42 (wrap64 (x43 + 1))) else (none))))) else (prune_Prune.l1 k x4 x11 x24 x41 x42 (wrap64 (x43 + 1)))) else (none)) else (none)) else (none)) else (some (x11, 0))
end
def prune_Prune.f (k : Nat) (l0 : List (S45)) : Option ((List (S45)) × Int) := (prune_Met.f k l0).bind fun bt140 => (if bt140.2 = 0 then (if 0 ≤ (l0.length : Int) then (if ((l0.length : Int) : Int).toNat ≤ 35184372088832 then (prune_Prune.l0 k l0 bt140.1 0 (List.replicate ((l0.length : Int) : Int).toNat 0) bt140.1 (bt140.1.length : Int) 0) else (none)) else (none)) else (some (([] : List (S45)), bt140.2)))
theorem prune_Prune.mono_l : ∀ k, (∀ y0 y1 y2 y3 y4 y5 y6, LeO (prune_Prune.l0 k y0 y1 y2 y3 y4 y5 y6) (prune_Prune.l0 (k + 1) y0 y1 y2 y3 y4 y5 y6)) ∧ (∀ y0 y1 y2 y3 y4 y5, LeO (prune_Prune.l1 k y0 y1 y2 y3 y4 y5) (prune_Prune.l1 (k + 1) y0 y1 y2 y3 y4 y5))
 | 0 => ⟨fun _ _ _ _ _ _ _ r h => by simp [prune_Prune.l0] at h, fun _ _ _ _ _ _ r h => by simp [prune_Prune.l1] at h⟩
 | k + 1 => by
  obtain ⟨ih0, ih1⟩ := prune_Prune.mono_l k
  refine ⟨?_, ?_⟩
  all_goals intros
  all_goals first | unfold prune_Prune.l0 | unfold prune_Prune.l1
  all_goals repeat' first
   | (with_reducible apply ih0)
   | (with_reducible apply ih1)
   | (with_reducible apply prune_Met.mono)
   | (with_reducible exact LeO.refl _)
   | (with_reducible exact LeO.none _)
   | (with_reducible refine LeO.ite ?_ ?_)
   | (with_reducible refine LeO.bind ?_ (fun _ => ?_))
   | apply ih0
   | apply ih1
   | apply prune_Met.mono
   | exact LeO.none _
   | refine LeO.ite ?_ ?_
   | refine LeO.bind ?_ (fun _ => ?_)
theorem prune_Prune.mono : ∀ a0 k, LeO (prune_Prune.f k a0) (prune_Prune.f (k + 1) a0) := by
 intro a0 k
 obtain ⟨ih0, ih1⟩ := prune_Prune.mono_l k
 unfold prune_Prune.f
 repeat' first
   | (with_reducible apply ih0)
   | (with_reducible apply ih1)
   | (with_reducible apply prune_Met.mono)
   | (with_reducible exact LeO.refl _)
   | (with_reducible exact LeO.none _)
   | (with_reducible refine LeO.ite ?_ ?_)
   | (with_reducible refine LeO.bind ?_ (fun _ => ?_))
   | apply ih0
   | apply ih1
   | apply prune_Met.mono
   | exact LeO.none _
   | refine LeO.ite ?_ ?_
   | refine LeO.bind ?_ (fun _ => ?_)
def prune_Prune.T22 : Bool × List (List Nat × List Nat) := (true, [([], []), ([], []), ([], []), ([2], [2]), ([0, 1, 3], [0, 1, 3]), ([], []), ([], []), ([], []), ([7], [7]), ([5, 6, 8, 4], [5, 6, 8]), ([0, 1, 2, 3, 4, 7, 8], []), ([10, 4, 9, 0, 1, 2, 3, 4, 7, 8], [4, 10]), ([0, 1, 2, 3, 4, 5, 6, 7, 8, 9, 10, 11], []), ([12, 9, 11, 0, 1, 2, 3, 4, 5, 6, 7, 8, 9, 10, 11], [9, 12])])
def prune_Prune.B22 : List Nat := [0, 0, 0, 4, 15, 0, 0, 0, 128, 511, 415, 2047, 4095, 8191]
theorem prune_Prune.tab22 : rtab .any (opsOf Tryd.f10 22) = prune_Prune.T22 := by kernel_rfl
theorem prune_Prune.bits22 : waitsOk prune_Prune.T22.2 prune_Prune.B22 = true := by kernel_rfl
set_option maxHeartbeats 8000000 in
set_option maxRecDepth 100000 in
theorem prune_Prune.calls (k : Nat) (A0 : Option Addr) (c0 : Nat) (l0 : List (S45)) (r1 : List (S45)) (r2 : Int) (w : World) (hr0 : Kd.C k45 w A0 l0.length l0) (hc0 : l0.length ≤ c0) (hG : Glob w) (h : prune_Prune.f k l0 = some (r1, r2)) :
  Calls Tryd.prog 10 #[.slice A0 l0.length c0] w fun e w' => ∃ v0_ : Value, e = .returned (.tuple #[v0_, .int .i64 r2]) ∧ Kd.R k45 45 w' w.heap.size (fun _ => True) v0_ r1 ∧ Below w.heap.size w w' := by
 have hu45 := Tryd.underlying45
 have HG := Aside0.mk hG
 clear hG
 have HR0 := Aside0.mk hr0
 have HC0 := Aside0.mk hc0
 clear hr0 hc0
 have HB := Aside0.mk (Below.refl w.heap.size w)
 have H : ((prune_Met.f k l0).bind fun bt140 => (if bt140.2 = 0 then (if 0 ≤ (l0.length : Int) then (if ((l0.length : Int) : Int).toNat ≤ 35184372088832 then (prune_Prune.l0 k l0 bt140.1 0 (List.replicate ((l0.length : Int) : Int).toNat 0) bt140.1 (bt140.1.length : Int) 0) else (none)) else (none)) else (some (([] : List (S45)), bt140.2)))) = some (r1, r2) := h
 clear h
 replace H := Option.bind_eq_some_iff.mp H
 obtain ⟨⟨t140, t141⟩, A20, H⟩ := H
 try dsimp only at H
 have A2 := Aside0.mk A20
 clear A20
 by_cases c3 : t141 = 0
 ·rw [if_pos c3] at H
  have c3b0 : (t141 == 0) = true := bI.mpr c3
  have c3b1 : (t141 != 0) = false := nF.mpr c3
  clear c3
  by_cases c4 : 0 ≤ (l0.length : Int)
  ·rw [if_pos c4] at H
   have c4b0 := eq_true c4
   have c4b1 : decide (0 ≤ (l0.length : Int)) = true := dT c4
   clear c4
   by_cases c5 : ((l0.length : Int) : Int).toNat ≤ 35184372088832
   ·rw [if_pos c5] at H
    have c5b0 := eq_true c5
    have c5b1 : decide (((l0.length : Int) : Int).toNat ≤ 35184372088832) = true := dT c5
    clear c5
    obtain ⟨y144, hy144⟩ : ∃ y_ : List Int, y_ = (List.replicate ((l0.length : Int) : Int).toNat 0) := ⟨_, rfl⟩
    simp only [Option.bind_some, ← hy144] at H
    have Ny144 := Aside0.mk hy144
    clear hy144
    have H' := Aside0.mk H
    clear H
    go_enter Tryd.func10, Tryd.ntmps10
    go_wp2_with (first | ((with_reducible refine gate_callee (f := 9) rfl ?_); refine goesL_ (some 16) rfl rfl Tryd.func9 (by kernel_rfl) rfl #[.slice A0 l0.length c0] rfl jZ ?_; (with_reducible refine (prune_Met.calls k _ _ l0 t140 t141 _ ?side1 ?side2 ?side3 A2.out).mono ?_); (case side1 => repeat (first | exact HR0.out | (with_reducible refine Kd.C_alloc ?_ _) | (with_reducible refine Kd.C_drewN ?_ _) | (with_reducible refine Kd.C_drew ?_))); (case side2 => exact HC0.out); (case side3 => exact Glob.below HG.out (jH HB)); rintro e w6 ⟨v142, rfl, ho0, hb⟩; refine ⟨_, rfl, ?_⟩; have n0_ := Aside0.mk (Kd.R_lower ho0 (zZ (jH HB))); have n1_ := Aside0.mk (zT (jH HB) hb); clear HB; have HO143 := n0_; have HB := n1_; clear n0_ n1_; (try clear hb); (try clear hb2); (try clear hk); (try clear hi); (try clear ho0)) | ((with_reducible refine gate_dst (N := 24) rfl ?_); refine Kd.R_make (Kd.int .i64) _ 3 rfl (N := 24) rfl 48 _ _ rfl (l0.length : Int) rfl rfl Tryd.underlying48 (.int .i64 0) 8 info3 rfl (by decide) (by omega) 0 (ok := fun _ => True) (okp := fun _ => True) rfl (fun _ hk => hk) trivial (oD (jA)) (Nat.le_trans (Nat.mul_le_mul_right _ (oD (jA) : (l0.length : Int).toNat ≤ 35184372088832)) (by omega)) (Below.refl _ _) (Nat.le_refl _) ?_; intro v145 w7 ho8 hb hg_ hnew_; clear hg_ hnew_; (first | rw [← Ny144.out] at ho8 | (simp only [Int.reduceToNat] at ho8; rw [← Ny144.out] at ho8)); have n0_ := Aside0.mk (Kd.R_below (jR HO143) hb); have n1_ := Aside0.mk (Kd.R_lower ho8 (zZ (jH HB))); have n2_ := Aside0.mk (zT (jH HB) hb); clear HO143; clear HB; have HO143 := n0_; have HO146 := n1_; have HB := n2_; clear n0_ n1_ n2_; clear hb ho8) | ((with_reducible refine gate_dst (N := 6) rfl ?_); refine box_event rfl (N := 6) rfl (cs := #[.slice none 0 0]) (t := 48) jW ?_; intro gb147 hg w9 hbox hb; have n0_ := Aside0.mk (Kd.R_below (jR HO143) hb); have n1_ := Aside0.mk (Kd.R_below (jR HO146) hb); have n2_ := Aside0.mk (zT (jH HB) hb); have n3_ := Aside0.mk hbox; have n4_ := Aside0.mk (jG hg HB); have n5_ := Aside0.mk (jG hg HB); clear HO143; clear HO146; clear HB; have HO143 := n0_; have HO146 := n1_; have HB := n2_; have BK147 := n3_; have GW147 := n4_; have GE147 := n5_; clear n0_ n1_ n2_ n3_ n4_ n5_; clear hb hbox hg; obtain ⟨Ao10, co10, eo10⟩ := Kd.R_slice HO143.out; subst eo10; have hcb_n : w9.cell? ⟨gb147, 0, none⟩ = some (.slice none 0 0) := (kC BK147.out 0).trans rfl; have hfb_n := kF BK147.out 0) | ((with_reducible refine gate_store (t := 48) (p := 6) rfl ?_); refine store_event (t := 48) (p := 6) (v := ?vo_w9990) (w1 := (w9.setCell ⟨gb147, 0, none⟩ (v145))) ?hg ?ho ?hn ?hr ?_; (case ho => rfl); (case hg => rfl); (case hn => rfl); (case hr => (obtain ⟨am_, cm_, em_⟩ := Kd.R_slice HO146.out; subst em_; first | (go_simp; done) | (go_simp; rfl))); intro w9990 hw; have n0_ := Aside0.mk ((by rw [hw]; exact Kd.R_set (g := gb147) (cells := #[.slice none 0 0]) (jR HO143) BK147.out (by decide) 0 _) : Kd.R Kd.bool 4 w9990 w.heap.size (fun _ => True) (.slice Ao10 t140.length co10) t140); have n1_ := Aside0.mk ((by rw [hw]; exact Kd.R_set (g := gb147) (cells := #[.slice none 0 0]) (jR HO146) BK147.out (by decide) 0 _) : Kd.R (Kd.int .i64) 3 w9990 w.heap.size (fun _ => True) v145 y144); have n7_ := Aside0.mk ((by rw [hw]; exact kP BK147.out 0 _ rfl) : w9990.heap[gb147]? = some (.cells #[v145] 48 (0, 0))); have n8_ := Aside0.mk ((by rw [hw]; exact zS HB.out GE147.out) : Below w.heap.size w w9990); clear HO143; clear HO146; clear BK147; clear HB; have HO143 := n0_; have HO146 := n1_; have BK147 := n7_; have HB := n8_; clear n0_ n1_ n7_ n8_; clear hw; have hcb_n : w9990.cell? ⟨gb147, 0, none⟩ = some (v145) := (kC BK147.out 0).trans rfl; have hfb_n := kF BK147.out 0))
    go_loopg [7, 27] k (fun kq v7 v27 w' => ∃ (x7_1 : Int) (x24_1 : List Int) (x27_1 : Int), v7 = .int .i64 x7_1 ∧ v27 = .int .i64 x27_1 ∧ Aside0 (prune_Prune.l0 kq l0 t140 x7_1 x24_1 t140 (t140.length : Int) x27_1 = some (r1, r2)) ∧ Aside0 (kq ≤ k) ∧ Aside0 (Kd.R Kd.bool 4 w' w.heap.size (fun _ => True) (.slice Ao10 t140.length co10) t140) ∧ Aside0 (Kd.R (Kd.int .i64) 3 w' w.heap.size (fun _ => True) v145 x24_1) ∧ Aside0 (Kd.R Kd.bool 4 w' w.heap.size (fun _ => True) (.slice Ao10 t140.length co10) t140) ∧ Aside0 (w'.heap[gb147]? = some (.cells #[v145] 48 (0, 0))) ∧ Aside0 (Below w.heap.size w w'))
    case atStart => exact ⟨(0), (y144), (0), jS, jS, H', ⟨Nat.le_refl _⟩, ⟨jR HO143⟩, ⟨jR HO146⟩, ⟨jR HO143⟩, ⟨jK BK147⟩, ⟨jH HB⟩⟩
    case round =>
     clear H'
     obtain ⟨x7_1, x24_1, x27_1, rfl, rfl, HA, HK1, HO_4, HO_24, HO_25, BK147, HB⟩ := hrel
     cases gk with
     | zero => exact absurd HA.out (by simp [prune_Prune.l0])
     | succ k1 =>
      have H := HA.out
      clear HA
      simp only [prune_Prune.l0] at H
      by_cases c11 : x27_1 < (t140.length : Int)
      ·rw [if_pos c11] at H
       have c11b0 : decide (x27_1 < (t140.length : Int)) = true := dT c11
       clear c11
       by_cases c12 : 0 ≤ x27_1
       ·rw [if_pos c12] at H
        have c12b0 : decide (0 ≤ x27_1) = true := dT c12
        clear c12
        by_cases c13 : x27_1 < (t140.length : Int)
        ·rw [if_pos c13] at H
         have c13b0 : decide (x27_1 < (t140.length : Int)) = true := dT c13
         clear c13
         by_cases c14 : x27_1 < (x24_1.length : Int)
         ·rw [if_pos c14] at H
          have c14b0 : decide (x27_1 < (x24_1.length : Int)) = true := dT c14
          clear c14
          obtain ⟨y149, hy149⟩ : ∃ y_ : List Int, y_ = (x24_1.set (x27_1 : Int).toNat x7_1) := ⟨_, rfl⟩
          simp only [Option.bind_some, ← hy149] at H
          have Ny149 := Aside0.mk hy149
          clear hy149
          obtain ⟨bq16, hbq16⟩ : ∃ b_ : Bool, b_ = (rdOf false t140 x27_1) := ⟨_, rfl⟩
          replace H : (if bq16 = true then (prune_Prune.l0 k1 l0 t140 (wrap64 (x7_1 + 1)) y149 t140 (t140.length : Int) (wrap64 (x27_1 + 1))) else (prune_Prune.l0 k1 l0 t140 x7_1 y149 t140 (t140.length : Int) (wrap64 (x27_1 + 1)))) = some (r1, r2) := by rw [← hbq16] at H; exact H
          have Nbq16 := Aside0.mk hbq16
          clear hbq16
          by_cases c17 : bq16 = true
          ·subst c17
           rw [if_pos rfl] at H
           have H' := Aside0.mk H
           clear H
           have p148 : 0 ≤ (x27_1 : Int) := oD (jA)
           have q148 : x27_1 < (t140.length : Int) := oD (jA)
           obtain ⟨ad148, e148, hx148_0⟩ := Kd.at_bool (Kd.R_reads' HO_25.out).2.2 x27_1 p148 q148
           (try rw [← Nbq16.out] at hx148_0)
           cases e148
           replace p148 := eq_true p148
           replace q148 := eq_true q148
           have p15 : 0 ≤ (x27_1 : Int) := oD (jA)
           have q15 : (x27_1 : Int) < ((x24_1.length : Int) : Int) := oD (jA)
           obtain ⟨go15, co15, eo15, gb15, gl15, cl15, HG15⟩ := Kd.R_form HO_24.out (by omega)
           (first | cases eo15 | (injection eo15 with ea_ en_ ec_; (first | subst ea_ | (injection ea_ with ea_; subst ea_)); subst ec_; clear en_))
           have GB15 := Aside0.mk gb15
           have GG15 := Aside0.mk HG15
           clear gb15 gl15 HG15
           obtain ⟨hx15_0, hf15_0⟩ := Kd.R_celln 0 HO_24.out (x27_1 : Int) p15 q15
           replace p15 := eq_true p15
           replace q15 := eq_true q15
           have HP18 := Kd.R_putg HO_24.out (x27_1 : Int) x7_1
           have hcb_n : wr.cell? ⟨gb147, 0, none⟩ = some (.slice (some ⟨go15, 0, none⟩) x24_1.length co15) := (kC BK147.out 0).trans rfl
           have hfb_n := kF BK147.out 0
           go_wp2_with (first | ((with_reducible refine gate_store (t := 3) (p := 35) rfl ?_); refine store_event (t := 3) (p := 35) (v := ?vo_w19) (w1 := (wr.setCell ⟨go15, (x27_1 : Int).toNat, none⟩ (.int .i64 x7_1))) ?hg ?ho ?hn ?hr ?_; (case ho => rfl); (case hg => rfl); (case hn => rfl); (case hr => first | (go_simp; done) | (go_simp; rfl)); intro w19 hw; have hg : wr.grownBy w19 (some go15) := (by rw [hw]; exact HP18.2); have hp_ : Kd.R (Kd.int .i64) 3 w19 w.heap.size (fun _ => True) (.slice (some ⟨go15, 0, none⟩) x24_1.length co15) y149 := (by rw [hw, Ny149.out]; exact HP18.1); clear HP18; have n0_ := Aside0.mk (Kd.R_over' (v := (.slice (some ⟨go15, 0, none⟩) x24_1.length co15)) (jR HO_4) (Kd.R_typed HO_24.out) (by decide) hg); have n1_ := Aside0.mk (hp_); have n2_ := Aside0.mk (Kd.R_over' (v := (.slice (some ⟨go15, 0, none⟩) x24_1.length co15)) (jR HO_25) (Kd.R_typed HO_24.out) (by decide) hg); have n3_ := Aside0.mk (kG (g := gb147) (o := .cells #[.slice (some ⟨go15, 0, none⟩) x24_1.length co15] 48 (0, 0)) (jK BK147) hg (Kd.R_ne HO_24.out BK147.out (by decide))); have n4_ := Aside0.mk ((by rw [hw]; exact zS (HB.out) GB15.out : Below w.heap.size w w19)); clear HO_4; clear HO_24; clear HO_25; clear BK147; clear HB; have HO_4 := n0_; have HO_24 := n1_; have HO_25 := n2_; have BK147 := n3_; have HB := n4_; clear n0_ n1_ n2_ n3_ n4_; clear hg hw hp_))
           go_roundg k1
           case measure => have := HK1.out; omega
           case rel => exact ⟨(wrap64 (x7_1 + 1)), (y149), (wrap64 (x27_1 + 1)), jS, jS, H', ⟨by have := HK1.out; omega⟩, ⟨jR HO_4⟩, ⟨jR HO_24⟩, ⟨jR HO_25⟩, ⟨jK BK147⟩, ⟨jH HB⟩⟩
          ·replace c17 := Bool.eq_false_iff.mpr c17
           subst c17
           rw [if_neg (show ¬ (false = true) by decide)] at H
           have H' := Aside0.mk H
           clear H
           have p148 : 0 ≤ (x27_1 : Int) := oD (jA)
           have q148 : x27_1 < (t140.length : Int) := oD (jA)
           obtain ⟨ad148, e148, hx148_0⟩ := Kd.at_bool (Kd.R_reads' HO_25.out).2.2 x27_1 p148 q148
           (try rw [← Nbq16.out] at hx148_0)
           cases e148
           replace p148 := eq_true p148
           replace q148 := eq_true q148
           have p15 : 0 ≤ (x27_1 : Int) := oD (jA)
           have q15 : (x27_1 : Int) < ((x24_1.length : Int) : Int) := oD (jA)
           obtain ⟨go15, co15, eo15, gb15, gl15, cl15, HG15⟩ := Kd.R_form HO_24.out (by omega)
           (first | cases eo15 | (injection eo15 with ea_ en_ ec_; (first | subst ea_ | (injection ea_ with ea_; subst ea_)); subst ec_; clear en_))
           have GB15 := Aside0.mk gb15
           have GG15 := Aside0.mk HG15
           clear gb15 gl15 HG15
           obtain ⟨hx15_0, hf15_0⟩ := Kd.R_celln 0 HO_24.out (x27_1 : Int) p15 q15
           replace p15 := eq_true p15
           replace q15 := eq_true q15
           have HP20 := Kd.R_putg HO_24.out (x27_1 : Int) x7_1
           have hcb_n : wr.cell? ⟨gb147, 0, none⟩ = some (.slice (some ⟨go15, 0, none⟩) x24_1.length co15) := (kC BK147.out 0).trans rfl
           have hfb_n := kF BK147.out 0
           go_wp2_with (first | ((with_reducible refine gate_store (t := 3) (p := 35) rfl ?_); refine store_event (t := 3) (p := 35) (v := ?vo_w21) (w1 := (wr.setCell ⟨go15, (x27_1 : Int).toNat, none⟩ (.int .i64 x7_1))) ?hg ?ho ?hn ?hr ?_; (case ho => rfl); (case hg => rfl); (case hn => rfl); (case hr => first | (go_simp; done) | (go_simp; rfl)); intro w21 hw; have hg : wr.grownBy w21 (some go15) := (by rw [hw]; exact HP20.2); have hp_ : Kd.R (Kd.int .i64) 3 w21 w.heap.size (fun _ => True) (.slice (some ⟨go15, 0, none⟩) x24_1.length co15) y149 := (by rw [hw, Ny149.out]; exact HP20.1); clear HP20; have n0_ := Aside0.mk (Kd.R_over' (v := (.slice (some ⟨go15, 0, none⟩) x24_1.length co15)) (jR HO_4) (Kd.R_typed HO_24.out) (by decide) hg); have n1_ := Aside0.mk (hp_); have n2_ := Aside0.mk (Kd.R_over' (v := (.slice (some ⟨go15, 0, none⟩) x24_1.length co15)) (jR HO_25) (Kd.R_typed HO_24.out) (by decide) hg); have n3_ := Aside0.mk (kG (g := gb147) (o := .cells #[.slice (some ⟨go15, 0, none⟩) x24_1.length co15] 48 (0, 0)) (jK BK147) hg (Kd.R_ne HO_24.out BK147.out (by decide))); have n4_ := Aside0.mk ((by rw [hw]; exact zS (HB.out) GB15.out : Below w.heap.size w w21)); clear HO_4; clear HO_24; clear HO_25; clear BK147; clear HB; have HO_4 := n0_; have HO_24 := n1_; have HO_25 := n2_; have BK147 := n3_; have HB := n4_; clear n0_ n1_ n2_ n3_ n4_; clear hg hw hp_))
           go_roundg k1
           case measure => have := HK1.out; omega
           case rel => exact ⟨(x7_1), (y149), (wrap64 (x27_1 + 1)), jS, jS, H', ⟨by have := HK1.out; omega⟩, ⟨jR HO_4⟩, ⟨jR HO_24⟩, ⟨jR HO_25⟩, ⟨jK BK147⟩, ⟨jH HB⟩⟩
         ·rw [if_neg c14] at H
          exact absurd H (by simp)
        ·rw [if_neg c13] at H
         exact absurd H (by simp)
       ·rw [if_neg c12] at H
        exact absurd H (by simp)
      ·rw [if_neg c11] at H
       have c11b0 : decide (x27_1 < (t140.length : Int)) = false := dF c11
       clear c11
       have H' := Aside0.mk H
       clear H
       go_wp2
       go_loopg [11, 43] k1 (fun kq v11 v43 w' => ∃ (x11_2 : List (S45)) (x43_2 : Int), v43 = .int .i64 x43_2 ∧ Aside0 (prune_Prune.l1 kq t140 x11_2 x24_1 l0 (l0.length : Int) x43_2 = some (r1, r2)) ∧ Aside0 (kq ≤ k1) ∧ Aside0 (Kd.R Kd.bool 4 w' w.heap.size (fun _ => True) (.slice Ao10 t140.length co10) t140) ∧ Aside0 (Kd.R k45 45 w' w.heap.size (fun k_ => k_ ≠ gb147) v11 x11_2) ∧ Aside0 (Kd.R (Kd.int .i64) 3 w' w.heap.size (fun _ => True) v145 x24_1) ∧ Aside0 (w'.heap[gb147]? = some (.cells #[v145] 48 (0, 0))) ∧ Aside0 (Below w.heap.size w w'))
       case atStart => exact ⟨(([] : List (S45))), (0), jS, H', ⟨Nat.le_refl _⟩, ⟨jR HO_4⟩, ⟨by first | exact Kd.R_nil _ _ _ _ _ | exact Kd.N_nil _ _ _ _ _ | exact Kd.V_nil _ _ _ _ _ | exact Kd.Q_nil _ _ _ _ _ | exact Kd.S_nil _ _ _ _ _⟩, ⟨jR HO_24⟩, ⟨jK BK147⟩, ⟨jH HB⟩⟩
       case round =>
        clear H'
        obtain ⟨x11_2, x43_2, rfl, HA, HK2, HO_4, HO_11, HO_24, BK147, HB⟩ := hrel
        cases gk with
        | zero => exact absurd HA.out (by simp [prune_Prune.l1])
        | succ k2 =>
         have H := HA.out
         clear HA
         simp only [prune_Prune.l1] at H
         by_cases c22 : x43_2 < (l0.length : Int)
         ·rw [if_pos c22] at H
          have c22b0 : decide (x43_2 < (l0.length : Int)) = true := dT c22
          clear c22
          by_cases c23 : 0 ≤ x43_2
          ·rw [if_pos c23] at H
           have c23b0 : decide (0 ≤ x43_2) = true := dT c23
           clear c23
           by_cases c24 : x43_2 < (l0.length : Int)
           ·rw [if_pos c24] at H
            have c24b0 : decide (x43_2 < (l0.length : Int)) = true := dT c24
            clear c24
            by_cases c25 : x43_2 < (t140.length : Int)
            ·rw [if_pos c25] at H
             have c25b0 : decide (x43_2 < (t140.length : Int)) = true := dT c25
             clear c25
             obtain ⟨bq26, hbq26⟩ : ∃ b_ : Bool, b_ = (rdOf false t140 x43_2) := ⟨_, rfl⟩
             replace H : (if bq26 = true then (if ((rd_T45 l0 x43_2).f0) = 5 then ((prune_off.f x24_1 x43_2 (wrap64 ((rd_T45 l0 x43_2).f3))).bind fun t153 => (if x11_2.length < 4398046511104 then (prune_Prune.l1 k2 t140 (x11_2 ++ [(⟨(rd_T45 l0 x43_2).f0, (rd_T45 l0 x43_2).f1, (rd_T45 l0 x43_2).f2, (t153) % 4294967296⟩ : S45)]) x24_1 l0 (l0.length : Int) (wrap64 (x43_2 + 1))) else (none))) else ((ins_Branch.f ((rd_T45 l0 x43_2).f0) ((rd_T45 l0 x43_2).f1) ((rd_T45 l0 x43_2).f2) ((rd_T45 l0 x43_2).f3)).bind fun t157 => (if t157 = true then ((prune_off.f x24_1 x43_2 ((rd_T45 l0 x43_2).f1)).bind fun t158 => ((prune_off.f x24_1 x43_2 ((rd_T45 l0 x43_2).f2)).bind fun t159 => (if x11_2.length < 4398046511104 then (prune_Prune.l1 k2 t140 (x11_2 ++ [(⟨(rd_T45 l0 x43_2).f0, t158, t159, (rd_T45 l0 x43_2).f3⟩ : S45)]) x24_1 l0 (l0.length : Int) (wrap64 (x43_2 + 1))) else (none)))) else (if x11_2.length < 4398046511104 then (prune_Prune.l1 k2 t140 (x11_2 ++ [(⟨(rd_T45 l0 x43_2).f0, (rd_T45 l0 x43_2).f1, (rd_T45 l0 x43_2).f2, (rd_T45 l0 x43_2).f3⟩ : S45)]) x24_1 l0 (l0.length : Int) (wrap64 (x43_2 + 1))) else (none))))) else (prune_Prune.l1 k2 t140 x11_2 x24_1 l0 (l0.length : Int) (wrap64 (x43_2 + 1)))) = some (r1, r2) := by rw [← hbq26] at H; exact H
             have Nbq26 := Aside0.mk hbq26
             clear hbq26
             by_cases c27 : bq26 = true
             ·subst c27
              rw [if_pos rfl] at H
              by_cases c28 : ((rd_T45 l0 x43_2).f0) = 5
              ·rw [if_pos c28] at H
               have c28b0 : (((rd_T45 l0 x43_2).f0) == 5) = true := bI.mpr c28
               have c28b1 : (((rd_T45 l0 x43_2).f0) != 5) = false := nF.mpr c28
               clear c28
               replace H := Option.bind_eq_some_iff.mp H
               obtain ⟨t153, A290, H⟩ := H
               try dsimp only at H
               have A29 := Aside0.mk A290
               clear A290
               by_cases c30 : x11_2.length < 4398046511104
               ·rw [if_pos c30] at H
                have LMc30 := Aside0.mk c30
                clear c30
                obtain ⟨y154, hy154⟩ : ∃ y_ : List (S45), y_ = (x11_2 ++ [(⟨(rd_T45 l0 x43_2).f0, (rd_T45 l0 x43_2).f1, (rd_T45 l0 x43_2).f2, (t153) % 4294967296⟩ : S45)]) := ⟨_, rfl⟩
                simp only [Option.bind_some, ← hy154] at H
                have Ny154 := Aside0.mk hy154
                clear hy154
                have H' := Aside0.mk H
                clear H
                have p150 : 0 ≤ (x43_2 : Int) := oD (jA)
                have q150 : x43_2 < (l0.length : Int) := oD (jA)
                obtain ⟨ad150, e150, hx150_0, hx150_1, hx150_2, hx150_3⟩ := at_T45 HR0.out x43_2 p150 q150
                cases e150
                replace hx150_0 := (HB.out.cell (bL w _ hx150_0)).trans hx150_0
                replace hx150_1 := (HB.out.cell (bL w _ hx150_1)).trans hx150_1
                replace hx150_2 := (HB.out.cell (bL w _ hx150_2)).trans hx150_2
                replace hx150_3 := (HB.out.cell (bL w _ hx150_3)).trans hx150_3
                replace p150 := eq_true p150
                replace q150 := eq_true q150
                go_wp2_with (first | ((with_reducible refine gate_dst (N := 13) rfl ?_); refine box_event rfl (N := 13) rfl (cs := #[.int .i64 0, .int .i64 0, .int .i64 0, .int .u32 0]) (t := 45) jW ?_; intro gb151 hg w31 hbox hb; have n0_ := Aside0.mk (Kd.R_below (jR HO_4) hb); have n1_ := Aside0.mk (Kd.R_below (Kd.R_elderB (jR HO_11) gb151 (Nat.le_of_eq hg.symm)) hb); have n2_ := Aside0.mk (Kd.R_below (jR HO_24) hb); have n3_ := Aside0.mk (jB BK147 hb); have n4_ := Aside0.mk (zT (jH HB) hb); have n5_ := Aside0.mk hbox; have n6_ := Aside0.mk (jG hg HB); have n7_ := Aside0.mk (jG hg HB); have n8_ := Aside0.mk (jN hg BK147); have n9_ := Aside0.mk (jM hg BK147); clear HO_4; clear HO_11; clear HO_24; clear BK147; clear HB; have HO_4 := n0_; have HO_11 := n1_; have HO_24 := n2_; have BK147 := n3_; have HB := n4_; have BK151 := n5_; have GW151 := n6_; have GE151 := n7_; have NB147_151 := n8_; have NB151_147 := n9_; clear n0_ n1_ n2_ n3_ n4_ n5_ n6_ n7_ n8_ n9_; clear hb hbox hg; have hnb32 := NB151_147.out; have hnc32 := NB147_151.out; have hcz33_0 : w31.cell? ⟨gb151, 0, none⟩ = some (.int .i64 0) := (kC BK151.out 0).trans rfl; have hcz33_1 : w31.cell? ⟨gb151, 1, none⟩ = some (.int .i64 0) := (kC BK151.out 1).trans rfl; have hcz33_2 : w31.cell? ⟨gb151, 2, none⟩ = some (.int .i64 0) := (kC BK151.out 2).trans rfl; have hcz33_3 : w31.cell? ⟨gb151, 3, none⟩ = some (.int .u32 0) := (kC BK151.out 3).trans rfl; have hfz33_0 := kF BK151.out 0; have hfz33_1 := kF BK151.out 1; have hfz33_2 := kF BK151.out 2; have hfz33_3 := kF BK151.out 3; have p152 : 0 ≤ (x43_2 : Int) := oD (jA); have q152 : x43_2 < (t140.length : Int) := oD (jA); obtain ⟨ad152, e152, hx152_0⟩ := Kd.at_bool (Kd.R_reads' HO_4.out).2.2 x43_2 p152 q152; (try rw [← Nbq26.out] at hx152_0); cases e152; have hn152_0 : ad152.block ≠ gb151 := Kd.own_blk (Kd.R_ne HO_4.out BK151.out (by decide)); have hn152_1 : ad152.block ≠ gb151 := Kd.own_blk (Kd.R_ne HO_4.out BK151.out (by decide)); have hn152_2 : ad152.block ≠ gb151 := Kd.own_blk (Kd.R_ne HO_4.out BK151.out (by decide)); have hn152_3 : ad152.block ≠ gb151 := Kd.own_blk (Kd.R_ne HO_4.out BK151.out (by decide)); replace hx152_0 := (cell_far (p := ⟨gb151, 0, none⟩) (by first | (rw [add_block]; exact hn152_0) | (show (Addr.add _ _).block ≠ _; rw [add_block]; exact hn152_0) | exact hn152_0) (.int .i64 ((rd_T45 l0 x43_2).f0))).trans hx152_0; replace hx152_0 := (cell_far (p := ⟨gb151, 1, none⟩) (by first | (rw [add_block]; exact hn152_1) | (show (Addr.add _ _).block ≠ _; rw [add_block]; exact hn152_1) | exact hn152_1) (.int .i64 ((rd_T45 l0 x43_2).f1))).trans hx152_0; replace hx152_0 := (cell_far (p := ⟨gb151, 2, none⟩) (by first | (rw [add_block]; exact hn152_2) | (show (Addr.add _ _).block ≠ _; rw [add_block]; exact hn152_2) | exact hn152_2) (.int .i64 ((rd_T45 l0 x43_2).f2))).trans hx152_0; replace hx152_0 := (cell_far (p := ⟨gb151, 3, none⟩) (by first | (rw [add_block]; exact hn152_3) | (show (Addr.add _ _).block ≠ _; rw [add_block]; exact hn152_3) | exact hn152_3) (.int .u32 ((rd_T45 l0 x43_2).f3))).trans hx152_0; clear hn152_0; clear hn152_1; clear hn152_2; clear hn152_3; replace p152 := eq_true p152; replace q152 := eq_true q152; obtain ⟨Ao34, co34, eo34⟩ := Kd.R_slice HO_24.out; subst eo34) | (go_at_call 21; (with_reducible refine (prune_off.calls Ao34 co34 x24_1 x43_2 (wrap64 ((rd_T45 l0 x43_2).f3)) t153 gb147 _ ?side1 ?side2 A29.out).mono ?_); (case side1 => refine (Kd.R_reads' (e := 3) (base := w.heap.size) (ok := fun k_ => True) (n := x24_1.length) (c := co34) ?_).2.2; exact (by (with_reducible repeat (first | apply Kd.R_alloc | apply Kd.R_drewN | apply Kd.R_drew)); exact (Kd.R_mono (Kd.R_far (p := ⟨gb151, 3, none⟩) (Kd.R_far (p := ⟨gb151, 2, none⟩) (Kd.R_far (p := ⟨gb151, 1, none⟩) (Kd.R_far (p := ⟨gb151, 0, none⟩) (Kd.R_types HO_24.out BK151.out (by decide)) (fun _ hk => hk.2) (.int .i64 ((rd_T45 l0 x43_2).f0))) (fun _ hk => hk.2) (.int .i64 ((rd_T45 l0 x43_2).f1))) (fun _ hk => hk.2) (.int .i64 ((rd_T45 l0 x43_2).f2))) (fun _ hk => hk.2) (.int .u32 ((rd_T45 l0 x43_2).f3))) (fun _ h_ => h_.1)))); (case side2 => exact (by (with_reducible repeat (first | refine kN ?_ _ | refine kD ?_ | refine kA ?_ _ | refine kR ?_ NB147_151.out _)); exact BK147.out)); rintro e w' ⟨rfl, ⟨nd, rfl⟩⟩; have hs3_ := fun u : Value => box4_set3 (.int .i64 ((rd_T45 l0 x43_2).f0)) (.int .i64 ((rd_T45 l0 x43_2).f1)) (.int .i64 ((rd_T45 l0 x43_2).f2)) (.int .u32 ((rd_T45 l0 x43_2).f3)) nd BK151.out u) | ((with_reducible refine gate_builtin (b := .append) (xs := #[.tmp 80, .tmp 82]) rfl ?_); at_builtin; refine Kd.R_append k45 (w0 := w) w.heap.size rfl (.tmp 80) (.tmp 82) 22 45 (.agg #[(.int .i64 0), (.int .i64 0), (.int .i64 0), (.int .u32 0)]) 32 rfl Tryd.underlying22 info45 rfl (by decide) (by omega) u11 x11_2 (⟨(rd_T45 l0 x43_2).f0, (rd_T45 l0 x43_2).f1, (rd_T45 l0 x43_2).f2, (t153) % 4294967296⟩ : S45) [.int .i64 ((rd_T45 l0 x43_2).f0), .int .i64 ((rd_T45 l0 x43_2).f1), .int .i64 ((rd_T45 l0 x43_2).f2), .int .u32 ((t153) % 4294967296)] (fun k_ => k_ ≠ gb147 ∧ k_ ≠ gb151) (fun _ => False) rfl (by first | (go_simp; done) | (go_simp; rfl)) ?aP (fun _ hk => hk.elim) ?aF ?aO ?aB ?aS ?aL ?_; (case aP => exact k45_mkM _ _ _ (⟨(rd_T45 l0 x43_2).f0, (rd_T45 l0 x43_2).f1, (rd_T45 l0 x43_2).f2, (t153) % 4294967296⟩ : S45)); (case aB => exact (jH HB)); (case aF => exact (fun k_ hk => ⟨Kd.freshB (g := gb147) (o := .cells #[.slice Ao34 x24_1.length co34] 48 (0, 0)) (by (with_reducible repeat (first | refine kN ?_ _ | refine kD ?_ | refine kA ?_ _)); refine kR ?_ NB147_151.out _; (with_reducible repeat (first | refine kN ?_ _ | refine kD ?_ | refine kA ?_ _)); refine kR ?_ NB147_151.out _; (with_reducible repeat (first | refine kN ?_ _ | refine kD ?_ | refine kA ?_ _)); refine kR ?_ NB147_151.out _; (with_reducible repeat (first | refine kN ?_ _ | refine kD ?_ | refine kA ?_ _)); refine kR ?_ NB147_151.out _; (with_reducible repeat (first | refine kN ?_ _ | refine kD ?_ | refine kA ?_ _)); refine kR ?_ NB147_151.out _; (with_reducible repeat (first | refine kN ?_ _ | refine kD ?_ | refine kA ?_ _)); exact BK147.out) k_ hk, Kd.freshB (g := gb151) (o := .cells #[.int .i64 ((rd_T45 l0 x43_2).f0), .int .i64 ((rd_T45 l0 x43_2).f1), .int .i64 ((rd_T45 l0 x43_2).f2), .int .u32 ((t153) % 4294967296)] 45 (0, 0)) (by (with_reducible repeat (first | refine kN ?_ _ | refine kD ?_ | refine kA ?_ _)); refine kP (cs := #[.int .i64 ((rd_T45 l0 x43_2).f0), .int .i64 ((rd_T45 l0 x43_2).f1), .int .i64 ((rd_T45 l0 x43_2).f2), .int .u32 ((rd_T45 l0 x43_2).f3)]) ?_ 3 _ rfl; (with_reducible repeat (first | refine kN ?_ _ | refine kD ?_ | refine kA ?_ _)); refine kP (cs := #[.int .i64 ((rd_T45 l0 x43_2).f0), .int .i64 ((rd_T45 l0 x43_2).f1), .int .i64 ((rd_T45 l0 x43_2).f2), .int .u32 0]) ?_ 3 _ rfl; (with_reducible repeat (first | refine kN ?_ _ | refine kD ?_ | refine kA ?_ _)); refine kP (cs := #[.int .i64 ((rd_T45 l0 x43_2).f0), .int .i64 ((rd_T45 l0 x43_2).f1), .int .i64 0, .int .u32 0]) ?_ 2 _ rfl; (with_reducible repeat (first | refine kN ?_ _ | refine kD ?_ | refine kA ?_ _)); refine kP (cs := #[.int .i64 ((rd_T45 l0 x43_2).f0), .int .i64 0, .int .i64 0, .int .u32 0]) ?_ 1 _ rfl; (with_reducible repeat (first | refine kN ?_ _ | refine kD ?_ | refine kA ?_ _)); refine kP (cs := #[.int .i64 0, .int .i64 0, .int .i64 0, .int .u32 0]) ?_ 0 _ rfl; (with_reducible repeat (first | refine kN ?_ _ | refine kD ?_ | refine kA ?_ _)); exact BK151.out) k_ hk⟩)); (case aO => exact (by (with_reducible repeat (first | apply Kd.R_alloc | apply Kd.R_drewN | apply Kd.R_drew)); exact Kd.R_mono (Kd.R_far (p := ⟨gb151, 3, none⟩) (Kd.R_far (p := ⟨gb151, 3, none⟩) (Kd.R_far (p := ⟨gb151, 2, none⟩) (Kd.R_far (p := ⟨gb151, 1, none⟩) (Kd.R_far (p := ⟨gb151, 0, none⟩) (Kd.R_mono HO_11.out (fun k_ hk => (⟨hk, hk.2⟩ : _ ∧ k_ ≠ gb151))) (fun _ hk => hk.2) (.int .i64 ((rd_T45 l0 x43_2).f0))) (fun _ hk => hk.2) (.int .i64 ((rd_T45 l0 x43_2).f1))) (fun _ hk => hk.2) (.int .i64 ((rd_T45 l0 x43_2).f2))) (fun _ hk => hk.2) (.int .u32 ((rd_T45 l0 x43_2).f3))) (fun _ hk => hk.2) (.int .u32 ((t153) % 4294967296))) (fun _ hk => ⟨hk.1.1, hk.1.2⟩))); (case aS => exact (zZ (jH HB))); (case aL => have := LMc30.out; omega); intro v155 w35 ho hb hg hat; rw [← Ny154.out] at ho; have n0_ := Aside0.mk (Kd.R_over' (by (with_reducible repeat (first | apply Kd.R_alloc | apply Kd.R_drewN | apply Kd.R_drew)); exact (Kd.R_mono (Kd.R_far (p := ⟨gb151, 3, none⟩) (Kd.R_far (p := ⟨gb151, 3, none⟩) (Kd.R_far (p := ⟨gb151, 2, none⟩) (Kd.R_far (p := ⟨gb151, 1, none⟩) (Kd.R_far (p := ⟨gb151, 0, none⟩) (Kd.R_types HO_4.out BK151.out (by decide)) (fun _ hk => hk.2) (.int .i64 ((rd_T45 l0 x43_2).f0))) (fun _ hk => hk.2) (.int .i64 ((rd_T45 l0 x43_2).f1))) (fun _ hk => hk.2) (.int .i64 ((rd_T45 l0 x43_2).f2))) (fun _ hk => hk.2) (.int .u32 ((rd_T45 l0 x43_2).f3))) (fun _ hk => hk.2) (.int .u32 ((t153) % 4294967296))) (fun _ h_ => h_.1))) (Kd.R_typed (by (with_reducible repeat (first | apply Kd.R_alloc | apply Kd.R_drewN | apply Kd.R_drew)); exact (Kd.R_mono (Kd.R_far (p := ⟨gb151, 3, none⟩) (Kd.R_far (p := ⟨gb151, 3, none⟩) (Kd.R_far (p := ⟨gb151, 2, none⟩) (Kd.R_far (p := ⟨gb151, 1, none⟩) (Kd.R_far (p := ⟨gb151, 0, none⟩) (Kd.R_mono HO_11.out (fun k_ hk => (⟨hk, hk.2⟩ : _ ∧ k_ ≠ gb151))) (fun _ hk => hk.2) (.int .i64 ((rd_T45 l0 x43_2).f0))) (fun _ hk => hk.2) (.int .i64 ((rd_T45 l0 x43_2).f1))) (fun _ hk => hk.2) (.int .i64 ((rd_T45 l0 x43_2).f2))) (fun _ hk => hk.2) (.int .u32 ((rd_T45 l0 x43_2).f3))) (fun _ hk => hk.2) (.int .u32 ((t153) % 4294967296))) (fun _ h_ => h_.1)))) (by decide) hg); have n1_ := Aside0.mk (Kd.R_over' (by (with_reducible repeat (first | apply Kd.R_alloc | apply Kd.R_drewN | apply Kd.R_drew)); exact (Kd.R_mono (Kd.R_far (p := ⟨gb151, 3, none⟩) (Kd.R_far (p := ⟨gb151, 3, none⟩) (Kd.R_far (p := ⟨gb151, 2, none⟩) (Kd.R_far (p := ⟨gb151, 1, none⟩) (Kd.R_far (p := ⟨gb151, 0, none⟩) (Kd.R_types HO_24.out BK151.out (by decide)) (fun _ hk => hk.2) (.int .i64 ((rd_T45 l0 x43_2).f0))) (fun _ hk => hk.2) (.int .i64 ((rd_T45 l0 x43_2).f1))) (fun _ hk => hk.2) (.int .i64 ((rd_T45 l0 x43_2).f2))) (fun _ hk => hk.2) (.int .u32 ((rd_T45 l0 x43_2).f3))) (fun _ hk => hk.2) (.int .u32 ((t153) % 4294967296))) (fun _ h_ => h_.1))) (Kd.R_typed (by (with_reducible repeat (first | apply Kd.R_alloc | apply Kd.R_drewN | apply Kd.R_drew)); exact (Kd.R_mono (Kd.R_far (p := ⟨gb151, 3, none⟩) (Kd.R_far (p := ⟨gb151, 3, none⟩) (Kd.R_far (p := ⟨gb151, 2, none⟩) (Kd.R_far (p := ⟨gb151, 1, none⟩) (Kd.R_far (p := ⟨gb151, 0, none⟩) (Kd.R_mono HO_11.out (fun k_ hk => (⟨hk, hk.2⟩ : _ ∧ k_ ≠ gb151))) (fun _ hk => hk.2) (.int .i64 ((rd_T45 l0 x43_2).f0))) (fun _ hk => hk.2) (.int .i64 ((rd_T45 l0 x43_2).f1))) (fun _ hk => hk.2) (.int .i64 ((rd_T45 l0 x43_2).f2))) (fun _ hk => hk.2) (.int .u32 ((rd_T45 l0 x43_2).f3))) (fun _ hk => hk.2) (.int .u32 ((t153) % 4294967296))) (fun _ h_ => h_.1)))) (by decide) hg); have n2_ := Aside0.mk (kG (g := gb147) (o := .cells #[.slice Ao34 x24_1.length co34] 48 (0, 0)) (by (with_reducible repeat (first | refine kN ?_ _ | refine kD ?_ | refine kA ?_ _)); refine kR ?_ NB147_151.out _; (with_reducible repeat (first | refine kN ?_ _ | refine kD ?_ | refine kA ?_ _)); refine kR ?_ NB147_151.out _; (with_reducible repeat (first | refine kN ?_ _ | refine kD ?_ | refine kA ?_ _)); refine kR ?_ NB147_151.out _; (with_reducible repeat (first | refine kN ?_ _ | refine kD ?_ | refine kA ?_ _)); refine kR ?_ NB147_151.out _; (with_reducible repeat (first | refine kN ?_ _ | refine kD ?_ | refine kA ?_ _)); refine kR ?_ NB147_151.out _; (with_reducible repeat (first | refine kN ?_ _ | refine kD ?_ | refine kA ?_ _)); exact BK147.out) hg (Kd.R_away HO_11.out (fun _ hk => hk.1))); have n3_ := Aside0.mk (kG (g := gb151) (o := .cells #[.int .i64 ((rd_T45 l0 x43_2).f0), .int .i64 ((rd_T45 l0 x43_2).f1), .int .i64 ((rd_T45 l0 x43_2).f2), .int .u32 ((t153) % 4294967296)] 45 (0, 0)) (by (with_reducible repeat (first | refine kN ?_ _ | refine kD ?_ | refine kA ?_ _)); refine kP (cs := #[.int .i64 ((rd_T45 l0 x43_2).f0), .int .i64 ((rd_T45 l0 x43_2).f1), .int .i64 ((rd_T45 l0 x43_2).f2), .int .u32 ((rd_T45 l0 x43_2).f3)]) ?_ 3 _ rfl; (with_reducible repeat (first | refine kN ?_ _ | refine kD ?_ | refine kA ?_ _)); refine kP (cs := #[.int .i64 ((rd_T45 l0 x43_2).f0), .int .i64 ((rd_T45 l0 x43_2).f1), .int .i64 ((rd_T45 l0 x43_2).f2), .int .u32 0]) ?_ 3 _ rfl; (with_reducible repeat (first | refine kN ?_ _ | refine kD ?_ | refine kA ?_ _)); refine kP (cs := #[.int .i64 ((rd_T45 l0 x43_2).f0), .int .i64 ((rd_T45 l0 x43_2).f1), .int .i64 0, .int .u32 0]) ?_ 2 _ rfl; (with_reducible repeat (first | refine kN ?_ _ | refine kD ?_ | refine kA ?_ _)); refine kP (cs := #[.int .i64 ((rd_T45 l0 x43_2).f0), .int .i64 0, .int .i64 0, .int .u32 0]) ?_ 1 _ rfl; (with_reducible repeat (first | refine kN ?_ _ | refine kD ?_ | refine kA ?_ _)); refine kP (cs := #[.int .i64 0, .int .i64 0, .int .i64 0, .int .u32 0]) ?_ 0 _ rfl; (with_reducible repeat (first | refine kN ?_ _ | refine kD ?_ | refine kA ?_ _)); exact BK151.out) hg (Kd.R_away HO_11.out (fun _ hk => hk.2))); have n4_ := Aside0.mk (hb); have n5_ := Aside0.mk (ho); clear HO_4; clear HO_24; clear BK147; clear BK151; clear HB; clear HO_11; have HO_4 := n0_; have HO_24 := n1_; have BK147 := n2_; have BK151 := n3_; have HB := n4_; have HO156 := n5_; clear n0_ n1_ n2_ n3_ n4_ n5_; clear ho hb hg hat))
                go_roundg k2
                case measure => have := HK1.out; have := HK2.out; omega
                case rel => exact ⟨(y154), (wrap64 (x43_2 + 1)), jS, H', ⟨by have := HK1.out; have := HK2.out; omega⟩, ⟨jR HO_4⟩, ⟨by (with_reducible repeat (first | apply Kd.R_alloc | apply Kd.R_drewN | apply Kd.R_drew)); exact Kd.R_mono HO156.out (fun _ hk => hk.1)⟩, ⟨jR HO_24⟩, ⟨jK BK147⟩, ⟨jH HB⟩⟩
               ·rw [if_neg c30] at H
                exact absurd H (by simp)
              ·rw [if_neg c28] at H
               have c28b0 : (((rd_T45 l0 x43_2).f0) == 5) = false := bF.mpr c28
               have c28b1 : (((rd_T45 l0 x43_2).f0) != 5) = true := nI.mpr c28
               replace H := Option.bind_eq_some_iff.mp H
               obtain ⟨t157, A360, H⟩ := H
               try dsimp only at H
               have A36 := Aside0.mk A360
               clear A360
               by_cases c37 : t157 = true
               ·subst c37
                rw [if_pos rfl] at H
                replace H := Option.bind_eq_some_iff.mp H
                obtain ⟨t158, A380, H⟩ := H
                try dsimp only at H
                have A38 := Aside0.mk A380
                clear A380
                replace H := Option.bind_eq_some_iff.mp H
                obtain ⟨t159, A390, H⟩ := H
                try dsimp only at H
                have A39 := Aside0.mk A390
                clear A390
                by_cases c40 : x11_2.length < 4398046511104
                ·rw [if_pos c40] at H
                 have LMc40 := Aside0.mk c40
                 clear c40
                 obtain ⟨y160, hy160⟩ : ∃ y_ : List (S45), y_ = (x11_2 ++ [(⟨(rd_T45 l0 x43_2).f0, t158, t159, (rd_T45 l0 x43_2).f3⟩ : S45)]) := ⟨_, rfl⟩
                 simp only [Option.bind_some, ← hy160] at H
                 have Ny160 := Aside0.mk hy160
                 clear hy160
                 have H' := Aside0.mk H
                 clear H
                 have p150 : 0 ≤ (x43_2 : Int) := oD (jA)
                 have q150 : x43_2 < (l0.length : Int) := oD (jA)
                 obtain ⟨ad150, e150, hx150_0, hx150_1, hx150_2, hx150_3⟩ := at_T45 HR0.out x43_2 p150 q150
                 cases e150
                 replace hx150_0 := (HB.out.cell (bL w _ hx150_0)).trans hx150_0
                 replace hx150_1 := (HB.out.cell (bL w _ hx150_1)).trans hx150_1
                 replace hx150_2 := (HB.out.cell (bL w _ hx150_2)).trans hx150_2
                 replace hx150_3 := (HB.out.cell (bL w _ hx150_3)).trans hx150_3
                 replace p150 := eq_true p150
                 replace q150 := eq_true q150
                 try go_wp2_with (first | ((with_reducible refine gate_dst (N := 13) rfl ?_); refine box_event rfl (N := 13) rfl (cs := #[.int .i64 0, .int .i64 0, .int .i64 0, .int .u32 0]) (t := 45) jW ?_; intro gb151 hg w41 hbox hb; have n0_ := Aside0.mk (Kd.R_below (jR HO_4) hb); have n1_ := Aside0.mk (Kd.R_below (Kd.R_elderB (jR HO_11) gb151 (Nat.le_of_eq hg.symm)) hb); have n2_ := Aside0.mk (Kd.R_below (jR HO_24) hb); have n3_ := Aside0.mk (jB BK147 hb); have n4_ := Aside0.mk (zT (jH HB) hb); have n5_ := Aside0.mk hbox; have n6_ := Aside0.mk (jG hg HB); have n7_ := Aside0.mk (jG hg HB); have n8_ := Aside0.mk (jN hg BK147); have n9_ := Aside0.mk (jM hg BK147); clear HO_4; clear HO_11; clear HO_24; clear BK147; clear HB; have HO_4 := n0_; have HO_11 := n1_; have HO_24 := n2_; have BK147 := n3_; have HB := n4_; have BK151 := n5_; have GW151 := n6_; have GE151 := n7_; have NB147_151 := n8_; have NB151_147 := n9_; clear n0_ n1_ n2_ n3_ n4_ n5_ n6_ n7_ n8_ n9_; clear hb hbox hg; have hnb42 := NB151_147.out; have hnc42 := NB147_151.out; have hcz43_0 : w41.cell? ⟨gb151, 0, none⟩ = some (.int .i64 0) := (kC BK151.out 0).trans rfl; have hcz43_1 : w41.cell? ⟨gb151, 1, none⟩ = some (.int .i64 0) := (kC BK151.out 1).trans rfl; have hcz43_2 : w41.cell? ⟨gb151, 2, none⟩ = some (.int .i64 0) := (kC BK151.out 2).trans rfl; have hcz43_3 : w41.cell? ⟨gb151, 3, none⟩ = some (.int .u32 0) := (kC BK151.out 3).trans rfl; have hfz43_0 := kF BK151.out 0; have hfz43_1 := kF BK151.out 1; have hfz43_2 := kF BK151.out 2; have hfz43_3 := kF BK151.out 3; have p152 : 0 ≤ (x43_2 : Int) := oD (jA); have q152 : x43_2 < (t140.length : Int) := oD (jA); obtain ⟨ad152, e152, hx152_0⟩ := Kd.at_bool (Kd.R_reads' HO_4.out).2.2 x43_2 p152 q152; (try rw [← Nbq26.out] at hx152_0); cases e152; have hn152_0 : ad152.block ≠ gb151 := Kd.own_blk (Kd.R_ne HO_4.out BK151.out (by decide)); have hn152_1 : ad152.block ≠ gb151 := Kd.own_blk (Kd.R_ne HO_4.out BK151.out (by decide)); have hn152_2 : ad152.block ≠ gb151 := Kd.own_blk (Kd.R_ne HO_4.out BK151.out (by decide)); have hn152_3 : ad152.block ≠ gb151 := Kd.own_blk (Kd.R_ne HO_4.out BK151.out (by decide)); replace hx152_0 := (cell_far (p := ⟨gb151, 0, none⟩) (by first | (rw [add_block]; exact hn152_0) | (show (Addr.add _ _).block ≠ _; rw [add_block]; exact hn152_0) | exact hn152_0) (.int .i64 ((rd_T45 l0 x43_2).f0))).trans hx152_0; replace hx152_0 := (cell_far (p := ⟨gb151, 1, none⟩) (by first | (rw [add_block]; exact hn152_1) | (show (Addr.add _ _).block ≠ _; rw [add_block]; exact hn152_1) | exact hn152_1) (.int .i64 ((rd_T45 l0 x43_2).f1))).trans hx152_0; replace hx152_0 := (cell_far (p := ⟨gb151, 2, none⟩) (by first | (rw [add_block]; exact hn152_2) | (show (Addr.add _ _).block ≠ _; rw [add_block]; exact hn152_2) | exact hn152_2) (.int .i64 ((rd_T45 l0 x43_2).f2))).trans hx152_0; replace hx152_0 := (cell_far (p := ⟨gb151, 3, none⟩) (by first | (rw [add_block]; exact hn152_3) | (show (Addr.add _ _).block ≠ _; rw [add_block]; exact hn152_3) | exact hn152_3) (.int .u32 ((rd_T45 l0 x43_2).f3))).trans hx152_0; clear hn152_0; clear hn152_1; clear hn152_2; clear hn152_3; replace p152 := eq_true p152; replace q152 := eq_true q152) | ((with_reducible refine gate_callee (f := 20) rfl ?_); refine goesL_ (some 67) rfl rfl Tryd.func20 (by kernel_rfl) rfl #[.agg #[.int .i64 ((rd_T45 l0 x43_2).f0), .int .i64 ((rd_T45 l0 x43_2).f1), .int .i64 ((rd_T45 l0 x43_2).f2), .int .u32 ((rd_T45 l0 x43_2).f3)]] rfl jZ ?_; (with_reducible refine (ins_Branch.calls ((rd_T45 l0 x43_2).f0) ((rd_T45 l0 x43_2).f1) ((rd_T45 l0 x43_2).f2) ((rd_T45 l0 x43_2).f3) true _ ?side1 A36.out).mono ?_); (case side1 => exact Glob.below HG.out (jH HB)); rintro e w44 ⟨rfl, hb⟩; refine ⟨_, rfl, ?_⟩; have n0_ := Aside0.mk (Kd.R_below (by (with_reducible repeat (first | apply Kd.R_alloc | apply Kd.R_drewN | apply Kd.R_drew)); exact (Kd.R_mono (Kd.R_far (p := ⟨gb151, 3, none⟩) (Kd.R_far (p := ⟨gb151, 2, none⟩) (Kd.R_far (p := ⟨gb151, 1, none⟩) (Kd.R_far (p := ⟨gb151, 0, none⟩) (Kd.R_types HO_4.out BK151.out (by decide)) (fun _ hk => hk.2) (.int .i64 ((rd_T45 l0 x43_2).f0))) (fun _ hk => hk.2) (.int .i64 ((rd_T45 l0 x43_2).f1))) (fun _ hk => hk.2) (.int .i64 ((rd_T45 l0 x43_2).f2))) (fun _ hk => hk.2) (.int .u32 ((rd_T45 l0 x43_2).f3))) (fun _ h_ => h_.1))) hb); have n1_ := Aside0.mk (Kd.R_below (by (with_reducible repeat (first | apply Kd.R_alloc | apply Kd.R_drewN | apply Kd.R_drew)); exact (Kd.R_mono (Kd.R_far (p := ⟨gb151, 3, none⟩) (Kd.R_far (p := ⟨gb151, 2, none⟩) (Kd.R_far (p := ⟨gb151, 1, none⟩) (Kd.R_far (p := ⟨gb151, 0, none⟩) (Kd.R_mono HO_11.out (fun k_ hk => (⟨hk, hk.2⟩ : _ ∧ k_ ≠ gb151))) (fun _ hk => hk.2) (.int .i64 ((rd_T45 l0 x43_2).f0))) (fun _ hk => hk.2) (.int .i64 ((rd_T45 l0 x43_2).f1))) (fun _ hk => hk.2) (.int .i64 ((rd_T45 l0 x43_2).f2))) (fun _ hk => hk.2) (.int .u32 ((rd_T45 l0 x43_2).f3))) (fun _ h_ => h_.1))) hb); have n2_ := Aside0.mk (Kd.R_below (by (with_reducible repeat (first | apply Kd.R_alloc | apply Kd.R_drewN | apply Kd.R_drew)); exact (Kd.R_mono (Kd.R_far (p := ⟨gb151, 3, none⟩) (Kd.R_far (p := ⟨gb151, 2, none⟩) (Kd.R_far (p := ⟨gb151, 1, none⟩) (Kd.R_far (p := ⟨gb151, 0, none⟩) (Kd.R_types HO_24.out BK151.out (by decide)) (fun _ hk => hk.2) (.int .i64 ((rd_T45 l0 x43_2).f0))) (fun _ hk => hk.2) (.int .i64 ((rd_T45 l0 x43_2).f1))) (fun _ hk => hk.2) (.int .i64 ((rd_T45 l0 x43_2).f2))) (fun _ hk => hk.2) (.int .u32 ((rd_T45 l0 x43_2).f3))) (fun _ h_ => h_.1))) hb); have n3_ := Aside0.mk (kB (g := gb147) (o := .cells #[v145] 48 (0, 0)) (by (with_reducible repeat (first | refine kN ?_ _ | refine kD ?_ | refine kA ?_ _)); refine kR ?_ NB147_151.out _; (with_reducible repeat (first | refine kN ?_ _ | refine kD ?_ | refine kA ?_ _)); refine kR ?_ NB147_151.out _; (with_reducible repeat (first | refine kN ?_ _ | refine kD ?_ | refine kA ?_ _)); refine kR ?_ NB147_151.out _; (with_reducible repeat (first | refine kN ?_ _ | refine kD ?_ | refine kA ?_ _)); refine kR ?_ NB147_151.out _; (with_reducible repeat (first | refine kN ?_ _ | refine kD ?_ | refine kA ?_ _)); exact BK147.out) hb); have n4_ := Aside0.mk (kB (g := gb151) (o := .cells #[.int .i64 ((rd_T45 l0 x43_2).f0), .int .i64 ((rd_T45 l0 x43_2).f1), .int .i64 ((rd_T45 l0 x43_2).f2), .int .u32 ((rd_T45 l0 x43_2).f3)] 45 (0, 0)) (by (with_reducible repeat (first | refine kN ?_ _ | refine kD ?_ | refine kA ?_ _)); refine kP (cs := #[.int .i64 ((rd_T45 l0 x43_2).f0), .int .i64 ((rd_T45 l0 x43_2).f1), .int .i64 ((rd_T45 l0 x43_2).f2), .int .u32 0]) ?_ 3 _ rfl; (with_reducible repeat (first | refine kN ?_ _ | refine kD ?_ | refine kA ?_ _)); refine kP (cs := #[.int .i64 ((rd_T45 l0 x43_2).f0), .int .i64 ((rd_T45 l0 x43_2).f1), .int .i64 0, .int .u32 0]) ?_ 2 _ rfl; (with_reducible repeat (first | refine kN ?_ _ | refine kD ?_ | refine kA ?_ _)); refine kP (cs := #[.int .i64 ((rd_T45 l0 x43_2).f0), .int .i64 0, .int .i64 0, .int .u32 0]) ?_ 1 _ rfl; (with_reducible repeat (first | refine kN ?_ _ | refine kD ?_ | refine kA ?_ _)); refine kP (cs := #[.int .i64 0, .int .i64 0, .int .i64 0, .int .u32 0]) ?_ 0 _ rfl; (with_reducible repeat (first | refine kN ?_ _ | refine kD ?_ | refine kA ?_ _)); exact BK151.out) hb); have n5_ := Aside0.mk (zT (jH HB) hb); clear HO_4; clear HO_11; clear HO_24; clear BK147; clear BK151; clear HB; have HO_4 := n0_; have HO_11 := n1_; have HO_24 := n2_; have BK147 := n3_; have BK151 := n4_; have HB := n5_; clear n0_ n1_ n2_ n3_ n4_ n5_; (try clear hb); (try clear hb2); (try clear hk); (try clear hi)))
                 have n0_ := Aside0.mk (Kd.R_drew HO_4.out)
                 have n1_ := Aside0.mk (Kd.R_drew HO_11.out)
                 have n2_ := Aside0.mk (Kd.R_drew HO_24.out)
                 have n3_ := Aside0.mk (kD BK147.out)
                 have n4_ := Aside0.mk (kD BK151.out)
                 have n5_ := Aside0.mk (zD HB.out)
                 clear HO_4
                 clear HO_11
                 clear HO_24
                 clear BK147
                 clear BK151
                 clear HB
                 have HO_4 := n0_
                 have HO_11 := n1_
                 have HO_24 := n2_
                 have BK147 := n3_
                 have BK151 := n4_
                 have HB := n5_
                 clear n0_ n1_ n2_ n3_ n4_ n5_
                 obtain ⟨Ao46, co46, eo46⟩ := Kd.R_slice HO_24.out
                 (first | subst eo46 | (injection eo46 with f1_ f2_ f3_; have f4_ := f1_.symm; have f5_ := f3_.symm; clear f1_ f2_ f3_; subst f4_; subst f5_))
                 refine start_ (n := 14) (S := fun w' => w'.cell? ⟨gb151, 0, none⟩ = some (.int .i64 ((rd_T45 l0 x43_2).f0)) ∧ w'.cell? ⟨gb151, 1, none⟩ = some (.int .i64 ((rd_T45 l0 x43_2).f1)) ∧ w'.cell? ⟨gb151, 2, none⟩ = some (.int .i64 ((rd_T45 l0 x43_2).f2)) ∧ w'.cell? ⟨gb151, 3, none⟩ = some (.int .u32 ((rd_T45 l0 x43_2).f3))) (ds := [11, 13]) #[false, false, false, false, false, false, false, false, false, false, false, false, false, false] (by kernel_rfl) rfl rfl ⟨(kC BK151.out 0).trans rfl, (kC BK151.out 1).trans rfl, (kC BK151.out 2).trans rfl, (kC BK151.out 3).trans rfl⟩ (fun hHeld => ?_); refine with_tabW prune_Prune.tab22 prune_Prune.bits22 (fun HT_ HW_ => ?_)
                 generalize w44.drew = w45 at HO_4 HO_11 HO_24 BK147 BK151 HB hHeld ⊢
                 refine pure_ (i := 0) (N := some 68) (v := ?_) (a' := ?_) #[true, false, false, false, false, false, false, false, false, false, false, false, false, false] rfl rfl (any_of HT_.out (by kernel_rfl)) (fun _ _ _ h => h) (Or.inl ⟨by rfl, ?_⟩) ?_ ?_
                 rotate_left
                 ·intro w'
                  go_simp
                  with_reducible rfl
                 rotate_left
                 ·simp only [Act.put, List.setIfInBounds_toArray, List.set_cons_zero, List.set_cons_succ, i64_w, i32_w]
                  rfl
                 refine pure_ (i := 1) (N := some 69) (v := ?_) (a' := ?_) #[true, true, false, false, false, false, false, false, false, false, false, false, false, false] rfl rfl (any_of HT_.out (by kernel_rfl)) (fun _ _ _ h => h) (Or.inl ⟨by rfl, ?_⟩) ?_ ?_
                 rotate_left
                 ·intro w'
                  go_simp
                  with_reducible rfl
                 rotate_left
                 ·simp only [Act.put, List.setIfInBounds_toArray, List.set_cons_zero, List.set_cons_succ, i64_w, i32_w]
                  rfl
                 refine pure_ (i := 2) (N := some 70) (v := ?_) (a' := ?_) #[true, true, true, false, false, false, false, false, false, false, false, false, false, false] rfl rfl (any_of HT_.out (by kernel_rfl)) (fun _ _ _ h => h) (Or.inl ⟨by rfl, ?_⟩) ?_ ?_
                 rotate_left
                 ·intro w'
                  go_simp
                  with_reducible rfl
                 rotate_left
                 ·simp only [Act.put, List.setIfInBounds_toArray, List.set_cons_zero, List.set_cons_succ, i64_w, i32_w]
                  rfl
                 refine pure_ (i := 5) (N := some 73) (v := ?_) (a' := ?_) #[true, true, true, false, false, true, false, false, false, false, false, false, false, false] rfl rfl (any_of HT_.out (by kernel_rfl)) (fun _ _ _ h => h) (Or.inl ⟨by rfl, ?_⟩) ?_ ?_
                 rotate_left
                 ·intro w'
                  go_simp
                  with_reducible rfl
                 rotate_left
                 ·simp only [Act.put, List.setIfInBounds_toArray, List.set_cons_zero, List.set_cons_succ, i64_w, i32_w]
                  rfl
                 refine pure_ (i := 6) (N := some 74) (v := ?_) (a' := ?_) #[true, true, true, false, false, true, true, false, false, false, false, false, false, false] rfl rfl (any_of HT_.out (by kernel_rfl)) (fun _ _ _ h => h) (Or.inl ⟨by rfl, ?_⟩) ?_ ?_
                 rotate_left
                 ·intro w'
                  go_simp
                  with_reducible rfl
                 rotate_left
                 ·simp only [Act.put, List.setIfInBounds_toArray, List.set_cons_zero, List.set_cons_succ, i64_w, i32_w]
                  rfl
                 refine pure_ (i := 7) (N := some 75) (v := ?_) (a' := ?_) #[true, true, true, false, false, true, true, true, false, false, false, false, false, false] rfl rfl (any_of HT_.out (by kernel_rfl)) (fun _ _ _ h => h) (Or.inl ⟨by rfl, ?_⟩) ?_ ?_
                 rotate_left
                 ·intro w'
                  go_simp
                  with_reducible rfl
                 rotate_left
                 ·simp only [Act.put, List.setIfInBounds_toArray, List.set_cons_zero, List.set_cons_succ, i64_w, i32_w]
                  rfl
                 refine take_ (i := 3) (N := some 71) (v := ?_) (a' := ?_) #[true, true, true, true, false, true, true, true, false, false, false, false, false, false] rfl rfl (take_ofW HT_.out HW_.out (by kernel_rfl)) (fun _ _ _ h => h) (Or.inl ⟨by rfl, ?_⟩) hHeld ?_ ?_
                 rotate_left
                 ·rintro w' ⟨s0, s1, s2, s3⟩
                  go_simp
                  with_reducible rfl
                 rotate_left
                 ·simp only [Act.put, List.setIfInBounds_toArray, List.set_cons_zero, List.set_cons_succ, i64_w, i32_w]
                  rfl
                 refine take_ (i := 8) (N := some 76) (v := ?_) (a' := ?_) #[true, true, true, true, false, true, true, true, true, false, false, false, false, false] rfl rfl (take_ofW HT_.out HW_.out (by kernel_rfl)) (fun _ _ _ h => h) (Or.inl ⟨by rfl, ?_⟩) hHeld ?_ ?_
                 rotate_left
                 ·rintro w' ⟨s0, s1, s2, s3⟩
                  go_simp
                  with_reducible rfl
                 rotate_left
                 ·simp only [Act.put, List.setIfInBounds_toArray, List.set_cons_zero, List.set_cons_succ, i64_w, i32_w]
                  rfl
                 refine one_ (i := 4) (N := some 72) #[true, true, true, true, true, true, true, true, true, false, false, false, false, false] rfl rfl (one_of HT_.out (by kernel_rfl)) (by decide) (fun K hK => ?_)
                 refine goesV_ Tryd.func21 (by kernel_rfl) rfl #[.int .i64 x43_2, .int .i64 ((rd_T45 l0 x43_2).f1)] #[.pointer (some ⟨gb147, 0, none⟩)] (by rfl) rfl rfl rfl (by (try simp only [List.map_toArray, List.map_cons, List.map_nil]); first | done | rfl) ?_
                 show Calls Tryd.prog 21 #[.int .i64 x43_2, .int .i64 ((rd_T45 l0 x43_2).f1), .pointer (some ⟨gb147, 0, none⟩)] _ _
                 with_reducible refine (prune_off.calls Ao46 co46 x24_1 x43_2 ((rd_T45 l0 x43_2).f1) t158 gb147 _ ?side1 ?side2 A38.out).mono ?_
                 (case side1 => exact jC (Kd.R_reads' HO_24.out).2.2)
                 (case side2 => exact (jK BK147))
                 rintro e w' ⟨rfl, ⟨nd, rfl⟩⟩
                 refine ⟨_, rfl, ?_⟩
                 refine hK.out _ _ ⟨(kC BK151.out 0).trans rfl, (kC BK151.out 1).trans rfl, (kC BK151.out 2).trans rfl, (kC BK151.out 3).trans rfl⟩ (fun hHeld => ?_)
                 clear hK K
                 refine norm_ (a' := ?_) ?_ ?_
                 rotate_left
                 ·show Act.put _ (some 72) _ = _
                  simp only [Act.put, List.setIfInBounds_toArray, List.set_cons_zero, List.set_cons_succ, i64_w, i32_w]
                  rfl
                 refine pure_ (i := 10) (N := some 78) (v := ?_) (a' := ?_) #[true, true, true, true, true, true, true, true, true, false, true, false, false, false] rfl rfl (any_of HT_.out (by kernel_rfl)) (fun _ _ _ h => h) (Or.inl ⟨by rfl, ?_⟩) ?_ ?_
                 rotate_left
                 ·intro w'
                  go_simp
                  with_reducible rfl
                 rotate_left
                 ·simp only [Act.put, List.setIfInBounds_toArray, List.set_cons_zero, List.set_cons_succ, i64_w, i32_w]
                  rfl
                 refine one_ (i := 9) (N := some 77) #[true, true, true, true, true, true, true, true, true, true, true, false, false, false] rfl rfl (one_of HT_.out (by kernel_rfl)) (by decide) (fun K hK => ?_)
                 refine goesV_ Tryd.func21 (by kernel_rfl) rfl #[.int .i64 x43_2, .int .i64 ((rd_T45 l0 x43_2).f2)] #[.pointer (some ⟨gb147, 0, none⟩)] (by rfl) rfl rfl rfl (by (try simp only [List.map_toArray, List.map_cons, List.map_nil]); first | done | rfl) ?_
                 show Calls Tryd.prog 21 #[.int .i64 x43_2, .int .i64 ((rd_T45 l0 x43_2).f2), .pointer (some ⟨gb147, 0, none⟩)] _ _
                 with_reducible refine (prune_off.calls Ao46 co46 x24_1 x43_2 ((rd_T45 l0 x43_2).f2) t159 gb147 _ ?side1 ?side2 A39.out).mono ?_
                 (case side1 => exact jC (Kd.R_reads' HO_24.out).2.2)
                 (case side2 => exact (jK BK147))
                 rintro e w' ⟨rfl, ⟨nd, rfl⟩⟩
                 refine ⟨_, rfl, ?_⟩
                 refine hK.out _ _ ⟨(kC BK151.out 0).trans rfl, (kC BK151.out 1).trans rfl, (kC BK151.out 2).trans rfl, (kC BK151.out 3).trans rfl⟩ (fun hHeld => ?_)
                 clear hK K
                 refine norm_ (a' := ?_) ?_ ?_
                 rotate_left
                 ·show Act.put _ (some 77) _ = _
                  simp only [Act.put, List.setIfInBounds_toArray, List.set_cons_zero, List.set_cons_succ, i64_w, i32_w]
                  rfl
                 refine last_ (i := 11) (N := none) #[true, true, true, true, true, true, true, true, true, true, true, true, false, false] rfl rfl (one_of HT_.out (by kernel_rfl)) (by decide) (fun K hK => ?_)
                 have hs47 : w45.cell? ⟨gb151, 1, none⟩ = some (.int .i64 ((rd_T45 l0 x43_2).f1)) := (kC BK151.out 1).trans rfl
                 have hfs47 := kF BK151.out 1
                 have hns47_0 := NB147_151.out
                 have hms47_0 := NB151_147.out
                 refine skip_ (w1 := ?_) (by rfl) rfl ?_ ?_
                 rotate_left
                 ·go_simp
                  rfl
                 refine hK.out _ _ ?_
                 clear hK K
                 refine pure_ (i := 12) (N := some 79) (v := ?_) (a' := ?_) #[true, true, true, true, true, true, true, true, true, true, true, true, true, false] rfl rfl (any_of HT_.out (by kernel_rfl)) (fun _ _ _ h => h) (Or.inl ⟨by rfl, ?_⟩) ?_ ?_
                 rotate_left
                 ·intro w'
                  go_simp
                  with_reducible rfl
                 rotate_left
                 ·simp only [Act.put, List.setIfInBounds_toArray, List.set_cons_zero, List.set_cons_succ, i64_w, i32_w]
                  rfl
                 refine last_ (i := 13) (N := none) #[true, true, true, true, true, true, true, true, true, true, true, true, true, true] rfl rfl (one_of HT_.out (by kernel_rfl)) (by decide) (fun K hK => ?_)
                 have hs48 : w45.cell? ⟨gb151, 2, none⟩ = some (.int .i64 ((rd_T45 l0 x43_2).f2)) := (kC BK151.out 2).trans rfl
                 have hfs48 := kF BK151.out 2
                 have hns48_0 := NB147_151.out
                 have hms48_0 := NB151_147.out
                 refine skip_ (w1 := ?_) (by rfl) rfl ?_ ?_
                 rotate_left
                 ·go_simp
                  rfl
                 refine hK.out _ _ ?_
                 clear hK K
                 refine done_ (done_of HT_.out (by kernel_rfl)) ?_
                 have hcz49_0 : w45.cell? ⟨gb151, 0, none⟩ = some (.int .i64 ((rd_T45 l0 x43_2).f0)) := (kC BK151.out 0).trans rfl
                 have hcz49_1 : w45.cell? ⟨gb151, 1, none⟩ = some (.int .i64 ((rd_T45 l0 x43_2).f1)) := (kC BK151.out 1).trans rfl
                 have hcz49_2 : w45.cell? ⟨gb151, 2, none⟩ = some (.int .i64 ((rd_T45 l0 x43_2).f2)) := (kC BK151.out 2).trans rfl
                 have hcz49_3 : w45.cell? ⟨gb151, 3, none⟩ = some (.int .u32 ((rd_T45 l0 x43_2).f3)) := (kC BK151.out 3).trans rfl
                 have hfz49_0 := kF BK151.out 0
                 have hfz49_1 := kF BK151.out 1
                 have hfz49_2 := kF BK151.out 2
                 have hfz49_3 := kF BK151.out 3
                 try go_wp2_with (first | ((with_reducible refine gate_builtin (b := .append) (xs := #[.tmp 80, .tmp 82]) rfl ?_); at_builtin; refine Kd.R_append k45 (w0 := w) w.heap.size rfl (.tmp 80) (.tmp 82) 22 45 (.agg #[(.int .i64 0), (.int .i64 0), (.int .i64 0), (.int .u32 0)]) 32 rfl Tryd.underlying22 info45 rfl (by decide) (by omega) u11 x11_2 (⟨(rd_T45 l0 x43_2).f0, t158, t159, (rd_T45 l0 x43_2).f3⟩ : S45) [.int .i64 ((rd_T45 l0 x43_2).f0), .int .i64 t158, .int .i64 t159, .int .u32 ((rd_T45 l0 x43_2).f3)] (fun k_ => k_ ≠ gb147 ∧ k_ ≠ gb151) (fun _ => False) rfl (by first | (go_simp; done) | (go_simp; rfl)) ?aP (fun _ hk => hk.elim) ?aF ?aO ?aB ?aS ?aL ?_; (case aP => exact k45_mkM _ _ _ (⟨(rd_T45 l0 x43_2).f0, t158, t159, (rd_T45 l0 x43_2).f3⟩ : S45)); (case aB => exact (jH HB)); (case aF => exact (fun k_ hk => ⟨Kd.freshB (g := gb147) (o := .cells #[.slice Ao46 x24_1.length co46] 48 (0, 0)) (by (with_reducible repeat (first | refine kN ?_ _ | refine kD ?_ | refine kA ?_ _)); refine kR ?_ NB147_151.out _; (with_reducible repeat (first | refine kN ?_ _ | refine kD ?_ | refine kA ?_ _)); refine kR ?_ NB147_151.out _; (with_reducible repeat (first | refine kN ?_ _ | refine kD ?_ | refine kA ?_ _)); exact BK147.out) k_ hk, Kd.freshB (g := gb151) (o := .cells #[.int .i64 ((rd_T45 l0 x43_2).f0), .int .i64 t158, .int .i64 t159, .int .u32 ((rd_T45 l0 x43_2).f3)] 45 (0, 0)) (by (with_reducible repeat (first | refine kN ?_ _ | refine kD ?_ | refine kA ?_ _)); refine kP (cs := #[.int .i64 ((rd_T45 l0 x43_2).f0), .int .i64 t158, .int .i64 ((rd_T45 l0 x43_2).f2), .int .u32 ((rd_T45 l0 x43_2).f3)]) ?_ 2 _ rfl; (with_reducible repeat (first | refine kN ?_ _ | refine kD ?_ | refine kA ?_ _)); refine kP (cs := #[.int .i64 ((rd_T45 l0 x43_2).f0), .int .i64 ((rd_T45 l0 x43_2).f1), .int .i64 ((rd_T45 l0 x43_2).f2), .int .u32 ((rd_T45 l0 x43_2).f3)]) ?_ 1 _ rfl; (with_reducible repeat (first | refine kN ?_ _ | refine kD ?_ | refine kA ?_ _)); exact BK151.out) k_ hk⟩)); (case aO => exact (by (with_reducible repeat (first | apply Kd.R_alloc | apply Kd.R_drewN | apply Kd.R_drew)); exact Kd.R_mono (Kd.R_far (p := ⟨gb151, 2, none⟩) (Kd.R_far (p := ⟨gb151, 1, none⟩) (Kd.R_mono HO_11.out (fun k_ hk => (⟨hk, hk.2⟩ : _ ∧ k_ ≠ gb151))) (fun _ hk => hk.2) (.int .i64 t158)) (fun _ hk => hk.2) (.int .i64 t159)) (fun _ hk => ⟨hk.1.1, hk.1.2⟩))); (case aS => exact (zZ (jH HB))); (case aL => have := LMc40.out; omega); intro v161 w50 ho hb hg hat; rw [← Ny160.out] at ho; have n0_ := Aside0.mk (Kd.R_over' (by (with_reducible repeat (first | apply Kd.R_alloc | apply Kd.R_drewN | apply Kd.R_drew)); exact (Kd.R_mono (Kd.R_far (p := ⟨gb151, 2, none⟩) (Kd.R_far (p := ⟨gb151, 1, none⟩) (Kd.R_types HO_4.out BK151.out (by decide)) (fun _ hk => hk.2) (.int .i64 t158)) (fun _ hk => hk.2) (.int .i64 t159)) (fun _ h_ => h_.1))) (Kd.R_typed (by (with_reducible repeat (first | apply Kd.R_alloc | apply Kd.R_drewN | apply Kd.R_drew)); exact (Kd.R_mono (Kd.R_far (p := ⟨gb151, 2, none⟩) (Kd.R_far (p := ⟨gb151, 1, none⟩) (Kd.R_mono HO_11.out (fun k_ hk => (⟨hk, hk.2⟩ : _ ∧ k_ ≠ gb151))) (fun _ hk => hk.2) (.int .i64 t158)) (fun _ hk => hk.2) (.int .i64 t159)) (fun _ h_ => h_.1)))) (by decide) hg); have n1_ := Aside0.mk (Kd.R_over' (by (with_reducible repeat (first | apply Kd.R_alloc | apply Kd.R_drewN | apply Kd.R_drew)); exact (Kd.R_mono (Kd.R_far (p := ⟨gb151, 2, none⟩) (Kd.R_far (p := ⟨gb151, 1, none⟩) (Kd.R_types HO_24.out BK151.out (by decide)) (fun _ hk => hk.2) (.int .i64 t158)) (fun _ hk => hk.2) (.int .i64 t159)) (fun _ h_ => h_.1))) (Kd.R_typed (by (with_reducible repeat (first | apply Kd.R_alloc | apply Kd.R_drewN | apply Kd.R_drew)); exact (Kd.R_mono (Kd.R_far (p := ⟨gb151, 2, none⟩) (Kd.R_far (p := ⟨gb151, 1, none⟩) (Kd.R_mono HO_11.out (fun k_ hk => (⟨hk, hk.2⟩ : _ ∧ k_ ≠ gb151))) (fun _ hk => hk.2) (.int .i64 t158)) (fun _ hk => hk.2) (.int .i64 t159)) (fun _ h_ => h_.1)))) (by decide) hg); have n2_ := Aside0.mk (kG (g := gb147) (o := .cells #[.slice Ao46 x24_1.length co46] 48 (0, 0)) (by (with_reducible repeat (first | refine kN ?_ _ | refine kD ?_ | refine kA ?_ _)); refine kR ?_ NB147_151.out _; (with_reducible repeat (first | refine kN ?_ _ | refine kD ?_ | refine kA ?_ _)); refine kR ?_ NB147_151.out _; (with_reducible repeat (first | refine kN ?_ _ | refine kD ?_ | refine kA ?_ _)); exact BK147.out) hg (Kd.R_away HO_11.out (fun _ hk => hk.1))); have n3_ := Aside0.mk (kG (g := gb151) (o := .cells #[.int .i64 ((rd_T45 l0 x43_2).f0), .int .i64 t158, .int .i64 t159, .int .u32 ((rd_T45 l0 x43_2).f3)] 45 (0, 0)) (by (with_reducible repeat (first | refine kN ?_ _ | refine kD ?_ | refine kA ?_ _)); refine kP (cs := #[.int .i64 ((rd_T45 l0 x43_2).f0), .int .i64 t158, .int .i64 ((rd_T45 l0 x43_2).f2), .int .u32 ((rd_T45 l0 x43_2).f3)]) ?_ 2 _ rfl; (with_reducible repeat (first | refine kN ?_ _ | refine kD ?_ | refine kA ?_ _)); refine kP (cs := #[.int .i64 ((rd_T45 l0 x43_2).f0), .int .i64 ((rd_T45 l0 x43_2).f1), .int .i64 ((rd_T45 l0 x43_2).f2), .int .u32 ((rd_T45 l0 x43_2).f3)]) ?_ 1 _ rfl; (with_reducible repeat (first | refine kN ?_ _ | refine kD ?_ | refine kA ?_ _)); exact BK151.out) hg (Kd.R_away HO_11.out (fun _ hk => hk.2))); have n4_ := Aside0.mk (hb); have n5_ := Aside0.mk (ho); clear HO_4; clear HO_24; clear BK147; clear BK151; clear HB; clear HO_11; have HO_4 := n0_; have HO_24 := n1_; have BK147 := n2_; have BK151 := n3_; have HB := n4_; have HO162 := n5_; clear n0_ n1_ n2_ n3_ n4_ n5_; clear ho hb hg hat))
                 go_roundg k2
                 case measure => have := HK1.out; have := HK2.out; omega
                 case rel => exact ⟨(y160), (wrap64 (x43_2 + 1)), jS, H', ⟨by have := HK1.out; have := HK2.out; omega⟩, ⟨jR HO_4⟩, ⟨by (with_reducible repeat (first | apply Kd.R_alloc | apply Kd.R_drewN | apply Kd.R_drew)); exact Kd.R_mono HO162.out (fun _ hk => hk.1)⟩, ⟨jR HO_24⟩, ⟨jK BK147⟩, ⟨jH HB⟩⟩
                ·rw [if_neg c40] at H
                 exact absurd H (by simp)
               ·replace c37 := Bool.eq_false_iff.mpr c37
                subst c37
                rw [if_neg (show ¬ (false = true) by decide)] at H
                by_cases c51 : x11_2.length < 4398046511104
                ·rw [if_pos c51] at H
                 have LMc51 := Aside0.mk c51
                 clear c51
                 obtain ⟨y163, hy163⟩ : ∃ y_ : List (S45), y_ = (x11_2 ++ [(⟨(rd_T45 l0 x43_2).f0, (rd_T45 l0 x43_2).f1, (rd_T45 l0 x43_2).f2, (rd_T45 l0 x43_2).f3⟩ : S45)]) := ⟨_, rfl⟩
                 simp only [Option.bind_some, ← hy163] at H
                 have Ny163 := Aside0.mk hy163
                 clear hy163
                 have H' := Aside0.mk H
                 clear H
                 have p150 : 0 ≤ (x43_2 : Int) := oD (jA)
                 have q150 : x43_2 < (l0.length : Int) := oD (jA)
                 obtain ⟨ad150, e150, hx150_0, hx150_1, hx150_2, hx150_3⟩ := at_T45 HR0.out x43_2 p150 q150
                 cases e150
                 replace hx150_0 := (HB.out.cell (bL w _ hx150_0)).trans hx150_0
                 replace hx150_1 := (HB.out.cell (bL w _ hx150_1)).trans hx150_1
                 replace hx150_2 := (HB.out.cell (bL w _ hx150_2)).trans hx150_2
                 replace hx150_3 := (HB.out.cell (bL w _ hx150_3)).trans hx150_3
                 replace p150 := eq_true p150
                 replace q150 := eq_true q150
                 go_wp2_with (first | ((with_reducible refine gate_dst (N := 13) rfl ?_); refine box_event rfl (N := 13) rfl (cs := #[.int .i64 0, .int .i64 0, .int .i64 0, .int .u32 0]) (t := 45) jW ?_; intro gb151 hg w52 hbox hb; have n0_ := Aside0.mk (Kd.R_below (jR HO_4) hb); have n1_ := Aside0.mk (Kd.R_below (Kd.R_elderB (jR HO_11) gb151 (Nat.le_of_eq hg.symm)) hb); have n2_ := Aside0.mk (Kd.R_below (jR HO_24) hb); have n3_ := Aside0.mk (jB BK147 hb); have n4_ := Aside0.mk (zT (jH HB) hb); have n5_ := Aside0.mk hbox; have n6_ := Aside0.mk (jG hg HB); have n7_ := Aside0.mk (jG hg HB); have n8_ := Aside0.mk (jN hg BK147); have n9_ := Aside0.mk (jM hg BK147); clear HO_4; clear HO_11; clear HO_24; clear BK147; clear HB; have HO_4 := n0_; have HO_11 := n1_; have HO_24 := n2_; have BK147 := n3_; have HB := n4_; have BK151 := n5_; have GW151 := n6_; have GE151 := n7_; have NB147_151 := n8_; have NB151_147 := n9_; clear n0_ n1_ n2_ n3_ n4_ n5_ n6_ n7_ n8_ n9_; clear hb hbox hg; have hnb53 := NB151_147.out; have hnc53 := NB147_151.out; have hcz54_0 : w52.cell? ⟨gb151, 0, none⟩ = some (.int .i64 0) := (kC BK151.out 0).trans rfl; have hcz54_1 : w52.cell? ⟨gb151, 1, none⟩ = some (.int .i64 0) := (kC BK151.out 1).trans rfl; have hcz54_2 : w52.cell? ⟨gb151, 2, none⟩ = some (.int .i64 0) := (kC BK151.out 2).trans rfl; have hcz54_3 : w52.cell? ⟨gb151, 3, none⟩ = some (.int .u32 0) := (kC BK151.out 3).trans rfl; have hfz54_0 := kF BK151.out 0; have hfz54_1 := kF BK151.out 1; have hfz54_2 := kF BK151.out 2; have hfz54_3 := kF BK151.out 3; have p152 : 0 ≤ (x43_2 : Int) := oD (jA); have q152 : x43_2 < (t140.length : Int) := oD (jA); obtain ⟨ad152, e152, hx152_0⟩ := Kd.at_bool (Kd.R_reads' HO_4.out).2.2 x43_2 p152 q152; (try rw [← Nbq26.out] at hx152_0); cases e152; have hn152_0 : ad152.block ≠ gb151 := Kd.own_blk (Kd.R_ne HO_4.out BK151.out (by decide)); have hn152_1 : ad152.block ≠ gb151 := Kd.own_blk (Kd.R_ne HO_4.out BK151.out (by decide)); have hn152_2 : ad152.block ≠ gb151 := Kd.own_blk (Kd.R_ne HO_4.out BK151.out (by decide)); have hn152_3 : ad152.block ≠ gb151 := Kd.own_blk (Kd.R_ne HO_4.out BK151.out (by decide)); replace hx152_0 := (cell_far (p := ⟨gb151, 0, none⟩) (by first | (rw [add_block]; exact hn152_0) | (show (Addr.add _ _).block ≠ _; rw [add_block]; exact hn152_0) | exact hn152_0) (.int .i64 ((rd_T45 l0 x43_2).f0))).trans hx152_0; replace hx152_0 := (cell_far (p := ⟨gb151, 1, none⟩) (by first | (rw [add_block]; exact hn152_1) | (show (Addr.add _ _).block ≠ _; rw [add_block]; exact hn152_1) | exact hn152_1) (.int .i64 ((rd_T45 l0 x43_2).f1))).trans hx152_0; replace hx152_0 := (cell_far (p := ⟨gb151, 2, none⟩) (by first | (rw [add_block]; exact hn152_2) | (show (Addr.add _ _).block ≠ _; rw [add_block]; exact hn152_2) | exact hn152_2) (.int .i64 ((rd_T45 l0 x43_2).f2))).trans hx152_0; replace hx152_0 := (cell_far (p := ⟨gb151, 3, none⟩) (by first | (rw [add_block]; exact hn152_3) | (show (Addr.add _ _).block ≠ _; rw [add_block]; exact hn152_3) | exact hn152_3) (.int .u32 ((rd_T45 l0 x43_2).f3))).trans hx152_0; clear hn152_0; clear hn152_1; clear hn152_2; clear hn152_3; replace p152 := eq_true p152; replace q152 := eq_true q152) | ((with_reducible refine gate_callee (f := 20) rfl ?_); refine goesL_ (some 67) rfl rfl Tryd.func20 (by kernel_rfl) rfl #[.agg #[.int .i64 ((rd_T45 l0 x43_2).f0), .int .i64 ((rd_T45 l0 x43_2).f1), .int .i64 ((rd_T45 l0 x43_2).f2), .int .u32 ((rd_T45 l0 x43_2).f3)]] rfl jZ ?_; (with_reducible refine (ins_Branch.calls ((rd_T45 l0 x43_2).f0) ((rd_T45 l0 x43_2).f1) ((rd_T45 l0 x43_2).f2) ((rd_T45 l0 x43_2).f3) false _ ?side1 A36.out).mono ?_); (case side1 => exact Glob.below HG.out (jH HB)); rintro e w55 ⟨rfl, hb⟩; refine ⟨_, rfl, ?_⟩; have n0_ := Aside0.mk (Kd.R_below (by (with_reducible repeat (first | apply Kd.R_alloc | apply Kd.R_drewN | apply Kd.R_drew)); exact (Kd.R_mono (Kd.R_far (p := ⟨gb151, 3, none⟩) (Kd.R_far (p := ⟨gb151, 2, none⟩) (Kd.R_far (p := ⟨gb151, 1, none⟩) (Kd.R_far (p := ⟨gb151, 0, none⟩) (Kd.R_types HO_4.out BK151.out (by decide)) (fun _ hk => hk.2) (.int .i64 ((rd_T45 l0 x43_2).f0))) (fun _ hk => hk.2) (.int .i64 ((rd_T45 l0 x43_2).f1))) (fun _ hk => hk.2) (.int .i64 ((rd_T45 l0 x43_2).f2))) (fun _ hk => hk.2) (.int .u32 ((rd_T45 l0 x43_2).f3))) (fun _ h_ => h_.1))) hb); have n1_ := Aside0.mk (Kd.R_below (by (with_reducible repeat (first | apply Kd.R_alloc | apply Kd.R_drewN | apply Kd.R_drew)); exact (Kd.R_mono (Kd.R_far (p := ⟨gb151, 3, none⟩) (Kd.R_far (p := ⟨gb151, 2, none⟩) (Kd.R_far (p := ⟨gb151, 1, none⟩) (Kd.R_far (p := ⟨gb151, 0, none⟩) (Kd.R_mono HO_11.out (fun k_ hk => (⟨hk, hk.2⟩ : _ ∧ k_ ≠ gb151))) (fun _ hk => hk.2) (.int .i64 ((rd_T45 l0 x43_2).f0))) (fun _ hk => hk.2) (.int .i64 ((rd_T45 l0 x43_2).f1))) (fun _ hk => hk.2) (.int .i64 ((rd_T45 l0 x43_2).f2))) (fun _ hk => hk.2) (.int .u32 ((rd_T45 l0 x43_2).f3))) (fun _ h_ => h_.1))) hb); have n2_ := Aside0.mk (Kd.R_below (by (with_reducible repeat (first | apply Kd.R_alloc | apply Kd.R_drewN | apply Kd.R_drew)); exact (Kd.R_mono (Kd.R_far (p := ⟨gb151, 3, none⟩) (Kd.R_far (p := ⟨gb151, 2, none⟩) (Kd.R_far (p := ⟨gb151, 1, none⟩) (Kd.R_far (p := ⟨gb151, 0, none⟩) (Kd.R_types HO_24.out BK151.out (by decide)) (fun _ hk => hk.2) (.int .i64 ((rd_T45 l0 x43_2).f0))) (fun _ hk => hk.2) (.int .i64 ((rd_T45 l0 x43_2).f1))) (fun _ hk => hk.2) (.int .i64 ((rd_T45 l0 x43_2).f2))) (fun _ hk => hk.2) (.int .u32 ((rd_T45 l0 x43_2).f3))) (fun _ h_ => h_.1))) hb); have n3_ := Aside0.mk (kB (g := gb147) (o := .cells #[v145] 48 (0, 0)) (by (with_reducible repeat (first | refine kN ?_ _ | refine kD ?_ | refine kA ?_ _)); refine kR ?_ NB147_151.out _; (with_reducible repeat (first | refine kN ?_ _ | refine kD ?_ | refine kA ?_ _)); refine kR ?_ NB147_151.out _; (with_reducible repeat (first | refine kN ?_ _ | refine kD ?_ | refine kA ?_ _)); refine kR ?_ NB147_151.out _; (with_reducible repeat (first | refine kN ?_ _ | refine kD ?_ | refine kA ?_ _)); refine kR ?_ NB147_151.out _; (with_reducible repeat (first | refine kN ?_ _ | refine kD ?_ | refine kA ?_ _)); exact BK147.out) hb); have n4_ := Aside0.mk (kB (g := gb151) (o := .cells #[.int .i64 ((rd_T45 l0 x43_2).f0), .int .i64 ((rd_T45 l0 x43_2).f1), .int .i64 ((rd_T45 l0 x43_2).f2), .int .u32 ((rd_T45 l0 x43_2).f3)] 45 (0, 0)) (by (with_reducible repeat (first | refine kN ?_ _ | refine kD ?_ | refine kA ?_ _)); refine kP (cs := #[.int .i64 ((rd_T45 l0 x43_2).f0), .int .i64 ((rd_T45 l0 x43_2).f1), .int .i64 ((rd_T45 l0 x43_2).f2), .int .u32 0]) ?_ 3 _ rfl; (with_reducible repeat (first | refine kN ?_ _ | refine kD ?_ | refine kA ?_ _)); refine kP (cs := #[.int .i64 ((rd_T45 l0 x43_2).f0), .int .i64 ((rd_T45 l0 x43_2).f1), .int .i64 0, .int .u32 0]) ?_ 2 _ rfl; (with_reducible repeat (first | refine kN ?_ _ | refine kD ?_ | refine kA ?_ _)); refine kP (cs := #[.int .i64 ((rd_T45 l0 x43_2).f0), .int .i64 0, .int .i64 0, .int .u32 0]) ?_ 1 _ rfl; (with_reducible repeat (first | refine kN ?_ _ | refine kD ?_ | refine kA ?_ _)); refine kP (cs := #[.int .i64 0, .int .i64 0, .int .i64 0, .int .u32 0]) ?_ 0 _ rfl; (with_reducible repeat (first | refine kN ?_ _ | refine kD ?_ | refine kA ?_ _)); exact BK151.out) hb); have n5_ := Aside0.mk (zT (jH HB) hb); clear HO_4; clear HO_11; clear HO_24; clear BK147; clear BK151; clear HB; have HO_4 := n0_; have HO_11 := n1_; have HO_24 := n2_; have BK147 := n3_; have BK151 := n4_; have HB := n5_; clear n0_ n1_ n2_ n3_ n4_ n5_; (try clear hb); (try clear hb2); (try clear hk); (try clear hi); have hcz56_0 : w55.cell? ⟨gb151, 0, none⟩ = some (.int .i64 ((rd_T45 l0 x43_2).f0)) := (kC BK151.out 0).trans rfl; have hcz56_1 : w55.cell? ⟨gb151, 1, none⟩ = some (.int .i64 ((rd_T45 l0 x43_2).f1)) := (kC BK151.out 1).trans rfl; have hcz56_2 : w55.cell? ⟨gb151, 2, none⟩ = some (.int .i64 ((rd_T45 l0 x43_2).f2)) := (kC BK151.out 2).trans rfl; have hcz56_3 : w55.cell? ⟨gb151, 3, none⟩ = some (.int .u32 ((rd_T45 l0 x43_2).f3)) := (kC BK151.out 3).trans rfl; have hfz56_0 := kF BK151.out 0; have hfz56_1 := kF BK151.out 1; have hfz56_2 := kF BK151.out 2; have hfz56_3 := kF BK151.out 3) | ((with_reducible refine gate_builtin (b := .append) (xs := #[.tmp 80, .tmp 82]) rfl ?_); at_builtin; refine Kd.R_append k45 (w0 := w) w.heap.size rfl (.tmp 80) (.tmp 82) 22 45 (.agg #[(.int .i64 0), (.int .i64 0), (.int .i64 0), (.int .u32 0)]) 32 rfl Tryd.underlying22 info45 rfl (by decide) (by omega) u11 x11_2 (⟨(rd_T45 l0 x43_2).f0, (rd_T45 l0 x43_2).f1, (rd_T45 l0 x43_2).f2, (rd_T45 l0 x43_2).f3⟩ : S45) [.int .i64 ((rd_T45 l0 x43_2).f0), .int .i64 ((rd_T45 l0 x43_2).f1), .int .i64 ((rd_T45 l0 x43_2).f2), .int .u32 ((rd_T45 l0 x43_2).f3)] (fun k_ => k_ ≠ gb147 ∧ k_ ≠ gb151) (fun _ => False) rfl rfl ?aP (fun _ hk => hk.elim) ?aF ?aO ?aB ?aS ?aL ?_; (case aP => exact k45_mkM _ _ _ (⟨(rd_T45 l0 x43_2).f0, (rd_T45 l0 x43_2).f1, (rd_T45 l0 x43_2).f2, (rd_T45 l0 x43_2).f3⟩ : S45)); (case aB => exact (jH HB)); (case aF => exact (fun k_ hk => ⟨Kd.freshB (g := gb147) (o := .cells #[v145] 48 (0, 0)) (jK BK147) k_ hk, Kd.freshB (g := gb151) (o := .cells #[.int .i64 ((rd_T45 l0 x43_2).f0), .int .i64 ((rd_T45 l0 x43_2).f1), .int .i64 ((rd_T45 l0 x43_2).f2), .int .u32 ((rd_T45 l0 x43_2).f3)] 45 (0, 0)) (jK BK151) k_ hk⟩)); (case aO => exact (jR HO_11)); (case aS => exact (zZ (jH HB))); (case aL => have := LMc51.out; omega); intro v164 w57 ho hb hg hat; rw [← Ny163.out] at ho; have n0_ := Aside0.mk (Kd.R_over' (jR HO_4) (Kd.R_typed (jR HO_11)) (by decide) hg); have n1_ := Aside0.mk (Kd.R_over' (jR HO_24) (Kd.R_typed (jR HO_11)) (by decide) hg); have n2_ := Aside0.mk (kG (g := gb147) (o := .cells #[v145] 48 (0, 0)) (jK BK147) hg (Kd.R_away HO_11.out (fun _ hk => hk.1))); have n3_ := Aside0.mk (kG (g := gb151) (o := .cells #[.int .i64 ((rd_T45 l0 x43_2).f0), .int .i64 ((rd_T45 l0 x43_2).f1), .int .i64 ((rd_T45 l0 x43_2).f2), .int .u32 ((rd_T45 l0 x43_2).f3)] 45 (0, 0)) (jK BK151) hg (Kd.R_away HO_11.out (fun _ hk => hk.2))); have n4_ := Aside0.mk (hb); have n5_ := Aside0.mk (ho); clear HO_4; clear HO_24; clear BK147; clear BK151; clear HB; clear HO_11; have HO_4 := n0_; have HO_24 := n1_; have BK147 := n2_; have BK151 := n3_; have HB := n4_; have HO165 := n5_; clear n0_ n1_ n2_ n3_ n4_ n5_; clear ho hb hg hat))
                 go_roundg k2
                 case measure => have := HK1.out; have := HK2.out; omega
                 case rel => exact ⟨(y163), (wrap64 (x43_2 + 1)), jS, H', ⟨by have := HK1.out; have := HK2.out; omega⟩, ⟨jR HO_4⟩, ⟨by (with_reducible repeat (first | apply Kd.R_alloc | apply Kd.R_drewN | apply Kd.R_drew)); exact Kd.R_mono HO165.out (fun _ hk => hk.1)⟩, ⟨jR HO_24⟩, ⟨jK BK147⟩, ⟨jH HB⟩⟩
                ·rw [if_neg c51] at H
                 exact absurd H (by simp)
             ·replace c27 := Bool.eq_false_iff.mpr c27
              subst c27
              rw [if_neg (show ¬ (false = true) by decide)] at H
              have H' := Aside0.mk H
              clear H
              have p150 : 0 ≤ (x43_2 : Int) := oD (jA)
              have q150 : x43_2 < (l0.length : Int) := oD (jA)
              obtain ⟨ad150, e150, hx150_0, hx150_1, hx150_2, hx150_3⟩ := at_T45 HR0.out x43_2 p150 q150
              cases e150
              replace hx150_0 := (HB.out.cell (bL w _ hx150_0)).trans hx150_0
              replace hx150_1 := (HB.out.cell (bL w _ hx150_1)).trans hx150_1
              replace hx150_2 := (HB.out.cell (bL w _ hx150_2)).trans hx150_2
              replace hx150_3 := (HB.out.cell (bL w _ hx150_3)).trans hx150_3
              replace p150 := eq_true p150
              replace q150 := eq_true q150
              go_wp2_with (first | ((with_reducible refine gate_dst (N := 13) rfl ?_); refine box_event rfl (N := 13) rfl (cs := #[.int .i64 0, .int .i64 0, .int .i64 0, .int .u32 0]) (t := 45) jW ?_; intro gb151 hg w58 hbox hb; have n0_ := Aside0.mk (Kd.R_below (jR HO_4) hb); have n1_ := Aside0.mk (Kd.R_below (Kd.R_elderB (jR HO_11) gb151 (Nat.le_of_eq hg.symm)) hb); have n2_ := Aside0.mk (Kd.R_below (jR HO_24) hb); have n3_ := Aside0.mk (jB BK147 hb); have n4_ := Aside0.mk (zT (jH HB) hb); have n5_ := Aside0.mk hbox; have n6_ := Aside0.mk (jG hg HB); have n7_ := Aside0.mk (jG hg HB); have n8_ := Aside0.mk (jN hg BK147); have n9_ := Aside0.mk (jM hg BK147); clear HO_4; clear HO_11; clear HO_24; clear BK147; clear HB; have HO_4 := n0_; have HO_11 := n1_; have HO_24 := n2_; have BK147 := n3_; have HB := n4_; have BK151 := n5_; have GW151 := n6_; have GE151 := n7_; have NB147_151 := n8_; have NB151_147 := n9_; clear n0_ n1_ n2_ n3_ n4_ n5_ n6_ n7_ n8_ n9_; clear hb hbox hg; have hnb59 := NB151_147.out; have hnc59 := NB147_151.out; have hcz60_0 : w58.cell? ⟨gb151, 0, none⟩ = some (.int .i64 0) := (kC BK151.out 0).trans rfl; have hcz60_1 : w58.cell? ⟨gb151, 1, none⟩ = some (.int .i64 0) := (kC BK151.out 1).trans rfl; have hcz60_2 : w58.cell? ⟨gb151, 2, none⟩ = some (.int .i64 0) := (kC BK151.out 2).trans rfl; have hcz60_3 : w58.cell? ⟨gb151, 3, none⟩ = some (.int .u32 0) := (kC BK151.out 3).trans rfl; have hfz60_0 := kF BK151.out 0; have hfz60_1 := kF BK151.out 1; have hfz60_2 := kF BK151.out 2; have hfz60_3 := kF BK151.out 3; have p152 : 0 ≤ (x43_2 : Int) := oD (jA); have q152 : x43_2 < (t140.length : Int) := oD (jA); obtain ⟨ad152, e152, hx152_0⟩ := Kd.at_bool (Kd.R_reads' HO_4.out).2.2 x43_2 p152 q152; (try rw [← Nbq26.out] at hx152_0); cases e152; have hn152_0 : ad152.block ≠ gb151 := Kd.own_blk (Kd.R_ne HO_4.out BK151.out (by decide)); have hn152_1 : ad152.block ≠ gb151 := Kd.own_blk (Kd.R_ne HO_4.out BK151.out (by decide)); have hn152_2 : ad152.block ≠ gb151 := Kd.own_blk (Kd.R_ne HO_4.out BK151.out (by decide)); have hn152_3 : ad152.block ≠ gb151 := Kd.own_blk (Kd.R_ne HO_4.out BK151.out (by decide)); replace hx152_0 := (cell_far (p := ⟨gb151, 0, none⟩) (by first | (rw [add_block]; exact hn152_0) | (show (Addr.add _ _).block ≠ _; rw [add_block]; exact hn152_0) | exact hn152_0) (.int .i64 ((rd_T45 l0 x43_2).f0))).trans hx152_0; replace hx152_0 := (cell_far (p := ⟨gb151, 1, none⟩) (by first | (rw [add_block]; exact hn152_1) | (show (Addr.add _ _).block ≠ _; rw [add_block]; exact hn152_1) | exact hn152_1) (.int .i64 ((rd_T45 l0 x43_2).f1))).trans hx152_0; replace hx152_0 := (cell_far (p := ⟨gb151, 2, none⟩) (by first | (rw [add_block]; exact hn152_2) | (show (Addr.add _ _).block ≠ _; rw [add_block]; exact hn152_2) | exact hn152_2) (.int .i64 ((rd_T45 l0 x43_2).f2))).trans hx152_0; replace hx152_0 := (cell_far (p := ⟨gb151, 3, none⟩) (by first | (rw [add_block]; exact hn152_3) | (show (Addr.add _ _).block ≠ _; rw [add_block]; exact hn152_3) | exact hn152_3) (.int .u32 ((rd_T45 l0 x43_2).f3))).trans hx152_0; clear hn152_0; clear hn152_1; clear hn152_2; clear hn152_3; replace p152 := eq_true p152; replace q152 := eq_true q152))
              go_roundg k2
              case measure => have := HK1.out; have := HK2.out; omega
              case rel => exact ⟨(x11_2), (wrap64 (x43_2 + 1)), jS, H', ⟨by have := HK1.out; have := HK2.out; omega⟩, ⟨by (with_reducible repeat (first | apply Kd.R_alloc | apply Kd.R_drewN | apply Kd.R_drew)); exact Kd.R_mono (Kd.R_far (p := ⟨gb151, 3, none⟩) (Kd.R_far (p := ⟨gb151, 2, none⟩) (Kd.R_far (p := ⟨gb151, 1, none⟩) (Kd.R_far (p := ⟨gb151, 0, none⟩) (Kd.R_types HO_4.out BK151.out (by decide)) (fun _ hk => hk.2) (.int .i64 ((rd_T45 l0 x43_2).f0))) (fun _ hk => hk.2) (.int .i64 ((rd_T45 l0 x43_2).f1))) (fun _ hk => hk.2) (.int .i64 ((rd_T45 l0 x43_2).f2))) (fun _ hk => hk.2) (.int .u32 ((rd_T45 l0 x43_2).f3))) (fun _ hk => trivial)⟩, ⟨by (with_reducible repeat (first | apply Kd.R_alloc | apply Kd.R_drewN | apply Kd.R_drew)); exact Kd.R_mono (Kd.R_far (p := ⟨gb151, 3, none⟩) (Kd.R_far (p := ⟨gb151, 2, none⟩) (Kd.R_far (p := ⟨gb151, 1, none⟩) (Kd.R_far (p := ⟨gb151, 0, none⟩) (Kd.R_mono HO_11.out (fun k_ hk => (⟨hk, hk.2⟩ : _ ∧ k_ ≠ gb151))) (fun _ hk => hk.2) (.int .i64 ((rd_T45 l0 x43_2).f0))) (fun _ hk => hk.2) (.int .i64 ((rd_T45 l0 x43_2).f1))) (fun _ hk => hk.2) (.int .i64 ((rd_T45 l0 x43_2).f2))) (fun _ hk => hk.2) (.int .u32 ((rd_T45 l0 x43_2).f3))) (fun _ hk => hk.1.1)⟩, ⟨by (with_reducible repeat (first | apply Kd.R_alloc | apply Kd.R_drewN | apply Kd.R_drew)); exact Kd.R_mono (Kd.R_far (p := ⟨gb151, 3, none⟩) (Kd.R_far (p := ⟨gb151, 2, none⟩) (Kd.R_far (p := ⟨gb151, 1, none⟩) (Kd.R_far (p := ⟨gb151, 0, none⟩) (Kd.R_types HO_24.out BK151.out (by decide)) (fun _ hk => hk.2) (.int .i64 ((rd_T45 l0 x43_2).f0))) (fun _ hk => hk.2) (.int .i64 ((rd_T45 l0 x43_2).f1))) (fun _ hk => hk.2) (.int .i64 ((rd_T45 l0 x43_2).f2))) (fun _ hk => hk.2) (.int .u32 ((rd_T45 l0 x43_2).f3))) (fun _ hk => trivial)⟩, ⟨by (with_reducible repeat (first | refine kN ?_ _ | refine kD ?_ | refine kA ?_ _)); refine kR ?_ NB147_151.out _; (with_reducible repeat (first | refine kN ?_ _ | refine kD ?_ | refine kA ?_ _)); refine kR ?_ NB147_151.out _; (with_reducible repeat (first | refine kN ?_ _ | refine kD ?_ | refine kA ?_ _)); refine kR ?_ NB147_151.out _; (with_reducible repeat (first | refine kN ?_ _ | refine kD ?_ | refine kA ?_ _)); refine kR ?_ NB147_151.out _; (with_reducible repeat (first | refine kN ?_ _ | refine kD ?_ | refine kA ?_ _)); exact BK147.out⟩, ⟨jH HB⟩⟩
            ·rw [if_neg c25] at H
             exact absurd H (by simp)
           ·rw [if_neg c24] at H
            exact absurd H (by simp)
          ·rw [if_neg c23] at H
           exact absurd H (by simp)
         ·rw [if_neg c22] at H
          have c22b0 : decide (x43_2 < (l0.length : Int)) = false := dF c22
          clear c22
          simp only [Option.some.injEq, Prod.mk.injEq] at H
          obtain ⟨rfl, rfl⟩ := H
          go_wp2
          go_ret2
          exact ⟨_, jE, by (with_reducible repeat (first | apply Kd.R_alloc | apply Kd.R_drewN | apply Kd.R_drew)); exact Kd.R_mono HO_11.out (fun _ hk => trivial), jH HB⟩
   ·rw [if_neg c5] at H
    exact absurd H (by simp)
  ·rw [if_neg c4] at H
   exact absurd H (by simp)
 ·rw [if_neg c3] at H
  have c3b0 : (t141 == 0) = false := bF.mpr c3
  have c3b1 : (t141 != 0) = true := nI.mpr c3
  simp only [Option.some.injEq, Prod.mk.injEq] at H
  obtain ⟨rfl, rfl⟩ := H
  go_enter Tryd.func10, Tryd.ntmps10
  go_wp2_with (first | ((with_reducible refine gate_callee (f := 9) rfl ?_); refine goesL_ (some 16) rfl rfl Tryd.func9 (by kernel_rfl) rfl #[.slice A0 l0.length c0] rfl jZ ?_; (with_reducible refine (prune_Met.calls k _ _ l0 t140 t141 _ ?side1 ?side2 ?side3 A2.out).mono ?_); (case side1 => repeat (first | exact HR0.out | (with_reducible refine Kd.C_alloc ?_ _) | (with_reducible refine Kd.C_drewN ?_ _) | (with_reducible refine Kd.C_drew ?_))); (case side2 => exact HC0.out); (case side3 => exact Glob.below HG.out (jH HB)); rintro e w61 ⟨v142, rfl, ho0, hb⟩; refine ⟨_, rfl, ?_⟩; have n0_ := Aside0.mk (Kd.R_lower ho0 (zZ (jH HB))); have n1_ := Aside0.mk (zT (jH HB) hb); clear HB; have HO143 := n0_; have HB := n1_; clear n0_ n1_; (try clear hb); (try clear hb2); (try clear hk); (try clear hi); (try clear ho0)))
  go_ret2
  exact ⟨_, jE, by first | exact Kd.R_nil _ _ _ _ _ | exact Kd.N_nil _ _ _ _ _ | exact Kd.V_nil _ _ _ _ _ | exact Kd.Q_nil _ _ _ _ _ | exact Kd.S_nil _ _ _ _ _, jH HB⟩
end Go.Proofs.YtohpbjnihmcelaaDoor.M
