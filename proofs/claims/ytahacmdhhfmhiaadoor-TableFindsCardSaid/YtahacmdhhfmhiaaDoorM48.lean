/- What Go functions compute; their calls come to it. No condition. -/
import Derived.Test.YtahacmdhhfmhiaaDoorM0
import Derived.Test.YtahacmdhhfmhiaaDoorMA
import Derived.Test.YtahacmdhhfmhiaaDoorM21
import Derived.Test.YtahacmdhhfmhiaaDoorMD
import Derived.Test.YtahacmdhhfmhiaaDoorM24
import Derived.Test.YtahacmdhhfmhiaaDoorMF
import Derived.Test.YtahacmdhhfmhiaaDoorM33
import Derived.Test.YtahacmdhhfmhiaaDoorM34
import Derived.Test.YtahacmdhhfmhiaaDoorM43
namespace Go.Proofs.YtahacmdhhfmhiaaDoor.M
open Go.RowKit Go.Proofs.YtahacmdhhfmhiaaDoorW.PrintWords Go.Proofs.YtahacmdhhfmhiaaDoorW.PrintLast Go.Proofs.YtahacmdhhfmhiaaDoorW.PrintMore
attribute [local go_sem] max2_int min2_int max_two min_two max_three min_three max_four min_four   -- for this text's walks alone
set_option linter.unusedVariables false
set_option linter.unusedSimpArgs false
section
variable {P : Program} {ops : Array Oper} {C : World → Prop} {Q : Act → Prop} {rest : List Oper} {o : Oper} {a a' : Act}
theorem wqU (h : Aside0 (wpQuiet P ops C Q rest a')) (hw : Region.wanted o (yielded ops a.tmps) = false := by kernel_rfl) (ha : a.put o.dst undef = a' := by simp only [Act.put, List.setIfInBounds_toArray, List.set_cons_zero, List.set_cons_succ, i64_w, i32_w]; rfl) : Aside0 (wpQuiet P ops C Q (o :: rest) a) := by
 subst ha
 refine ⟨?_⟩
 show ite _ _ _
 rw [if_neg (by rw [hw]; decide)]
 exact h.out
theorem wqP {v : Value} (h : Aside0 (wpQuiet P ops C Q rest a')) (hw : Region.wanted o (yielded ops a.tmps) = true := by kernel_rfl) (hv : ∀ w, C w → (execOp a.eval o).run P w = .ok (.value v) w := by rintro _ ⟨n, rfl⟩; go_simp; with_reducible rfl) (ha : a.put o.dst v = a' := by simp only [Act.put, List.setIfInBounds_toArray, List.set_cons_zero, List.set_cons_succ, i64_w, i32_w]; rfl) : Aside0 (wpQuiet P ops C Q (o :: rest) a) := by
 subst ha
 refine ⟨?_⟩
 show ite _ _ _
 rw [if_pos hw]
 exact ⟨v, fun w hC => by unfold Oper.quietAt; rw [hv w hC]; exact ⟨rfl, rfl⟩, h.out⟩
theorem wqC {v : Value} {f : FuncId} {args : Array Value} (hc : ∀ w, C w → Calls P f args w fun e w'' => e = .returned v ∧ C w'') (h : Aside0 (wpQuiet P ops C Q rest a')) (hw : Region.wanted o (yielded ops a.tmps) = true := by kernel_rfl) (he : ∀ w, C w → (execOp a.eval o).run P w = .ok (.enter f args) w := by intro w_ hw_; first | (go_simp; done) | (go_simp; with_reducible rfl)) (ha : a.put o.dst v = a' := by simp only [Act.put, List.setIfInBounds_toArray, List.set_cons_zero, List.set_cons_succ, i64_w, i32_w]; rfl) : Aside0 (wpQuiet P ops C Q (o :: rest) a) := by
 subst ha
 refine ⟨?_⟩
 show ite _ _ _
 rw [if_pos hw]
 exact ⟨v, fun w hC => by unfold Oper.quietAt; rw [he w hC]; exact ⟨rfl, hc w hC⟩, h.out⟩
end
mutual
def l21_TableFinds.j0 : Nat → List (S42) → Bool → List (S59) → List (S59) → Int → Option (Bool)
 | 0, _, _, _, _, _ => none
 | k + 1, x0, x33, x769000, x769001, x769002 => if x33 = true then ((l21_knows.f k).bind fun t786 => (some t786)) else ((table_Learn.f k x0 x769000 x769001 x769002).bind fun bt787 => ((table_Find.f k bt787.1 x769000 x769002).bind fun bt791 => (l21_TableFinds.l0 k bt787.1 bt787.2 bt791.1 bt791.2 0 x769000 x769001 x769002)))
def l21_TableFinds.l0 : Nat → List (S42) → Int → List (S59) → Bool → Int → List (S59) → List (S59) → Int → Option (Bool)
 | 0, _, _, _, _, _, _, _, _ => none
 | k + 1, x5, x6, x7, x8, x9, x769000, x769001, x769002 => if x9 < (x5.length : Int) then (if 0 ≤ x9 then ((r03_Same.f k ((rd_T42 x5 x9).f0) x769000).bind fun t796 => (if t796 = true then (if ((rd_T42 x5 x9).f2) = x769002 then ((r03_Same.f k ((rd_T42 x5 x9).f1) x7).bind fun t799 => (if t799 = true then (if x6 = 0 then (if x8 = true then ((l21_knows.f k).bind fun t800 => (some t800)) else (none)) else (none)) else (l21_TableFinds.l0 k x5 x6 x7 x8 (wrap64 (x9 + 1)) x769000 x769001 x769002))) else (l21_TableFinds.l0 k x5 x6 x7 x8 (wrap64 (x9 + 1)) x769000 x769001 x769002)) else (l21_TableFinds.l0 k x5 x6 x7 x8 (wrap64 (x9 + 1)) x769000 x769001 x769002))) else (none)) else (none)
end
def l21_TableFinds.f (k : Nat) (l0 : List (S42)) (l1_0 : List (S59)) (l1_1 : List (S59)) (a1_2 : Int) : Option (Bool) := (l21_Great.f k l0).bind fun t769 => (if t769 = true then (l21_TableFinds.j0 k l0 true l1_0 l1_1 a1_2) else ((l21_Great.f k (([(⟨l1_0, l1_1, a1_2⟩ : S42)] : List (S42)))).bind fun t773 => (if t773 = true then (l21_TableFinds.j0 k l0 true l1_0 l1_1 a1_2) else (if (l0.length : Int) > 60 then (l21_TableFinds.j0 k l0 true l1_0 l1_1 a1_2) else ((l21_As.f k l0).bind fun t774 => ((r21_Right.f k t774).bind fun t777 => (if t777 = true then ((l21_as.f l1_0 l1_1 a1_2).bind fun bt778 => ((r21_May.f k bt778.1 bt778.2.1 bt778.2.2).bind fun t785 => (l21_TableFinds.j0 k l0 (!t785) l1_0 l1_1 a1_2))) else (l21_TableFinds.j0 k l0 true l1_0 l1_1 a1_2))))))))
theorem l21_TableFinds.mono_l : ∀ k, (∀ y0 y1 y2 y3 y4, LeO (l21_TableFinds.j0 k y0 y1 y2 y3 y4) (l21_TableFinds.j0 (k + 1) y0 y1 y2 y3 y4)) ∧ (∀ y0 y1 y2 y3 y4 y5 y6 y7, LeO (l21_TableFinds.l0 k y0 y1 y2 y3 y4 y5 y6 y7) (l21_TableFinds.l0 (k + 1) y0 y1 y2 y3 y4 y5 y6 y7))
 | 0 => ⟨fun _ _ _ _ _ r h => by simp [l21_TableFinds.j0] at h, fun _ _ _ _ _ _ _ _ r h => by simp [l21_TableFinds.l0] at h⟩
 | k + 1 => by
  obtain ⟨ih0, ih1⟩ := l21_TableFinds.mono_l k
  refine ⟨?_, ?_⟩
  all_goals intros
  all_goals first | unfold l21_TableFinds.j0 | unfold l21_TableFinds.l0
  all_goals repeat' first
   | (with_reducible apply ih0)
   | (with_reducible apply ih1)
   | (with_reducible apply l21_As.mono)
   | (with_reducible apply l21_Great.mono)
   | (with_reducible apply l21_knows.mono)
   | (with_reducible apply r03_Same.mono)
   | (with_reducible apply r21_May.mono)
   | (with_reducible apply r21_Right.mono)
   | (with_reducible apply table_Find.mono)
   | (with_reducible apply table_Learn.mono)
   | (with_reducible exact LeO.refl _)
   | (with_reducible exact LeO.none _)
   | (with_reducible refine LeO.ite ?_ ?_)
   | (with_reducible refine LeO.bind ?_ (fun _ => ?_))
   | apply ih0
   | apply ih1
   | apply l21_As.mono
   | apply l21_Great.mono
   | apply l21_knows.mono
   | apply r03_Same.mono
   | apply r21_May.mono
   | apply r21_Right.mono
   | apply table_Find.mono
   | apply table_Learn.mono
   | exact LeO.none _
   | refine LeO.ite ?_ ?_
   | refine LeO.bind ?_ (fun _ => ?_)
theorem l21_TableFinds.mono : ∀ a0 a1 a2 a3 k, LeO (l21_TableFinds.f k a0 a1 a2 a3) (l21_TableFinds.f (k + 1) a0 a1 a2 a3) := by
 intro a0 a1 a2 a3 k
 obtain ⟨ih0, ih1⟩ := l21_TableFinds.mono_l k
 unfold l21_TableFinds.f
 repeat' first
   | (with_reducible apply ih0)
   | (with_reducible apply ih1)
   | (with_reducible apply l21_As.mono)
   | (with_reducible apply l21_Great.mono)
   | (with_reducible apply l21_knows.mono)
   | (with_reducible apply r03_Same.mono)
   | (with_reducible apply r21_May.mono)
   | (with_reducible apply r21_Right.mono)
   | (with_reducible apply table_Find.mono)
   | (with_reducible apply table_Learn.mono)
   | (with_reducible exact LeO.refl _)
   | (with_reducible exact LeO.none _)
   | (with_reducible refine LeO.ite ?_ ?_)
   | (with_reducible refine LeO.bind ?_ (fun _ => ?_))
   | apply ih0
   | apply ih1
   | apply l21_As.mono
   | apply l21_Great.mono
   | apply l21_knows.mono
   | apply r03_Same.mono
   | apply r21_May.mono
   | apply r21_Right.mono
   | apply table_Find.mono
   | apply table_Learn.mono
   | exact LeO.none _
   | refine LeO.ite ?_ ?_
   | refine LeO.bind ?_ (fun _ => ?_)
set_option maxHeartbeats 8000000 in
set_option maxRecDepth 100000 in
theorem l21_TableFinds.calls (k : Nat) (P0_ : Nat → Prop) (A0 : Option Addr) (c0 : Nat) (l0 : List (S42)) (P1_0_ : Nat → Prop) (A1_0 : Option Addr) (c1_0 : Nat) (l1_0 : List (S59)) (P1_1_ : Nat → Prop) (A1_1 : Option Addr) (c1_1 : Nat) (l1_1 : List (S59)) (a1_2 : Int) (r : Bool) (w : World) (hs0 : Kd.V k42 42 w w.heap.size (fun k_ => P0_ k_) (.slice A0 l0.length c0) l0) (hs1_0 : Kd.V k59 59 w w.heap.size (fun k_ => P1_0_ k_) (.slice A1_0 l1_0.length c1_0) l1_0) (hs1_1 : Kd.V k59 59 w w.heap.size (fun k_ => P1_1_ k_) (.slice A1_1 l1_1.length c1_1) l1_1) (hG : Glob w) (h : l21_TableFinds.f k l0 l1_0 l1_1 a1_2 = some r) :
  Calls Tryd.prog 9 #[.slice A0 l0.length c0, .agg #[.slice A1_0 l1_0.length c1_0, .slice A1_1 l1_1.length c1_1, .int .u32 a1_2]] w fun e w' => e = .returned (.bool r) ∧ Below w.heap.size w w' := by
 have hu42 := Tryd.underlying42
 have HG := Aside0.mk hG
 clear hG
 have HO0 := Aside0.mk (show Kd.V k42 42 w w.heap.size (fun k_ => ((P0_ k_ ∨ P1_0_ k_ ∨ P1_1_ k_) ∨ w.heap.size ≤ k_)) (.slice A0 l0.length c0) l0 from Kd.V_mono hs0 (fun k_ hk => .inl (.inl hk)))
 have HO1_0 := Aside0.mk (show Kd.V k59 59 w w.heap.size (fun k_ => ((P0_ k_ ∨ P1_0_ k_ ∨ P1_1_ k_) ∨ w.heap.size ≤ k_)) (.slice A1_0 l1_0.length c1_0) l1_0 from Kd.V_mono hs1_0 (fun k_ hk => .inl (.inr (.inl hk))))
 have HO1_1 := Aside0.mk (show Kd.V k59 59 w w.heap.size (fun k_ => ((P0_ k_ ∨ P1_0_ k_ ∨ P1_1_ k_) ∨ w.heap.size ≤ k_)) (.slice A1_1 l1_1.length c1_1) l1_1 from Kd.V_mono hs1_1 (fun k_ hk => .inl (.inr (.inr hk))))
 have HB := Aside0.mk (Below.refl w.heap.size w)
 have H : ((l21_Great.f k l0).bind fun t769 => (if t769 = true then (l21_TableFinds.j0 k l0 true l1_0 l1_1 a1_2) else ((l21_Great.f k (([(⟨l1_0, l1_1, a1_2⟩ : S42)] : List (S42)))).bind fun t773 => (if t773 = true then (l21_TableFinds.j0 k l0 true l1_0 l1_1 a1_2) else (if (l0.length : Int) > 60 then (l21_TableFinds.j0 k l0 true l1_0 l1_1 a1_2) else ((l21_As.f k l0).bind fun t774 => ((r21_Right.f k t774).bind fun t777 => (if t777 = true then ((l21_as.f l1_0 l1_1 a1_2).bind fun bt778 => ((r21_May.f k bt778.1 bt778.2.1 bt778.2.2).bind fun t785 => (l21_TableFinds.j0 k l0 (!t785) l1_0 l1_1 a1_2))) else (l21_TableFinds.j0 k l0 true l1_0 l1_1 a1_2))))))))) = some r := h
 clear h
 have HC3 := Aside0.mk H
 clear H
 go_enter Tryd.func9, Tryd.ntmps9
 go_upto_region 1 with (first | ((with_reducible refine gate_dst (N := 3) rfl ?_); (try (refine gate_guard (by rfl) ?_; dsimp only)); refine box_event rfl (N := 3) rfl (cs := #[.slice A1_0 l1_0.length c1_0, .slice A1_1 l1_1.length c1_1, .int .u32 a1_2]) (t := 42) jW ?_; intro gb768 hg w4 hbox hb; have BK768 := Aside0.mk hbox; have GW768 := Aside0.mk (jG hg HB); have GE768 := Aside0.mk (jG hg HB); replace HO0 := Aside0.mk (Kd.V_below (Kd.V_elderB (jV HO0) gb768 (Nat.le_of_eq hg.symm)) hb); replace HO1_0 := Aside0.mk (Kd.V_below (Kd.V_elderB (jV HO1_0) gb768 (Nat.le_of_eq hg.symm)) hb); replace HO1_1 := Aside0.mk (Kd.V_below (Kd.V_elderB (jV HO1_1) gb768 (Nat.le_of_eq hg.symm)) hb); replace HB := Aside0.mk (zT (jH HB) hb); clear hb hbox hg))
 (try simp only [Act.put, List.setIfInBounds_toArray, List.set_cons_zero, List.set_cons_succ])
 go_cut [33] (fun v33 wc => ∃ (kq : Nat) (x33_2 : Bool), v33 = .bool x33_2 ∧ Aside0 (l21_TableFinds.j0 kq l0 x33_2 l1_0 l1_1 a1_2 = some r) ∧ Aside0 (kq ≤ k) ∧ Aside0 (Kd.V k42 42 wc w.heap.size (fun k_ => ((P0_ k_ ∨ P1_0_ k_ ∨ P1_1_ k_) ∨ w.heap.size ≤ k_) ∧ k_ ≠ gb768) (.slice A0 l0.length c0) l0) ∧ Aside0 (Kd.V k59 59 wc w.heap.size (fun k_ => ((P0_ k_ ∨ P1_0_ k_ ∨ P1_1_ k_) ∨ w.heap.size ≤ k_) ∧ k_ ≠ gb768) (.slice A1_0 l1_0.length c1_0) l1_0) ∧ Aside0 (Kd.V k59 59 wc w.heap.size (fun k_ => ((P0_ k_ ∨ P1_0_ k_ ∨ P1_1_ k_) ∨ w.heap.size ≤ k_) ∧ k_ ≠ gb768) (.slice A1_1 l1_1.length c1_1) l1_1) ∧ Aside0 (wc.heap[gb768]? = some (.cells #[(.slice A1_0 l1_0.length c1_0), (.slice A1_1 l1_1.length c1_1), .int .u32 a1_2] 42 (0, 0))) ∧ Aside0 (Below w.heap.size w wc))
 case first =>
  have H := HC3.out
  clear HC3
  replace H := Option.bind_eq_some_iff.mp H
  obtain ⟨t769, A50, H⟩ := H
  try dsimp only at H
  have A5 := Aside0.mk A50
  clear A50
  by_cases c6 : t769 = true
  ·subst c6
   rw [if_pos rfl] at H
   have H' := Aside0.mk H
   clear H
   go_wp2_with (first | (go_at_call 10; (with_reducible refine (l21_Great.calls k _ _ l0 true _ ?side1 ?side2 A5.out).mono ?_); (case side1 => exact jC (Kd.V_reads' HO0.out).2.2); (case side2 => exact (Kd.V_reads' HO0.out).2.1); rintro e w' ⟨rfl, ⟨nd, rfl⟩⟩; (try first | exact ⟨rfl, _, World.drewN_drewN _ _ _⟩ | exact ⟨rfl, _, Eq.trans (World.drewN_drewN _ _ _) (congrArg (World.drewN _) (Nat.add_assoc _ _ _))⟩)))
   go_meet
   case rel => exact ⟨_, (true), jS, H', ⟨jO⟩, ⟨jV HO0⟩, ⟨jV HO1_0⟩, ⟨jV HO1_1⟩, ⟨jK BK768⟩, ⟨jH HB⟩⟩
  ·replace c6 := Bool.eq_false_iff.mpr c6
   subst c6
   rw [if_neg (show ¬ (false = true) by decide)] at H
   obtain ⟨y770, hy770⟩ : ∃ y_ : List (S42), y_ = (([(⟨l1_0, l1_1, a1_2⟩ : S42)] : List (S42))) := ⟨_, rfl⟩
   simp only [Option.bind_some, ← hy770] at H
   have Ny770 := Aside0.mk hy770
   clear hy770
   replace H := Option.bind_eq_some_iff.mp H
   obtain ⟨t773, A70, H⟩ := H
   try dsimp only at H
   have A7 := Aside0.mk A70
   clear A70
   by_cases c8 : t773 = true
   ·subst c8
    rw [if_pos rfl] at H
    have H' := Aside0.mk H
    clear H
    go_wp2_with (first | (go_at_call 10; (with_reducible refine (l21_Great.calls k _ _ l0 false _ ?side1 ?side2 A5.out).mono ?_); (case side1 => exact jC (Kd.V_reads' HO0.out).2.2); (case side2 => exact (Kd.V_reads' HO0.out).2.1); rintro e w' ⟨rfl, ⟨nd, rfl⟩⟩; (try first | exact ⟨rfl, _, World.drewN_drewN _ _ _⟩ | exact ⟨rfl, _, Eq.trans (World.drewN_drewN _ _ _) (congrArg (World.drewN _) (Nat.add_assoc _ _ _))⟩); obtain ⟨hcz9_0, hcz9_1, hcz9_2, hfz9_0, hfz9_1, hfz9_2⟩ := kQ3 BK768.out) | ((with_reducible refine gate_dst (N := 14) rfl ?_); (try (refine gate_guard (by rfl) ?_; dsimp only)); refine Kd.N_lit k42 _ 42 ?hg (N' := 14) ?hd (xs := ([(⟨l1_0, l1_1, a1_2⟩ : S42)] : List (S42))) (inner := [.slice A1_0 l1_0.length c1_0, .slice A1_1 l1_1.length c1_1, .int .u32 a1_2]) (ok := (fun k_ => ((P0_ k_ ∨ P1_0_ k_ ∨ P1_1_ k_) ∨ w.heap.size ≤ k_) ∧ k_ ≠ gb768)) (okp := (fun k_ => ((P0_ k_ ∨ P1_0_ k_ ∨ P1_1_ k_) ∨ w.heap.size ≤ k_) ∧ k_ ≠ gb768)) ?hr ?hp (fun _ hk => hk) ((show ∀ k_, w4.heap.size ≤ k_ → (fun k_ => ((P0_ k_ ∨ P1_0_ k_ ∨ P1_1_ k_) ∨ w.heap.size ≤ k_) ∧ k_ ≠ gb768) k_ from fun k_ hk => ⟨(.inr (Nat.le_trans (zZ (jH HB)) hk)), Kd.freshB (g := gb768) (o := .cells #[.slice A1_0 l1_0.length c1_0, .slice A1_1 l1_1.length c1_1, .int .u32 a1_2] 42 (0, 0)) (jK BK768) k_ hk⟩) _ (Nat.le_refl _)) (Below.refl _ _) (Nat.le_refl _) (by simp) ?_; (case hd => rfl); (case hg => rfl); (case hr => first | (go_simp; done) | (go_simp; rfl)); (case hp => exact (Reps.c3 (show Kd.FK k42 _ _ (⟨l1_0, l1_1, a1_2⟩ : S42) [.slice A1_0 l1_0.length c1_0, .slice A1_1 l1_1.length c1_1, .int .u32 a1_2] from (k42_mkF _ _ (⟨l1_0, l1_1, a1_2⟩ : S42) (Kd.V_reads' (Kd.V_mono (ok' := (fun k_ => ((P0_ k_ ∨ P1_0_ k_ ∨ P1_1_ k_) ∨ w.heap.size ≤ k_) ∧ k_ ≠ gb768)) (HO1_0.out) (fun k_ hk => ⟨hk.1, hk.2⟩))).2.1 (Kd.V_F (Kd.V_mono (ok' := (fun k_ => ((P0_ k_ ∨ P1_0_ k_ ∨ P1_1_ k_) ∨ w.heap.size ≤ k_) ∧ k_ ≠ gb768)) (HO1_0.out) (fun k_ hk => ⟨hk.1, hk.2⟩))) (Kd.V_reads' (Kd.V_mono (ok' := (fun k_ => ((P0_ k_ ∨ P1_0_ k_ ∨ P1_1_ k_) ∨ w.heap.size ≤ k_) ∧ k_ ≠ gb768)) (HO1_1.out) (fun k_ hk => ⟨hk.1, hk.2⟩))).2.1 (Kd.V_F (Kd.V_mono (ok' := (fun k_ => ((P0_ k_ ∨ P1_0_ k_ ∨ P1_1_ k_) ∨ w.heap.size ≤ k_) ∧ k_ ≠ gb768)) (HO1_1.out) (fun k_ hk => ⟨hk.1, hk.2⟩))))) (Reps.none _ _))); intro v771 w10 ho11 hb hg_ hnew_; clear hg_ hnew_; (first | rw [← Ny770.out] at ho11 | (simp only [Int.reduceToNat] at ho11; rw [← Ny770.out] at ho11)); have HO772 := Aside0.mk (Kd.N_lower ho11 (zZ (jH HB))); replace HO0 := Aside0.mk (Kd.V_elder' (jV HO0) (Kd.N_base ho11) hb); replace HO1_0 := Aside0.mk (Kd.V_elder' (jV HO1_0) (Kd.N_base ho11) hb); replace HO1_1 := Aside0.mk (Kd.V_elder' (jV HO1_1) (Kd.N_base ho11) hb); replace BK768 := Aside0.mk (jB BK768 hb); replace HB := Aside0.mk (zT (jH HB) hb); clear hb ho11; obtain ⟨Ao12, co12, eo12⟩ := Kd.N_slice HO772.out; subst eo12) | (go_at_call 10; (with_reducible refine (l21_Great.calls k _ _ y770 true _ ?side1 ?side2 A7.out).mono ?_); (case side1 => exact jC (Kd.N_reads' HO772.out).2.2); (case side2 => exact (Kd.N_reads' HO772.out).2.1); rintro e w' ⟨rfl, ⟨nd, rfl⟩⟩; (try first | exact ⟨rfl, _, World.drewN_drewN _ _ _⟩ | exact ⟨rfl, _, Eq.trans (World.drewN_drewN _ _ _) (congrArg (World.drewN _) (Nat.add_assoc _ _ _))⟩)))
    go_meet
    case rel => exact ⟨_, (true), jS, H', ⟨jO⟩, ⟨by (with_reducible repeat (first | apply Kd.V_alloc | apply Kd.V_drewN | apply Kd.V_drew)); exact Kd.V_mono HO0.out (fun _ hk => ⟨hk.1.1, hk.1.2⟩)⟩, ⟨by (with_reducible repeat (first | apply Kd.V_alloc | apply Kd.V_drewN | apply Kd.V_drew)); exact Kd.V_mono HO1_0.out (fun _ hk => ⟨hk.1.1, hk.1.2⟩)⟩, ⟨by (with_reducible repeat (first | apply Kd.V_alloc | apply Kd.V_drewN | apply Kd.V_drew)); exact Kd.V_mono HO1_1.out (fun _ hk => ⟨hk.1.1, hk.1.2⟩)⟩, ⟨jK BK768⟩, ⟨jH HB⟩⟩
   ·replace c8 := Bool.eq_false_iff.mpr c8
    subst c8
    rw [if_neg (show ¬ (false = true) by decide)] at H
    by_cases c13 : (l0.length : Int) > 60
    ·rw [if_pos c13] at H
     have c13b0 : decide (60 < (l0.length : Int)) = true := dT c13
     have c13b1 : decide (60 < l0.length) = true := dT (by omega)
     clear c13
     (first | rw [c13b0] | (simp only [i64_w, i32_w]; rw [c13b0]) | skip)
     have H' := Aside0.mk H
     clear H
     go_wp2_with (first | (go_at_call 10; (with_reducible refine (l21_Great.calls k _ _ l0 false _ ?side1 ?side2 A5.out).mono ?_); (case side1 => exact jC (Kd.V_reads' HO0.out).2.2); (case side2 => exact (Kd.V_reads' HO0.out).2.1); rintro e w' ⟨rfl, ⟨nd, rfl⟩⟩; (try first | exact ⟨rfl, _, World.drewN_drewN _ _ _⟩ | exact ⟨rfl, _, Eq.trans (World.drewN_drewN _ _ _) (congrArg (World.drewN _) (Nat.add_assoc _ _ _))⟩); obtain ⟨hcz14_0, hcz14_1, hcz14_2, hfz14_0, hfz14_1, hfz14_2⟩ := kQ3 BK768.out) | ((with_reducible refine gate_dst (N := 14) rfl ?_); (try (refine gate_guard (by rfl) ?_; dsimp only)); refine Kd.N_lit k42 _ 42 ?hg (N' := 14) ?hd (xs := ([(⟨l1_0, l1_1, a1_2⟩ : S42)] : List (S42))) (inner := [.slice A1_0 l1_0.length c1_0, .slice A1_1 l1_1.length c1_1, .int .u32 a1_2]) (ok := (fun k_ => ((P0_ k_ ∨ P1_0_ k_ ∨ P1_1_ k_) ∨ w.heap.size ≤ k_) ∧ k_ ≠ gb768)) (okp := (fun k_ => ((P0_ k_ ∨ P1_0_ k_ ∨ P1_1_ k_) ∨ w.heap.size ≤ k_) ∧ k_ ≠ gb768)) ?hr ?hp (fun _ hk => hk) ((show ∀ k_, w4.heap.size ≤ k_ → (fun k_ => ((P0_ k_ ∨ P1_0_ k_ ∨ P1_1_ k_) ∨ w.heap.size ≤ k_) ∧ k_ ≠ gb768) k_ from fun k_ hk => ⟨(.inr (Nat.le_trans (zZ (jH HB)) hk)), Kd.freshB (g := gb768) (o := .cells #[.slice A1_0 l1_0.length c1_0, .slice A1_1 l1_1.length c1_1, .int .u32 a1_2] 42 (0, 0)) (jK BK768) k_ hk⟩) _ (Nat.le_refl _)) (Below.refl _ _) (Nat.le_refl _) (by simp) ?_; (case hd => rfl); (case hg => rfl); (case hr => first | (go_simp; done) | (go_simp; rfl)); (case hp => exact (Reps.c3 (show Kd.FK k42 _ _ (⟨l1_0, l1_1, a1_2⟩ : S42) [.slice A1_0 l1_0.length c1_0, .slice A1_1 l1_1.length c1_1, .int .u32 a1_2] from (k42_mkF _ _ (⟨l1_0, l1_1, a1_2⟩ : S42) (Kd.V_reads' (Kd.V_mono (ok' := (fun k_ => ((P0_ k_ ∨ P1_0_ k_ ∨ P1_1_ k_) ∨ w.heap.size ≤ k_) ∧ k_ ≠ gb768)) (HO1_0.out) (fun k_ hk => ⟨hk.1, hk.2⟩))).2.1 (Kd.V_F (Kd.V_mono (ok' := (fun k_ => ((P0_ k_ ∨ P1_0_ k_ ∨ P1_1_ k_) ∨ w.heap.size ≤ k_) ∧ k_ ≠ gb768)) (HO1_0.out) (fun k_ hk => ⟨hk.1, hk.2⟩))) (Kd.V_reads' (Kd.V_mono (ok' := (fun k_ => ((P0_ k_ ∨ P1_0_ k_ ∨ P1_1_ k_) ∨ w.heap.size ≤ k_) ∧ k_ ≠ gb768)) (HO1_1.out) (fun k_ hk => ⟨hk.1, hk.2⟩))).2.1 (Kd.V_F (Kd.V_mono (ok' := (fun k_ => ((P0_ k_ ∨ P1_0_ k_ ∨ P1_1_ k_) ∨ w.heap.size ≤ k_) ∧ k_ ≠ gb768)) (HO1_1.out) (fun k_ hk => ⟨hk.1, hk.2⟩))))) (Reps.none _ _))); intro v771 w15 ho16 hb hg_ hnew_; clear hg_ hnew_; (first | rw [← Ny770.out] at ho16 | (simp only [Int.reduceToNat] at ho16; rw [← Ny770.out] at ho16)); have HO772 := Aside0.mk (Kd.N_lower ho16 (zZ (jH HB))); replace HO0 := Aside0.mk (Kd.V_elder' (jV HO0) (Kd.N_base ho16) hb); replace HO1_0 := Aside0.mk (Kd.V_elder' (jV HO1_0) (Kd.N_base ho16) hb); replace HO1_1 := Aside0.mk (Kd.V_elder' (jV HO1_1) (Kd.N_base ho16) hb); replace BK768 := Aside0.mk (jB BK768 hb); replace HB := Aside0.mk (zT (jH HB) hb); clear hb ho16; obtain ⟨Ao17, co17, eo17⟩ := Kd.N_slice HO772.out; subst eo17) | (go_at_call 10; (with_reducible refine (l21_Great.calls k _ _ y770 false _ ?side1 ?side2 A7.out).mono ?_); (case side1 => exact jC (Kd.N_reads' HO772.out).2.2); (case side2 => exact (Kd.N_reads' HO772.out).2.1); rintro e w' ⟨rfl, ⟨nd, rfl⟩⟩; (try first | exact ⟨rfl, _, World.drewN_drewN _ _ _⟩ | exact ⟨rfl, _, Eq.trans (World.drewN_drewN _ _ _) (congrArg (World.drewN _) (Nat.add_assoc _ _ _))⟩)))
     go_meet
     case rel => exact ⟨_, (true), jS, H', ⟨jO⟩, ⟨by (with_reducible repeat (first | apply Kd.V_alloc | apply Kd.V_drewN | apply Kd.V_drew)); exact Kd.V_mono HO0.out (fun _ hk => ⟨hk.1.1, hk.1.2⟩)⟩, ⟨by (with_reducible repeat (first | apply Kd.V_alloc | apply Kd.V_drewN | apply Kd.V_drew)); exact Kd.V_mono HO1_0.out (fun _ hk => ⟨hk.1.1, hk.1.2⟩)⟩, ⟨by (with_reducible repeat (first | apply Kd.V_alloc | apply Kd.V_drewN | apply Kd.V_drew)); exact Kd.V_mono HO1_1.out (fun _ hk => ⟨hk.1.1, hk.1.2⟩)⟩, ⟨jK BK768⟩, ⟨jH HB⟩⟩
    ·rw [if_neg c13] at H
     have c13b0 : decide (60 < (l0.length : Int)) = false := dF c13
     have c13b1 : decide (60 < l0.length) = false := dF (by omega)
     clear c13
     (first | rw [c13b0] | (simp only [i64_w, i32_w]; rw [c13b0]) | skip)
     replace H := Option.bind_eq_some_iff.mp H
     obtain ⟨t774, A180, H⟩ := H
     try dsimp only at H
     have A18 := Aside0.mk A180
     clear A180
     replace H := Option.bind_eq_some_iff.mp H
     obtain ⟨t777, A190, H⟩ := H
     try dsimp only at H
     have A19 := Aside0.mk A190
     clear A190
     by_cases c20 : t777 = true
     ·subst c20
      rw [if_pos rfl] at H
      replace H := Option.bind_eq_some_iff.mp H
      obtain ⟨⟨t778, t781, t784⟩, A210, H⟩ := H
      try dsimp only at H
      have A21 := Aside0.mk A210
      clear A210
      replace H := Option.bind_eq_some_iff.mp H
      obtain ⟨t785, A220, H⟩ := H
      try dsimp only at H
      have A22 := Aside0.mk A220
      clear A220
      have H' := Aside0.mk H
      clear H
      go_wp2_with (first | (go_at_call 10; (with_reducible refine (l21_Great.calls k _ _ l0 false _ ?side1 ?side2 A5.out).mono ?_); (case side1 => exact jC (Kd.V_reads' HO0.out).2.2); (case side2 => exact (Kd.V_reads' HO0.out).2.1); rintro e w' ⟨rfl, ⟨nd, rfl⟩⟩; (try first | exact ⟨rfl, _, World.drewN_drewN _ _ _⟩ | exact ⟨rfl, _, Eq.trans (World.drewN_drewN _ _ _) (congrArg (World.drewN _) (Nat.add_assoc _ _ _))⟩); obtain ⟨hcz23_0, hcz23_1, hcz23_2, hfz23_0, hfz23_1, hfz23_2⟩ := kQ3 BK768.out) | ((with_reducible refine gate_dst (N := 14) rfl ?_); (try (refine gate_guard (by rfl) ?_; dsimp only)); refine Kd.N_lit k42 _ 42 ?hg (N' := 14) ?hd (xs := ([(⟨l1_0, l1_1, a1_2⟩ : S42)] : List (S42))) (inner := [.slice A1_0 l1_0.length c1_0, .slice A1_1 l1_1.length c1_1, .int .u32 a1_2]) (ok := (fun k_ => ((P0_ k_ ∨ P1_0_ k_ ∨ P1_1_ k_) ∨ w.heap.size ≤ k_) ∧ k_ ≠ gb768)) (okp := (fun k_ => ((P0_ k_ ∨ P1_0_ k_ ∨ P1_1_ k_) ∨ w.heap.size ≤ k_) ∧ k_ ≠ gb768)) ?hr ?hp (fun _ hk => hk) ((show ∀ k_, w4.heap.size ≤ k_ → (fun k_ => ((P0_ k_ ∨ P1_0_ k_ ∨ P1_1_ k_) ∨ w.heap.size ≤ k_) ∧ k_ ≠ gb768) k_ from fun k_ hk => ⟨(.inr (Nat.le_trans (zZ (jH HB)) hk)), Kd.freshB (g := gb768) (o := .cells #[.slice A1_0 l1_0.length c1_0, .slice A1_1 l1_1.length c1_1, .int .u32 a1_2] 42 (0, 0)) (jK BK768) k_ hk⟩) _ (Nat.le_refl _)) (Below.refl _ _) (Nat.le_refl _) (by simp) ?_; (case hd => rfl); (case hg => rfl); (case hr => first | (go_simp; done) | (go_simp; rfl)); (case hp => exact (Reps.c3 (show Kd.FK k42 _ _ (⟨l1_0, l1_1, a1_2⟩ : S42) [.slice A1_0 l1_0.length c1_0, .slice A1_1 l1_1.length c1_1, .int .u32 a1_2] from (k42_mkF _ _ (⟨l1_0, l1_1, a1_2⟩ : S42) (Kd.V_reads' (Kd.V_mono (ok' := (fun k_ => ((P0_ k_ ∨ P1_0_ k_ ∨ P1_1_ k_) ∨ w.heap.size ≤ k_) ∧ k_ ≠ gb768)) (HO1_0.out) (fun k_ hk => ⟨hk.1, hk.2⟩))).2.1 (Kd.V_F (Kd.V_mono (ok' := (fun k_ => ((P0_ k_ ∨ P1_0_ k_ ∨ P1_1_ k_) ∨ w.heap.size ≤ k_) ∧ k_ ≠ gb768)) (HO1_0.out) (fun k_ hk => ⟨hk.1, hk.2⟩))) (Kd.V_reads' (Kd.V_mono (ok' := (fun k_ => ((P0_ k_ ∨ P1_0_ k_ ∨ P1_1_ k_) ∨ w.heap.size ≤ k_) ∧ k_ ≠ gb768)) (HO1_1.out) (fun k_ hk => ⟨hk.1, hk.2⟩))).2.1 (Kd.V_F (Kd.V_mono (ok' := (fun k_ => ((P0_ k_ ∨ P1_0_ k_ ∨ P1_1_ k_) ∨ w.heap.size ≤ k_) ∧ k_ ≠ gb768)) (HO1_1.out) (fun k_ hk => ⟨hk.1, hk.2⟩))))) (Reps.none _ _))); intro v771 w24 ho25 hb hg_ hnew_; clear hg_ hnew_; (first | rw [← Ny770.out] at ho25 | (simp only [Int.reduceToNat] at ho25; rw [← Ny770.out] at ho25)); have HO772 := Aside0.mk (Kd.N_lower ho25 (zZ (jH HB))); replace HO0 := Aside0.mk (Kd.V_elder' (jV HO0) (Kd.N_base ho25) hb); replace HO1_0 := Aside0.mk (Kd.V_elder' (jV HO1_0) (Kd.N_base ho25) hb); replace HO1_1 := Aside0.mk (Kd.V_elder' (jV HO1_1) (Kd.N_base ho25) hb); replace BK768 := Aside0.mk (jB BK768 hb); replace HB := Aside0.mk (zT (jH HB) hb); clear hb ho25; obtain ⟨Ao26, co26, eo26⟩ := Kd.N_slice HO772.out; subst eo26) | (go_at_call 10; (with_reducible refine (l21_Great.calls k _ _ y770 false _ ?side1 ?side2 A7.out).mono ?_); (case side1 => exact jC (Kd.N_reads' HO772.out).2.2); (case side2 => exact (Kd.N_reads' HO772.out).2.1); rintro e w' ⟨rfl, ⟨nd, rfl⟩⟩; (try first | exact ⟨rfl, _, World.drewN_drewN _ _ _⟩ | exact ⟨rfl, _, Eq.trans (World.drewN_drewN _ _ _) (congrArg (World.drewN _) (Nat.add_assoc _ _ _))⟩)) | (go_at_call 14; (with_reducible refine (l21_As.calls k (fun k_ => ((((P0_ k_ ∨ P1_0_ k_ ∨ P1_1_ k_) ∨ w.heap.size ≤ k_) ∧ k_ ≠ gb768) ∧ some k_ ≠ (.slice Ao26 y770.length co26 : Value).ownBlock)) _ _ l0 t774 _ ?side1 A18.out).mono ?_); (case side1 => exact HO0.out); rintro e w27 ⟨v775, rfl, ho0, hb⟩; have n0_ := Aside0.mk (Kd.V_elder' (jV HO0) (Kd.N_base ho0) hb); have n1_ := Aside0.mk (Kd.V_elder' (jV HO1_0) (Kd.N_base ho0) hb); have n2_ := Aside0.mk (Kd.V_elder' (jV HO1_1) (Kd.N_base ho0) hb); have n3_ := Aside0.mk (Kd.N_elder' (by (with_reducible repeat (first | apply Kd.N_alloc | apply Kd.N_drewN | apply Kd.N_drew)); exact HO772.out) (Kd.N_base ho0) hb); have n4_ := Aside0.mk (Kd.N_lower (Kd.N_mono (ok' := fun k_ => ((P0_ k_ ∨ P1_0_ k_ ∨ P1_1_ k_) ∨ w.heap.size ≤ k_) ∧ some k_ ≠ (.slice Ao26 y770.length co26 : Value).ownBlock ∧ k_ ≠ gb768) ho0 (fun k_ hk_ => ⟨Or.elim hk_ (fun hs_ => hs_.1.1) (fun hn_ => (.inr (Nat.le_trans (zZ (jH HB)) hn_))), Or.elim hk_ (fun hs_ => hs_.2) (fun hn_ => (Kd.fresh' (Kd.N_lt (by (with_reducible repeat (first | apply Kd.N_alloc | apply Kd.N_drewN | apply Kd.N_drew)); exact HO772.out)) k_ hn_)), Or.elim hk_ (fun hs_ => hs_.1.2) (fun hn_ => (Kd.freshB (g := gb768) (o := .cells #[.slice A1_0 l1_0.length c1_0, .slice A1_1 l1_1.length c1_1, .int .u32 a1_2] 42 (0, 0)) (jK BK768) k_ hn_))⟩)) (zZ (jH HB))); have n5_ := Aside0.mk (jB BK768 hb); have n6_ := Aside0.mk (zT (jH HB) hb); clear HO0; clear HO1_0; clear HO1_1; clear HO772; clear BK768; clear HB; have HO0 := n0_; have HO1_0 := n1_; have HO1_1 := n2_; have HO772 := n3_; have HO776 := n4_; have BK768 := n5_; have HB := n6_; clear n0_ n1_ n2_ n3_ n4_ n5_ n6_; (try clear hb); (try clear hb2); (try clear hk); (try clear hi); (try clear ho0); obtain ⟨Ao28, co28, eo28⟩ := Kd.N_slice HO776.out; subst eo28) | (go_at_call 13; (with_reducible refine (r21_Right.calls k _ _ t774 true _ ?side1 ?side2 A19.out).mono ?_); (case side1 => exact jC (Kd.N_reads' HO776.out).2.2); (case side2 => exact (Kd.N_reads' HO776.out).2.1); rintro e w29 ⟨rfl, hb⟩; have n0_ := Aside0.mk (Kd.V_below (jV HO0) hb); have n1_ := Aside0.mk (Kd.V_below (jV HO1_0) hb); have n2_ := Aside0.mk (Kd.V_below (jV HO1_1) hb); have n3_ := Aside0.mk (Kd.N_below (by (with_reducible repeat (first | apply Kd.N_alloc | apply Kd.N_drewN | apply Kd.N_drew)); exact HO772.out) hb); have n4_ := Aside0.mk (Kd.N_below (by (with_reducible repeat (first | apply Kd.N_alloc | apply Kd.N_drewN | apply Kd.N_drew)); exact HO776.out) hb); have n5_ := Aside0.mk (jB BK768 hb); have n6_ := Aside0.mk (zT (jH HB) hb); clear HO0; clear HO1_0; clear HO1_1; clear HO772; clear HO776; clear BK768; clear HB; have HO0 := n0_; have HO1_0 := n1_; have HO1_1 := n2_; have HO772 := n3_; have HO776 := n4_; have BK768 := n5_; have HB := n6_; clear n0_ n1_ n2_ n3_ n4_ n5_ n6_; (try clear hb); (try clear hb2); (try clear hk); (try clear hi); obtain ⟨hcz30_0, hcz30_1, hcz30_2, hfz30_0, hfz30_1, hfz30_2⟩ := kQ3 BK768.out) | (go_at_call 22; (with_reducible refine (l21_as.calls (fun k_ => (((((P0_ k_ ∨ P1_0_ k_ ∨ P1_1_ k_) ∨ w.heap.size ≤ k_) ∧ k_ ≠ gb768) ∧ some k_ ≠ (.slice Ao26 y770.length co26 : Value).ownBlock) ∧ some k_ ≠ (.slice Ao28 t774.length co28 : Value).ownBlock)) _ _ l1_0 (fun k_ => (((((P0_ k_ ∨ P1_0_ k_ ∨ P1_1_ k_) ∨ w.heap.size ≤ k_) ∧ k_ ≠ gb768) ∧ some k_ ≠ (.slice Ao26 y770.length co26 : Value).ownBlock) ∧ some k_ ≠ (.slice Ao28 t774.length co28 : Value).ownBlock)) _ _ l1_1 a1_2 t778 t781 t784 _ ?side1 ?side2 A21.out).mono ?_); (case side1 => exact HO1_0.out); (case side2 => exact HO1_1.out); rintro e w31 ⟨v779, v782, rfl, ho0, ho1, hb⟩; have n0_ := Aside0.mk (Kd.V_below (jV HO0) hb); have n1_ := Aside0.mk (Kd.V_below (jV HO1_0) hb); have n2_ := Aside0.mk (Kd.V_below (jV HO1_1) hb); have n3_ := Aside0.mk (Kd.N_below (by (with_reducible repeat (first | apply Kd.N_alloc | apply Kd.N_drewN | apply Kd.N_drew)); exact HO772.out) hb); have n4_ := Aside0.mk (Kd.N_below (by (with_reducible repeat (first | apply Kd.N_alloc | apply Kd.N_drewN | apply Kd.N_drew)); exact HO776.out) hb); have n5_ := Aside0.mk (Kd.V_lower (Kd.V_mono (ok' := fun k_ => ((P0_ k_ ∨ P1_0_ k_ ∨ P1_1_ k_) ∨ w.heap.size ≤ k_) ∧ some k_ ≠ (.slice Ao26 y770.length co26 : Value).ownBlock ∧ some k_ ≠ (.slice Ao28 t774.length co28 : Value).ownBlock ∧ k_ ≠ gb768) ho0 (fun k_ hk_ => ⟨Or.elim hk_ (fun hs_ => Or.elim hs_ (fun hs_ => hs_.1.1.1) (fun hs_ => hs_.1.1.1)) (fun hn_ => (.inr (Nat.le_trans (zZ (jH HB)) hn_))), Or.elim hk_ (fun hs_ => Or.elim hs_ (fun hs_ => hs_.1.2) (fun hs_ => hs_.1.2)) (fun hn_ => (Kd.fresh' (Kd.N_lt (by (with_reducible repeat (first | apply Kd.N_alloc | apply Kd.N_drewN | apply Kd.N_drew)); exact HO772.out)) k_ hn_)), Or.elim hk_ (fun hs_ => Or.elim hs_ (fun hs_ => hs_.2) (fun hs_ => hs_.2)) (fun hn_ => (Kd.fresh' (Kd.N_lt (by (with_reducible repeat (first | apply Kd.N_alloc | apply Kd.N_drewN | apply Kd.N_drew)); exact HO776.out)) k_ hn_)), Or.elim hk_ (fun hs_ => Or.elim hs_ (fun hs_ => hs_.1.1.2) (fun hs_ => hs_.1.1.2)) (fun hn_ => (Kd.freshB (g := gb768) (o := .cells #[.slice A1_0 l1_0.length c1_0, .slice A1_1 l1_1.length c1_1, .int .u32 a1_2] 42 (0, 0)) (jK BK768) k_ hn_))⟩)) (zZ (jH HB))); have n6_ := Aside0.mk (Kd.V_lower (Kd.V_mono (ok' := fun k_ => ((P0_ k_ ∨ P1_0_ k_ ∨ P1_1_ k_) ∨ w.heap.size ≤ k_) ∧ some k_ ≠ (.slice Ao26 y770.length co26 : Value).ownBlock ∧ some k_ ≠ (.slice Ao28 t774.length co28 : Value).ownBlock ∧ k_ ≠ gb768) ho1 (fun k_ hk_ => ⟨Or.elim hk_ (fun hs_ => Or.elim hs_ (fun hs_ => hs_.1.1.1) (fun hs_ => hs_.1.1.1)) (fun hn_ => (.inr (Nat.le_trans (zZ (jH HB)) hn_))), Or.elim hk_ (fun hs_ => Or.elim hs_ (fun hs_ => hs_.1.2) (fun hs_ => hs_.1.2)) (fun hn_ => (Kd.fresh' (Kd.N_lt (by (with_reducible repeat (first | apply Kd.N_alloc | apply Kd.N_drewN | apply Kd.N_drew)); exact HO772.out)) k_ hn_)), Or.elim hk_ (fun hs_ => Or.elim hs_ (fun hs_ => hs_.2) (fun hs_ => hs_.2)) (fun hn_ => (Kd.fresh' (Kd.N_lt (by (with_reducible repeat (first | apply Kd.N_alloc | apply Kd.N_drewN | apply Kd.N_drew)); exact HO776.out)) k_ hn_)), Or.elim hk_ (fun hs_ => Or.elim hs_ (fun hs_ => hs_.1.1.2) (fun hs_ => hs_.1.1.2)) (fun hn_ => (Kd.freshB (g := gb768) (o := .cells #[.slice A1_0 l1_0.length c1_0, .slice A1_1 l1_1.length c1_1, .int .u32 a1_2] 42 (0, 0)) (jK BK768) k_ hn_))⟩)) (zZ (jH HB))); have n7_ := Aside0.mk (jB BK768 hb); have n8_ := Aside0.mk (zT (jH HB) hb); clear HO0; clear HO1_0; clear HO1_1; clear HO772; clear HO776; clear BK768; clear HB; have HO0 := n0_; have HO1_0 := n1_; have HO1_1 := n2_; have HO772 := n3_; have HO776 := n4_; have HO780 := n5_; have HO783 := n6_; have BK768 := n7_; have HB := n8_; clear n0_ n1_ n2_ n3_ n4_ n5_ n6_ n7_ n8_; (try clear hb); (try clear hb2); (try clear hk); (try clear hi); (try clear ho0); (try clear ho1); obtain ⟨Ao32, co32, eo32⟩ := Kd.V_slice HO780.out; subst eo32; obtain ⟨Ao33, co33, eo33⟩ := Kd.V_slice HO783.out; subst eo33) | (go_at_call 27; (with_reducible refine (r21_May.calls k _ _ t778 _ _ t781 t784 t785 _ ?side1 ?side2 ?side3 ?side4 A22.out).mono ?_); (case side1 => exact jC (Kd.V_reads' HO780.out).2.2); (case side2 => exact (Kd.V_reads' HO780.out).2.1); (case side3 => exact jC (Kd.V_reads' HO783.out).2.2); (case side4 => exact (Kd.V_reads' HO783.out).2.1); rintro e w34 ⟨rfl, hb⟩; have n0_ := Aside0.mk (Kd.V_below (jV HO0) hb); have n1_ := Aside0.mk (Kd.V_below (jV HO1_0) hb); have n2_ := Aside0.mk (Kd.V_below (jV HO1_1) hb); have n3_ := Aside0.mk (Kd.N_below (by (with_reducible repeat (first | apply Kd.N_alloc | apply Kd.N_drewN | apply Kd.N_drew)); exact HO772.out) hb); have n4_ := Aside0.mk (Kd.N_below (by (with_reducible repeat (first | apply Kd.N_alloc | apply Kd.N_drewN | apply Kd.N_drew)); exact HO776.out) hb); have n5_ := Aside0.mk (Kd.V_below (jV HO780) hb); have n6_ := Aside0.mk (Kd.V_below (jV HO783) hb); have n7_ := Aside0.mk (jB BK768 hb); have n8_ := Aside0.mk (zT (jH HB) hb); clear HO0; clear HO1_0; clear HO1_1; clear HO772; clear HO776; clear HO780; clear HO783; clear BK768; clear HB; have HO0 := n0_; have HO1_0 := n1_; have HO1_1 := n2_; have HO772 := n3_; have HO776 := n4_; have HO780 := n5_; have HO783 := n6_; have BK768 := n7_; have HB := n8_; clear n0_ n1_ n2_ n3_ n4_ n5_ n6_ n7_ n8_; (try clear hb); (try clear hb2); (try clear hk); (try clear hi)))
      go_meet
      case rel => exact ⟨_, (!t785), jS, H', ⟨jO⟩, ⟨by (with_reducible repeat (first | apply Kd.V_alloc | apply Kd.V_drewN | apply Kd.V_drew)); exact Kd.V_mono HO0.out (fun _ hk => ⟨hk.1.1.1, hk.1.1.2⟩)⟩, ⟨by (with_reducible repeat (first | apply Kd.V_alloc | apply Kd.V_drewN | apply Kd.V_drew)); exact Kd.V_mono HO1_0.out (fun _ hk => ⟨hk.1.1.1, hk.1.1.2⟩)⟩, ⟨by (with_reducible repeat (first | apply Kd.V_alloc | apply Kd.V_drewN | apply Kd.V_drew)); exact Kd.V_mono HO1_1.out (fun _ hk => ⟨hk.1.1.1, hk.1.1.2⟩)⟩, ⟨jK BK768⟩, ⟨jH HB⟩⟩
     ·replace c20 := Bool.eq_false_iff.mpr c20
      subst c20
      rw [if_neg (show ¬ (false = true) by decide)] at H
      have H' := Aside0.mk H
      clear H
      go_wp2_with (first | (go_at_call 10; (with_reducible refine (l21_Great.calls k _ _ l0 false _ ?side1 ?side2 A5.out).mono ?_); (case side1 => exact jC (Kd.V_reads' HO0.out).2.2); (case side2 => exact (Kd.V_reads' HO0.out).2.1); rintro e w' ⟨rfl, ⟨nd, rfl⟩⟩; (try first | exact ⟨rfl, _, World.drewN_drewN _ _ _⟩ | exact ⟨rfl, _, Eq.trans (World.drewN_drewN _ _ _) (congrArg (World.drewN _) (Nat.add_assoc _ _ _))⟩); obtain ⟨hcz35_0, hcz35_1, hcz35_2, hfz35_0, hfz35_1, hfz35_2⟩ := kQ3 BK768.out) | ((with_reducible refine gate_dst (N := 14) rfl ?_); (try (refine gate_guard (by rfl) ?_; dsimp only)); refine Kd.N_lit k42 _ 42 ?hg (N' := 14) ?hd (xs := ([(⟨l1_0, l1_1, a1_2⟩ : S42)] : List (S42))) (inner := [.slice A1_0 l1_0.length c1_0, .slice A1_1 l1_1.length c1_1, .int .u32 a1_2]) (ok := (fun k_ => ((P0_ k_ ∨ P1_0_ k_ ∨ P1_1_ k_) ∨ w.heap.size ≤ k_) ∧ k_ ≠ gb768)) (okp := (fun k_ => ((P0_ k_ ∨ P1_0_ k_ ∨ P1_1_ k_) ∨ w.heap.size ≤ k_) ∧ k_ ≠ gb768)) ?hr ?hp (fun _ hk => hk) ((show ∀ k_, w4.heap.size ≤ k_ → (fun k_ => ((P0_ k_ ∨ P1_0_ k_ ∨ P1_1_ k_) ∨ w.heap.size ≤ k_) ∧ k_ ≠ gb768) k_ from fun k_ hk => ⟨(.inr (Nat.le_trans (zZ (jH HB)) hk)), Kd.freshB (g := gb768) (o := .cells #[.slice A1_0 l1_0.length c1_0, .slice A1_1 l1_1.length c1_1, .int .u32 a1_2] 42 (0, 0)) (jK BK768) k_ hk⟩) _ (Nat.le_refl _)) (Below.refl _ _) (Nat.le_refl _) (by simp) ?_; (case hd => rfl); (case hg => rfl); (case hr => first | (go_simp; done) | (go_simp; rfl)); (case hp => exact (Reps.c3 (show Kd.FK k42 _ _ (⟨l1_0, l1_1, a1_2⟩ : S42) [.slice A1_0 l1_0.length c1_0, .slice A1_1 l1_1.length c1_1, .int .u32 a1_2] from (k42_mkF _ _ (⟨l1_0, l1_1, a1_2⟩ : S42) (Kd.V_reads' (Kd.V_mono (ok' := (fun k_ => ((P0_ k_ ∨ P1_0_ k_ ∨ P1_1_ k_) ∨ w.heap.size ≤ k_) ∧ k_ ≠ gb768)) (HO1_0.out) (fun k_ hk => ⟨hk.1, hk.2⟩))).2.1 (Kd.V_F (Kd.V_mono (ok' := (fun k_ => ((P0_ k_ ∨ P1_0_ k_ ∨ P1_1_ k_) ∨ w.heap.size ≤ k_) ∧ k_ ≠ gb768)) (HO1_0.out) (fun k_ hk => ⟨hk.1, hk.2⟩))) (Kd.V_reads' (Kd.V_mono (ok' := (fun k_ => ((P0_ k_ ∨ P1_0_ k_ ∨ P1_1_ k_) ∨ w.heap.size ≤ k_) ∧ k_ ≠ gb768)) (HO1_1.out) (fun k_ hk => ⟨hk.1, hk.2⟩))).2.1 (Kd.V_F (Kd.V_mono (ok' := (fun k_ => ((P0_ k_ ∨ P1_0_ k_ ∨ P1_1_ k_) ∨ w.heap.size ≤ k_) ∧ k_ ≠ gb768)) (HO1_1.out) (fun k_ hk => ⟨hk.1, hk.2⟩))))) (Reps.none _ _))); intro v771 w36 ho37 hb hg_ hnew_; clear hg_ hnew_; (first | rw [← Ny770.out] at ho37 | (simp only [Int.reduceToNat] at ho37; rw [← Ny770.out] at ho37)); have HO772 := Aside0.mk (Kd.N_lower ho37 (zZ (jH HB))); replace HO0 := Aside0.mk (Kd.V_elder' (jV HO0) (Kd.N_base ho37) hb); replace HO1_0 := Aside0.mk (Kd.V_elder' (jV HO1_0) (Kd.N_base ho37) hb); replace HO1_1 := Aside0.mk (Kd.V_elder' (jV HO1_1) (Kd.N_base ho37) hb); replace BK768 := Aside0.mk (jB BK768 hb); replace HB := Aside0.mk (zT (jH HB) hb); clear hb ho37; obtain ⟨Ao38, co38, eo38⟩ := Kd.N_slice HO772.out; subst eo38) | (go_at_call 10; (with_reducible refine (l21_Great.calls k _ _ y770 false _ ?side1 ?side2 A7.out).mono ?_); (case side1 => exact jC (Kd.N_reads' HO772.out).2.2); (case side2 => exact (Kd.N_reads' HO772.out).2.1); rintro e w' ⟨rfl, ⟨nd, rfl⟩⟩; (try first | exact ⟨rfl, _, World.drewN_drewN _ _ _⟩ | exact ⟨rfl, _, Eq.trans (World.drewN_drewN _ _ _) (congrArg (World.drewN _) (Nat.add_assoc _ _ _))⟩)) | (go_at_call 14; (with_reducible refine (l21_As.calls k (fun k_ => ((((P0_ k_ ∨ P1_0_ k_ ∨ P1_1_ k_) ∨ w.heap.size ≤ k_) ∧ k_ ≠ gb768) ∧ some k_ ≠ (.slice Ao38 y770.length co38 : Value).ownBlock)) _ _ l0 t774 _ ?side1 A18.out).mono ?_); (case side1 => exact HO0.out); rintro e w39 ⟨v775, rfl, ho0, hb⟩; have n0_ := Aside0.mk (Kd.V_elder' (jV HO0) (Kd.N_base ho0) hb); have n1_ := Aside0.mk (Kd.V_elder' (jV HO1_0) (Kd.N_base ho0) hb); have n2_ := Aside0.mk (Kd.V_elder' (jV HO1_1) (Kd.N_base ho0) hb); have n3_ := Aside0.mk (Kd.N_elder' (by (with_reducible repeat (first | apply Kd.N_alloc | apply Kd.N_drewN | apply Kd.N_drew)); exact HO772.out) (Kd.N_base ho0) hb); have n4_ := Aside0.mk (Kd.N_lower (Kd.N_mono (ok' := fun k_ => ((P0_ k_ ∨ P1_0_ k_ ∨ P1_1_ k_) ∨ w.heap.size ≤ k_) ∧ some k_ ≠ (.slice Ao38 y770.length co38 : Value).ownBlock ∧ k_ ≠ gb768) ho0 (fun k_ hk_ => ⟨Or.elim hk_ (fun hs_ => hs_.1.1) (fun hn_ => (.inr (Nat.le_trans (zZ (jH HB)) hn_))), Or.elim hk_ (fun hs_ => hs_.2) (fun hn_ => (Kd.fresh' (Kd.N_lt (by (with_reducible repeat (first | apply Kd.N_alloc | apply Kd.N_drewN | apply Kd.N_drew)); exact HO772.out)) k_ hn_)), Or.elim hk_ (fun hs_ => hs_.1.2) (fun hn_ => (Kd.freshB (g := gb768) (o := .cells #[.slice A1_0 l1_0.length c1_0, .slice A1_1 l1_1.length c1_1, .int .u32 a1_2] 42 (0, 0)) (jK BK768) k_ hn_))⟩)) (zZ (jH HB))); have n5_ := Aside0.mk (jB BK768 hb); have n6_ := Aside0.mk (zT (jH HB) hb); clear HO0; clear HO1_0; clear HO1_1; clear HO772; clear BK768; clear HB; have HO0 := n0_; have HO1_0 := n1_; have HO1_1 := n2_; have HO772 := n3_; have HO776 := n4_; have BK768 := n5_; have HB := n6_; clear n0_ n1_ n2_ n3_ n4_ n5_ n6_; (try clear hb); (try clear hb2); (try clear hk); (try clear hi); (try clear ho0); obtain ⟨Ao40, co40, eo40⟩ := Kd.N_slice HO776.out; subst eo40) | (go_at_call 13; (with_reducible refine (r21_Right.calls k _ _ t774 false _ ?side1 ?side2 A19.out).mono ?_); (case side1 => exact jC (Kd.N_reads' HO776.out).2.2); (case side2 => exact (Kd.N_reads' HO776.out).2.1); rintro e w41 ⟨rfl, hb⟩; have n0_ := Aside0.mk (Kd.V_below (jV HO0) hb); have n1_ := Aside0.mk (Kd.V_below (jV HO1_0) hb); have n2_ := Aside0.mk (Kd.V_below (jV HO1_1) hb); have n3_ := Aside0.mk (Kd.N_below (by (with_reducible repeat (first | apply Kd.N_alloc | apply Kd.N_drewN | apply Kd.N_drew)); exact HO772.out) hb); have n4_ := Aside0.mk (Kd.N_below (by (with_reducible repeat (first | apply Kd.N_alloc | apply Kd.N_drewN | apply Kd.N_drew)); exact HO776.out) hb); have n5_ := Aside0.mk (jB BK768 hb); have n6_ := Aside0.mk (zT (jH HB) hb); clear HO0; clear HO1_0; clear HO1_1; clear HO772; clear HO776; clear BK768; clear HB; have HO0 := n0_; have HO1_0 := n1_; have HO1_1 := n2_; have HO772 := n3_; have HO776 := n4_; have BK768 := n5_; have HB := n6_; clear n0_ n1_ n2_ n3_ n4_ n5_ n6_; (try clear hb); (try clear hb2); (try clear hk); (try clear hi)))
      go_meet
      case rel => exact ⟨_, (true), jS, H', ⟨jO⟩, ⟨by (with_reducible repeat (first | apply Kd.V_alloc | apply Kd.V_drewN | apply Kd.V_drew)); exact Kd.V_mono HO0.out (fun _ hk => ⟨hk.1.1.1, hk.1.1.2⟩)⟩, ⟨by (with_reducible repeat (first | apply Kd.V_alloc | apply Kd.V_drewN | apply Kd.V_drew)); exact Kd.V_mono HO1_0.out (fun _ hk => ⟨hk.1.1.1, hk.1.1.2⟩)⟩, ⟨by (with_reducible repeat (first | apply Kd.V_alloc | apply Kd.V_drewN | apply Kd.V_drew)); exact Kd.V_mono HO1_1.out (fun _ hk => ⟨hk.1.1.1, hk.1.1.2⟩)⟩, ⟨jK BK768⟩, ⟨jH HB⟩⟩
 case rest =>
  clear HC3
  obtain ⟨kq, x33_2, rfl, HA, HJ2, HO_0, HO_769000, HO_769001, BK768, HB⟩ := hcut
  cases kq with
  | zero => exact absurd HA.out (by simp [l21_TableFinds.j0])
  | succ kj2 =>
   have H := HA.out
   clear HA
   simp only [l21_TableFinds.j0] at H
   by_cases c42 : x33_2 = true
   ·subst c42
    rw [if_pos rfl] at H
    replace H := Option.bind_eq_some_iff.mp H
    obtain ⟨t786, A430, H⟩ := H
    try dsimp only at H
    have A43 := Aside0.mk A430
    clear A430
    obtain rfl := Option.some.inj H
    go_wp2_with (first | (go_at_call 11; (with_reducible refine (l21_knows.calls kj2  t786 _ ?side1 A43.out).mono ?_); (case side1 => exact Glob.below HG.out (jH HB)); rintro e w44 ⟨rfl, hb⟩; replace HO_0 := Aside0.mk (Kd.V_below (jV HO_0) hb); replace HO_769000 := Aside0.mk (Kd.V_below (jV HO_769000) hb); replace HO_769001 := Aside0.mk (Kd.V_below (jV HO_769001) hb); replace BK768 := Aside0.mk (jB BK768 hb); replace HB := Aside0.mk (zT (jH HB) hb); (try clear hb); (try clear hb2); (try clear hk); (try clear hi)))
    go_ret
    exact ⟨jE, jH HB⟩
   ·replace c42 := Bool.eq_false_iff.mpr c42
    subst c42
    rw [if_neg (show ¬ (false = true) by decide)] at H
    replace H := Option.bind_eq_some_iff.mp H
    obtain ⟨⟨t787, t790⟩, A450, H⟩ := H
    try dsimp only at H
    have A45 := Aside0.mk A450
    clear A450
    replace H := Option.bind_eq_some_iff.mp H
    obtain ⟨⟨t791, t792⟩, A460, H⟩ := H
    try dsimp only at H
    have A46 := Aside0.mk A460
    clear A460
    have H' := Aside0.mk H
    clear H
    obtain ⟨hcz47_0, hcz47_1, hcz47_2, hfz47_0, hfz47_1, hfz47_2⟩ := kQ3 BK768.out
    go_wp2_with (first | (go_at_call 20; (with_reducible refine (table_Learn.calls kj2 (fun k_ => (((P0_ k_ ∨ P1_0_ k_ ∨ P1_1_ k_) ∨ w.heap.size ≤ k_) ∧ k_ ≠ gb768)) _ _ l0 _ _ l1_0 _ _ l1_1 a1_2 t787 t790 _ ?side1 ?side2 ?side3 ?side4 ?side5 ?side6 A45.out).mono ?_); (case side1 => exact HO_0.out); (case side2 => exact jC (Kd.V_reads' HO_769000.out).2.2); (case side3 => exact (Kd.V_reads' HO_769000.out).2.1); (case side4 => exact jC (Kd.V_reads' HO_769001.out).2.2); (case side5 => exact (Kd.V_reads' HO_769001.out).2.1); (case side6 => exact Glob.below HG.out (jH HB)); rintro e w48 ⟨v788, rfl, ho0, hb⟩; have HO789 := Aside0.mk (Kd.V_lower (Kd.V_mono (ok' := fun k_ => ((P0_ k_ ∨ P1_0_ k_ ∨ P1_1_ k_) ∨ w.heap.size ≤ k_) ∧ k_ ≠ gb768) ho0 (fun k_ hk_ => ⟨Or.elim hk_ (fun hs_ => hs_.1) (fun hn_ => (.inr (Nat.le_trans (zZ (jH HB)) hn_))), Or.elim hk_ (fun hs_ => hs_.2) (fun hn_ => (Kd.freshB (g := gb768) (o := .cells #[.slice A1_0 l1_0.length c1_0, .slice A1_1 l1_1.length c1_1, .int .u32 a1_2] 42 (0, 0)) (jK BK768) k_ hn_))⟩)) (zZ (jH HB))); replace HO_0 := Aside0.mk (Kd.V_below (jV HO_0) hb); replace HO_769000 := Aside0.mk (Kd.V_below (jV HO_769000) hb); replace HO_769001 := Aside0.mk (Kd.V_below (jV HO_769001) hb); replace BK768 := Aside0.mk (jB BK768 hb); replace HB := Aside0.mk (zT (jH HB) hb); (try clear hb); (try clear hb2); (try clear hk); (try clear hi); (try clear ho0); obtain ⟨hcz49_0, hcz49_1, hcz49_2, hfz49_0, hfz49_1, hfz49_2⟩ := kQ3 BK768.out; obtain ⟨Ao50, co50, eo50⟩ := Kd.V_slice HO789.out; subst eo50) | (go_at_call 23; (with_reducible refine (table_Find.calls kj2 _ _ t787 _ _ l1_0 a1_2 t791 t792 _ ?side1 ?side2 ?side3 ?side4 ?side5 A46.out).mono ?_); (case side1 => exact jC (Kd.V_reads' HO789.out).2.2); (case side2 => exact (Kd.V_reads' HO789.out).2.1); (case side3 => exact jC (Kd.V_reads' HO_769000.out).2.2); (case side4 => exact (Kd.V_reads' HO_769000.out).2.1); (case side5 => exact Glob.below HG.out (jH HB)); rintro e w51 ⟨v793, rfl, ho0, hb⟩; have HO794 := Aside0.mk (Kd.R_lower (Kd.R_newM (M := fun k_ => (w.heap.size ≤ k_)) ho0 (zZ (jH HB)) (fun k_ h_ => h_)) (zZ (jH HB))); replace HO_0 := Aside0.mk (Kd.V_elder' (jV HO_0) (Kd.R_base ho0) hb); replace HO_769000 := Aside0.mk (Kd.V_elder' (jV HO_769000) (Kd.R_base ho0) hb); replace HO_769001 := Aside0.mk (Kd.V_elder' (jV HO_769001) (Kd.R_base ho0) hb); replace HO789 := Aside0.mk (Kd.V_elder' (jV HO789) (Kd.R_base ho0) hb); replace BK768 := Aside0.mk (jB BK768 hb); replace HB := Aside0.mk (zT (jH HB) hb); (try clear hb); (try clear hb2); (try clear hk); (try clear hi); (try clear ho0)))
    go_loopg [9] kj2 (fun kq v9 w' => ∃ (x9_2 : Int), v9 = .int .i64 x9_2 ∧ Aside0 (l21_TableFinds.l0 kq t787 t790 t791 t792 x9_2 l1_0 l1_1 a1_2 = some r) ∧ Aside0 (kq ≤ kj2) ∧ Aside0 (Kd.V k42 42 w' w.heap.size (fun k_ => ((P0_ k_ ∨ P1_0_ k_ ∨ P1_1_ k_) ∨ w.heap.size ≤ k_) ∧ some k_ ≠ (v793 : Value).ownBlock ∧ k_ ≠ gb768) (.slice Ao50 t787.length co50) t787) ∧ Aside0 (Kd.R k59 59 w' w.heap.size (fun k_ => (w.heap.size ≤ k_)) v793 t791) ∧ Aside0 (Kd.V k59 59 w' w.heap.size (fun k_ => ((P0_ k_ ∨ P1_0_ k_ ∨ P1_1_ k_) ∨ w.heap.size ≤ k_) ∧ some k_ ≠ (v793 : Value).ownBlock ∧ k_ ≠ gb768) (.slice A1_0 l1_0.length c1_0) l1_0) ∧ Aside0 (Kd.V k59 59 w' w.heap.size (fun k_ => ((P0_ k_ ∨ P1_0_ k_ ∨ P1_1_ k_) ∨ w.heap.size ≤ k_) ∧ some k_ ≠ (v793 : Value).ownBlock ∧ k_ ≠ gb768) (.slice A1_1 l1_1.length c1_1) l1_1) ∧ Aside0 (w'.heap[gb768]? = some (.cells #[(.slice A1_0 l1_0.length c1_0), (.slice A1_1 l1_1.length c1_1), .int .u32 a1_2] 42 (0, 0))) ∧ Aside0 (Below w.heap.size w w'))
    case atStart => exact ⟨(0), jS, H', ⟨Nat.le_refl _⟩, ⟨by (with_reducible repeat (first | apply Kd.V_alloc | apply Kd.V_drewN | apply Kd.V_drew)); exact Kd.V_mono HO789.out (fun _ hk => ⟨hk.1.1, ⟨hk.2, hk.1.2⟩⟩)⟩, ⟨by (with_reducible repeat (first | apply Kd.R_alloc | apply Kd.R_drewN | apply Kd.R_drew)); exact Kd.R_mono HO794.out (fun _ hk => hk.1)⟩, ⟨by (with_reducible repeat (first | apply Kd.V_alloc | apply Kd.V_drewN | apply Kd.V_drew)); exact Kd.V_mono HO_769000.out (fun _ hk => ⟨hk.1.1, ⟨hk.2, hk.1.2⟩⟩)⟩, ⟨by (with_reducible repeat (first | apply Kd.V_alloc | apply Kd.V_drewN | apply Kd.V_drew)); exact Kd.V_mono HO_769001.out (fun _ hk => ⟨hk.1.1, ⟨hk.2, hk.1.2⟩⟩)⟩, ⟨jK BK768⟩, ⟨jH HB⟩⟩
    case round =>
     clear H'
     obtain ⟨x9_2, rfl, HA, HK2, HO_5, HO_7, HO_769000, HO_769001, BK768, HB⟩ := hrel
     cases gk with
     | zero => exact absurd HA.out (by simp [l21_TableFinds.l0])
     | succ k2 =>
      have H := HA.out
      clear HA
      simp only [l21_TableFinds.l0] at H
      by_cases c52 : x9_2 < (t787.length : Int)
      ·rw [if_pos c52] at H
       have c52b0 : decide (x9_2 < (t787.length : Int)) = true := dT c52
       clear c52
       by_cases c53 : 0 ≤ x9_2
       ·rw [if_pos c53] at H
        have c53b0 : decide (0 ≤ x9_2) = true := dT c53
        clear c53
        replace H := Option.bind_eq_some_iff.mp H
        obtain ⟨t796, A540, H⟩ := H
        try dsimp only at H
        have A54 := Aside0.mk A540
        clear A540
        by_cases c55 : t796 = true
        ·subst c55
         rw [if_pos rfl] at H
         by_cases c56 : ((rd_T42 t787 x9_2).f2) = a1_2
         ·rw [if_pos c56] at H
          have c56b0 : (((rd_T42 t787 x9_2).f2) == a1_2) = true := bI.mpr c56
          have c56b1 : (((rd_T42 t787 x9_2).f2) != a1_2) = false := nF.mpr c56
          clear c56
          replace H := Option.bind_eq_some_iff.mp H
          obtain ⟨t799, A570, H⟩ := H
          try dsimp only at H
          have A57 := Aside0.mk A570
          clear A570
          by_cases c58 : t799 = true
          ·subst c58
           rw [if_pos rfl] at H
           by_cases c59 : t790 = 0
           ·rw [if_pos c59] at H
            have c59b0 : (t790 == 0) = true := bI.mpr c59
            have c59b1 : (t790 != 0) = false := nF.mpr c59
            clear c59
            by_cases c60 : t792 = true
            ·subst c60
             rw [if_pos rfl] at H
             replace H := Option.bind_eq_some_iff.mp H
             obtain ⟨t800, A610, H⟩ := H
             try dsimp only at H
             have A61 := Aside0.mk A610
             clear A610
             obtain rfl := Option.some.inj H
             have p795 : 0 ≤ (x9_2 : Int) := oD (jA)
             have q795 : x9_2 < (t787.length : Int) := oD (jA)
             obtain ⟨ad795, A795_0, c795_0, A795_1, c795_1, e795, hx795_0, hx795_1, hx795_2, hl795_0, hi795_0, hl795_1, hi795_1⟩ := at_T42 (Kd.V_reads' HO_5.out).2.2 x9_2 p795 q795
             cases e795
             obtain ⟨ce795, hce795, hMe795, hcc795⟩ := Kd.V_get HO_5.out z42 x9_2 p795 (by first | exact q795 | exact oD (jA) | (have e_ := (Kd.V_reads' HO_5.out).1; omega))
             obtain ⟨ua795_0, uc795_0, ua795_1, uc795_1, rfl, ul795_0, ge795_0, ul795_1, ge795_1⟩ := k42_openF hMe795
             have hv795_0 := hcc795 0 _ rfl
             rw [Nat.add_zero] at hv795_0
             replace hv795_0 := Option.some.inj (hv795_0.symm.trans hx795_0)
             injection hv795_0 with hva_ hvn_ hvc_
             rw [hva_] at ge795_0
             rw [hvc_] at ul795_0
             have HL795_0 := Aside0.mk (show Kd.V k59 59 _ w.heap.size _ _ ((rd_T42 t787 x9_2).f0) from Kd.V_mk ul795_0 ge795_0)
             clear hva_ hvn_ hvc_ ge795_0 ul795_0
             have hv795_1 := hcc795 1 _ rfl
             rw [add_field _ _ 1 (by omega)] at hv795_1
             replace hv795_1 := Option.some.inj (hv795_1.symm.trans hx795_1)
             injection hv795_1 with hva_ hvn_ hvc_
             rw [hva_] at ge795_1
             rw [hvc_] at ul795_1
             have HL795_1 := Aside0.mk (show Kd.V k59 59 _ w.heap.size _ _ ((rd_T42 t787 x9_2).f1) from Kd.V_mk ul795_1 ge795_1)
             clear hva_ hvn_ hvc_ ge795_1 ul795_1
             clear hcc795 hce795
             have HR795_0 := Aside0.mk hi795_0
             have HC795_0 := Aside0.mk hl795_0
             clear hi795_0 hl795_0
             have HR795_1 := Aside0.mk hi795_1
             have HC795_1 := Aside0.mk hl795_1
             clear hi795_1 hl795_1
             replace p795 := eq_true p795
             replace q795 := eq_true q795
             obtain ⟨hcz62_0, hcz62_1, hcz62_2, hfz62_0, hfz62_1, hfz62_2⟩ := kQ3 BK768.out
             obtain ⟨Ao63, co63, eo63⟩ := Kd.R_slice HO_7.out
             subst eo63
             go_wp2
             have hcall1 : ∀ w_, (∃ n, w_ = wr.drewN n) → Calls Tryd.prog 25 #[.slice A795_0 ((rd_T42 t787 x9_2).f0).length c795_0, .slice A1_0 l1_0.length c1_0] w_ fun e w'' => e = .returned (.bool true) ∧ ∃ n, w'' = wr.drewN n := by
              rintro _ ⟨n, rfl⟩
              refine (r03_Same.calls k2 _ _ ((rd_T42 t787 x9_2).f0) _ _ l1_0 true _ ?side1 ?side2 ?side3 ?side4 A54.out).mono ?_
              case side1 => exact Kd.C_drewN HR795_0.out n
              case side2 => exact HC795_0.out
              case side3 => exact jC (Kd.V_reads' HO_769000.out).2.2
              case side4 => exact (Kd.V_reads' HO_769000.out).2.1
              rintro e w' ⟨rfl, ⟨nd, rfl⟩⟩
              exact ⟨rfl, _, World.drewN_drewN _ _ _⟩
             have hcall2 : ∀ w_, (∃ n, w_ = wr.drewN n) → Calls Tryd.prog 25 #[.slice A795_1 ((rd_T42 t787 x9_2).f1).length c795_1, .slice Ao63 t791.length co63] w_ fun e w'' => e = .returned (.bool true) ∧ ∃ n, w'' = wr.drewN n := by
              rintro _ ⟨n, rfl⟩
              refine (r03_Same.calls k2 _ _ ((rd_T42 t787 x9_2).f1) _ _ t791 true _ ?side1 ?side2 ?side3 ?side4 A57.out).mono ?_
              case side1 => exact Kd.C_drewN HR795_1.out n
              case side2 => exact HC795_1.out
              case side3 => exact jC (Kd.R_reads' HO_7.out).2.2
              case side4 => exact (Kd.R_reads' HO_7.out).2.1
              rintro e w' ⟨rfl, ⟨nd, rfl⟩⟩
              exact ⟨rfl, _, World.drewN_drewN _ _ _⟩
             refine wp_region_quiet_lit (by kernel_rfl) (by kernel_rfl) (Aside0.out ?_)
             refine wqP (v := .slice (some ad795) t787.length co50) ?_ (hv := fun _ _ => by kernel_rfl)
             refine wqP (v := .int .i64 x9_2) ?_ (hv := fun _ _ => by kernel_rfl)
             refine wqP ?_
             refine wqP (v := .pointer (some ((ad795.add (x9_2.toNat * 3)).add 0))) ?_ (hv := by rintro _ ⟨n, rfl⟩; go_simp)
             refine wqP ?_
             refine wqP (v := .pointer (some (⟨gb768, 0, none⟩))) ?_ (hv := by rintro _ ⟨n, rfl⟩; go_simp)
             refine wqP ?_
             refine wqC hcall1 ?_
             refine wqP (v := .bool true) ?_ (hv := fun _ _ => by kernel_rfl)
             refine wqP (v := .slice (some ad795) t787.length co50) ?_ (hv := fun _ _ => by kernel_rfl)
             refine wqP (v := .int .i64 x9_2) ?_ (hv := fun _ _ => by kernel_rfl)
             refine wqP ?_
             refine wqP (v := .pointer (some ((ad795.add (x9_2.toNat * 3)).add 2))) ?_ (hv := by rintro _ ⟨n, rfl⟩; go_simp)
             refine wqP ?_
             refine wqP (v := .pointer (some (⟨gb768, 2, none⟩))) ?_ (hv := by rintro _ ⟨n, rfl⟩; go_simp)
             refine wqP ?_
             refine wqP (v := .bool true) ?_ (hv := by rintro _ ⟨n, rfl⟩; go_simp)
             refine wqP (v := .bool true) ?_ (hv := fun _ _ => by kernel_rfl)
             refine wqP (v := .bool true) ?_ (hv := fun _ _ => by kernel_rfl)
             refine wqP (v := .slice (some ad795) t787.length co50) ?_ (hv := fun _ _ => by kernel_rfl)
             refine wqP (v := .int .i64 x9_2) ?_ (hv := fun _ _ => by kernel_rfl)
             refine wqP ?_
             refine wqP (v := .pointer (some ((ad795.add (x9_2.toNat * 3)).add 1))) ?_ (hv := by rintro _ ⟨n, rfl⟩; go_simp)
             refine wqP ?_
             refine wqP (v := .slice Ao63 t791.length co63) ?_ (hv := fun _ _ => by kernel_rfl)
             refine wqC hcall2 ?_
             refine wqP (v := .bool true) ?_ (hv := fun _ _ => by kernel_rfl)
             refine ⟨wpQuiet_nil ?_⟩
             intro _ hw'
             obtain ⟨nq, hw''⟩ := hw'
             subst hw''
             go_wp2_with (go_at_call 11; (with_reducible refine (l21_knows.calls k2  t800 _ ?side1 A61.out).mono ?_); (case side1 => exact Glob.below HG.out (jH HB)); rintro e w64 ⟨rfl, hb⟩; replace HB := Aside0.mk (zT (jH HB) hb))
             go_ret
             exact ⟨jE, jH HB⟩
            ·replace c60 := Bool.eq_false_iff.mpr c60
             subst c60
             rw [if_neg (show ¬ (false = true) by decide)] at H
             exact absurd H (by simp)
           ·rw [if_neg c59] at H
            exact absurd H (by simp)
          ·replace c58 := Bool.eq_false_iff.mpr c58
           subst c58
           rw [if_neg (show ¬ (false = true) by decide)] at H
           have H' := Aside0.mk H
           clear H
           have p795 : 0 ≤ (x9_2 : Int) := oD (jA)
           have q795 : x9_2 < (t787.length : Int) := oD (jA)
           obtain ⟨ad795, A795_0, c795_0, A795_1, c795_1, e795, hx795_0, hx795_1, hx795_2, hl795_0, hi795_0, hl795_1, hi795_1⟩ := at_T42 (Kd.V_reads' HO_5.out).2.2 x9_2 p795 q795
           cases e795
           obtain ⟨ce795, hce795, hMe795, hcc795⟩ := Kd.V_get HO_5.out z42 x9_2 p795 (by first | exact q795 | exact oD (jA) | (have e_ := (Kd.V_reads' HO_5.out).1; omega))
           obtain ⟨ua795_0, uc795_0, ua795_1, uc795_1, rfl, ul795_0, ge795_0, ul795_1, ge795_1⟩ := k42_openF hMe795
           have hv795_0 := hcc795 0 _ rfl
           rw [Nat.add_zero] at hv795_0
           replace hv795_0 := Option.some.inj (hv795_0.symm.trans hx795_0)
           injection hv795_0 with hva_ hvn_ hvc_
           rw [hva_] at ge795_0
           rw [hvc_] at ul795_0
           have HL795_0 := Aside0.mk (show Kd.V k59 59 _ w.heap.size _ _ ((rd_T42 t787 x9_2).f0) from Kd.V_mk ul795_0 ge795_0)
           clear hva_ hvn_ hvc_ ge795_0 ul795_0
           have hv795_1 := hcc795 1 _ rfl
           rw [add_field _ _ 1 (by omega)] at hv795_1
           replace hv795_1 := Option.some.inj (hv795_1.symm.trans hx795_1)
           injection hv795_1 with hva_ hvn_ hvc_
           rw [hva_] at ge795_1
           rw [hvc_] at ul795_1
           have HL795_1 := Aside0.mk (show Kd.V k59 59 _ w.heap.size _ _ ((rd_T42 t787 x9_2).f1) from Kd.V_mk ul795_1 ge795_1)
           clear hva_ hvn_ hvc_ ge795_1 ul795_1
           clear hcc795 hce795
           have HR795_0 := Aside0.mk hi795_0
           have HC795_0 := Aside0.mk hl795_0
           clear hi795_0 hl795_0
           have HR795_1 := Aside0.mk hi795_1
           have HC795_1 := Aside0.mk hl795_1
           clear hi795_1 hl795_1
           replace p795 := eq_true p795
           replace q795 := eq_true q795
           obtain ⟨hcz65_0, hcz65_1, hcz65_2, hfz65_0, hfz65_1, hfz65_2⟩ := kQ3 BK768.out
           obtain ⟨Ao63, co63, eo63⟩ := Kd.R_slice HO_7.out
           subst eo63
           go_wp2
           have hcall1 : ∀ w_, (∃ n, w_ = wr.drewN n) → Calls Tryd.prog 25 #[.slice A795_0 ((rd_T42 t787 x9_2).f0).length c795_0, .slice A1_0 l1_0.length c1_0] w_ fun e w'' => e = .returned (.bool true) ∧ ∃ n, w'' = wr.drewN n := by
            rintro _ ⟨n, rfl⟩
            refine (r03_Same.calls k2 _ _ ((rd_T42 t787 x9_2).f0) _ _ l1_0 true _ ?side1 ?side2 ?side3 ?side4 A54.out).mono ?_
            case side1 => exact Kd.C_drewN HR795_0.out n
            case side2 => exact HC795_0.out
            case side3 => exact jC (Kd.V_reads' HO_769000.out).2.2
            case side4 => exact (Kd.V_reads' HO_769000.out).2.1
            rintro e w' ⟨rfl, ⟨nd, rfl⟩⟩
            exact ⟨rfl, _, World.drewN_drewN _ _ _⟩
           have hcall2 : ∀ w_, (∃ n, w_ = wr.drewN n) → Calls Tryd.prog 25 #[.slice A795_1 ((rd_T42 t787 x9_2).f1).length c795_1, .slice Ao63 t791.length co63] w_ fun e w'' => e = .returned (.bool false) ∧ ∃ n, w'' = wr.drewN n := by
            rintro _ ⟨n, rfl⟩
            refine (r03_Same.calls k2 _ _ ((rd_T42 t787 x9_2).f1) _ _ t791 false _ ?side1 ?side2 ?side3 ?side4 A57.out).mono ?_
            case side1 => exact Kd.C_drewN HR795_1.out n
            case side2 => exact HC795_1.out
            case side3 => exact jC (Kd.R_reads' HO_7.out).2.2
            case side4 => exact (Kd.R_reads' HO_7.out).2.1
            rintro e w' ⟨rfl, ⟨nd, rfl⟩⟩
            exact ⟨rfl, _, World.drewN_drewN _ _ _⟩
           refine wp_region_quiet_lit (by kernel_rfl) (by kernel_rfl) (Aside0.out ?_)
           refine wqP (v := .slice (some ad795) t787.length co50) ?_ (hv := fun _ _ => by kernel_rfl)
           refine wqP (v := .int .i64 x9_2) ?_ (hv := fun _ _ => by kernel_rfl)
           refine wqP ?_
           refine wqP (v := .pointer (some ((ad795.add (x9_2.toNat * 3)).add 0))) ?_ (hv := by rintro _ ⟨n, rfl⟩; go_simp)
           refine wqP ?_
           refine wqP (v := .pointer (some (⟨gb768, 0, none⟩))) ?_ (hv := by rintro _ ⟨n, rfl⟩; go_simp)
           refine wqP ?_
           refine wqC hcall1 ?_
           refine wqP (v := .bool true) ?_ (hv := fun _ _ => by kernel_rfl)
           refine wqP (v := .slice (some ad795) t787.length co50) ?_ (hv := fun _ _ => by kernel_rfl)
           refine wqP (v := .int .i64 x9_2) ?_ (hv := fun _ _ => by kernel_rfl)
           refine wqP ?_
           refine wqP (v := .pointer (some ((ad795.add (x9_2.toNat * 3)).add 2))) ?_ (hv := by rintro _ ⟨n, rfl⟩; go_simp)
           refine wqP ?_
           refine wqP (v := .pointer (some (⟨gb768, 2, none⟩))) ?_ (hv := by rintro _ ⟨n, rfl⟩; go_simp)
           refine wqP ?_
           refine wqP (v := .bool true) ?_ (hv := by rintro _ ⟨n, rfl⟩; go_simp)
           refine wqP (v := .bool true) ?_ (hv := fun _ _ => by kernel_rfl)
           refine wqP (v := .bool true) ?_ (hv := fun _ _ => by kernel_rfl)
           refine wqP (v := .slice (some ad795) t787.length co50) ?_ (hv := fun _ _ => by kernel_rfl)
           refine wqP (v := .int .i64 x9_2) ?_ (hv := fun _ _ => by kernel_rfl)
           refine wqP ?_
           refine wqP (v := .pointer (some ((ad795.add (x9_2.toNat * 3)).add 1))) ?_ (hv := by rintro _ ⟨n, rfl⟩; go_simp)
           refine wqP ?_
           refine wqP (v := .slice Ao63 t791.length co63) ?_ (hv := fun _ _ => by kernel_rfl)
           refine wqC hcall2 ?_
           refine wqP (v := .bool false) ?_ (hv := fun _ _ => by kernel_rfl)
           refine ⟨wpQuiet_nil ?_⟩
           intro _ hw'
           obtain ⟨nq, hw''⟩ := hw'
           subst hw''
           go_wp2
           go_roundg k2
           case measure => have := HJ2.out; have := HK2.out; omega
           case rel => exact ⟨(wrap64 (x9_2 + 1)), jS, H', ⟨by have := HJ2.out; have := HK2.out; omega⟩, ⟨jV HO_5⟩, ⟨jR HO_7⟩, ⟨jV HO_769000⟩, ⟨jV HO_769001⟩, ⟨jK BK768⟩, ⟨jH HB⟩⟩
         ·rw [if_neg c56] at H
          have c56b0 : (((rd_T42 t787 x9_2).f2) == a1_2) = false := bF.mpr c56
          have c56b1 : (((rd_T42 t787 x9_2).f2) != a1_2) = true := nI.mpr c56
          have H' := Aside0.mk H
          clear H
          have p795 : 0 ≤ (x9_2 : Int) := oD (jA)
          have q795 : x9_2 < (t787.length : Int) := oD (jA)
          obtain ⟨ad795, A795_0, c795_0, A795_1, c795_1, e795, hx795_0, hx795_1, hx795_2, hl795_0, hi795_0, hl795_1, hi795_1⟩ := at_T42 (Kd.V_reads' HO_5.out).2.2 x9_2 p795 q795
          cases e795
          obtain ⟨ce795, hce795, hMe795, hcc795⟩ := Kd.V_get HO_5.out z42 x9_2 p795 (by first | exact q795 | exact oD (jA) | (have e_ := (Kd.V_reads' HO_5.out).1; omega))
          obtain ⟨ua795_0, uc795_0, ua795_1, uc795_1, rfl, ul795_0, ge795_0, ul795_1, ge795_1⟩ := k42_openF hMe795
          have hv795_0 := hcc795 0 _ rfl
          rw [Nat.add_zero] at hv795_0
          replace hv795_0 := Option.some.inj (hv795_0.symm.trans hx795_0)
          injection hv795_0 with hva_ hvn_ hvc_
          rw [hva_] at ge795_0
          rw [hvc_] at ul795_0
          have HL795_0 := Aside0.mk (show Kd.V k59 59 _ w.heap.size _ _ ((rd_T42 t787 x9_2).f0) from Kd.V_mk ul795_0 ge795_0)
          clear hva_ hvn_ hvc_ ge795_0 ul795_0
          have hv795_1 := hcc795 1 _ rfl
          rw [add_field _ _ 1 (by omega)] at hv795_1
          replace hv795_1 := Option.some.inj (hv795_1.symm.trans hx795_1)
          injection hv795_1 with hva_ hvn_ hvc_
          rw [hva_] at ge795_1
          rw [hvc_] at ul795_1
          have HL795_1 := Aside0.mk (show Kd.V k59 59 _ w.heap.size _ _ ((rd_T42 t787 x9_2).f1) from Kd.V_mk ul795_1 ge795_1)
          clear hva_ hvn_ hvc_ ge795_1 ul795_1
          clear hcc795 hce795
          have HR795_0 := Aside0.mk hi795_0
          have HC795_0 := Aside0.mk hl795_0
          clear hi795_0 hl795_0
          have HR795_1 := Aside0.mk hi795_1
          have HC795_1 := Aside0.mk hl795_1
          clear hi795_1 hl795_1
          replace p795 := eq_true p795
          replace q795 := eq_true q795
          obtain ⟨hcz67_0, hcz67_1, hcz67_2, hfz67_0, hfz67_1, hfz67_2⟩ := kQ3 BK768.out
          go_wp2
          have hcall1 : ∀ w_, (∃ n, w_ = wr.drewN n) → Calls Tryd.prog 25 #[.slice A795_0 ((rd_T42 t787 x9_2).f0).length c795_0, .slice A1_0 l1_0.length c1_0] w_ fun e w'' => e = .returned (.bool true) ∧ ∃ n, w'' = wr.drewN n := by
           rintro _ ⟨n, rfl⟩
           refine (r03_Same.calls k2 _ _ ((rd_T42 t787 x9_2).f0) _ _ l1_0 true _ ?side1 ?side2 ?side3 ?side4 A54.out).mono ?_
           case side1 => exact Kd.C_drewN HR795_0.out n
           case side2 => exact HC795_0.out
           case side3 => exact jC (Kd.V_reads' HO_769000.out).2.2
           case side4 => exact (Kd.V_reads' HO_769000.out).2.1
           rintro e w' ⟨rfl, ⟨nd, rfl⟩⟩
           exact ⟨rfl, _, World.drewN_drewN _ _ _⟩
          refine wp_region_quiet_lit (by kernel_rfl) (by kernel_rfl) (Aside0.out ?_)
          refine wqP (v := .slice (some ad795) t787.length co50) ?_ (hv := fun _ _ => by kernel_rfl)
          refine wqP (v := .int .i64 x9_2) ?_ (hv := fun _ _ => by kernel_rfl)
          refine wqP ?_
          refine wqP (v := .pointer (some ((ad795.add (x9_2.toNat * 3)).add 0))) ?_ (hv := by rintro _ ⟨n, rfl⟩; go_simp)
          refine wqP ?_
          refine wqP (v := .pointer (some (⟨gb768, 0, none⟩))) ?_ (hv := by rintro _ ⟨n, rfl⟩; go_simp)
          refine wqP ?_
          refine wqC hcall1 ?_
          refine wqP (v := .bool true) ?_ (hv := fun _ _ => by kernel_rfl)
          refine wqP (v := .slice (some ad795) t787.length co50) ?_ (hv := fun _ _ => by kernel_rfl)
          refine wqP (v := .int .i64 x9_2) ?_ (hv := fun _ _ => by kernel_rfl)
          refine wqP ?_
          refine wqP (v := .pointer (some ((ad795.add (x9_2.toNat * 3)).add 2))) ?_ (hv := by rintro _ ⟨n, rfl⟩; go_simp)
          refine wqP ?_
          refine wqP (v := .pointer (some (⟨gb768, 2, none⟩))) ?_ (hv := by rintro _ ⟨n, rfl⟩; go_simp)
          refine wqP ?_
          refine wqP (v := .bool false) ?_ (hv := by rintro _ ⟨n, rfl⟩; go_simp)
          refine wqP (v := .bool false) ?_ (hv := fun _ _ => by kernel_rfl)
          refine wqP (v := .bool false) ?_ (hv := fun _ _ => by kernel_rfl)
          iterate 7 (refine wqU ?_)
          refine wqP (v := .bool false) ?_ (hv := fun _ _ => by kernel_rfl)
          refine ⟨wpQuiet_nil ?_⟩
          intro _ hw'
          obtain ⟨nq, hw''⟩ := hw'
          subst hw''
          go_wp2
          go_roundg k2
          case measure => have := HJ2.out; have := HK2.out; omega
          case rel => exact ⟨(wrap64 (x9_2 + 1)), jS, H', ⟨by have := HJ2.out; have := HK2.out; omega⟩, ⟨jV HO_5⟩, ⟨jR HO_7⟩, ⟨jV HO_769000⟩, ⟨jV HO_769001⟩, ⟨jK BK768⟩, ⟨jH HB⟩⟩
        ·replace c55 := Bool.eq_false_iff.mpr c55
         subst c55
         rw [if_neg (show ¬ (false = true) by decide)] at H
         have H' := Aside0.mk H
         clear H
         have p795 : 0 ≤ (x9_2 : Int) := oD (jA)
         have q795 : x9_2 < (t787.length : Int) := oD (jA)
         obtain ⟨ad795, A795_0, c795_0, A795_1, c795_1, e795, hx795_0, hx795_1, hx795_2, hl795_0, hi795_0, hl795_1, hi795_1⟩ := at_T42 (Kd.V_reads' HO_5.out).2.2 x9_2 p795 q795
         cases e795
         obtain ⟨ce795, hce795, hMe795, hcc795⟩ := Kd.V_get HO_5.out z42 x9_2 p795 (by first | exact q795 | exact oD (jA) | (have e_ := (Kd.V_reads' HO_5.out).1; omega))
         obtain ⟨ua795_0, uc795_0, ua795_1, uc795_1, rfl, ul795_0, ge795_0, ul795_1, ge795_1⟩ := k42_openF hMe795
         have hv795_0 := hcc795 0 _ rfl
         rw [Nat.add_zero] at hv795_0
         replace hv795_0 := Option.some.inj (hv795_0.symm.trans hx795_0)
         injection hv795_0 with hva_ hvn_ hvc_
         rw [hva_] at ge795_0
         rw [hvc_] at ul795_0
         have HL795_0 := Aside0.mk (show Kd.V k59 59 _ w.heap.size _ _ ((rd_T42 t787 x9_2).f0) from Kd.V_mk ul795_0 ge795_0)
         clear hva_ hvn_ hvc_ ge795_0 ul795_0
         have hv795_1 := hcc795 1 _ rfl
         rw [add_field _ _ 1 (by omega)] at hv795_1
         replace hv795_1 := Option.some.inj (hv795_1.symm.trans hx795_1)
         injection hv795_1 with hva_ hvn_ hvc_
         rw [hva_] at ge795_1
         rw [hvc_] at ul795_1
         have HL795_1 := Aside0.mk (show Kd.V k59 59 _ w.heap.size _ _ ((rd_T42 t787 x9_2).f1) from Kd.V_mk ul795_1 ge795_1)
         clear hva_ hvn_ hvc_ ge795_1 ul795_1
         clear hcc795 hce795
         have HR795_0 := Aside0.mk hi795_0
         have HC795_0 := Aside0.mk hl795_0
         clear hi795_0 hl795_0
         have HR795_1 := Aside0.mk hi795_1
         have HC795_1 := Aside0.mk hl795_1
         clear hi795_1 hl795_1
         replace p795 := eq_true p795
         replace q795 := eq_true q795
         obtain ⟨hcz68_0, hcz68_1, hcz68_2, hfz68_0, hfz68_1, hfz68_2⟩ := kQ3 BK768.out
         go_wp2
         have hcall1 : ∀ w_, (∃ n, w_ = wr.drewN n) → Calls Tryd.prog 25 #[.slice A795_0 ((rd_T42 t787 x9_2).f0).length c795_0, .slice A1_0 l1_0.length c1_0] w_ fun e w'' => e = .returned (.bool false) ∧ ∃ n, w'' = wr.drewN n := by
          rintro _ ⟨n, rfl⟩
          refine (r03_Same.calls k2 _ _ ((rd_T42 t787 x9_2).f0) _ _ l1_0 false _ ?side1 ?side2 ?side3 ?side4 A54.out).mono ?_
          case side1 => exact Kd.C_drewN HR795_0.out n
          case side2 => exact HC795_0.out
          case side3 => exact jC (Kd.V_reads' HO_769000.out).2.2
          case side4 => exact (Kd.V_reads' HO_769000.out).2.1
          rintro e w' ⟨rfl, ⟨nd, rfl⟩⟩
          exact ⟨rfl, _, World.drewN_drewN _ _ _⟩
         refine wp_region_quiet_lit (by kernel_rfl) (by kernel_rfl) (Aside0.out ?_)
         refine wqP (v := .slice (some ad795) t787.length co50) ?_ (hv := fun _ _ => by kernel_rfl)
         refine wqP (v := .int .i64 x9_2) ?_ (hv := fun _ _ => by kernel_rfl)
         refine wqP ?_
         refine wqP (v := .pointer (some ((ad795.add (x9_2.toNat * 3)).add 0))) ?_ (hv := by rintro _ ⟨n, rfl⟩; go_simp)
         refine wqP ?_
         refine wqP (v := .pointer (some (⟨gb768, 0, none⟩))) ?_ (hv := by rintro _ ⟨n, rfl⟩; go_simp)
         refine wqP ?_
         refine wqC hcall1 ?_
         refine wqP (v := .bool false) ?_ (hv := fun _ _ => by kernel_rfl)
         iterate 8 (refine wqU ?_)
         refine wqP (v := .bool false) ?_ (hv := fun _ _ => by kernel_rfl)
         refine wqP (v := .bool false) ?_ (hv := fun _ _ => by kernel_rfl)
         iterate 7 (refine wqU ?_)
         refine wqP (v := .bool false) ?_ (hv := fun _ _ => by kernel_rfl)
         refine ⟨wpQuiet_nil ?_⟩
         intro _ hw'
         obtain ⟨nq, hw''⟩ := hw'
         subst hw''
         go_wp2
         go_roundg k2
         case measure => have := HJ2.out; have := HK2.out; omega
         case rel => exact ⟨(wrap64 (x9_2 + 1)), jS, H', ⟨by have := HJ2.out; have := HK2.out; omega⟩, ⟨jV HO_5⟩, ⟨jR HO_7⟩, ⟨jV HO_769000⟩, ⟨jV HO_769001⟩, ⟨jK BK768⟩, ⟨jH HB⟩⟩
       ·rw [if_neg c53] at H
        exact absurd H (by simp)
      ·rw [if_neg c52] at H
       exact absurd H (by simp)
end Go.Proofs.YtahacmdhhfmhiaaDoor.M
