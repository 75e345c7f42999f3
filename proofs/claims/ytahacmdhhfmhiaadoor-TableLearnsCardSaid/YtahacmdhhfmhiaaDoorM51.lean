/- What Go functions compute; their calls come to it. No condition. -/
import Derived.Test.YtahacmdhhfmhiaaDoorM0
import Derived.Test.YtahacmdhhfmhiaaDoorMG
namespace Go.Proofs.YtahacmdhhfmhiaaDoor.M
open Go.RowKit Go.Proofs.YtahacmdhhfmhiaaDoorW.PrintWords Go.Proofs.YtahacmdhhfmhiaaDoorW.PrintLast Go.Proofs.YtahacmdhhfmhiaaDoorW.PrintMore
attribute [local go_sem] max2_int min2_int max_two min_two max_three min_three max_four min_four   -- for this text's walks alone
set_option linter.unusedVariables false
set_option linter.unusedSimpArgs false
mutual
def r21_Learn.j0 : Nat → List (S45) → Bool → List (S59) → List (S59) → Int → Option ((List (S45)) × Int)
 | 0, _, _, _, _, _ => none
 | k + 1, x0, x16, x537000, x537001, x537002 => if x16 = true then (some (x0, 1)) else (r21_Learn.l0 k x0 ([] : List (S45)) ([] : List (S45)) 0 x537000 x537001 x537002)
def r21_Learn.l0 : Nat → List (S45) → List (S45) → List (S45) → Int → List (S59) → List (S59) → Int → Option ((List (S45)) × Int)
 | 0, _, _, _, _, _, _, _ => none
 | k + 1, x0, x6, x7, x8, x537000, x537001, x537002 => if x8 < (x0.length : Int) then (if 0 ≤ x8 then ((r21_Bytes.f k ((rd_T45 x0 x8).f0) ((rd_T45 x0 x8).f1) ((rd_T45 x0 x8).f2)).bind fun t546 => ((r21_Bytes.f k x537000 x537001 x537002).bind fun t549 => (if (strOfNums t546).toList = (strOfNums t549).toList then (some (x0, 0)) else ((r21_Bytes.f k ((rd_T45 x0 x8).f0) ((rd_T45 x0 x8).f1) ((rd_T45 x0 x8).f2)).bind fun t553 => ((r21_Bytes.f k x537000 x537001 x537002).bind fun t556 => ((r21_less.f k t553 t556).bind fun t559 => (if t559 = true then (if x6.length < 2513169434916 then (r21_Learn.l0 k x0 (x6 ++ [(⟨(rd_T45 x0 x8).f0, (rd_T45 x0 x8).f1, (rd_T45 x0 x8).f2⟩ : S45)]) x7 (wrap64 (x8 + 1)) x537000 x537001 x537002) else (none)) else (if x7.length < 2513169434916 then (r21_Learn.l0 k x0 x6 (x7 ++ [(⟨(rd_T45 x0 x8).f0, (rd_T45 x0 x8).f1, (rd_T45 x0 x8).f2⟩ : S45)]) (wrap64 (x8 + 1)) x537000 x537001 x537002) else (none))))))))) else (none)) else (if (x0.length : Int) ≥ 64 then (some (x0, 3)) else (if x6.length < 2513169434916 then ((some (x6 ++ [(⟨x537000, x537001, x537002⟩ : S45)] : List (S45))).bind fun y539 => (if y539.length + x7.length < 2513169434916 then (some ((y539 ++ x7), 0)) else (none))) else (none)))
end
def r21_Learn.f (k : Nat) (l0 : List (S45)) (l1_0 : List (S59)) (l1_1 : List (S59)) (a1_2 : Int) : Option ((List (S45)) × Int) := (r21_Right.f k l0).bind fun t537 => (if t537 = true then ((r21_May.f k l1_0 l1_1 a1_2).bind fun t538 => (r21_Learn.j0 k l0 (!t538) l1_0 l1_1 a1_2)) else (r21_Learn.j0 k l0 true l1_0 l1_1 a1_2))
def r21_Learn.T7 : Bool × List (List Nat × List Nat) := (true, [([], []), ([], []), ([0, 1], [0, 1]), ([2], [2]), ([3], [3]), ([4], [4]), ([], []), ([6, 4], [6]), ([7], [7]), ([5, 8], [5, 8])])
def r21_Learn.B7 : List Nat := [0, 0, 3, 7, 15, 31, 0, 95, 223, 511]
theorem r21_Learn.tab7 : rtab .any (opsOf Tryd.f21 7) = r21_Learn.T7 := by kernel_rfl
theorem r21_Learn.bits7 : waitsOk r21_Learn.T7.2 r21_Learn.B7 = true := by kernel_rfl
def r21_Learn.T9 : Bool × List (List Nat × List Nat) := (true, [([], []), ([], []), ([0, 1], [0, 1]), ([2], [2]), ([3], [3]), ([], []), ([5, 4], [5]), ([4, 6, 6], [4, 6])])
def r21_Learn.B9 : List Nat := [0, 0, 3, 7, 15, 0, 63, 127]
theorem r21_Learn.tab9 : rtab .any (opsOf Tryd.f21 9) = r21_Learn.T9 := by kernel_rfl
theorem r21_Learn.bits9 : waitsOk r21_Learn.T9.2 r21_Learn.B9 = true := by kernel_rfl
set_option maxHeartbeats 8000000 in
set_option maxRecDepth 100000 in
theorem r21_Learn.calls (k : Nat) (P0_ : Nat → Prop) (A0 : Option Addr) (c0 : Nat) (l0 : List (S45)) (P1_0_ : Nat → Prop) (A1_0 : Option Addr) (c1_0 : Nat) (l1_0 : List (S59)) (P1_1_ : Nat → Prop) (A1_1 : Option Addr) (c1_1 : Nat) (l1_1 : List (S59)) (a1_2 : Int) (r1 : List (S45)) (r2 : Int) (w : World) (hs0 : Kd.V k45 45 w w.heap.size (fun k_ => P0_ k_) (.slice A0 l0.length c0) l0) (hs1_0 : Kd.V k59 59 w w.heap.size (fun k_ => P1_0_ k_) (.slice A1_0 l1_0.length c1_0) l1_0) (hs1_1 : Kd.V k59 59 w w.heap.size (fun k_ => P1_1_ k_) (.slice A1_1 l1_1.length c1_1) l1_1) (h : r21_Learn.f k l0 l1_0 l1_1 a1_2 = some (r1, r2)) :
  Calls Tryd.prog 21 #[.slice A0 l0.length c0, .agg #[.slice A1_0 l1_0.length c1_0, .slice A1_1 l1_1.length c1_1, .int .u32 a1_2]] w fun e w' => ∃ v0_ : Value, e = .returned (.tuple #[v0_, .int .i64 r2]) ∧ Kd.V k45 45 w' w.heap.size (fun k_ => ((P0_ k_ ∨ P1_0_ k_ ∨ P1_1_ k_) ∨ w.heap.size ≤ k_)) v0_ r1 ∧ Below w.heap.size w w' := by
 have hu45 := Tryd.underlying45
 have HO0 := Aside0.mk (show Kd.V k45 45 w w.heap.size (fun k_ => ((P0_ k_ ∨ P1_0_ k_ ∨ P1_1_ k_) ∨ w.heap.size ≤ k_)) (.slice A0 l0.length c0) l0 from Kd.V_mono hs0 (fun k_ hk => .inl (.inl hk)))
 have HO1_0 := Aside0.mk (show Kd.V k59 59 w w.heap.size (fun k_ => ((P0_ k_ ∨ P1_0_ k_ ∨ P1_1_ k_) ∨ w.heap.size ≤ k_)) (.slice A1_0 l1_0.length c1_0) l1_0 from Kd.V_mono hs1_0 (fun k_ hk => .inl (.inr (.inl hk))))
 have HO1_1 := Aside0.mk (show Kd.V k59 59 w w.heap.size (fun k_ => ((P0_ k_ ∨ P1_0_ k_ ∨ P1_1_ k_) ∨ w.heap.size ≤ k_)) (.slice A1_1 l1_1.length c1_1) l1_1 from Kd.V_mono hs1_1 (fun k_ hk => .inl (.inr (.inr hk))))
 have HB := Aside0.mk (Below.refl w.heap.size w)
 have H : ((r21_Right.f k l0).bind fun t537 => (if t537 = true then ((r21_May.f k l1_0 l1_1 a1_2).bind fun t538 => (r21_Learn.j0 k l0 (!t538) l1_0 l1_1 a1_2)) else (r21_Learn.j0 k l0 true l1_0 l1_1 a1_2))) = some (r1, r2) := h
 clear h
 have HC3 := Aside0.mk H
 clear H
 go_enter Tryd.func21, Tryd.ntmps21
 go_upto_region 1 with (first | ((with_reducible refine gate_dst (N := 3) rfl ?_); refine box_event rfl (N := 3) rfl (cs := #[.slice A1_0 l1_0.length c1_0, .slice A1_1 l1_1.length c1_1, .int .u32 a1_2]) (t := 45) jW ?_; intro gb536 hg w4 hbox hb; have BK536 := Aside0.mk hbox; have GW536 := Aside0.mk (jG hg HB); have GE536 := Aside0.mk (jG hg HB); replace HO0 := Aside0.mk (Kd.V_below (Kd.V_elderB (jV HO0) gb536 (Nat.le_of_eq hg.symm)) hb); replace HO1_0 := Aside0.mk (Kd.V_below (Kd.V_elderB (jV HO1_0) gb536 (Nat.le_of_eq hg.symm)) hb); replace HO1_1 := Aside0.mk (Kd.V_below (Kd.V_elderB (jV HO1_1) gb536 (Nat.le_of_eq hg.symm)) hb); replace HB := Aside0.mk (zT (jH HB) hb); clear hb hbox hg))
 (try simp only [Act.put, List.setIfInBounds_toArray, List.set_cons_zero, List.set_cons_succ])
 go_cut [16] (fun v16 wc => ∃ (kq : Nat) (x16_2 : Bool), v16 = .bool x16_2 ∧ Aside0 (r21_Learn.j0 kq l0 x16_2 l1_0 l1_1 a1_2 = some (r1, r2)) ∧ Aside0 (kq ≤ k) ∧ Aside0 (Kd.V k45 45 wc w.heap.size (fun k_ => ((P0_ k_ ∨ P1_0_ k_ ∨ P1_1_ k_) ∨ w.heap.size ≤ k_) ∧ k_ ≠ gb536) (.slice A0 l0.length c0) l0) ∧ Aside0 (Kd.V k59 59 wc w.heap.size (fun k_ => ((P0_ k_ ∨ P1_0_ k_ ∨ P1_1_ k_) ∨ w.heap.size ≤ k_) ∧ k_ ≠ gb536) (.slice A1_0 l1_0.length c1_0) l1_0) ∧ Aside0 (Kd.V k59 59 wc w.heap.size (fun k_ => ((P0_ k_ ∨ P1_0_ k_ ∨ P1_1_ k_) ∨ w.heap.size ≤ k_) ∧ k_ ≠ gb536) (.slice A1_1 l1_1.length c1_1) l1_1) ∧ Aside0 (wc.heap[gb536]? = some (.cells #[(.slice A1_0 l1_0.length c1_0), (.slice A1_1 l1_1.length c1_1), .int .u32 a1_2] 45 (0, 0))) ∧ Aside0 (Below w.heap.size w wc))
 case first =>
  have H := HC3.out
  clear HC3
  replace H := Option.bind_eq_some_iff.mp H
  obtain ⟨t537, A50, H⟩ := H
  try dsimp only at H
  have A5 := Aside0.mk A50
  clear A50
  by_cases c6 : t537 = true
  ·subst c6
   rw [if_pos rfl] at H
   replace H := Option.bind_eq_some_iff.mp H
   obtain ⟨t538, A70, H⟩ := H
   try dsimp only at H
   have A7 := Aside0.mk A70
   clear A70
   have H' := Aside0.mk H
   clear H
   go_wp2_with (first | ((with_reducible refine gate_callee (f := 13) rfl ?_); refine goesL_ (some 10) rfl rfl Tryd.func13 (by kernel_rfl) rfl #[.slice A0 l0.length c0] rfl jZ ?_; (with_reducible refine (r21_Right.calls k _ _ l0 true _ ?side1 ?side2 A5.out).mono ?_); (case side1 => exact jC (Kd.V_reads' HO0.out).2.2); (case side2 => exact (Kd.V_reads' HO0.out).2.1); rintro e w8 ⟨rfl, hb⟩; refine ⟨_, rfl, ?_⟩; replace HO0 := Aside0.mk (Kd.V_below (jV HO0) hb); replace HO1_0 := Aside0.mk (Kd.V_below (jV HO1_0) hb); replace HO1_1 := Aside0.mk (Kd.V_below (jV HO1_1) hb); replace BK536 := Aside0.mk (jB BK536 hb); replace HB := Aside0.mk (zT (jH HB) hb); (try clear hb); (try clear hb2); (try clear hk); (try clear hi); obtain ⟨hcz9_0, hcz9_1, hcz9_2, hfz9_0, hfz9_1, hfz9_2⟩ := kQ3 BK536.out) | (go_at_call 27; (with_reducible refine (r21_May.calls k _ _ l1_0 _ _ l1_1 a1_2 t538 _ ?side1 ?side2 ?side3 ?side4 A7.out).mono ?_); (case side1 => exact jC (Kd.V_reads' HO1_0.out).2.2); (case side2 => exact (Kd.V_reads' HO1_0.out).2.1); (case side3 => exact jC (Kd.V_reads' HO1_1.out).2.2); (case side4 => exact (Kd.V_reads' HO1_1.out).2.1); rintro e w10 ⟨rfl, hb⟩; replace HO0 := Aside0.mk (Kd.V_below (jV HO0) hb); replace HO1_0 := Aside0.mk (Kd.V_below (jV HO1_0) hb); replace HO1_1 := Aside0.mk (Kd.V_below (jV HO1_1) hb); replace BK536 := Aside0.mk (jB BK536 hb); replace HB := Aside0.mk (zT (jH HB) hb); (try clear hb); (try clear hb2); (try clear hk); (try clear hi)))
   go_meet
   case rel => exact ⟨_, (!t538), jS, H', ⟨jO⟩, ⟨jV HO0⟩, ⟨jV HO1_0⟩, ⟨jV HO1_1⟩, ⟨jK BK536⟩, ⟨jH HB⟩⟩
  ·replace c6 := Bool.eq_false_iff.mpr c6
   subst c6
   rw [if_neg (show ¬ (false = true) by decide)] at H
   have H' := Aside0.mk H
   clear H
   go_wp2_with (first | ((with_reducible refine gate_callee (f := 13) rfl ?_); refine goesL_ (some 10) rfl rfl Tryd.func13 (by kernel_rfl) rfl #[.slice A0 l0.length c0] rfl jZ ?_; (with_reducible refine (r21_Right.calls k _ _ l0 false _ ?side1 ?side2 A5.out).mono ?_); (case side1 => exact jC (Kd.V_reads' HO0.out).2.2); (case side2 => exact (Kd.V_reads' HO0.out).2.1); rintro e w11 ⟨rfl, hb⟩; refine ⟨_, rfl, ?_⟩; replace HO0 := Aside0.mk (Kd.V_below (jV HO0) hb); replace HO1_0 := Aside0.mk (Kd.V_below (jV HO1_0) hb); replace HO1_1 := Aside0.mk (Kd.V_below (jV HO1_1) hb); replace BK536 := Aside0.mk (jB BK536 hb); replace HB := Aside0.mk (zT (jH HB) hb); (try clear hb); (try clear hb2); (try clear hk); (try clear hi)))
   go_meet
   case rel => exact ⟨_, (true), jS, H', ⟨jO⟩, ⟨jV HO0⟩, ⟨jV HO1_0⟩, ⟨jV HO1_1⟩, ⟨jK BK536⟩, ⟨jH HB⟩⟩
 case rest =>
  clear HC3
  obtain ⟨kq, x16_2, rfl, HA, HJ2, HO_0, HO_537000, HO_537001, BK536, HB⟩ := hcut
  cases kq with
  | zero => exact absurd HA.out (by simp [r21_Learn.j0])
  | succ kj2 =>
   have H := HA.out
   clear HA
   simp only [r21_Learn.j0] at H
   by_cases c12 : x16_2 = true
   ·subst c12
    rw [if_pos rfl] at H
    simp only [Option.some.injEq, Prod.mk.injEq] at H
    obtain ⟨rfl, rfl⟩ := H
    go_wp2
    go_ret2
    exact ⟨_, jE, by (with_reducible repeat (first | apply Kd.V_alloc | apply Kd.V_drewN | apply Kd.V_drew)); exact Kd.V_mono HO_0.out (fun _ hk => hk.1), jH HB⟩
   ·replace c12 := Bool.eq_false_iff.mpr c12
    subst c12
    rw [if_neg (show ¬ (false = true) by decide)] at H
    have H' := Aside0.mk H
    clear H
    go_wp2
    go_loopg [6, 7, 8] kj2 (fun kq v6 v7 v8 w' => ∃ (x6_2 : List (S45)) (x7_2 : List (S45)) (x8_2 : Int), v8 = .int .i64 x8_2 ∧ Aside0 (r21_Learn.l0 kq l0 x6_2 x7_2 x8_2 l1_0 l1_1 a1_2 = some (r1, r2)) ∧ Aside0 (kq ≤ kj2) ∧ Aside0 (Kd.V k45 45 w' w.heap.size (fun k_ => ((P0_ k_ ∨ P1_0_ k_ ∨ P1_1_ k_) ∨ w.heap.size ≤ k_) ∧ some k_ ≠ (v6 : Value).ownBlock ∧ some k_ ≠ (v7 : Value).ownBlock ∧ k_ ≠ gb536) (.slice A0 l0.length c0) l0) ∧ Aside0 (Kd.N k45 45 w' w.heap.size (fun k_ => ((P0_ k_ ∨ P1_0_ k_ ∨ P1_1_ k_) ∨ w.heap.size ≤ k_) ∧ some k_ ≠ (v7 : Value).ownBlock ∧ k_ ≠ gb536) v6 x6_2) ∧ Aside0 (Kd.N k45 45 w' w.heap.size (fun k_ => ((P0_ k_ ∨ P1_0_ k_ ∨ P1_1_ k_) ∨ w.heap.size ≤ k_) ∧ some k_ ≠ (v6 : Value).ownBlock ∧ k_ ≠ gb536) v7 x7_2) ∧ Aside0 (Kd.V k59 59 w' w.heap.size (fun k_ => ((P0_ k_ ∨ P1_0_ k_ ∨ P1_1_ k_) ∨ w.heap.size ≤ k_) ∧ some k_ ≠ (v6 : Value).ownBlock ∧ some k_ ≠ (v7 : Value).ownBlock ∧ k_ ≠ gb536) (.slice A1_0 l1_0.length c1_0) l1_0) ∧ Aside0 (Kd.V k59 59 w' w.heap.size (fun k_ => ((P0_ k_ ∨ P1_0_ k_ ∨ P1_1_ k_) ∨ w.heap.size ≤ k_) ∧ some k_ ≠ (v6 : Value).ownBlock ∧ some k_ ≠ (v7 : Value).ownBlock ∧ k_ ≠ gb536) (.slice A1_1 l1_1.length c1_1) l1_1) ∧ Aside0 (w'.heap[gb536]? = some (.cells #[(.slice A1_0 l1_0.length c1_0), (.slice A1_1 l1_1.length c1_1), .int .u32 a1_2] 45 (0, 0))) ∧ Aside0 (Below w.heap.size w w'))
    case atStart => exact ⟨(([] : List (S45))), (([] : List (S45))), (0), jS, H', ⟨Nat.le_refl _⟩, ⟨by (with_reducible repeat (first | apply Kd.V_alloc | apply Kd.V_drewN | apply Kd.V_drew)); exact Kd.V_mono HO_0.out (fun _ hk => ⟨hk.1, ⟨(by simp [Value.ownBlock]), ⟨(by simp [Value.ownBlock]), hk.2⟩⟩⟩)⟩, ⟨by first | exact Kd.S_nil _ _ _ _ _ | exact Kd.N_nil _ _ _ _ _ | exact Kd.V_nil _ _ _ _ _ | exact Kd.Q_nil _ _ _ _ _ | exact Kd.R_nil _ _ _ _ _⟩, ⟨by first | exact Kd.S_nil _ _ _ _ _ | exact Kd.N_nil _ _ _ _ _ | exact Kd.V_nil _ _ _ _ _ | exact Kd.Q_nil _ _ _ _ _ | exact Kd.R_nil _ _ _ _ _⟩, ⟨by (with_reducible repeat (first | apply Kd.V_alloc | apply Kd.V_drewN | apply Kd.V_drew)); exact Kd.V_mono HO_537000.out (fun _ hk => ⟨hk.1, ⟨(by simp [Value.ownBlock]), ⟨(by simp [Value.ownBlock]), hk.2⟩⟩⟩)⟩, ⟨by (with_reducible repeat (first | apply Kd.V_alloc | apply Kd.V_drewN | apply Kd.V_drew)); exact Kd.V_mono HO_537001.out (fun _ hk => ⟨hk.1, ⟨(by simp [Value.ownBlock]), ⟨(by simp [Value.ownBlock]), hk.2⟩⟩⟩)⟩, ⟨jK BK536⟩, ⟨jH HB⟩⟩
    case round =>
     clear H'
     obtain ⟨x6_2, x7_2, x8_2, rfl, HA, HK2, HO_0, HO_6, HO_7, HO_537000, HO_537001, BK536, HB⟩ := hrel
     cases gk with
     | zero => exact absurd HA.out (by simp [r21_Learn.l0])
     | succ k2 =>
      have H := HA.out
      clear HA
      simp only [r21_Learn.l0] at H
      by_cases c13 : x8_2 < (l0.length : Int)
      ·rw [if_pos c13] at H
       have c13b0 := dT c13
       clear c13
       by_cases c14 : 0 ≤ x8_2
       ·rw [if_pos c14] at H
        have c14b0 := dT c14
        clear c14
        replace H := Option.bind_eq_some_iff.mp H
        obtain ⟨t546, A150, H⟩ := H
        try dsimp only at H
        have A15 := Aside0.mk A150
        clear A150
        replace H := Option.bind_eq_some_iff.mp H
        obtain ⟨t549, A160, H⟩ := H
        try dsimp only at H
        have A16 := Aside0.mk A160
        clear A160
        by_cases c17 : (strOfNums t546).toList = (strOfNums t549).toList
        ·rw [if_pos c17] at H
         have c17b0 : ((strOfNums t546).toList == (strOfNums t549).toList) = true := bI.mpr c17
         have c17b1 : ((strOfNums t546).toList != (strOfNums t549).toList) = false := nF.mpr c17
         clear c17
         simp only [Option.some.injEq, Prod.mk.injEq] at H
         obtain ⟨rfl, rfl⟩ := H
         try go_wp2
         replace HO_0 := Aside0.mk (Kd.V_drew HO_0.out)
         replace HO_6 := Aside0.mk (Kd.N_drew HO_6.out)
         replace HO_7 := Aside0.mk (Kd.N_drew HO_7.out)
         replace HO_537000 := Aside0.mk (Kd.V_drew HO_537000.out)
         replace HO_537001 := Aside0.mk (Kd.V_drew HO_537001.out)
         replace BK536 := Aside0.mk (kD BK536.out)
         replace HB := Aside0.mk (zD HB.out)
         have p545 : 0 ≤ (x8_2 : Int) := oD (jA)
         have q545 : x8_2 < (l0.length : Int) := oD (jA)
         obtain ⟨ad545, A545_0, c545_0, A545_1, c545_1, e545, hx545_0, hx545_1, hx545_2, hl545_0, hi545_0, hl545_1, hi545_1⟩ := at_T45 (Kd.V_reads' HO_0.out).2.2 x8_2 p545 q545
         cases e545
         obtain ⟨ce545, hce545, hMe545, hcc545⟩ := Kd.V_get HO_0.out z45 x8_2 p545 (by first | exact q545 | exact oD (jA) | (have e_ := (Kd.V_reads' HO_0.out).1; omega))
         obtain ⟨ua545_0, uc545_0, ua545_1, uc545_1, rfl, ul545_0, ge545_0, ul545_1, ge545_1⟩ := k45_openF hMe545
         have hv545_0 := hcc545 0 _ rfl
         rw [Nat.add_zero] at hv545_0
         replace hv545_0 := Option.some.inj (hv545_0.symm.trans hx545_0)
         injection hv545_0 with hva_ hvn_ hvc_
         rw [hva_] at ge545_0
         rw [hvc_] at ul545_0
         have HL545_0 := Aside0.mk (show Kd.V k59 59 _ w.heap.size _ _ ((rd_T45 l0 x8_2).f0) from Kd.V_mk ul545_0 ge545_0)
         clear hva_ hvn_ hvc_ ge545_0 ul545_0
         have hv545_1 := hcc545 1 _ rfl
         rw [add_field _ _ 1 (by omega)] at hv545_1
         replace hv545_1 := Option.some.inj (hv545_1.symm.trans hx545_1)
         injection hv545_1 with hva_ hvn_ hvc_
         rw [hva_] at ge545_1
         rw [hvc_] at ul545_1
         have HL545_1 := Aside0.mk (show Kd.V k59 59 _ w.heap.size _ _ ((rd_T45 l0 x8_2).f1) from Kd.V_mk ul545_1 ge545_1)
         clear hva_ hvn_ hvc_ ge545_1 ul545_1
         clear hcc545 hce545
         have HR545_0 := Aside0.mk hi545_0
         have HC545_0 := Aside0.mk hl545_0
         clear hi545_0 hl545_0
         have HR545_1 := Aside0.mk hi545_1
         have HC545_1 := Aside0.mk hl545_1
         clear hi545_1 hl545_1
         replace p545 := eq_true p545
         replace q545 := eq_true q545
         refine start_ (n := 10) (S := fun w' => w'.cell? ⟨gb536, 0, none⟩ = some (.slice A1_0 l1_0.length c1_0) ∧ w'.cell? ⟨gb536, 1, none⟩ = some (.slice A1_1 l1_1.length c1_1) ∧ w'.cell? ⟨gb536, 2, none⟩ = some (.int .u32 a1_2) ∧ w'.cell? (ad545.add ((x8_2).toNat * 3)) = some (.slice A545_0 ((rd_T45 l0 x8_2).f0).length c545_0) ∧ w'.cell? ⟨(ad545.add ((x8_2).toNat * 3)).block, (ad545.add ((x8_2).toNat * 3)).off + 1, none⟩ = some (.slice A545_1 ((rd_T45 l0 x8_2).f1).length c545_1) ∧ w'.cell? ⟨(ad545.add ((x8_2).toNat * 3)).block, (ad545.add ((x8_2).toNat * 3)).off + 2, none⟩ = some (.int .u32 ((rd_T45 l0 x8_2).f2))) (ds := []) #[false, false, false, false, false, false, false, false, false, false] (by kernel_rfl) rfl rfl ⟨(kC BK536.out 0).trans rfl, (kC BK536.out 1).trans rfl, (kC BK536.out 2).trans rfl, hx545_0, hx545_1, hx545_2⟩ (fun hHeld => ?_); refine with_tabW r21_Learn.tab7 r21_Learn.bits7 (fun HT_ HW_ => ?_)
         generalize wr.drew = w18 at HO_0 HO_6 HO_7 HO_537000 HO_537001 BK536 HB HL545_0 HL545_1 HR545_0 HR545_1 hx545_0 hx545_1 hx545_2 hHeld ⊢
         refine qP 0 24 (tB 10 1) ?_
         refine qP 1 25 (tB 10 3) ?_
         refine qP 2 26 (tB 10 7) ?_
         refine qT 3 27 (tB 10 15) hHeld ?_ (hv := by rintro w' ⟨s0, s1, s2, s3, s4, s5⟩; go_simp; with_reducible rfl)
         refine qT 6 30 (tB 10 79) hHeld ?_ (hv := by rintro w' ⟨s0, s1, s2, s3, s4, s5⟩; go_simp; with_reducible rfl)
         refine one_ (i := 4) (N := some 28) (tB 10 95) rfl rfl (one_of HT_.out (by kernel_rfl)) (by decide) (fun K hK => ?_)
         refine goes_ Tryd.func31 (by kernel_rfl) rfl #[.agg #[.slice A545_0 ((rd_T45 l0 x8_2).f0).length c545_0, .slice A545_1 ((rd_T45 l0 x8_2).f1).length c545_1, .int .u32 ((rd_T45 l0 x8_2).f2)]] (by rfl) rfl rfl jZ ?_
         with_reducible refine (r21_Bytes.calls k2 _ _ ((rd_T45 l0 x8_2).f0) _ _ ((rd_T45 l0 x8_2).f1) ((rd_T45 l0 x8_2).f2) t546 _ ?side1 ?side2 ?side3 ?side4 A15.out).mono ?_
         (case side1 => repeat (first | exact (by repeat (first | (with_reducible exact HR545_0.out) | (with_reducible refine Kd.C_alloc ?_ _) | (with_reducible refine Kd.C_drewN ?_ _) | (with_reducible refine Kd.C_drew ?_) | exact HR545_0.out)) | (with_reducible refine Kd.C_alloc ?_ _) | (with_reducible refine Kd.C_drewN ?_ _) | (with_reducible refine Kd.C_drew ?_)))
         (case side2 => exact HC545_0.out)
         (case side3 => repeat (first | exact (by repeat (first | (with_reducible exact HR545_1.out) | (with_reducible refine Kd.C_alloc ?_ _) | (with_reducible refine Kd.C_drewN ?_ _) | (with_reducible refine Kd.C_drew ?_) | exact HR545_1.out)) | (with_reducible refine Kd.C_alloc ?_ _) | (with_reducible refine Kd.C_drewN ?_ _) | (with_reducible refine Kd.C_drew ?_)))
         (case side4 => exact HC545_1.out)
         rintro e w19 ⟨v547, rfl, ho0, hb⟩
         have HS3_ := (hb.cell (bL _ _ (hHeld.2.2.2.1))).trans (hHeld.2.2.2.1)
         have HS4_ := (hb.cell (bL _ _ (hHeld.2.2.2.2.1))).trans (hHeld.2.2.2.2.1)
         have HS5_ := (hb.cell (bL _ _ (hHeld.2.2.2.2.2))).trans (hHeld.2.2.2.2.2)
         refine ⟨_, rfl, ?_⟩
         have HO548 := Aside0.mk (Kd.R_lower (Kd.R_newM (M := fun k_ => (w.heap.size ≤ k_)) ho0 (zZ (jH HB)) (fun k_ h_ => h_)) (zZ (jH HB)))
         replace HO_0 := Aside0.mk (Kd.V_elder' (jV HO_0) (Kd.R_base ho0) hb)
         replace HO_6 := Aside0.mk (Kd.N_elder' (by (with_reducible repeat (first | apply Kd.N_alloc | apply Kd.N_drewN | apply Kd.N_drew)); exact HO_6.out) (Kd.R_base ho0) hb)
         replace HO_7 := Aside0.mk (Kd.N_elder' (by (with_reducible repeat (first | apply Kd.N_alloc | apply Kd.N_drewN | apply Kd.N_drew)); exact HO_7.out) (Kd.R_base ho0) hb)
         replace HO_537000 := Aside0.mk (Kd.V_elder' (jV HO_537000) (Kd.R_base ho0) hb)
         replace HO_537001 := Aside0.mk (Kd.V_elder' (jV HO_537001) (Kd.R_base ho0) hb)
         replace HL545_0 := Aside0.mk (Kd.V_elder' (jV HL545_0) (Kd.R_base ho0) hb)
         replace HL545_1 := Aside0.mk (Kd.V_elder' (jV HL545_1) (Kd.R_base ho0) hb)
         replace BK536 := Aside0.mk (jB BK536 hb)
         replace HR545_0 := Aside0.mk (Kd.C_below (by repeat (first | (with_reducible exact HR545_0.out) | (with_reducible refine Kd.C_alloc ?_ _) | (with_reducible refine Kd.C_drewN ?_ _) | (with_reducible refine Kd.C_drew ?_) | exact HR545_0.out)) hb)
         replace HR545_1 := Aside0.mk (Kd.C_below (by repeat (first | (with_reducible exact HR545_1.out) | (with_reducible refine Kd.C_alloc ?_ _) | (with_reducible refine Kd.C_drewN ?_ _) | (with_reducible refine Kd.C_drew ?_) | exact HR545_1.out)) hb)
         replace HB := Aside0.mk (zT (jH HB) hb)
         (try clear hb)
         (try clear hb2)
         (try clear hk)
         (try clear hi)
         (try clear ho0)
         refine hK.out _ _ ⟨(kC BK536.out 0).trans rfl, (kC BK536.out 1).trans rfl, (kC BK536.out 2).trans rfl, HS3_, HS4_, HS5_⟩ (fun hHeld => ?_)
         clear hK K
         refine qN 28 ?_
         refine join_ (σ := Value) 1 #[true, true, true, true, true, true, true, true, true, false] (fun s_ => [(29, .string (strOfNums t546)), (31, s_), (32, .string (strOfNums t549))]) (fun s_ w' => (w'.cell? ⟨gb536, 0, none⟩ = some (.slice A1_0 l1_0.length c1_0) ∧ w'.cell? ⟨gb536, 1, none⟩ = some (.slice A1_1 l1_1.length c1_1) ∧ w'.cell? ⟨gb536, 2, none⟩ = some (.int .u32 a1_2) ∧ w'.cell? (ad545.add ((x8_2).toNat * 3)) = some (.slice A545_0 ((rd_T45 l0 x8_2).f0).length c545_0) ∧ w'.cell? ⟨(ad545.add ((x8_2).toNat * 3)).block, (ad545.add ((x8_2).toNat * 3)).off + 1, none⟩ = some (.slice A545_1 ((rd_T45 l0 x8_2).f1).length c545_1) ∧ w'.cell? ⟨(ad545.add ((x8_2).toNat * 3)).block, (ad545.add ((x8_2).toNat * 3)).off + 2, none⟩ = some (.int .u32 ((rd_T45 l0 x8_2).f2))) ∧ (Kd.V k59 59 w' w.heap.size (fun k_ => ((P0_ k_ ∨ P1_0_ k_ ∨ P1_1_ k_) ∨ w.heap.size ≤ k_) ∧ some k_ ≠ (v547 : Value).ownBlock ∧ some k_ ≠ (s_ : Value).ownBlock ∧ some k_ ≠ (u6 : Value).ownBlock ∧ some k_ ≠ (u7 : Value).ownBlock ∧ k_ ≠ gb536) (.slice A545_0 ((rd_T45 l0 x8_2).f0).length c545_0) ((rd_T45 l0 x8_2).f0)) ∧ (Kd.V k59 59 w' w.heap.size (fun k_ => ((P0_ k_ ∨ P1_0_ k_ ∨ P1_1_ k_) ∨ w.heap.size ≤ k_) ∧ some k_ ≠ (v547 : Value).ownBlock ∧ some k_ ≠ (s_ : Value).ownBlock ∧ some k_ ≠ (u6 : Value).ownBlock ∧ some k_ ≠ (u7 : Value).ownBlock ∧ k_ ≠ gb536) (.slice A545_1 ((rd_T45 l0 x8_2).f1).length c545_1) ((rd_T45 l0 x8_2).f1)) ∧ (Kd.R (Kd.int .u8) 5 w' w.heap.size (fun k_ => (w.heap.size ≤ k_) ∧ some k_ ≠ (s_ : Value).ownBlock) v547 t546) ∧ (Kd.R (Kd.int .u8) 5 w' w.heap.size (fun k_ => (w.heap.size ≤ k_) ∧ some k_ ≠ (v547 : Value).ownBlock) s_ t549) ∧ (Kd.V k45 45 w' w.heap.size (fun k_ => ((P0_ k_ ∨ P1_0_ k_ ∨ P1_1_ k_) ∨ w.heap.size ≤ k_) ∧ some k_ ≠ (v547 : Value).ownBlock ∧ some k_ ≠ (s_ : Value).ownBlock ∧ some k_ ≠ (u6 : Value).ownBlock ∧ some k_ ≠ (u7 : Value).ownBlock ∧ k_ ≠ gb536) (.slice (some ad545) l0.length c0) l0) ∧ (Kd.V k59 59 w' w.heap.size (fun k_ => ((P0_ k_ ∨ P1_0_ k_ ∨ P1_1_ k_) ∨ w.heap.size ≤ k_) ∧ some k_ ≠ (v547 : Value).ownBlock ∧ some k_ ≠ (s_ : Value).ownBlock ∧ some k_ ≠ (u6 : Value).ownBlock ∧ some k_ ≠ (u7 : Value).ownBlock ∧ k_ ≠ gb536) (.slice A1_0 l1_0.length c1_0) l1_0) ∧ (Kd.V k59 59 w' w.heap.size (fun k_ => ((P0_ k_ ∨ P1_0_ k_ ∨ P1_1_ k_) ∨ w.heap.size ≤ k_) ∧ some k_ ≠ (v547 : Value).ownBlock ∧ some k_ ≠ (s_ : Value).ownBlock ∧ some k_ ≠ (u6 : Value).ownBlock ∧ some k_ ≠ (u7 : Value).ownBlock ∧ k_ ≠ gb536) (.slice A1_1 l1_1.length c1_1) l1_1) ∧ (Kd.N k45 45 w' w.heap.size (fun k_ => ((P0_ k_ ∨ P1_0_ k_ ∨ P1_1_ k_) ∨ w.heap.size ≤ k_) ∧ some k_ ≠ (v547 : Value).ownBlock ∧ some k_ ≠ (s_ : Value).ownBlock ∧ some k_ ≠ (u7 : Value).ownBlock ∧ k_ ≠ gb536) u6 x6_2) ∧ (Kd.N k45 45 w' w.heap.size (fun k_ => ((P0_ k_ ∨ P1_0_ k_ ∨ P1_1_ k_) ∨ w.heap.size ≤ k_) ∧ some k_ ≠ (v547 : Value).ownBlock ∧ some k_ ≠ (s_ : Value).ownBlock ∧ some k_ ≠ (u6 : Value).ownBlock ∧ k_ ≠ gb536) u7 x7_2) ∧ (w'.heap[gb536]? = some (.cells #[.slice A1_0 l1_0.length c1_0, .slice A1_1 l1_1.length c1_1, .int .u32 a1_2] 45 (0, 0))) ∧ (Below w.heap.size w w')) ?_ ?_
         rotate_left
         ·intro hCont
          refine two_ (i := 5) (j := 7) (Ni := some 29) (Nj := some 31) #[true, true, true, true, true, true, true, false, false, false] (tB 10 223) rfl rfl rfl rfl (two_of HT_.out (by kernel_rfl)) (by decide) (by decide) (fun K hK => ?_) (fun K hK => ?_)
          ·skip
           have hcv20 := own_string (P := Tryd.prog) Tryd.underlying25 Tryd.underlying5 Tryd.underlying9 (Kd.own_of_R HO548.out)
           refine value_ (w1 := ?_) (v := ?_) (by rfl) rfl ?_ ?_
           rotate_left 2
           ·go_simp
            constructor
            ·rfl
            ·rfl
           clear hcv20
           refine hK.out _ _ ⟨(kC BK536.out 0).trans rfl, (kC BK536.out 1).trans rfl, (kC BK536.out 2).trans rfl, hHeld.2.2.2.1, hHeld.2.2.2.2.1, hHeld.2.2.2.2.2⟩ (fun hHeld => ?_)
           clear hK K
           refine qN 29 ?_
           refine one_ (i := 7) (N := some 31) (tB 10 255) rfl rfl (one_of HT_.out (by kernel_rfl)) (by decide) (fun K hK => ?_)
           refine goes_ Tryd.func31 (by kernel_rfl) rfl #[.agg #[.slice A1_0 l1_0.length c1_0, .slice A1_1 l1_1.length c1_1, .int .u32 a1_2]] (by rfl) rfl rfl jZ ?_
           with_reducible refine (r21_Bytes.calls k2 _ _ l1_0 _ _ l1_1 a1_2 t549 _ ?side1 ?side2 ?side3 ?side4 A16.out).mono ?_
           (case side1 => exact jC (Kd.V_reads' HO_537000.out).2.2)
           (case side2 => exact (Kd.V_reads' HO_537000.out).2.1)
           (case side3 => exact jC (Kd.V_reads' HO_537001.out).2.2)
           (case side4 => exact (Kd.V_reads' HO_537001.out).2.1)
           rintro e w21 ⟨v550, rfl, ho0, hb⟩
           have HS3_ := (hb.cell (bL _ _ (hHeld.2.2.2.1))).trans (hHeld.2.2.2.1)
           have HS4_ := (hb.cell (bL _ _ (hHeld.2.2.2.2.1))).trans (hHeld.2.2.2.2.1)
           have HS5_ := (hb.cell (bL _ _ (hHeld.2.2.2.2.2))).trans (hHeld.2.2.2.2.2)
           refine ⟨_, rfl, ?_⟩
           have HO551 := Aside0.mk (Kd.R_lower (Kd.R_new' (Kd.R_newM (M := fun k_ => (w.heap.size ≤ k_)) ho0 (zZ (jH HB)) (fun k_ h_ => h_)) (Kd.R_lt (jR HO548))) (zZ (jH HB)))
           replace HO_0 := Aside0.mk (Kd.V_elder' (jV HO_0) (Kd.R_base ho0) hb)
           replace HO_6 := Aside0.mk (Kd.N_elder' (by (with_reducible repeat (first | apply Kd.N_alloc | apply Kd.N_drewN | apply Kd.N_drew)); exact HO_6.out) (Kd.R_base ho0) hb)
           replace HO_7 := Aside0.mk (Kd.N_elder' (by (with_reducible repeat (first | apply Kd.N_alloc | apply Kd.N_drewN | apply Kd.N_drew)); exact HO_7.out) (Kd.R_base ho0) hb)
           replace HO_537000 := Aside0.mk (Kd.V_elder' (jV HO_537000) (Kd.R_base ho0) hb)
           replace HO_537001 := Aside0.mk (Kd.V_elder' (jV HO_537001) (Kd.R_base ho0) hb)
           replace HL545_0 := Aside0.mk (Kd.V_elder' (jV HL545_0) (Kd.R_base ho0) hb)
           replace HL545_1 := Aside0.mk (Kd.V_elder' (jV HL545_1) (Kd.R_base ho0) hb)
           replace HO548 := Aside0.mk (Kd.R_elder' (jR HO548) (Kd.R_base ho0) hb)
           replace BK536 := Aside0.mk (jB BK536 hb)
           replace HR545_0 := Aside0.mk (Kd.C_below (by repeat (first | (with_reducible exact HR545_0.out) | (with_reducible refine Kd.C_alloc ?_ _) | (with_reducible refine Kd.C_drewN ?_ _) | (with_reducible refine Kd.C_drew ?_) | exact HR545_0.out)) hb)
           replace HR545_1 := Aside0.mk (Kd.C_below (by repeat (first | (with_reducible exact HR545_1.out) | (with_reducible refine Kd.C_alloc ?_ _) | (with_reducible refine Kd.C_drewN ?_ _) | (with_reducible refine Kd.C_drew ?_) | exact HR545_1.out)) hb)
           replace HB := Aside0.mk (zT (jH HB) hb)
           (try clear hb)
           (try clear hb2)
           (try clear hk)
           (try clear hi)
           (try clear ho0)
           refine hK.out _ _ ⟨(kC BK536.out 0).trans rfl, (kC BK536.out 1).trans rfl, (kC BK536.out 2).trans rfl, HS3_, HS4_, HS5_⟩ (fun hHeld => ?_)
           clear hK K
           refine qN 31 ?_
           refine one_ (i := 8) (N := some 32) (tB 10 511) rfl rfl (one_of HT_.out (by kernel_rfl)) (by decide) (fun K hK => ?_)
           have hcv22 := own_string (P := Tryd.prog) Tryd.underlying25 Tryd.underlying5 Tryd.underlying9 (Kd.own_of_R HO551.out)
           refine value_ (w1 := ?_) (v := ?_) (by rfl) rfl ?_ ?_
           rotate_left 2
           ·go_simp
            constructor
            ·rfl
            ·rfl
           clear hcv22
           refine hK.out _ _ ⟨(kC BK536.out 0).trans rfl, (kC BK536.out 1).trans rfl, (kC BK536.out 2).trans rfl, hHeld.2.2.2.1, hHeld.2.2.2.2.1, hHeld.2.2.2.2.2⟩ (fun hHeld => ?_)
           clear hK K
           refine qN 32 ?_
           exact norm_ (by simp only [putAll, Act.put, List.setIfInBounds_toArray, List.set_cons_zero, List.set_cons_succ]) (hCont (v550) _ ⟨hHeld, (by (with_reducible repeat (first | apply Kd.V_alloc | apply Kd.V_drewN | apply Kd.V_drew)); exact Kd.V_mono HL545_0.out (fun _ hk => ⟨hk.1.1.1, ⟨hk.1.2, ⟨hk.2, ⟨hk.1.1.2.1, ⟨hk.1.1.2.2.1, hk.1.1.2.2.2⟩⟩⟩⟩⟩)), (by (with_reducible repeat (first | apply Kd.V_alloc | apply Kd.V_drewN | apply Kd.V_drew)); exact Kd.V_mono HL545_1.out (fun _ hk => ⟨hk.1.1.1, ⟨hk.1.2, ⟨hk.2, ⟨hk.1.1.2.1, ⟨hk.1.1.2.2.1, hk.1.1.2.2.2⟩⟩⟩⟩⟩)), (by (with_reducible repeat (first | apply Kd.R_alloc | apply Kd.R_drewN | apply Kd.R_drew)); exact Kd.R_mono HO548.out (fun _ hk => ⟨hk.1.1, hk.2⟩)), (by (with_reducible repeat (first | apply Kd.R_alloc | apply Kd.R_drewN | apply Kd.R_drew)); exact Kd.R_mono HO551.out (fun _ hk => ⟨hk.1.1, hk.2⟩)), (by (with_reducible repeat (first | apply Kd.V_alloc | apply Kd.V_drewN | apply Kd.V_drew)); exact Kd.V_mono HO_0.out (fun _ hk => ⟨hk.1.1.1, ⟨hk.1.2, ⟨hk.2, ⟨hk.1.1.2.1, ⟨hk.1.1.2.2.1, hk.1.1.2.2.2⟩⟩⟩⟩⟩)), (by (with_reducible repeat (first | apply Kd.V_alloc | apply Kd.V_drewN | apply Kd.V_drew)); exact Kd.V_mono HO_537000.out (fun _ hk => ⟨hk.1.1.1, ⟨hk.1.2, ⟨hk.2, ⟨hk.1.1.2.1, ⟨hk.1.1.2.2.1, hk.1.1.2.2.2⟩⟩⟩⟩⟩)), (by (with_reducible repeat (first | apply Kd.V_alloc | apply Kd.V_drewN | apply Kd.V_drew)); exact Kd.V_mono HO_537001.out (fun _ hk => ⟨hk.1.1.1, ⟨hk.1.2, ⟨hk.2, ⟨hk.1.1.2.1, ⟨hk.1.1.2.2.1, hk.1.1.2.2.2⟩⟩⟩⟩⟩)), (by (with_reducible repeat (first | apply Kd.N_alloc | apply Kd.N_drewN | apply Kd.N_drew)); exact Kd.N_mono HO_6.out (fun _ hk => ⟨hk.1.1.1, ⟨hk.1.2, ⟨hk.2, ⟨hk.1.1.2.1, hk.1.1.2.2⟩⟩⟩⟩)), (by (with_reducible repeat (first | apply Kd.N_alloc | apply Kd.N_drewN | apply Kd.N_drew)); exact Kd.N_mono HO_7.out (fun _ hk => ⟨hk.1.1.1, ⟨hk.1.2, ⟨hk.2, ⟨hk.1.1.2.1, hk.1.1.2.2⟩⟩⟩⟩)), (jK BK536), (jH HB)⟩)
          ·skip
           refine goes_ Tryd.func31 (by kernel_rfl) rfl #[.agg #[.slice A1_0 l1_0.length c1_0, .slice A1_1 l1_1.length c1_1, .int .u32 a1_2]] (by rfl) rfl rfl jZ ?_
           with_reducible refine (r21_Bytes.calls k2 _ _ l1_0 _ _ l1_1 a1_2 t549 _ ?side1 ?side2 ?side3 ?side4 A16.out).mono ?_
           (case side1 => exact jC (Kd.V_reads' HO_537000.out).2.2)
           (case side2 => exact (Kd.V_reads' HO_537000.out).2.1)
           (case side3 => exact jC (Kd.V_reads' HO_537001.out).2.2)
           (case side4 => exact (Kd.V_reads' HO_537001.out).2.1)
           rintro e w20 ⟨v550, rfl, ho0, hb⟩
           have HS3_ := (hb.cell (bL _ _ (hHeld.2.2.2.1))).trans (hHeld.2.2.2.1)
           have HS4_ := (hb.cell (bL _ _ (hHeld.2.2.2.2.1))).trans (hHeld.2.2.2.2.1)
           have HS5_ := (hb.cell (bL _ _ (hHeld.2.2.2.2.2))).trans (hHeld.2.2.2.2.2)
           refine ⟨_, rfl, ?_⟩
           have HO551 := Aside0.mk (Kd.R_lower (Kd.R_new' (Kd.R_newM (M := fun k_ => (w.heap.size ≤ k_)) ho0 (zZ (jH HB)) (fun k_ h_ => h_)) (Kd.R_lt (jR HO548))) (zZ (jH HB)))
           replace HO_0 := Aside0.mk (Kd.V_elder' (jV HO_0) (Kd.R_base ho0) hb)
           replace HO_6 := Aside0.mk (Kd.N_elder' (by (with_reducible repeat (first | apply Kd.N_alloc | apply Kd.N_drewN | apply Kd.N_drew)); exact HO_6.out) (Kd.R_base ho0) hb)
           replace HO_7 := Aside0.mk (Kd.N_elder' (by (with_reducible repeat (first | apply Kd.N_alloc | apply Kd.N_drewN | apply Kd.N_drew)); exact HO_7.out) (Kd.R_base ho0) hb)
           replace HO_537000 := Aside0.mk (Kd.V_elder' (jV HO_537000) (Kd.R_base ho0) hb)
           replace HO_537001 := Aside0.mk (Kd.V_elder' (jV HO_537001) (Kd.R_base ho0) hb)
           replace HL545_0 := Aside0.mk (Kd.V_elder' (jV HL545_0) (Kd.R_base ho0) hb)
           replace HL545_1 := Aside0.mk (Kd.V_elder' (jV HL545_1) (Kd.R_base ho0) hb)
           replace HO548 := Aside0.mk (Kd.R_elder' (jR HO548) (Kd.R_base ho0) hb)
           replace BK536 := Aside0.mk (jB BK536 hb)
           replace HR545_0 := Aside0.mk (Kd.C_below (by repeat (first | (with_reducible exact HR545_0.out) | (with_reducible refine Kd.C_alloc ?_ _) | (with_reducible refine Kd.C_drewN ?_ _) | (with_reducible refine Kd.C_drew ?_) | exact HR545_0.out)) hb)
           replace HR545_1 := Aside0.mk (Kd.C_below (by repeat (first | (with_reducible exact HR545_1.out) | (with_reducible refine Kd.C_alloc ?_ _) | (with_reducible refine Kd.C_drewN ?_ _) | (with_reducible refine Kd.C_drew ?_) | exact HR545_1.out)) hb)
           replace HB := Aside0.mk (zT (jH HB) hb)
           (try clear hb)
           (try clear hb2)
           (try clear hk)
           (try clear hi)
           (try clear ho0)
           refine hK.out _ _ ⟨(kC BK536.out 0).trans rfl, (kC BK536.out 1).trans rfl, (kC BK536.out 2).trans rfl, HS3_, HS4_, HS5_⟩ (fun hHeld => ?_)
           clear hK K
           refine qN 31 ?_
           refine two_ (i := 5) (j := 8) (Ni := some 29) (Nj := some 32) #[true, true, true, true, true, true, true, true, false, false] (tB 10 479) rfl rfl rfl rfl (two_of HT_.out (by kernel_rfl)) (by decide) (by decide) (fun K hK => ?_) (fun K hK => ?_)
           ·skip
            have hcv21 := own_string (P := Tryd.prog) Tryd.underlying25 Tryd.underlying5 Tryd.underlying9 (Kd.own_of_R HO548.out)
            refine value_ (w1 := ?_) (v := ?_) (by rfl) rfl ?_ ?_
            rotate_left 2
            ·go_simp
             constructor
             ·rfl
             ·rfl
            clear hcv21
            refine hK.out _ _ ⟨(kC BK536.out 0).trans rfl, (kC BK536.out 1).trans rfl, (kC BK536.out 2).trans rfl, hHeld.2.2.2.1, hHeld.2.2.2.2.1, hHeld.2.2.2.2.2⟩ (fun hHeld => ?_)
            clear hK K
            refine qN 29 ?_
            refine one_ (i := 8) (N := some 32) (tB 10 511) rfl rfl (one_of HT_.out (by kernel_rfl)) (by decide) (fun K hK => ?_)
            have hcv22 := own_string (P := Tryd.prog) Tryd.underlying25 Tryd.underlying5 Tryd.underlying9 (Kd.own_of_R HO551.out)
            refine value_ (w1 := ?_) (v := ?_) (by rfl) rfl ?_ ?_
            rotate_left 2
            ·go_simp
             constructor
             ·rfl
             ·rfl
            clear hcv22
            refine hK.out _ _ ⟨(kC BK536.out 0).trans rfl, (kC BK536.out 1).trans rfl, (kC BK536.out 2).trans rfl, hHeld.2.2.2.1, hHeld.2.2.2.2.1, hHeld.2.2.2.2.2⟩ (fun hHeld => ?_)
            clear hK K
            refine qN 32 ?_
            exact norm_ (by simp only [putAll, Act.put, List.setIfInBounds_toArray, List.set_cons_zero, List.set_cons_succ]) (hCont (v550) _ ⟨hHeld, (by (with_reducible repeat (first | apply Kd.V_alloc | apply Kd.V_drewN | apply Kd.V_drew)); exact Kd.V_mono HL545_0.out (fun _ hk => ⟨hk.1.1.1, ⟨hk.1.2, ⟨hk.2, ⟨hk.1.1.2.1, ⟨hk.1.1.2.2.1, hk.1.1.2.2.2⟩⟩⟩⟩⟩)), (by (with_reducible repeat (first | apply Kd.V_alloc | apply Kd.V_drewN | apply Kd.V_drew)); exact Kd.V_mono HL545_1.out (fun _ hk => ⟨hk.1.1.1, ⟨hk.1.2, ⟨hk.2, ⟨hk.1.1.2.1, ⟨hk.1.1.2.2.1, hk.1.1.2.2.2⟩⟩⟩⟩⟩)), (by (with_reducible repeat (first | apply Kd.R_alloc | apply Kd.R_drewN | apply Kd.R_drew)); exact Kd.R_mono HO548.out (fun _ hk => ⟨hk.1.1, hk.2⟩)), (by (with_reducible repeat (first | apply Kd.R_alloc | apply Kd.R_drewN | apply Kd.R_drew)); exact Kd.R_mono HO551.out (fun _ hk => ⟨hk.1.1, hk.2⟩)), (by (with_reducible repeat (first | apply Kd.V_alloc | apply Kd.V_drewN | apply Kd.V_drew)); exact Kd.V_mono HO_0.out (fun _ hk => ⟨hk.1.1.1, ⟨hk.1.2, ⟨hk.2, ⟨hk.1.1.2.1, ⟨hk.1.1.2.2.1, hk.1.1.2.2.2⟩⟩⟩⟩⟩)), (by (with_reducible repeat (first | apply Kd.V_alloc | apply Kd.V_drewN | apply Kd.V_drew)); exact Kd.V_mono HO_537000.out (fun _ hk => ⟨hk.1.1.1, ⟨hk.1.2, ⟨hk.2, ⟨hk.1.1.2.1, ⟨hk.1.1.2.2.1, hk.1.1.2.2.2⟩⟩⟩⟩⟩)), (by (with_reducible repeat (first | apply Kd.V_alloc | apply Kd.V_drewN | apply Kd.V_drew)); exact Kd.V_mono HO_537001.out (fun _ hk => ⟨hk.1.1.1, ⟨hk.1.2, ⟨hk.2, ⟨hk.1.1.2.1, ⟨hk.1.1.2.2.1, hk.1.1.2.2.2⟩⟩⟩⟩⟩)), (by (with_reducible repeat (first | apply Kd.N_alloc | apply Kd.N_drewN | apply Kd.N_drew)); exact Kd.N_mono HO_6.out (fun _ hk => ⟨hk.1.1.1, ⟨hk.1.2, ⟨hk.2, ⟨hk.1.1.2.1, hk.1.1.2.2⟩⟩⟩⟩)), (by (with_reducible repeat (first | apply Kd.N_alloc | apply Kd.N_drewN | apply Kd.N_drew)); exact Kd.N_mono HO_7.out (fun _ hk => ⟨hk.1.1.1, ⟨hk.1.2, ⟨hk.2, ⟨hk.1.1.2.1, hk.1.1.2.2⟩⟩⟩⟩)), (jK BK536), (jH HB)⟩)
           ·skip
            have hcv21 := own_string (P := Tryd.prog) Tryd.underlying25 Tryd.underlying5 Tryd.underlying9 (Kd.own_of_R HO551.out)
            refine value_ (w1 := ?_) (v := ?_) (by rfl) rfl ?_ ?_
            rotate_left 2
            ·go_simp
             constructor
             ·rfl
             ·rfl
            clear hcv21
            refine hK.out _ _ ⟨(kC BK536.out 0).trans rfl, (kC BK536.out 1).trans rfl, (kC BK536.out 2).trans rfl, hHeld.2.2.2.1, hHeld.2.2.2.2.1, hHeld.2.2.2.2.2⟩ (fun hHeld => ?_)
            clear hK K
            refine qN 32 ?_
            refine one_ (i := 5) (N := some 29) (tB 10 511) rfl rfl (one_of HT_.out (by kernel_rfl)) (by decide) (fun K hK => ?_)
            have hcv22 := own_string (P := Tryd.prog) Tryd.underlying25 Tryd.underlying5 Tryd.underlying9 (Kd.own_of_R HO548.out)
            refine value_ (w1 := ?_) (v := ?_) (by rfl) rfl ?_ ?_
            rotate_left 2
            ·go_simp
             constructor
             ·rfl
             ·rfl
            clear hcv22
            refine hK.out _ _ ⟨(kC BK536.out 0).trans rfl, (kC BK536.out 1).trans rfl, (kC BK536.out 2).trans rfl, hHeld.2.2.2.1, hHeld.2.2.2.2.1, hHeld.2.2.2.2.2⟩ (fun hHeld => ?_)
            clear hK K
            refine qN 29 ?_
            exact norm_ (by simp only [putAll, Act.put, List.setIfInBounds_toArray, List.set_cons_zero, List.set_cons_succ]) (hCont (v550) _ ⟨hHeld, (by (with_reducible repeat (first | apply Kd.V_alloc | apply Kd.V_drewN | apply Kd.V_drew)); exact Kd.V_mono HL545_0.out (fun _ hk => ⟨hk.1.1.1, ⟨hk.1.2, ⟨hk.2, ⟨hk.1.1.2.1, ⟨hk.1.1.2.2.1, hk.1.1.2.2.2⟩⟩⟩⟩⟩)), (by (with_reducible repeat (first | apply Kd.V_alloc | apply Kd.V_drewN | apply Kd.V_drew)); exact Kd.V_mono HL545_1.out (fun _ hk => ⟨hk.1.1.1, ⟨hk.1.2, ⟨hk.2, ⟨hk.1.1.2.1, ⟨hk.1.1.2.2.1, hk.1.1.2.2.2⟩⟩⟩⟩⟩)), (by (with_reducible repeat (first | apply Kd.R_alloc | apply Kd.R_drewN | apply Kd.R_drew)); exact Kd.R_mono HO548.out (fun _ hk => ⟨hk.1.1, hk.2⟩)), (by (with_reducible repeat (first | apply Kd.R_alloc | apply Kd.R_drewN | apply Kd.R_drew)); exact Kd.R_mono HO551.out (fun _ hk => ⟨hk.1.1, hk.2⟩)), (by (with_reducible repeat (first | apply Kd.V_alloc | apply Kd.V_drewN | apply Kd.V_drew)); exact Kd.V_mono HO_0.out (fun _ hk => ⟨hk.1.1.1, ⟨hk.1.2, ⟨hk.2, ⟨hk.1.1.2.1, ⟨hk.1.1.2.2.1, hk.1.1.2.2.2⟩⟩⟩⟩⟩)), (by (with_reducible repeat (first | apply Kd.V_alloc | apply Kd.V_drewN | apply Kd.V_drew)); exact Kd.V_mono HO_537000.out (fun _ hk => ⟨hk.1.1.1, ⟨hk.1.2, ⟨hk.2, ⟨hk.1.1.2.1, ⟨hk.1.1.2.2.1, hk.1.1.2.2.2⟩⟩⟩⟩⟩)), (by (with_reducible repeat (first | apply Kd.V_alloc | apply Kd.V_drewN | apply Kd.V_drew)); exact Kd.V_mono HO_537001.out (fun _ hk => ⟨hk.1.1.1, ⟨hk.1.2, ⟨hk.2, ⟨hk.1.1.2.1, ⟨hk.1.1.2.2.1, hk.1.1.2.2.2⟩⟩⟩⟩⟩)), (by (with_reducible repeat (first | apply Kd.N_alloc | apply Kd.N_drewN | apply Kd.N_drew)); exact Kd.N_mono HO_6.out (fun _ hk => ⟨hk.1.1.1, ⟨hk.1.2, ⟨hk.2, ⟨hk.1.1.2.1, hk.1.1.2.2⟩⟩⟩⟩)), (by (with_reducible repeat (first | apply Kd.N_alloc | apply Kd.N_drewN | apply Kd.N_drew)); exact Kd.N_mono HO_7.out (fun _ hk => ⟨hk.1.1.1, ⟨hk.1.2, ⟨hk.2, ⟨hk.1.1.2.1, hk.1.1.2.2⟩⟩⟩⟩)), (jK BK536), (jH HB)⟩)
         rintro v550 w23 ⟨hS_, h0_, h1_, h2_, h3_, h4_, h5_, h6_, h7_, h8_, h9_, h10_⟩
         have n0_ : Aside0 (Kd.V k59 59 w23 w.heap.size (fun k_ => ((P0_ k_ ∨ P1_0_ k_ ∨ P1_1_ k_) ∨ w.heap.size ≤ k_) ∧ some k_ ≠ (v547 : Value).ownBlock ∧ some k_ ≠ (v550 : Value).ownBlock ∧ some k_ ≠ (u6 : Value).ownBlock ∧ some k_ ≠ (u7 : Value).ownBlock ∧ k_ ≠ gb536) (.slice A545_0 ((rd_T45 l0 x8_2).f0).length c545_0) ((rd_T45 l0 x8_2).f0)) := ⟨h0_⟩
         have n1_ : Aside0 (Kd.V k59 59 w23 w.heap.size (fun k_ => ((P0_ k_ ∨ P1_0_ k_ ∨ P1_1_ k_) ∨ w.heap.size ≤ k_) ∧ some k_ ≠ (v547 : Value).ownBlock ∧ some k_ ≠ (v550 : Value).ownBlock ∧ some k_ ≠ (u6 : Value).ownBlock ∧ some k_ ≠ (u7 : Value).ownBlock ∧ k_ ≠ gb536) (.slice A545_1 ((rd_T45 l0 x8_2).f1).length c545_1) ((rd_T45 l0 x8_2).f1)) := ⟨h1_⟩
         have n2_ : Aside0 (Kd.R (Kd.int .u8) 5 w23 w.heap.size (fun k_ => (w.heap.size ≤ k_) ∧ some k_ ≠ (v550 : Value).ownBlock) v547 t546) := ⟨h2_⟩
         have n3_ : Aside0 (Kd.R (Kd.int .u8) 5 w23 w.heap.size (fun k_ => (w.heap.size ≤ k_) ∧ some k_ ≠ (v547 : Value).ownBlock) v550 t549) := ⟨h3_⟩
         have n4_ : Aside0 (Kd.V k45 45 w23 w.heap.size (fun k_ => ((P0_ k_ ∨ P1_0_ k_ ∨ P1_1_ k_) ∨ w.heap.size ≤ k_) ∧ some k_ ≠ (v547 : Value).ownBlock ∧ some k_ ≠ (v550 : Value).ownBlock ∧ some k_ ≠ (u6 : Value).ownBlock ∧ some k_ ≠ (u7 : Value).ownBlock ∧ k_ ≠ gb536) (.slice (some ad545) l0.length c0) l0) := ⟨h4_⟩
         have n5_ : Aside0 (Kd.V k59 59 w23 w.heap.size (fun k_ => ((P0_ k_ ∨ P1_0_ k_ ∨ P1_1_ k_) ∨ w.heap.size ≤ k_) ∧ some k_ ≠ (v547 : Value).ownBlock ∧ some k_ ≠ (v550 : Value).ownBlock ∧ some k_ ≠ (u6 : Value).ownBlock ∧ some k_ ≠ (u7 : Value).ownBlock ∧ k_ ≠ gb536) (.slice A1_0 l1_0.length c1_0) l1_0) := ⟨h5_⟩
         have n6_ : Aside0 (Kd.V k59 59 w23 w.heap.size (fun k_ => ((P0_ k_ ∨ P1_0_ k_ ∨ P1_1_ k_) ∨ w.heap.size ≤ k_) ∧ some k_ ≠ (v547 : Value).ownBlock ∧ some k_ ≠ (v550 : Value).ownBlock ∧ some k_ ≠ (u6 : Value).ownBlock ∧ some k_ ≠ (u7 : Value).ownBlock ∧ k_ ≠ gb536) (.slice A1_1 l1_1.length c1_1) l1_1) := ⟨h6_⟩
         have n7_ : Aside0 (Kd.N k45 45 w23 w.heap.size (fun k_ => ((P0_ k_ ∨ P1_0_ k_ ∨ P1_1_ k_) ∨ w.heap.size ≤ k_) ∧ some k_ ≠ (v547 : Value).ownBlock ∧ some k_ ≠ (v550 : Value).ownBlock ∧ some k_ ≠ (u7 : Value).ownBlock ∧ k_ ≠ gb536) u6 x6_2) := ⟨h7_⟩
         have n8_ : Aside0 (Kd.N k45 45 w23 w.heap.size (fun k_ => ((P0_ k_ ∨ P1_0_ k_ ∨ P1_1_ k_) ∨ w.heap.size ≤ k_) ∧ some k_ ≠ (v547 : Value).ownBlock ∧ some k_ ≠ (v550 : Value).ownBlock ∧ some k_ ≠ (u6 : Value).ownBlock ∧ k_ ≠ gb536) u7 x7_2) := ⟨h8_⟩
         have n9_ : Aside0 (w23.heap[gb536]? = some (.cells #[.slice A1_0 l1_0.length c1_0, .slice A1_1 l1_1.length c1_1, .int .u32 a1_2] 45 (0, 0))) := ⟨h9_⟩
         have n10_ : Aside0 (Below w.heap.size w w23) := ⟨h10_⟩
         clear HO_0
         clear HO_6
         clear HO_7
         clear HO_537000
         clear HO_537001
         clear BK536
         clear HB
         clear h0_ h1_ h2_ h3_ h4_ h5_ h6_ h7_ h8_ h9_ h10_
         have HL545_0 := n0_
         have HL545_1 := n1_
         have HO548 := n2_
         have HO551 := n3_
         have HO_0 := n4_
         have HO_537000 := n5_
         have HO_537001 := n6_
         have HO_6 := n7_
         have HO_7 := n8_
         have BK536 := n9_
         have HB := n10_
         clear n0_ n1_ n2_ n3_ n4_ n5_ n6_ n7_ n8_ n9_ n10_
         have hHeld : w23.cell? ⟨gb536, 0, none⟩ = some (.slice A1_0 l1_0.length c1_0) ∧ w23.cell? ⟨gb536, 1, none⟩ = some (.slice A1_1 l1_1.length c1_1) ∧ w23.cell? ⟨gb536, 2, none⟩ = some (.int .u32 a1_2) ∧ w23.cell? (ad545.add ((x8_2).toNat * 3)) = some (.slice A545_0 ((rd_T45 l0 x8_2).f0).length c545_0) ∧ w23.cell? ⟨(ad545.add ((x8_2).toNat * 3)).block, (ad545.add ((x8_2).toNat * 3)).off + 1, none⟩ = some (.slice A545_1 ((rd_T45 l0 x8_2).f1).length c545_1) ∧ w23.cell? ⟨(ad545.add ((x8_2).toNat * 3)).block, (ad545.add ((x8_2).toNat * 3)).off + 2, none⟩ = some (.int .u32 ((rd_T45 l0 x8_2).f2)) := hS_
         refine norm_ (a' := ?_) ?_ ?_
         rotate_left
         ·simp only [putAll, Act.put, List.setIfInBounds_toArray, List.set_cons_zero, List.set_cons_succ]
          rfl
         refine qP 9 33 (tB 10 1023) ?_
         refine done_ (done_of HT_.out (by kernel_rfl)) ?_
         try go_wp2
         go_ret2
         exact ⟨_, jE, by (with_reducible repeat (first | apply Kd.V_alloc | apply Kd.V_drewN | apply Kd.V_drew)); exact Kd.V_mono HO_0.out (fun _ hk => hk.1), jH HB⟩
        ·rw [if_neg c17] at H
         have c17b0 : ((strOfNums t546).toList == (strOfNums t549).toList) = false := bF.mpr c17
         have c17b1 : ((strOfNums t546).toList != (strOfNums t549).toList) = true := nI.mpr c17
         replace H := Option.bind_eq_some_iff.mp H
         obtain ⟨t553, A240, H⟩ := H
         try dsimp only at H
         have A24 := Aside0.mk A240
         clear A240
         replace H := Option.bind_eq_some_iff.mp H
         obtain ⟨t556, A250, H⟩ := H
         try dsimp only at H
         have A25 := Aside0.mk A250
         clear A250
         replace H := Option.bind_eq_some_iff.mp H
         obtain ⟨t559, A260, H⟩ := H
         try dsimp only at H
         have A26 := Aside0.mk A260
         clear A260
         by_cases c27 : t559 = true
         ·subst c27
          rw [if_pos rfl] at H
          by_cases c28 : x6_2.length < 2513169434916
          ·rw [if_pos c28] at H
           have LMc28 := Aside0.mk c28
           clear c28
           obtain ⟨y561, hy561⟩ : ∃ y_ : List (S45), y_ = (x6_2 ++ [(⟨(rd_T45 l0 x8_2).f0, (rd_T45 l0 x8_2).f1, (rd_T45 l0 x8_2).f2⟩ : S45)]) := ⟨_, rfl⟩
           simp only [Option.bind_some, ← hy561] at H
           have Ny561 := Aside0.mk hy561
           clear hy561
           have H' := Aside0.mk H
           clear H
           try go_wp2
           replace HO_0 := Aside0.mk (Kd.V_drew HO_0.out)
           replace HO_6 := Aside0.mk (Kd.N_drew HO_6.out)
           replace HO_7 := Aside0.mk (Kd.N_drew HO_7.out)
           replace HO_537000 := Aside0.mk (Kd.V_drew HO_537000.out)
           replace HO_537001 := Aside0.mk (Kd.V_drew HO_537001.out)
           replace BK536 := Aside0.mk (kD BK536.out)
           replace HB := Aside0.mk (zD HB.out)
           have p545 : 0 ≤ (x8_2 : Int) := oD (jA)
           have q545 : x8_2 < (l0.length : Int) := oD (jA)
           obtain ⟨ad545, A545_0, c545_0, A545_1, c545_1, e545, hx545_0, hx545_1, hx545_2, hl545_0, hi545_0, hl545_1, hi545_1⟩ := at_T45 (Kd.V_reads' HO_0.out).2.2 x8_2 p545 q545
           cases e545
           obtain ⟨ce545, hce545, hMe545, hcc545⟩ := Kd.V_get HO_0.out z45 x8_2 p545 (by first | exact q545 | exact oD (jA) | (have e_ := (Kd.V_reads' HO_0.out).1; omega))
           obtain ⟨ua545_0, uc545_0, ua545_1, uc545_1, rfl, ul545_0, ge545_0, ul545_1, ge545_1⟩ := k45_openF hMe545
           have hv545_0 := hcc545 0 _ rfl
           rw [Nat.add_zero] at hv545_0
           replace hv545_0 := Option.some.inj (hv545_0.symm.trans hx545_0)
           injection hv545_0 with hva_ hvn_ hvc_
           rw [hva_] at ge545_0
           rw [hvc_] at ul545_0
           have HL545_0 := Aside0.mk (show Kd.V k59 59 _ w.heap.size _ _ ((rd_T45 l0 x8_2).f0) from Kd.V_mk ul545_0 ge545_0)
           clear hva_ hvn_ hvc_ ge545_0 ul545_0
           have hv545_1 := hcc545 1 _ rfl
           rw [add_field _ _ 1 (by omega)] at hv545_1
           replace hv545_1 := Option.some.inj (hv545_1.symm.trans hx545_1)
           injection hv545_1 with hva_ hvn_ hvc_
           rw [hva_] at ge545_1
           rw [hvc_] at ul545_1
           have HL545_1 := Aside0.mk (show Kd.V k59 59 _ w.heap.size _ _ ((rd_T45 l0 x8_2).f1) from Kd.V_mk ul545_1 ge545_1)
           clear hva_ hvn_ hvc_ ge545_1 ul545_1
           clear hcc545 hce545
           have HR545_0 := Aside0.mk hi545_0
           have HC545_0 := Aside0.mk hl545_0
           clear hi545_0 hl545_0
           have HR545_1 := Aside0.mk hi545_1
           have HC545_1 := Aside0.mk hl545_1
           clear hi545_1 hl545_1
           replace p545 := eq_true p545
           replace q545 := eq_true q545
           refine start_ (n := 10) (S := fun w' => w'.cell? ⟨gb536, 0, none⟩ = some (.slice A1_0 l1_0.length c1_0) ∧ w'.cell? ⟨gb536, 1, none⟩ = some (.slice A1_1 l1_1.length c1_1) ∧ w'.cell? ⟨gb536, 2, none⟩ = some (.int .u32 a1_2) ∧ w'.cell? (ad545.add ((x8_2).toNat * 3)) = some (.slice A545_0 ((rd_T45 l0 x8_2).f0).length c545_0) ∧ w'.cell? ⟨(ad545.add ((x8_2).toNat * 3)).block, (ad545.add ((x8_2).toNat * 3)).off + 1, none⟩ = some (.slice A545_1 ((rd_T45 l0 x8_2).f1).length c545_1) ∧ w'.cell? ⟨(ad545.add ((x8_2).toNat * 3)).block, (ad545.add ((x8_2).toNat * 3)).off + 2, none⟩ = some (.int .u32 ((rd_T45 l0 x8_2).f2))) (ds := []) #[false, false, false, false, false, false, false, false, false, false] (by kernel_rfl) rfl rfl ⟨(kC BK536.out 0).trans rfl, (kC BK536.out 1).trans rfl, (kC BK536.out 2).trans rfl, hx545_0, hx545_1, hx545_2⟩ (fun hHeld => ?_); refine with_tabW r21_Learn.tab7 r21_Learn.bits7 (fun HT_ HW_ => ?_)
           generalize wr.drew = w29 at HO_0 HO_6 HO_7 HO_537000 HO_537001 BK536 HB HL545_0 HL545_1 HR545_0 HR545_1 hx545_0 hx545_1 hx545_2 hHeld ⊢
           refine qP 0 24 (tB 10 1) ?_
           refine qP 1 25 (tB 10 3) ?_
           refine qP 2 26 (tB 10 7) ?_
           refine qT 3 27 (tB 10 15) hHeld ?_ (hv := by rintro w' ⟨s0, s1, s2, s3, s4, s5⟩; go_simp; with_reducible rfl)
           refine qT 6 30 (tB 10 79) hHeld ?_ (hv := by rintro w' ⟨s0, s1, s2, s3, s4, s5⟩; go_simp; with_reducible rfl)
           refine one_ (i := 4) (N := some 28) (tB 10 95) rfl rfl (one_of HT_.out (by kernel_rfl)) (by decide) (fun K hK => ?_)
           refine goes_ Tryd.func31 (by kernel_rfl) rfl #[.agg #[.slice A545_0 ((rd_T45 l0 x8_2).f0).length c545_0, .slice A545_1 ((rd_T45 l0 x8_2).f1).length c545_1, .int .u32 ((rd_T45 l0 x8_2).f2)]] (by rfl) rfl rfl jZ ?_
           with_reducible refine (r21_Bytes.calls k2 _ _ ((rd_T45 l0 x8_2).f0) _ _ ((rd_T45 l0 x8_2).f1) ((rd_T45 l0 x8_2).f2) t546 _ ?side1 ?side2 ?side3 ?side4 A15.out).mono ?_
           (case side1 => repeat (first | exact (by repeat (first | (with_reducible exact HR545_0.out) | (with_reducible refine Kd.C_alloc ?_ _) | (with_reducible refine Kd.C_drewN ?_ _) | (with_reducible refine Kd.C_drew ?_) | exact HR545_0.out)) | (with_reducible refine Kd.C_alloc ?_ _) | (with_reducible refine Kd.C_drewN ?_ _) | (with_reducible refine Kd.C_drew ?_)))
           (case side2 => exact HC545_0.out)
           (case side3 => repeat (first | exact (by repeat (first | (with_reducible exact HR545_1.out) | (with_reducible refine Kd.C_alloc ?_ _) | (with_reducible refine Kd.C_drewN ?_ _) | (with_reducible refine Kd.C_drew ?_) | exact HR545_1.out)) | (with_reducible refine Kd.C_alloc ?_ _) | (with_reducible refine Kd.C_drewN ?_ _) | (with_reducible refine Kd.C_drew ?_)))
           (case side4 => exact HC545_1.out)
           rintro e w30 ⟨v547, rfl, ho0, hb⟩
           have HS3_ := (hb.cell (bL _ _ (hHeld.2.2.2.1))).trans (hHeld.2.2.2.1)
           have HS4_ := (hb.cell (bL _ _ (hHeld.2.2.2.2.1))).trans (hHeld.2.2.2.2.1)
           have HS5_ := (hb.cell (bL _ _ (hHeld.2.2.2.2.2))).trans (hHeld.2.2.2.2.2)
           refine ⟨_, rfl, ?_⟩
           have HO548 := Aside0.mk (Kd.R_lower (Kd.R_newM (M := fun k_ => (w.heap.size ≤ k_)) ho0 (zZ (jH HB)) (fun k_ h_ => h_)) (zZ (jH HB)))
           replace HO_0 := Aside0.mk (Kd.V_elder' (jV HO_0) (Kd.R_base ho0) hb)
           replace HO_6 := Aside0.mk (Kd.N_elder' (by (with_reducible repeat (first | apply Kd.N_alloc | apply Kd.N_drewN | apply Kd.N_drew)); exact HO_6.out) (Kd.R_base ho0) hb)
           replace HO_7 := Aside0.mk (Kd.N_elder' (by (with_reducible repeat (first | apply Kd.N_alloc | apply Kd.N_drewN | apply Kd.N_drew)); exact HO_7.out) (Kd.R_base ho0) hb)
           replace HO_537000 := Aside0.mk (Kd.V_elder' (jV HO_537000) (Kd.R_base ho0) hb)
           replace HO_537001 := Aside0.mk (Kd.V_elder' (jV HO_537001) (Kd.R_base ho0) hb)
           replace HL545_0 := Aside0.mk (Kd.V_elder' (jV HL545_0) (Kd.R_base ho0) hb)
           replace HL545_1 := Aside0.mk (Kd.V_elder' (jV HL545_1) (Kd.R_base ho0) hb)
           replace BK536 := Aside0.mk (jB BK536 hb)
           replace HR545_0 := Aside0.mk (Kd.C_below (by repeat (first | (with_reducible exact HR545_0.out) | (with_reducible refine Kd.C_alloc ?_ _) | (with_reducible refine Kd.C_drewN ?_ _) | (with_reducible refine Kd.C_drew ?_) | exact HR545_0.out)) hb)
           replace HR545_1 := Aside0.mk (Kd.C_below (by repeat (first | (with_reducible exact HR545_1.out) | (with_reducible refine Kd.C_alloc ?_ _) | (with_reducible refine Kd.C_drewN ?_ _) | (with_reducible refine Kd.C_drew ?_) | exact HR545_1.out)) hb)
           replace HB := Aside0.mk (zT (jH HB) hb)
           (try clear hb)
           (try clear hb2)
           (try clear hk)
           (try clear hi)
           (try clear ho0)
           refine hK.out _ _ ⟨(kC BK536.out 0).trans rfl, (kC BK536.out 1).trans rfl, (kC BK536.out 2).trans rfl, HS3_, HS4_, HS5_⟩ (fun hHeld => ?_)
           clear hK K
           refine qN 28 ?_
           refine join_ (σ := Value) 1 #[true, true, true, true, true, true, true, true, true, false] (fun s_ => [(29, .string (strOfNums t546)), (31, s_), (32, .string (strOfNums t549))]) (fun s_ w' => (w'.cell? ⟨gb536, 0, none⟩ = some (.slice A1_0 l1_0.length c1_0) ∧ w'.cell? ⟨gb536, 1, none⟩ = some (.slice A1_1 l1_1.length c1_1) ∧ w'.cell? ⟨gb536, 2, none⟩ = some (.int .u32 a1_2) ∧ w'.cell? (ad545.add ((x8_2).toNat * 3)) = some (.slice A545_0 ((rd_T45 l0 x8_2).f0).length c545_0) ∧ w'.cell? ⟨(ad545.add ((x8_2).toNat * 3)).block, (ad545.add ((x8_2).toNat * 3)).off + 1, none⟩ = some (.slice A545_1 ((rd_T45 l0 x8_2).f1).length c545_1) ∧ w'.cell? ⟨(ad545.add ((x8_2).toNat * 3)).block, (ad545.add ((x8_2).toNat * 3)).off + 2, none⟩ = some (.int .u32 ((rd_T45 l0 x8_2).f2))) ∧ (Kd.V k59 59 w' w.heap.size (fun k_ => ((P0_ k_ ∨ P1_0_ k_ ∨ P1_1_ k_) ∨ w.heap.size ≤ k_) ∧ some k_ ≠ (v547 : Value).ownBlock ∧ some k_ ≠ (s_ : Value).ownBlock ∧ some k_ ≠ (u6 : Value).ownBlock ∧ some k_ ≠ (u7 : Value).ownBlock ∧ k_ ≠ gb536) (.slice A545_0 ((rd_T45 l0 x8_2).f0).length c545_0) ((rd_T45 l0 x8_2).f0)) ∧ (Kd.V k59 59 w' w.heap.size (fun k_ => ((P0_ k_ ∨ P1_0_ k_ ∨ P1_1_ k_) ∨ w.heap.size ≤ k_) ∧ some k_ ≠ (v547 : Value).ownBlock ∧ some k_ ≠ (s_ : Value).ownBlock ∧ some k_ ≠ (u6 : Value).ownBlock ∧ some k_ ≠ (u7 : Value).ownBlock ∧ k_ ≠ gb536) (.slice A545_1 ((rd_T45 l0 x8_2).f1).length c545_1) ((rd_T45 l0 x8_2).f1)) ∧ (Kd.R (Kd.int .u8) 5 w' w.heap.size (fun k_ => (w.heap.size ≤ k_) ∧ some k_ ≠ (s_ : Value).ownBlock) v547 t546) ∧ (Kd.R (Kd.int .u8) 5 w' w.heap.size (fun k_ => (w.heap.size ≤ k_) ∧ some k_ ≠ (v547 : Value).ownBlock) s_ t549) ∧ (Kd.V k45 45 w' w.heap.size (fun k_ => ((P0_ k_ ∨ P1_0_ k_ ∨ P1_1_ k_) ∨ w.heap.size ≤ k_) ∧ some k_ ≠ (v547 : Value).ownBlock ∧ some k_ ≠ (s_ : Value).ownBlock ∧ some k_ ≠ (u6 : Value).ownBlock ∧ some k_ ≠ (u7 : Value).ownBlock ∧ k_ ≠ gb536) (.slice (some ad545) l0.length c0) l0) ∧ (Kd.V k59 59 w' w.heap.size (fun k_ => ((P0_ k_ ∨ P1_0_ k_ ∨ P1_1_ k_) ∨ w.heap.size ≤ k_) ∧ some k_ ≠ (v547 : Value).ownBlock ∧ some k_ ≠ (s_ : Value).ownBlock ∧ some k_ ≠ (u6 : Value).ownBlock ∧ some k_ ≠ (u7 : Value).ownBlock ∧ k_ ≠ gb536) (.slice A1_0 l1_0.length c1_0) l1_0) ∧ (Kd.V k59 59 w' w.heap.size (fun k_ => ((P0_ k_ ∨ P1_0_ k_ ∨ P1_1_ k_) ∨ w.heap.size ≤ k_) ∧ some k_ ≠ (v547 : Value).ownBlock ∧ some k_ ≠ (s_ : Value).ownBlock ∧ some k_ ≠ (u6 : Value).ownBlock ∧ some k_ ≠ (u7 : Value).ownBlock ∧ k_ ≠ gb536) (.slice A1_1 l1_1.length c1_1) l1_1) ∧ (Kd.N k45 45 w' w.heap.size (fun k_ => ((P0_ k_ ∨ P1_0_ k_ ∨ P1_1_ k_) ∨ w.heap.size ≤ k_) ∧ some k_ ≠ (v547 : Value).ownBlock ∧ some k_ ≠ (s_ : Value).ownBlock ∧ some k_ ≠ (u7 : Value).ownBlock ∧ k_ ≠ gb536) u6 x6_2) ∧ (Kd.N k45 45 w' w.heap.size (fun k_ => ((P0_ k_ ∨ P1_0_ k_ ∨ P1_1_ k_) ∨ w.heap.size ≤ k_) ∧ some k_ ≠ (v547 : Value).ownBlock ∧ some k_ ≠ (s_ : Value).ownBlock ∧ some k_ ≠ (u6 : Value).ownBlock ∧ k_ ≠ gb536) u7 x7_2) ∧ (w'.heap[gb536]? = some (.cells #[.slice A1_0 l1_0.length c1_0, .slice A1_1 l1_1.length c1_1, .int .u32 a1_2] 45 (0, 0))) ∧ (Below w.heap.size w w')) ?_ ?_
           rotate_left
           ·intro hCont
            refine two_ (i := 5) (j := 7) (Ni := some 29) (Nj := some 31) #[true, true, true, true, true, true, true, false, false, false] (tB 10 223) rfl rfl rfl rfl (two_of HT_.out (by kernel_rfl)) (by decide) (by decide) (fun K hK => ?_) (fun K hK => ?_)
            ·skip
             have hcv31 := own_string (P := Tryd.prog) Tryd.underlying25 Tryd.underlying5 Tryd.underlying9 (Kd.own_of_R HO548.out)
             refine value_ (w1 := ?_) (v := ?_) (by rfl) rfl ?_ ?_
             rotate_left 2
             ·go_simp
              constructor
              ·rfl
              ·rfl
             clear hcv31
             refine hK.out _ _ ⟨(kC BK536.out 0).trans rfl, (kC BK536.out 1).trans rfl, (kC BK536.out 2).trans rfl, hHeld.2.2.2.1, hHeld.2.2.2.2.1, hHeld.2.2.2.2.2⟩ (fun hHeld => ?_)
             clear hK K
             refine qN 29 ?_
             refine one_ (i := 7) (N := some 31) (tB 10 255) rfl rfl (one_of HT_.out (by kernel_rfl)) (by decide) (fun K hK => ?_)
             refine goes_ Tryd.func31 (by kernel_rfl) rfl #[.agg #[.slice A1_0 l1_0.length c1_0, .slice A1_1 l1_1.length c1_1, .int .u32 a1_2]] (by rfl) rfl rfl jZ ?_
             with_reducible refine (r21_Bytes.calls k2 _ _ l1_0 _ _ l1_1 a1_2 t549 _ ?side1 ?side2 ?side3 ?side4 A16.out).mono ?_
             (case side1 => exact jC (Kd.V_reads' HO_537000.out).2.2)
             (case side2 => exact (Kd.V_reads' HO_537000.out).2.1)
             (case side3 => exact jC (Kd.V_reads' HO_537001.out).2.2)
             (case side4 => exact (Kd.V_reads' HO_537001.out).2.1)
             rintro e w32 ⟨v550, rfl, ho0, hb⟩
             have HS3_ := (hb.cell (bL _ _ (hHeld.2.2.2.1))).trans (hHeld.2.2.2.1)
             have HS4_ := (hb.cell (bL _ _ (hHeld.2.2.2.2.1))).trans (hHeld.2.2.2.2.1)
             have HS5_ := (hb.cell (bL _ _ (hHeld.2.2.2.2.2))).trans (hHeld.2.2.2.2.2)
             refine ⟨_, rfl, ?_⟩
             have HO551 := Aside0.mk (Kd.R_lower (Kd.R_new' (Kd.R_newM (M := fun k_ => (w.heap.size ≤ k_)) ho0 (zZ (jH HB)) (fun k_ h_ => h_)) (Kd.R_lt (jR HO548))) (zZ (jH HB)))
             replace HO_0 := Aside0.mk (Kd.V_elder' (jV HO_0) (Kd.R_base ho0) hb)
             replace HO_6 := Aside0.mk (Kd.N_elder' (by (with_reducible repeat (first | apply Kd.N_alloc | apply Kd.N_drewN | apply Kd.N_drew)); exact HO_6.out) (Kd.R_base ho0) hb)
             replace HO_7 := Aside0.mk (Kd.N_elder' (by (with_reducible repeat (first | apply Kd.N_alloc | apply Kd.N_drewN | apply Kd.N_drew)); exact HO_7.out) (Kd.R_base ho0) hb)
             replace HO_537000 := Aside0.mk (Kd.V_elder' (jV HO_537000) (Kd.R_base ho0) hb)
             replace HO_537001 := Aside0.mk (Kd.V_elder' (jV HO_537001) (Kd.R_base ho0) hb)
             replace HL545_0 := Aside0.mk (Kd.V_elder' (jV HL545_0) (Kd.R_base ho0) hb)
             replace HL545_1 := Aside0.mk (Kd.V_elder' (jV HL545_1) (Kd.R_base ho0) hb)
             replace HO548 := Aside0.mk (Kd.R_elder' (jR HO548) (Kd.R_base ho0) hb)
             replace BK536 := Aside0.mk (jB BK536 hb)
             replace HR545_0 := Aside0.mk (Kd.C_below (by repeat (first | (with_reducible exact HR545_0.out) | (with_reducible refine Kd.C_alloc ?_ _) | (with_reducible refine Kd.C_drewN ?_ _) | (with_reducible refine Kd.C_drew ?_) | exact HR545_0.out)) hb)
             replace HR545_1 := Aside0.mk (Kd.C_below (by repeat (first | (with_reducible exact HR545_1.out) | (with_reducible refine Kd.C_alloc ?_ _) | (with_reducible refine Kd.C_drewN ?_ _) | (with_reducible refine Kd.C_drew ?_) | exact HR545_1.out)) hb)
             replace HB := Aside0.mk (zT (jH HB) hb)
             (try clear hb)
             (try clear hb2)
             (try clear hk)
             (try clear hi)
             (try clear ho0)
             refine hK.out _ _ ⟨(kC BK536.out 0).trans rfl, (kC BK536.out 1).trans rfl, (kC BK536.out 2).trans rfl, HS3_, HS4_, HS5_⟩ (fun hHeld => ?_)
             clear hK K
             refine qN 31 ?_
             refine one_ (i := 8) (N := some 32) (tB 10 511) rfl rfl (one_of HT_.out (by kernel_rfl)) (by decide) (fun K hK => ?_)
             have hcv33 := own_string (P := Tryd.prog) Tryd.underlying25 Tryd.underlying5 Tryd.underlying9 (Kd.own_of_R HO551.out)
             refine value_ (w1 := ?_) (v := ?_) (by rfl) rfl ?_ ?_
             rotate_left 2
             ·go_simp
              constructor
              ·rfl
              ·rfl
             clear hcv33
             refine hK.out _ _ ⟨(kC BK536.out 0).trans rfl, (kC BK536.out 1).trans rfl, (kC BK536.out 2).trans rfl, hHeld.2.2.2.1, hHeld.2.2.2.2.1, hHeld.2.2.2.2.2⟩ (fun hHeld => ?_)
             clear hK K
             refine qN 32 ?_
             exact norm_ (by simp only [putAll, Act.put, List.setIfInBounds_toArray, List.set_cons_zero, List.set_cons_succ]) (hCont (v550) _ ⟨hHeld, (by (with_reducible repeat (first | apply Kd.V_alloc | apply Kd.V_drewN | apply Kd.V_drew)); exact Kd.V_mono HL545_0.out (fun _ hk => ⟨hk.1.1.1, ⟨hk.1.2, ⟨hk.2, ⟨hk.1.1.2.1, ⟨hk.1.1.2.2.1, hk.1.1.2.2.2⟩⟩⟩⟩⟩)), (by (with_reducible repeat (first | apply Kd.V_alloc | apply Kd.V_drewN | apply Kd.V_drew)); exact Kd.V_mono HL545_1.out (fun _ hk => ⟨hk.1.1.1, ⟨hk.1.2, ⟨hk.2, ⟨hk.1.1.2.1, ⟨hk.1.1.2.2.1, hk.1.1.2.2.2⟩⟩⟩⟩⟩)), (by (with_reducible repeat (first | apply Kd.R_alloc | apply Kd.R_drewN | apply Kd.R_drew)); exact Kd.R_mono HO548.out (fun _ hk => ⟨hk.1.1, hk.2⟩)), (by (with_reducible repeat (first | apply Kd.R_alloc | apply Kd.R_drewN | apply Kd.R_drew)); exact Kd.R_mono HO551.out (fun _ hk => ⟨hk.1.1, hk.2⟩)), (by (with_reducible repeat (first | apply Kd.V_alloc | apply Kd.V_drewN | apply Kd.V_drew)); exact Kd.V_mono HO_0.out (fun _ hk => ⟨hk.1.1.1, ⟨hk.1.2, ⟨hk.2, ⟨hk.1.1.2.1, ⟨hk.1.1.2.2.1, hk.1.1.2.2.2⟩⟩⟩⟩⟩)), (by (with_reducible repeat (first | apply Kd.V_alloc | apply Kd.V_drewN | apply Kd.V_drew)); exact Kd.V_mono HO_537000.out (fun _ hk => ⟨hk.1.1.1, ⟨hk.1.2, ⟨hk.2, ⟨hk.1.1.2.1, ⟨hk.1.1.2.2.1, hk.1.1.2.2.2⟩⟩⟩⟩⟩)), (by (with_reducible repeat (first | apply Kd.V_alloc | apply Kd.V_drewN | apply Kd.V_drew)); exact Kd.V_mono HO_537001.out (fun _ hk => ⟨hk.1.1.1, ⟨hk.1.2, ⟨hk.2, ⟨hk.1.1.2.1, ⟨hk.1.1.2.2.1, hk.1.1.2.2.2⟩⟩⟩⟩⟩)), (by (with_reducible repeat (first | apply Kd.N_alloc | apply Kd.N_drewN | apply Kd.N_drew)); exact Kd.N_mono HO_6.out (fun _ hk => ⟨hk.1.1.1, ⟨hk.1.2, ⟨hk.2, ⟨hk.1.1.2.1, hk.1.1.2.2⟩⟩⟩⟩)), (by (with_reducible repeat (first | apply Kd.N_alloc | apply Kd.N_drewN | apply Kd.N_drew)); exact Kd.N_mono HO_7.out (fun _ hk => ⟨hk.1.1.1, ⟨hk.1.2, ⟨hk.2, ⟨hk.1.1.2.1, hk.1.1.2.2⟩⟩⟩⟩)), (jK BK536), (jH HB)⟩)
            ·skip
             refine goes_ Tryd.func31 (by kernel_rfl) rfl #[.agg #[.slice A1_0 l1_0.length c1_0, .slice A1_1 l1_1.length c1_1, .int .u32 a1_2]] (by rfl) rfl rfl jZ ?_
             with_reducible refine (r21_Bytes.calls k2 _ _ l1_0 _ _ l1_1 a1_2 t549 _ ?side1 ?side2 ?side3 ?side4 A16.out).mono ?_
             (case side1 => exact jC (Kd.V_reads' HO_537000.out).2.2)
             (case side2 => exact (Kd.V_reads' HO_537000.out).2.1)
             (case side3 => exact jC (Kd.V_reads' HO_537001.out).2.2)
             (case side4 => exact (Kd.V_reads' HO_537001.out).2.1)
             rintro e w31 ⟨v550, rfl, ho0, hb⟩
             have HS3_ := (hb.cell (bL _ _ (hHeld.2.2.2.1))).trans (hHeld.2.2.2.1)
             have HS4_ := (hb.cell (bL _ _ (hHeld.2.2.2.2.1))).trans (hHeld.2.2.2.2.1)
             have HS5_ := (hb.cell (bL _ _ (hHeld.2.2.2.2.2))).trans (hHeld.2.2.2.2.2)
             refine ⟨_, rfl, ?_⟩
             have HO551 := Aside0.mk (Kd.R_lower (Kd.R_new' (Kd.R_newM (M := fun k_ => (w.heap.size ≤ k_)) ho0 (zZ (jH HB)) (fun k_ h_ => h_)) (Kd.R_lt (jR HO548))) (zZ (jH HB)))
             replace HO_0 := Aside0.mk (Kd.V_elder' (jV HO_0) (Kd.R_base ho0) hb)
             replace HO_6 := Aside0.mk (Kd.N_elder' (by (with_reducible repeat (first | apply Kd.N_alloc | apply Kd.N_drewN | apply Kd.N_drew)); exact HO_6.out) (Kd.R_base ho0) hb)
             replace HO_7 := Aside0.mk (Kd.N_elder' (by (with_reducible repeat (first | apply Kd.N_alloc | apply Kd.N_drewN | apply Kd.N_drew)); exact HO_7.out) (Kd.R_base ho0) hb)
             replace HO_537000 := Aside0.mk (Kd.V_elder' (jV HO_537000) (Kd.R_base ho0) hb)
             replace HO_537001 := Aside0.mk (Kd.V_elder' (jV HO_537001) (Kd.R_base ho0) hb)
             replace HL545_0 := Aside0.mk (Kd.V_elder' (jV HL545_0) (Kd.R_base ho0) hb)
             replace HL545_1 := Aside0.mk (Kd.V_elder' (jV HL545_1) (Kd.R_base ho0) hb)
             replace HO548 := Aside0.mk (Kd.R_elder' (jR HO548) (Kd.R_base ho0) hb)
             replace BK536 := Aside0.mk (jB BK536 hb)
             replace HR545_0 := Aside0.mk (Kd.C_below (by repeat (first | (with_reducible exact HR545_0.out) | (with_reducible refine Kd.C_alloc ?_ _) | (with_reducible refine Kd.C_drewN ?_ _) | (with_reducible refine Kd.C_drew ?_) | exact HR545_0.out)) hb)
             replace HR545_1 := Aside0.mk (Kd.C_below (by repeat (first | (with_reducible exact HR545_1.out) | (with_reducible refine Kd.C_alloc ?_ _) | (with_reducible refine Kd.C_drewN ?_ _) | (with_reducible refine Kd.C_drew ?_) | exact HR545_1.out)) hb)
             replace HB := Aside0.mk (zT (jH HB) hb)
             (try clear hb)
             (try clear hb2)
             (try clear hk)
             (try clear hi)
             (try clear ho0)
             refine hK.out _ _ ⟨(kC BK536.out 0).trans rfl, (kC BK536.out 1).trans rfl, (kC BK536.out 2).trans rfl, HS3_, HS4_, HS5_⟩ (fun hHeld => ?_)
             clear hK K
             refine qN 31 ?_
             refine two_ (i := 5) (j := 8) (Ni := some 29) (Nj := some 32) #[true, true, true, true, true, true, true, true, false, false] (tB 10 479) rfl rfl rfl rfl (two_of HT_.out (by kernel_rfl)) (by decide) (by decide) (fun K hK => ?_) (fun K hK => ?_)
             ·skip
              have hcv32 := own_string (P := Tryd.prog) Tryd.underlying25 Tryd.underlying5 Tryd.underlying9 (Kd.own_of_R HO548.out)
              refine value_ (w1 := ?_) (v := ?_) (by rfl) rfl ?_ ?_
              rotate_left 2
              ·go_simp
               constructor
               ·rfl
               ·rfl
              clear hcv32
              refine hK.out _ _ ⟨(kC BK536.out 0).trans rfl, (kC BK536.out 1).trans rfl, (kC BK536.out 2).trans rfl, hHeld.2.2.2.1, hHeld.2.2.2.2.1, hHeld.2.2.2.2.2⟩ (fun hHeld => ?_)
              clear hK K
              refine qN 29 ?_
              refine one_ (i := 8) (N := some 32) (tB 10 511) rfl rfl (one_of HT_.out (by kernel_rfl)) (by decide) (fun K hK => ?_)
              have hcv33 := own_string (P := Tryd.prog) Tryd.underlying25 Tryd.underlying5 Tryd.underlying9 (Kd.own_of_R HO551.out)
              refine value_ (w1 := ?_) (v := ?_) (by rfl) rfl ?_ ?_
              rotate_left 2
              ·go_simp
               constructor
               ·rfl
               ·rfl
              clear hcv33
              refine hK.out _ _ ⟨(kC BK536.out 0).trans rfl, (kC BK536.out 1).trans rfl, (kC BK536.out 2).trans rfl, hHeld.2.2.2.1, hHeld.2.2.2.2.1, hHeld.2.2.2.2.2⟩ (fun hHeld => ?_)
              clear hK K
              refine qN 32 ?_
              exact norm_ (by simp only [putAll, Act.put, List.setIfInBounds_toArray, List.set_cons_zero, List.set_cons_succ]) (hCont (v550) _ ⟨hHeld, (by (with_reducible repeat (first | apply Kd.V_alloc | apply Kd.V_drewN | apply Kd.V_drew)); exact Kd.V_mono HL545_0.out (fun _ hk => ⟨hk.1.1.1, ⟨hk.1.2, ⟨hk.2, ⟨hk.1.1.2.1, ⟨hk.1.1.2.2.1, hk.1.1.2.2.2⟩⟩⟩⟩⟩)), (by (with_reducible repeat (first | apply Kd.V_alloc | apply Kd.V_drewN | apply Kd.V_drew)); exact Kd.V_mono HL545_1.out (fun _ hk => ⟨hk.1.1.1, ⟨hk.1.2, ⟨hk.2, ⟨hk.1.1.2.1, ⟨hk.1.1.2.2.1, hk.1.1.2.2.2⟩⟩⟩⟩⟩)), (by (with_reducible repeat (first | apply Kd.R_alloc | apply Kd.R_drewN | apply Kd.R_drew)); exact Kd.R_mono HO548.out (fun _ hk => ⟨hk.1.1, hk.2⟩)), (by (with_reducible repeat (first | apply Kd.R_alloc | apply Kd.R_drewN | apply Kd.R_drew)); exact Kd.R_mono HO551.out (fun _ hk => ⟨hk.1.1, hk.2⟩)), (by (with_reducible repeat (first | apply Kd.V_alloc | apply Kd.V_drewN | apply Kd.V_drew)); exact Kd.V_mono HO_0.out (fun _ hk => ⟨hk.1.1.1, ⟨hk.1.2, ⟨hk.2, ⟨hk.1.1.2.1, ⟨hk.1.1.2.2.1, hk.1.1.2.2.2⟩⟩⟩⟩⟩)), (by (with_reducible repeat (first | apply Kd.V_alloc | apply Kd.V_drewN | apply Kd.V_drew)); exact Kd.V_mono HO_537000.out (fun _ hk => ⟨hk.1.1.1, ⟨hk.1.2, ⟨hk.2, ⟨hk.1.1.2.1, ⟨hk.1.1.2.2.1, hk.1.1.2.2.2⟩⟩⟩⟩⟩)), (by (with_reducible repeat (first | apply Kd.V_alloc | apply Kd.V_drewN | apply Kd.V_drew)); exact Kd.V_mono HO_537001.out (fun _ hk => ⟨hk.1.1.1, ⟨hk.1.2, ⟨hk.2, ⟨hk.1.1.2.1, ⟨hk.1.1.2.2.1, hk.1.1.2.2.2⟩⟩⟩⟩⟩)), (by (with_reducible repeat (first | apply Kd.N_alloc | apply Kd.N_drewN | apply Kd.N_drew)); exact Kd.N_mono HO_6.out (fun _ hk => ⟨hk.1.1.1, ⟨hk.1.2, ⟨hk.2, ⟨hk.1.1.2.1, hk.1.1.2.2⟩⟩⟩⟩)), (by (with_reducible repeat (first | apply Kd.N_alloc | apply Kd.N_drewN | apply Kd.N_drew)); exact Kd.N_mono HO_7.out (fun _ hk => ⟨hk.1.1.1, ⟨hk.1.2, ⟨hk.2, ⟨hk.1.1.2.1, hk.1.1.2.2⟩⟩⟩⟩)), (jK BK536), (jH HB)⟩)
             ·skip
              have hcv32 := own_string (P := Tryd.prog) Tryd.underlying25 Tryd.underlying5 Tryd.underlying9 (Kd.own_of_R HO551.out)
              refine value_ (w1 := ?_) (v := ?_) (by rfl) rfl ?_ ?_
              rotate_left 2
              ·go_simp
               constructor
               ·rfl
               ·rfl
              clear hcv32
              refine hK.out _ _ ⟨(kC BK536.out 0).trans rfl, (kC BK536.out 1).trans rfl, (kC BK536.out 2).trans rfl, hHeld.2.2.2.1, hHeld.2.2.2.2.1, hHeld.2.2.2.2.2⟩ (fun hHeld => ?_)
              clear hK K
              refine qN 32 ?_
              refine one_ (i := 5) (N := some 29) (tB 10 511) rfl rfl (one_of HT_.out (by kernel_rfl)) (by decide) (fun K hK => ?_)
              have hcv33 := own_string (P := Tryd.prog) Tryd.underlying25 Tryd.underlying5 Tryd.underlying9 (Kd.own_of_R HO548.out)
              refine value_ (w1 := ?_) (v := ?_) (by rfl) rfl ?_ ?_
              rotate_left 2
              ·go_simp
               constructor
               ·rfl
               ·rfl
              clear hcv33
              refine hK.out _ _ ⟨(kC BK536.out 0).trans rfl, (kC BK536.out 1).trans rfl, (kC BK536.out 2).trans rfl, hHeld.2.2.2.1, hHeld.2.2.2.2.1, hHeld.2.2.2.2.2⟩ (fun hHeld => ?_)
              clear hK K
              refine qN 29 ?_
              exact norm_ (by simp only [putAll, Act.put, List.setIfInBounds_toArray, List.set_cons_zero, List.set_cons_succ]) (hCont (v550) _ ⟨hHeld, (by (with_reducible repeat (first | apply Kd.V_alloc | apply Kd.V_drewN | apply Kd.V_drew)); exact Kd.V_mono HL545_0.out (fun _ hk => ⟨hk.1.1.1, ⟨hk.1.2, ⟨hk.2, ⟨hk.1.1.2.1, ⟨hk.1.1.2.2.1, hk.1.1.2.2.2⟩⟩⟩⟩⟩)), (by (with_reducible repeat (first | apply Kd.V_alloc | apply Kd.V_drewN | apply Kd.V_drew)); exact Kd.V_mono HL545_1.out (fun _ hk => ⟨hk.1.1.1, ⟨hk.1.2, ⟨hk.2, ⟨hk.1.1.2.1, ⟨hk.1.1.2.2.1, hk.1.1.2.2.2⟩⟩⟩⟩⟩)), (by (with_reducible repeat (first | apply Kd.R_alloc | apply Kd.R_drewN | apply Kd.R_drew)); exact Kd.R_mono HO548.out (fun _ hk => ⟨hk.1.1, hk.2⟩)), (by (with_reducible repeat (first | apply Kd.R_alloc | apply Kd.R_drewN | apply Kd.R_drew)); exact Kd.R_mono HO551.out (fun _ hk => ⟨hk.1.1, hk.2⟩)), (by (with_reducible repeat (first | apply Kd.V_alloc | apply Kd.V_drewN | apply Kd.V_drew)); exact Kd.V_mono HO_0.out (fun _ hk => ⟨hk.1.1.1, ⟨hk.1.2, ⟨hk.2, ⟨hk.1.1.2.1, ⟨hk.1.1.2.2.1, hk.1.1.2.2.2⟩⟩⟩⟩⟩)), (by (with_reducible repeat (first | apply Kd.V_alloc | apply Kd.V_drewN | apply Kd.V_drew)); exact Kd.V_mono HO_537000.out (fun _ hk => ⟨hk.1.1.1, ⟨hk.1.2, ⟨hk.2, ⟨hk.1.1.2.1, ⟨hk.1.1.2.2.1, hk.1.1.2.2.2⟩⟩⟩⟩⟩)), (by (with_reducible repeat (first | apply Kd.V_alloc | apply Kd.V_drewN | apply Kd.V_drew)); exact Kd.V_mono HO_537001.out (fun _ hk => ⟨hk.1.1.1, ⟨hk.1.2, ⟨hk.2, ⟨hk.1.1.2.1, ⟨hk.1.1.2.2.1, hk.1.1.2.2.2⟩⟩⟩⟩⟩)), (by (with_reducible repeat (first | apply Kd.N_alloc | apply Kd.N_drewN | apply Kd.N_drew)); exact Kd.N_mono HO_6.out (fun _ hk => ⟨hk.1.1.1, ⟨hk.1.2, ⟨hk.2, ⟨hk.1.1.2.1, hk.1.1.2.2⟩⟩⟩⟩)), (by (with_reducible repeat (first | apply Kd.N_alloc | apply Kd.N_drewN | apply Kd.N_drew)); exact Kd.N_mono HO_7.out (fun _ hk => ⟨hk.1.1.1, ⟨hk.1.2, ⟨hk.2, ⟨hk.1.1.2.1, hk.1.1.2.2⟩⟩⟩⟩)), (jK BK536), (jH HB)⟩)
           rintro v550 w34 ⟨hS_, h0_, h1_, h2_, h3_, h4_, h5_, h6_, h7_, h8_, h9_, h10_⟩
           have n0_ : Aside0 (Kd.V k59 59 w34 w.heap.size (fun k_ => ((P0_ k_ ∨ P1_0_ k_ ∨ P1_1_ k_) ∨ w.heap.size ≤ k_) ∧ some k_ ≠ (v547 : Value).ownBlock ∧ some k_ ≠ (v550 : Value).ownBlock ∧ some k_ ≠ (u6 : Value).ownBlock ∧ some k_ ≠ (u7 : Value).ownBlock ∧ k_ ≠ gb536) (.slice A545_0 ((rd_T45 l0 x8_2).f0).length c545_0) ((rd_T45 l0 x8_2).f0)) := ⟨h0_⟩
           have n1_ : Aside0 (Kd.V k59 59 w34 w.heap.size (fun k_ => ((P0_ k_ ∨ P1_0_ k_ ∨ P1_1_ k_) ∨ w.heap.size ≤ k_) ∧ some k_ ≠ (v547 : Value).ownBlock ∧ some k_ ≠ (v550 : Value).ownBlock ∧ some k_ ≠ (u6 : Value).ownBlock ∧ some k_ ≠ (u7 : Value).ownBlock ∧ k_ ≠ gb536) (.slice A545_1 ((rd_T45 l0 x8_2).f1).length c545_1) ((rd_T45 l0 x8_2).f1)) := ⟨h1_⟩
           have n2_ : Aside0 (Kd.R (Kd.int .u8) 5 w34 w.heap.size (fun k_ => (w.heap.size ≤ k_) ∧ some k_ ≠ (v550 : Value).ownBlock) v547 t546) := ⟨h2_⟩
           have n3_ : Aside0 (Kd.R (Kd.int .u8) 5 w34 w.heap.size (fun k_ => (w.heap.size ≤ k_) ∧ some k_ ≠ (v547 : Value).ownBlock) v550 t549) := ⟨h3_⟩
           have n4_ : Aside0 (Kd.V k45 45 w34 w.heap.size (fun k_ => ((P0_ k_ ∨ P1_0_ k_ ∨ P1_1_ k_) ∨ w.heap.size ≤ k_) ∧ some k_ ≠ (v547 : Value).ownBlock ∧ some k_ ≠ (v550 : Value).ownBlock ∧ some k_ ≠ (u6 : Value).ownBlock ∧ some k_ ≠ (u7 : Value).ownBlock ∧ k_ ≠ gb536) (.slice (some ad545) l0.length c0) l0) := ⟨h4_⟩
           have n5_ : Aside0 (Kd.V k59 59 w34 w.heap.size (fun k_ => ((P0_ k_ ∨ P1_0_ k_ ∨ P1_1_ k_) ∨ w.heap.size ≤ k_) ∧ some k_ ≠ (v547 : Value).ownBlock ∧ some k_ ≠ (v550 : Value).ownBlock ∧ some k_ ≠ (u6 : Value).ownBlock ∧ some k_ ≠ (u7 : Value).ownBlock ∧ k_ ≠ gb536) (.slice A1_0 l1_0.length c1_0) l1_0) := ⟨h5_⟩
           have n6_ : Aside0 (Kd.V k59 59 w34 w.heap.size (fun k_ => ((P0_ k_ ∨ P1_0_ k_ ∨ P1_1_ k_) ∨ w.heap.size ≤ k_) ∧ some k_ ≠ (v547 : Value).ownBlock ∧ some k_ ≠ (v550 : Value).ownBlock ∧ some k_ ≠ (u6 : Value).ownBlock ∧ some k_ ≠ (u7 : Value).ownBlock ∧ k_ ≠ gb536) (.slice A1_1 l1_1.length c1_1) l1_1) := ⟨h6_⟩
           have n7_ : Aside0 (Kd.N k45 45 w34 w.heap.size (fun k_ => ((P0_ k_ ∨ P1_0_ k_ ∨ P1_1_ k_) ∨ w.heap.size ≤ k_) ∧ some k_ ≠ (v547 : Value).ownBlock ∧ some k_ ≠ (v550 : Value).ownBlock ∧ some k_ ≠ (u7 : Value).ownBlock ∧ k_ ≠ gb536) u6 x6_2) := ⟨h7_⟩
           have n8_ : Aside0 (Kd.N k45 45 w34 w.heap.size (fun k_ => ((P0_ k_ ∨ P1_0_ k_ ∨ P1_1_ k_) ∨ w.heap.size ≤ k_) ∧ some k_ ≠ (v547 : Value).ownBlock ∧ some k_ ≠ (v550 : Value).ownBlock ∧ some k_ ≠ (u6 : Value).ownBlock ∧ k_ ≠ gb536) u7 x7_2) := ⟨h8_⟩
           have n9_ : Aside0 (w34.heap[gb536]? = some (.cells #[.slice A1_0 l1_0.length c1_0, .slice A1_1 l1_1.length c1_1, .int .u32 a1_2] 45 (0, 0))) := ⟨h9_⟩
           have n10_ : Aside0 (Below w.heap.size w w34) := ⟨h10_⟩
           clear HO_0
           clear HO_6
           clear HO_7
           clear HO_537000
           clear HO_537001
           clear BK536
           clear HB
           clear h0_ h1_ h2_ h3_ h4_ h5_ h6_ h7_ h8_ h9_ h10_
           have HL545_0 := n0_
           have HL545_1 := n1_
           have HO548 := n2_
           have HO551 := n3_
           have HO_0 := n4_
           have HO_537000 := n5_
           have HO_537001 := n6_
           have HO_6 := n7_
           have HO_7 := n8_
           have BK536 := n9_
           have HB := n10_
           clear n0_ n1_ n2_ n3_ n4_ n5_ n6_ n7_ n8_ n9_ n10_
           have hHeld : w34.cell? ⟨gb536, 0, none⟩ = some (.slice A1_0 l1_0.length c1_0) ∧ w34.cell? ⟨gb536, 1, none⟩ = some (.slice A1_1 l1_1.length c1_1) ∧ w34.cell? ⟨gb536, 2, none⟩ = some (.int .u32 a1_2) ∧ w34.cell? (ad545.add ((x8_2).toNat * 3)) = some (.slice A545_0 ((rd_T45 l0 x8_2).f0).length c545_0) ∧ w34.cell? ⟨(ad545.add ((x8_2).toNat * 3)).block, (ad545.add ((x8_2).toNat * 3)).off + 1, none⟩ = some (.slice A545_1 ((rd_T45 l0 x8_2).f1).length c545_1) ∧ w34.cell? ⟨(ad545.add ((x8_2).toNat * 3)).block, (ad545.add ((x8_2).toNat * 3)).off + 2, none⟩ = some (.int .u32 ((rd_T45 l0 x8_2).f2)) := hS_
           refine norm_ (a' := ?_) ?_ ?_
           rotate_left
           ·simp only [putAll, Act.put, List.setIfInBounds_toArray, List.set_cons_zero, List.set_cons_succ]
            rfl
           refine qP 9 33 (tB 10 1023) ?_
           refine done_ (done_of HT_.out (by kernel_rfl)) ?_
           try go_wp2
           replace HO_0 := Aside0.mk (Kd.V_drew HO_0.out)
           replace HO_6 := Aside0.mk (Kd.N_drew HO_6.out)
           replace HO_7 := Aside0.mk (Kd.N_drew HO_7.out)
           replace HO_537000 := Aside0.mk (Kd.V_drew HO_537000.out)
           replace HO_537001 := Aside0.mk (Kd.V_drew HO_537001.out)
           replace HL545_0 := Aside0.mk (Kd.V_drew HL545_0.out)
           replace HL545_1 := Aside0.mk (Kd.V_drew HL545_1.out)
           replace HO548 := Aside0.mk (Kd.R_drew HO548.out)
           replace HO551 := Aside0.mk (Kd.R_drew HO551.out)
           replace BK536 := Aside0.mk (kD BK536.out)
           replace HB := Aside0.mk (zD HB.out)
           have p552 : 0 ≤ (x8_2 : Int) := oD (jA)
           have q552 : x8_2 < (l0.length : Int) := oD (jA)
           obtain ⟨ad552, A552_0, c552_0, A552_1, c552_1, e552, hx552_0, hx552_1, hx552_2, hl552_0, hi552_0, hl552_1, hi552_1⟩ := at_T45 (Kd.V_reads' HO_0.out).2.2 x8_2 p552 q552
           obtain rfl : ad545 = ad552 := (by injection e552)
           obtain ⟨ce552, hce552, hMe552, hcc552⟩ := Kd.V_get HO_0.out z45 x8_2 p552 (by first | exact q552 | exact oD (jA) | (have e_ := (Kd.V_reads' HO_0.out).1; omega))
           obtain ⟨ua552_0, uc552_0, ua552_1, uc552_1, rfl, ul552_0, ge552_0, ul552_1, ge552_1⟩ := k45_openF hMe552
           have hv552_0 := hcc552 0 _ rfl
           rw [Nat.add_zero] at hv552_0
           replace hv552_0 := Option.some.inj (hv552_0.symm.trans hx552_0)
           injection hv552_0 with hva_ hvn_ hvc_
           rw [hva_] at ge552_0
           rw [hvc_] at ul552_0
           have HL552_0 := Aside0.mk (show Kd.V k59 59 _ w.heap.size _ _ ((rd_T45 l0 x8_2).f0) from Kd.V_mk ul552_0 ge552_0)
           clear hva_ hvn_ hvc_ ge552_0 ul552_0
           have hv552_1 := hcc552 1 _ rfl
           rw [add_field _ _ 1 (by omega)] at hv552_1
           replace hv552_1 := Option.some.inj (hv552_1.symm.trans hx552_1)
           injection hv552_1 with hva_ hvn_ hvc_
           rw [hva_] at ge552_1
           rw [hvc_] at ul552_1
           have HL552_1 := Aside0.mk (show Kd.V k59 59 _ w.heap.size _ _ ((rd_T45 l0 x8_2).f1) from Kd.V_mk ul552_1 ge552_1)
           clear hva_ hvn_ hvc_ ge552_1 ul552_1
           clear hcc552 hce552
           have HR552_0 := Aside0.mk hi552_0
           have HC552_0 := Aside0.mk hl552_0
           clear hi552_0 hl552_0
           have HR552_1 := Aside0.mk hi552_1
           have HC552_1 := Aside0.mk hl552_1
           clear hi552_1 hl552_1
           replace p552 := eq_true p552
           replace q552 := eq_true q552
           refine start_ (n := 8) (S := fun w' => w'.cell? ⟨gb536, 0, none⟩ = some (.slice A1_0 l1_0.length c1_0) ∧ w'.cell? ⟨gb536, 1, none⟩ = some (.slice A1_1 l1_1.length c1_1) ∧ w'.cell? ⟨gb536, 2, none⟩ = some (.int .u32 a1_2) ∧ w'.cell? (ad545.add ((x8_2).toNat * 3)) = some (.slice A552_0 ((rd_T45 l0 x8_2).f0).length c552_0) ∧ w'.cell? ⟨(ad545.add ((x8_2).toNat * 3)).block, (ad545.add ((x8_2).toNat * 3)).off + 1, none⟩ = some (.slice A552_1 ((rd_T45 l0 x8_2).f1).length c552_1) ∧ w'.cell? ⟨(ad545.add ((x8_2).toNat * 3)).block, (ad545.add ((x8_2).toNat * 3)).off + 2, none⟩ = some (.int .u32 ((rd_T45 l0 x8_2).f2))) (ds := []) #[false, false, false, false, false, false, false, false] (by kernel_rfl) rfl rfl ⟨(kC BK536.out 0).trans rfl, (kC BK536.out 1).trans rfl, (kC BK536.out 2).trans rfl, hx552_0, hx552_1, hx552_2⟩ (fun hHeld => ?_); refine with_tabW r21_Learn.tab9 r21_Learn.bits9 (fun HT_ HW_ => ?_)
           generalize w34.drew = w35 at HO_0 HO_6 HO_7 HO_537000 HO_537001 HL545_0 HL545_1 HO548 HO551 BK536 HB HL552_0 HL552_1 HR552_0 HR552_1 hx552_0 hx552_1 hx552_2 hHeld ⊢
           refine qP 0 35 (tB 8 1) ?_
           refine qP 1 36 (tB 8 3) ?_
           refine qP 2 37 (tB 8 7) ?_
           refine qT 3 38 (tB 8 15) hHeld ?_ (hv := by rintro w' ⟨s0, s1, s2, s3, s4, s5⟩; go_simp; with_reducible rfl)
           refine qT 5 40 (tB 8 47) hHeld ?_ (hv := by rintro w' ⟨s0, s1, s2, s3, s4, s5⟩; go_simp; with_reducible rfl)
           refine one_ (i := 4) (N := some 39) (tB 8 63) rfl rfl (one_of HT_.out (by kernel_rfl)) (by decide) (fun K hK => ?_)
           refine goes_ Tryd.func31 (by kernel_rfl) rfl #[.agg #[.slice A552_0 ((rd_T45 l0 x8_2).f0).length c552_0, .slice A552_1 ((rd_T45 l0 x8_2).f1).length c552_1, .int .u32 ((rd_T45 l0 x8_2).f2)]] (by rfl) rfl rfl jZ ?_
           with_reducible refine (r21_Bytes.calls k2 _ _ ((rd_T45 l0 x8_2).f0) _ _ ((rd_T45 l0 x8_2).f1) ((rd_T45 l0 x8_2).f2) t553 _ ?side1 ?side2 ?side3 ?side4 A24.out).mono ?_
           (case side1 => repeat (first | exact (by repeat (first | (with_reducible exact HR552_0.out) | (with_reducible refine Kd.C_alloc ?_ _) | (with_reducible refine Kd.C_drewN ?_ _) | (with_reducible refine Kd.C_drew ?_) | exact HR552_0.out)) | (with_reducible refine Kd.C_alloc ?_ _) | (with_reducible refine Kd.C_drewN ?_ _) | (with_reducible refine Kd.C_drew ?_)))
           (case side2 => exact HC552_0.out)
           (case side3 => repeat (first | exact (by repeat (first | (with_reducible exact HR552_1.out) | (with_reducible refine Kd.C_alloc ?_ _) | (with_reducible refine Kd.C_drewN ?_ _) | (with_reducible refine Kd.C_drew ?_) | exact HR552_1.out)) | (with_reducible refine Kd.C_alloc ?_ _) | (with_reducible refine Kd.C_drewN ?_ _) | (with_reducible refine Kd.C_drew ?_)))
           (case side4 => exact HC552_1.out)
           rintro e w36 ⟨v554, rfl, ho0, hb⟩
           have HS3_ := (hb.cell (bL _ _ (hHeld.2.2.2.1))).trans (hHeld.2.2.2.1)
           have HS4_ := (hb.cell (bL _ _ (hHeld.2.2.2.2.1))).trans (hHeld.2.2.2.2.1)
           have HS5_ := (hb.cell (bL _ _ (hHeld.2.2.2.2.2))).trans (hHeld.2.2.2.2.2)
           refine ⟨_, rfl, ?_⟩
           have HO555 := Aside0.mk (Kd.R_lower (Kd.R_new' (Kd.R_new' (Kd.R_newM (M := fun k_ => (w.heap.size ≤ k_)) ho0 (zZ (jH HB)) (fun k_ h_ => h_)) (Kd.R_lt (jR HO548))) (Kd.R_lt (jR HO551))) (zZ (jH HB)))
           replace HO_0 := Aside0.mk (Kd.V_elder' (jV HO_0) (Kd.R_base ho0) hb)
           replace HO_6 := Aside0.mk (Kd.N_elder' (by (with_reducible repeat (first | apply Kd.N_alloc | apply Kd.N_drewN | apply Kd.N_drew)); exact HO_6.out) (Kd.R_base ho0) hb)
           replace HO_7 := Aside0.mk (Kd.N_elder' (by (with_reducible repeat (first | apply Kd.N_alloc | apply Kd.N_drewN | apply Kd.N_drew)); exact HO_7.out) (Kd.R_base ho0) hb)
           replace HO_537000 := Aside0.mk (Kd.V_elder' (jV HO_537000) (Kd.R_base ho0) hb)
           replace HO_537001 := Aside0.mk (Kd.V_elder' (jV HO_537001) (Kd.R_base ho0) hb)
           replace HL545_0 := Aside0.mk (Kd.V_elder' (jV HL545_0) (Kd.R_base ho0) hb)
           replace HL545_1 := Aside0.mk (Kd.V_elder' (jV HL545_1) (Kd.R_base ho0) hb)
           replace HO548 := Aside0.mk (Kd.R_elder' (jR HO548) (Kd.R_base ho0) hb)
           replace HO551 := Aside0.mk (Kd.R_elder' (jR HO551) (Kd.R_base ho0) hb)
           replace HL552_0 := Aside0.mk (Kd.V_elder' (jV HL552_0) (Kd.R_base ho0) hb)
           replace HL552_1 := Aside0.mk (Kd.V_elder' (jV HL552_1) (Kd.R_base ho0) hb)
           replace BK536 := Aside0.mk (jB BK536 hb)
           replace HR552_0 := Aside0.mk (Kd.C_below (by repeat (first | (with_reducible exact HR552_0.out) | (with_reducible refine Kd.C_alloc ?_ _) | (with_reducible refine Kd.C_drewN ?_ _) | (with_reducible refine Kd.C_drew ?_) | exact HR552_0.out)) hb)
           replace HR552_1 := Aside0.mk (Kd.C_below (by repeat (first | (with_reducible exact HR552_1.out) | (with_reducible refine Kd.C_alloc ?_ _) | (with_reducible refine Kd.C_drewN ?_ _) | (with_reducible refine Kd.C_drew ?_) | exact HR552_1.out)) hb)
           replace HB := Aside0.mk (zT (jH HB) hb)
           (try clear hb)
           (try clear hb2)
           (try clear hk)
           (try clear hi)
           (try clear ho0)
           refine hK.out _ _ ⟨(kC BK536.out 0).trans rfl, (kC BK536.out 1).trans rfl, (kC BK536.out 2).trans rfl, HS3_, HS4_, HS5_⟩ (fun hHeld => ?_)
           clear hK K
           refine qN 39 ?_
           refine one_ (i := 6) (N := some 41) (tB 8 127) rfl rfl (one_of HT_.out (by kernel_rfl)) (by decide) (fun K hK => ?_)
           refine goes_ Tryd.func31 (by kernel_rfl) rfl #[.agg #[.slice A1_0 l1_0.length c1_0, .slice A1_1 l1_1.length c1_1, .int .u32 a1_2]] (by rfl) rfl rfl jZ ?_
           with_reducible refine (r21_Bytes.calls k2 _ _ l1_0 _ _ l1_1 a1_2 t556 _ ?side1 ?side2 ?side3 ?side4 A25.out).mono ?_
           (case side1 => exact jC (Kd.V_reads' HO_537000.out).2.2)
           (case side2 => exact (Kd.V_reads' HO_537000.out).2.1)
           (case side3 => exact jC (Kd.V_reads' HO_537001.out).2.2)
           (case side4 => exact (Kd.V_reads' HO_537001.out).2.1)
           rintro e w37 ⟨v557, rfl, ho0, hb⟩
           have HS3_ := (hb.cell (bL _ _ (hHeld.2.2.2.1))).trans (hHeld.2.2.2.1)
           have HS4_ := (hb.cell (bL _ _ (hHeld.2.2.2.2.1))).trans (hHeld.2.2.2.2.1)
           have HS5_ := (hb.cell (bL _ _ (hHeld.2.2.2.2.2))).trans (hHeld.2.2.2.2.2)
           refine ⟨_, rfl, ?_⟩
           have HO558 := Aside0.mk (Kd.R_lower (Kd.R_new' (Kd.R_new' (Kd.R_new' (Kd.R_newM (M := fun k_ => (w.heap.size ≤ k_)) ho0 (zZ (jH HB)) (fun k_ h_ => h_)) (Kd.R_lt (jR HO548))) (Kd.R_lt (jR HO551))) (Kd.R_lt (jR HO555))) (zZ (jH HB)))
           replace HO_0 := Aside0.mk (Kd.V_elder' (jV HO_0) (Kd.R_base ho0) hb)
           replace HO_6 := Aside0.mk (Kd.N_elder' (by (with_reducible repeat (first | apply Kd.N_alloc | apply Kd.N_drewN | apply Kd.N_drew)); exact HO_6.out) (Kd.R_base ho0) hb)
           replace HO_7 := Aside0.mk (Kd.N_elder' (by (with_reducible repeat (first | apply Kd.N_alloc | apply Kd.N_drewN | apply Kd.N_drew)); exact HO_7.out) (Kd.R_base ho0) hb)
           replace HO_537000 := Aside0.mk (Kd.V_elder' (jV HO_537000) (Kd.R_base ho0) hb)
           replace HO_537001 := Aside0.mk (Kd.V_elder' (jV HO_537001) (Kd.R_base ho0) hb)
           replace HL545_0 := Aside0.mk (Kd.V_elder' (jV HL545_0) (Kd.R_base ho0) hb)
           replace HL545_1 := Aside0.mk (Kd.V_elder' (jV HL545_1) (Kd.R_base ho0) hb)
           replace HO548 := Aside0.mk (Kd.R_elder' (jR HO548) (Kd.R_base ho0) hb)
           replace HO551 := Aside0.mk (Kd.R_elder' (jR HO551) (Kd.R_base ho0) hb)
           replace HL552_0 := Aside0.mk (Kd.V_elder' (jV HL552_0) (Kd.R_base ho0) hb)
           replace HL552_1 := Aside0.mk (Kd.V_elder' (jV HL552_1) (Kd.R_base ho0) hb)
           replace HO555 := Aside0.mk (Kd.R_elder' (jR HO555) (Kd.R_base ho0) hb)
           replace BK536 := Aside0.mk (jB BK536 hb)
           replace HR552_0 := Aside0.mk (Kd.C_below (by repeat (first | (with_reducible exact HR552_0.out) | (with_reducible refine Kd.C_alloc ?_ _) | (with_reducible refine Kd.C_drewN ?_ _) | (with_reducible refine Kd.C_drew ?_) | exact HR552_0.out)) hb)
           replace HR552_1 := Aside0.mk (Kd.C_below (by repeat (first | (with_reducible exact HR552_1.out) | (with_reducible refine Kd.C_alloc ?_ _) | (with_reducible refine Kd.C_drewN ?_ _) | (with_reducible refine Kd.C_drew ?_) | exact HR552_1.out)) hb)
           replace HB := Aside0.mk (zT (jH HB) hb)
           (try clear hb)
           (try clear hb2)
           (try clear hk)
           (try clear hi)
           (try clear ho0)
           obtain ⟨Ao38, co38, eo38⟩ := Kd.R_slice HO555.out
           (first | subst eo38 | (injection eo38 with f1_ f2_ f3_; have f4_ := f1_.symm; have f5_ := f3_.symm; clear f1_ f2_ f3_; subst f4_; subst f5_))
           obtain ⟨Ao39, co39, eo39⟩ := Kd.R_slice HO558.out
           (first | subst eo39 | (injection eo39 with f1_ f2_ f3_; have f4_ := f1_.symm; have f5_ := f3_.symm; clear f1_ f2_ f3_; subst f4_; subst f5_))
           refine hK.out _ _ ⟨(kC BK536.out 0).trans rfl, (kC BK536.out 1).trans rfl, (kC BK536.out 2).trans rfl, HS3_, HS4_, HS5_⟩ (fun hHeld => ?_)
           clear hK K
           refine qN 41 ?_
           refine one_ (i := 7) (N := some 42) (tB 8 255) rfl rfl (one_of HT_.out (by kernel_rfl)) (by decide) (fun K hK => ?_)
           refine goes_ Tryd.func30 (by kernel_rfl) rfl #[.slice Ao38 t553.length co38, .slice Ao39 t556.length co39] (by rfl) rfl rfl jZ ?_
           with_reducible refine (r21_less.calls k2 _ _ t553 _ _ t556 true _ ?side1 ?side2 ?side3 ?side4 A26.out).mono ?_
           (case side1 => exact jC (Kd.R_reads' HO555.out).2.2)
           (case side2 => exact (Kd.R_reads' HO555.out).2.1)
           (case side3 => exact jC (Kd.R_reads' HO558.out).2.2)
           (case side4 => exact (Kd.R_reads' HO558.out).2.1)
           rintro e w' ⟨rfl, ⟨nd, rfl⟩⟩
           refine ⟨_, rfl, ?_⟩
           refine hK.out _ _ ⟨(kC BK536.out 0).trans rfl, (kC BK536.out 1).trans rfl, (kC BK536.out 2).trans rfl, hHeld.2.2.2.1, hHeld.2.2.2.2.1, hHeld.2.2.2.2.2⟩ (fun hHeld => ?_)
           clear hK K
           refine qN 42 ?_
           refine done_ (done_of HT_.out (by kernel_rfl)) ?_
           have p560 : 0 ≤ (x8_2 : Int) := oD (jA)
           have q560 : x8_2 < (l0.length : Int) := oD (jA)
           obtain ⟨ad560, A560_0, c560_0, A560_1, c560_1, e560, hx560_0, hx560_1, hx560_2, hl560_0, hi560_0, hl560_1, hi560_1⟩ := at_T45 (Kd.V_reads' HO_0.out).2.2 x8_2 p560 q560
           obtain rfl : ad545 = ad560 := (by injection e560)
           obtain ⟨rfl, rfl⟩ : A552_0 = A560_0 ∧ c552_0 = c560_0 := by have q_ := Option.some.inj (HS3_.symm.trans hx560_0); injection q_ with q1_ q2_ q3_; exact ⟨q1_, q3_⟩
           obtain ⟨rfl, rfl⟩ : A552_1 = A560_1 ∧ c552_1 = c560_1 := by have q_ := Option.some.inj (HS4_.symm.trans hx560_1); injection q_ with q1_ q2_ q3_; exact ⟨q1_, q3_⟩
           obtain ⟨ce560, hce560, hMe560, hcc560⟩ := Kd.V_get HO_0.out z45 x8_2 p560 (by first | exact q560 | exact oD (jA) | (have e_ := (Kd.V_reads' HO_0.out).1; omega))
           obtain ⟨ua560_0, uc560_0, ua560_1, uc560_1, rfl, ul560_0, ge560_0, ul560_1, ge560_1⟩ := k45_openF hMe560
           have hv560_0 := hcc560 0 _ rfl
           rw [Nat.add_zero] at hv560_0
           replace hv560_0 := Option.some.inj (hv560_0.symm.trans hx560_0)
           injection hv560_0 with hva_ hvn_ hvc_
           rw [hva_] at ge560_0
           rw [hvc_] at ul560_0
           have HL560_0 := Aside0.mk (show Kd.V k59 59 _ w.heap.size _ _ ((rd_T45 l0 x8_2).f0) from Kd.V_mk ul560_0 ge560_0)
           clear hva_ hvn_ hvc_ ge560_0 ul560_0
           have hv560_1 := hcc560 1 _ rfl
           rw [add_field _ _ 1 (by omega)] at hv560_1
           replace hv560_1 := Option.some.inj (hv560_1.symm.trans hx560_1)
           injection hv560_1 with hva_ hvn_ hvc_
           rw [hva_] at ge560_1
           rw [hvc_] at ul560_1
           have HL560_1 := Aside0.mk (show Kd.V k59 59 _ w.heap.size _ _ ((rd_T45 l0 x8_2).f1) from Kd.V_mk ul560_1 ge560_1)
           clear hva_ hvn_ hvc_ ge560_1 ul560_1
           clear hcc560 hce560
           have HR560_0 := Aside0.mk hi560_0
           have HC560_0 := Aside0.mk hl560_0
           clear hi560_0 hl560_0
           have HR560_1 := Aside0.mk hi560_1
           have HC560_1 := Aside0.mk hl560_1
           clear hi560_1 hl560_1
           replace p560 := eq_true p560
           replace q560 := eq_true q560
           try go_wp2_with (first | ((with_reducible refine gate_builtin (b := .append) (xs := #[.tmp 43, .tmp 48]) rfl ?_); at_builtin; refine Kd.N_append k45 (w0 := w) w.heap.size rfl (.tmp 43) (.tmp 48) 30 45 (.agg #[(.slice none 0 0), (.slice none 0 0), (.int .u32 0)]) 56 rfl Tryd.underlying30 info45 rfl (by decide) (by omega) u6 x6_2 (⟨(rd_T45 l0 x8_2).f0, (rd_T45 l0 x8_2).f1, (rd_T45 l0 x8_2).f2⟩ : S45) [.slice A552_0 ((rd_T45 l0 x8_2).f0).length c552_0, .slice A552_1 ((rd_T45 l0 x8_2).f1).length c552_1, .int .u32 ((rd_T45 l0 x8_2).f2)] (fun k_ => ((P0_ k_ ∨ P1_0_ k_ ∨ P1_1_ k_) ∨ w.heap.size ≤ k_) ∧ some k_ ≠ (u7 : Value).ownBlock ∧ some k_ ≠ (v547 : Value).ownBlock ∧ some k_ ≠ (v550 : Value).ownBlock ∧ some k_ ≠ (.slice Ao38 t553.length co38 : Value).ownBlock ∧ some k_ ≠ (.slice Ao39 t556.length co39 : Value).ownBlock ∧ k_ ≠ gb536) (fun k_ => ((fun k_ => ((P0_ k_ ∨ P1_0_ k_ ∨ P1_1_ k_) ∨ w.heap.size ≤ k_) ∧ some k_ ≠ (u7 : Value).ownBlock ∧ some k_ ≠ (v547 : Value).ownBlock ∧ some k_ ≠ (v550 : Value).ownBlock ∧ some k_ ≠ (.slice Ao38 t553.length co38 : Value).ownBlock ∧ some k_ ≠ (.slice Ao39 t556.length co39 : Value).ownBlock ∧ k_ ≠ gb536)) k_ ∧ some k_ ≠ (u6 : Value).ownBlock) rfl rfl ?aP (fun _ hk => hk) ?aF ?aO ?aB ?aS ?aL ?_; (case aP => exact (k45_mkF _ _ (⟨(rd_T45 l0 x8_2).f0, (rd_T45 l0 x8_2).f1, (rd_T45 l0 x8_2).f2⟩ : S45) (Kd.V_reads' HL560_0.out).2.1 (Kd.V_F (Kd.V_mono (ok' := (fun k_ => ((fun k_ => ((P0_ k_ ∨ P1_0_ k_ ∨ P1_1_ k_) ∨ w.heap.size ≤ k_) ∧ some k_ ≠ (u7 : Value).ownBlock ∧ some k_ ≠ (v547 : Value).ownBlock ∧ some k_ ≠ (v550 : Value).ownBlock ∧ some k_ ≠ (.slice Ao38 t553.length co38 : Value).ownBlock ∧ some k_ ≠ (.slice Ao39 t556.length co39 : Value).ownBlock ∧ k_ ≠ gb536)) k_ ∧ some k_ ≠ (u6 : Value).ownBlock)) (HL560_0.out) (fun k_ hk => ⟨⟨hk.1.1.1, ⟨hk.1.1.2.2.2.2.1, ⟨hk.1.1.2.1, ⟨hk.1.1.2.2.1, ⟨hk.1.2, ⟨hk.2, hk.1.1.2.2.2.2.2⟩⟩⟩⟩⟩⟩, hk.1.1.2.2.2.1⟩))) (Kd.V_reads' HL560_1.out).2.1 (Kd.V_F (Kd.V_mono (ok' := (fun k_ => ((fun k_ => ((P0_ k_ ∨ P1_0_ k_ ∨ P1_1_ k_) ∨ w.heap.size ≤ k_) ∧ some k_ ≠ (u7 : Value).ownBlock ∧ some k_ ≠ (v547 : Value).ownBlock ∧ some k_ ≠ (v550 : Value).ownBlock ∧ some k_ ≠ (.slice Ao38 t553.length co38 : Value).ownBlock ∧ some k_ ≠ (.slice Ao39 t556.length co39 : Value).ownBlock ∧ k_ ≠ gb536)) k_ ∧ some k_ ≠ (u6 : Value).ownBlock)) (HL560_1.out) (fun k_ hk => ⟨⟨hk.1.1.1, ⟨hk.1.1.2.2.2.2.1, ⟨hk.1.1.2.1, ⟨hk.1.1.2.2.1, ⟨hk.1.2, ⟨hk.2, hk.1.1.2.2.2.2.2⟩⟩⟩⟩⟩⟩, hk.1.1.2.2.2.1⟩))))); (case aB => exact (jH HB)); (case aF => exact (fun k_ hk => ⟨(.inr (Nat.le_trans (zZ (jH HB)) hk)), Kd.fresh' (Kd.N_lt (by (with_reducible repeat (first | apply Kd.N_alloc | apply Kd.N_drewN | apply Kd.N_drew)); exact HO_7.out)) k_ hk, Kd.fresh' (Kd.R_lt (jR HO548)) k_ hk, Kd.fresh' (Kd.R_lt (jR HO551)) k_ hk, Kd.fresh' (Kd.R_lt (jR HO555)) k_ hk, Kd.fresh' (Kd.R_lt (jR HO558)) k_ hk, Kd.freshB (g := gb536) (o := .cells #[.slice A1_0 l1_0.length c1_0, .slice A1_1 l1_1.length c1_1, .int .u32 a1_2] 45 (0, 0)) (jK BK536) k_ hk⟩)); (case aO => exact (by (with_reducible repeat (first | apply Kd.N_alloc | apply Kd.N_drewN | apply Kd.N_drew)); exact Kd.N_mono HO_6.out (fun _ hk => ⟨hk.1.1.1, ⟨hk.1.1.2.2.2.1, ⟨hk.1.1.2.1, ⟨hk.1.1.2.2.1, ⟨hk.1.2, ⟨hk.2, hk.1.1.2.2.2.2⟩⟩⟩⟩⟩⟩))); (case aS => exact (zZ (jH HB))); (case aL => have := LMc28.out; omega); intro v562 w40 ho hb hg hat; rw [← Ny561.out] at ho; have HO563 := Aside0.mk (ho); replace HO_0 := Aside0.mk (Kd.V_afterv (ok := (fun k_ => ((P0_ k_ ∨ P1_0_ k_ ∨ P1_1_ k_) ∨ w.heap.size ≤ k_) ∧ some k_ ≠ (u7 : Value).ownBlock ∧ some k_ ≠ (v547 : Value).ownBlock ∧ some k_ ≠ (v550 : Value).ownBlock ∧ some k_ ≠ (.slice Ao38 t553.length co38 : Value).ownBlock ∧ some k_ ≠ (.slice Ao39 t556.length co39 : Value).ownBlock ∧ k_ ≠ gb536)) (by (with_reducible repeat (first | apply Kd.V_alloc | apply Kd.V_drewN | apply Kd.V_drew)); exact Kd.V_mono HO_0.out (fun _ hk => ⟨⟨hk.1.1.1, ⟨hk.1.1.2.2.2.2.1, ⟨hk.1.1.2.1, ⟨hk.1.1.2.2.1, ⟨hk.1.2, ⟨hk.2, hk.1.1.2.2.2.2.2⟩⟩⟩⟩⟩⟩, hk.1.1.2.2.2.1⟩)) hg hat); replace HO_7 := Aside0.mk (Kd.N_afterv (ok := (fun k_ => ((P0_ k_ ∨ P1_0_ k_ ∨ P1_1_ k_) ∨ w.heap.size ≤ k_) ∧ some k_ ≠ (v547 : Value).ownBlock ∧ some k_ ≠ (v550 : Value).ownBlock ∧ some k_ ≠ (.slice Ao38 t553.length co38 : Value).ownBlock ∧ some k_ ≠ (.slice Ao39 t556.length co39 : Value).ownBlock ∧ k_ ≠ gb536)) (by (with_reducible repeat (first | apply Kd.N_alloc | apply Kd.N_drewN | apply Kd.N_drew)); exact Kd.N_mono HO_7.out (fun _ hk => ⟨⟨hk.1.1.1, ⟨hk.1.1.2.1, ⟨hk.1.1.2.2.1, ⟨hk.1.2, ⟨hk.2, hk.1.1.2.2.2.2⟩⟩⟩⟩⟩, hk.1.1.2.2.2.1⟩)) hg hat); replace HO_537000 := Aside0.mk (Kd.V_afterv (ok := (fun k_ => ((P0_ k_ ∨ P1_0_ k_ ∨ P1_1_ k_) ∨ w.heap.size ≤ k_) ∧ some k_ ≠ (u7 : Value).ownBlock ∧ some k_ ≠ (v547 : Value).ownBlock ∧ some k_ ≠ (v550 : Value).ownBlock ∧ some k_ ≠ (.slice Ao38 t553.length co38 : Value).ownBlock ∧ some k_ ≠ (.slice Ao39 t556.length co39 : Value).ownBlock ∧ k_ ≠ gb536)) (by (with_reducible repeat (first | apply Kd.V_alloc | apply Kd.V_drewN | apply Kd.V_drew)); exact Kd.V_mono HO_537000.out (fun _ hk => ⟨⟨hk.1.1.1, ⟨hk.1.1.2.2.2.2.1, ⟨hk.1.1.2.1, ⟨hk.1.1.2.2.1, ⟨hk.1.2, ⟨hk.2, hk.1.1.2.2.2.2.2⟩⟩⟩⟩⟩⟩, hk.1.1.2.2.2.1⟩)) hg hat); replace HO_537001 := Aside0.mk (Kd.V_afterv (ok := (fun k_ => ((P0_ k_ ∨ P1_0_ k_ ∨ P1_1_ k_) ∨ w.heap.size ≤ k_) ∧ some k_ ≠ (u7 : Value).ownBlock ∧ some k_ ≠ (v547 : Value).ownBlock ∧ some k_ ≠ (v550 : Value).ownBlock ∧ some k_ ≠ (.slice Ao38 t553.length co38 : Value).ownBlock ∧ some k_ ≠ (.slice Ao39 t556.length co39 : Value).ownBlock ∧ k_ ≠ gb536)) (by (with_reducible repeat (first | apply Kd.V_alloc | apply Kd.V_drewN | apply Kd.V_drew)); exact Kd.V_mono HO_537001.out (fun _ hk => ⟨⟨hk.1.1.1, ⟨hk.1.1.2.2.2.2.1, ⟨hk.1.1.2.1, ⟨hk.1.1.2.2.1, ⟨hk.1.2, ⟨hk.2, hk.1.1.2.2.2.2.2⟩⟩⟩⟩⟩⟩, hk.1.1.2.2.2.1⟩)) hg hat); replace BK536 := Aside0.mk (kG (g := gb536) (o := .cells #[.slice A1_0 l1_0.length c1_0, .slice A1_1 l1_1.length c1_1, .int .u32 a1_2] 45 (0, 0)) (jK BK536) hg (Kd.N_away HO_6.out (fun _ hk => hk.1.1.2.2.2.2))); replace HL545_0 := Aside0.mk (Kd.V_afterv (ok := (fun k_ => ((P0_ k_ ∨ P1_0_ k_ ∨ P1_1_ k_) ∨ w.heap.size ≤ k_) ∧ some k_ ≠ (u7 : Value).ownBlock ∧ some k_ ≠ (v547 : Value).ownBlock ∧ some k_ ≠ (v550 : Value).ownBlock ∧ some k_ ≠ (.slice Ao38 t553.length co38 : Value).ownBlock ∧ some k_ ≠ (.slice Ao39 t556.length co39 : Value).ownBlock ∧ k_ ≠ gb536)) (by (with_reducible repeat (first | apply Kd.V_alloc | apply Kd.V_drewN | apply Kd.V_drew)); exact Kd.V_mono HL545_0.out (fun _ hk => ⟨⟨hk.1.1.1, ⟨hk.1.1.2.2.2.2.1, ⟨hk.1.1.2.1, ⟨hk.1.1.2.2.1, ⟨hk.1.2, ⟨hk.2, hk.1.1.2.2.2.2.2⟩⟩⟩⟩⟩⟩, hk.1.1.2.2.2.1⟩)) hg hat); replace HL545_1 := Aside0.mk (Kd.V_afterv (ok := (fun k_ => ((P0_ k_ ∨ P1_0_ k_ ∨ P1_1_ k_) ∨ w.heap.size ≤ k_) ∧ some k_ ≠ (u7 : Value).ownBlock ∧ some k_ ≠ (v547 : Value).ownBlock ∧ some k_ ≠ (v550 : Value).ownBlock ∧ some k_ ≠ (.slice Ao38 t553.length co38 : Value).ownBlock ∧ some k_ ≠ (.slice Ao39 t556.length co39 : Value).ownBlock ∧ k_ ≠ gb536)) (by (with_reducible repeat (first | apply Kd.V_alloc | apply Kd.V_drewN | apply Kd.V_drew)); exact Kd.V_mono HL545_1.out (fun _ hk => ⟨⟨hk.1.1.1, ⟨hk.1.1.2.2.2.2.1, ⟨hk.1.1.2.1, ⟨hk.1.1.2.2.1, ⟨hk.1.2, ⟨hk.2, hk.1.1.2.2.2.2.2⟩⟩⟩⟩⟩⟩, hk.1.1.2.2.2.1⟩)) hg hat); replace HO548 := Aside0.mk (Kd.R_over' (jR HO548) (Kd.N_typed (by (with_reducible repeat (first | apply Kd.N_alloc | apply Kd.N_drewN | apply Kd.N_drew)); exact HO_6.out)) (by decide) hg); replace HO551 := Aside0.mk (Kd.R_over' (jR HO551) (Kd.N_typed (by (with_reducible repeat (first | apply Kd.N_alloc | apply Kd.N_drewN | apply Kd.N_drew)); exact HO_6.out)) (by decide) hg); replace HL552_0 := Aside0.mk (Kd.V_afterv (ok := (fun k_ => ((P0_ k_ ∨ P1_0_ k_ ∨ P1_1_ k_) ∨ w.heap.size ≤ k_) ∧ some k_ ≠ (u7 : Value).ownBlock ∧ some k_ ≠ (v547 : Value).ownBlock ∧ some k_ ≠ (v550 : Value).ownBlock ∧ some k_ ≠ (.slice Ao38 t553.length co38 : Value).ownBlock ∧ some k_ ≠ (.slice Ao39 t556.length co39 : Value).ownBlock ∧ k_ ≠ gb536)) (by (with_reducible repeat (first | apply Kd.V_alloc | apply Kd.V_drewN | apply Kd.V_drew)); exact Kd.V_mono HL552_0.out (fun _ hk => ⟨⟨hk.1.1.1, ⟨hk.1.1.2.2.2.2.1, ⟨hk.1.1.2.1, ⟨hk.1.1.2.2.1, ⟨hk.1.2, ⟨hk.2, hk.1.1.2.2.2.2.2⟩⟩⟩⟩⟩⟩, hk.1.1.2.2.2.1⟩)) hg hat); replace HL552_1 := Aside0.mk (Kd.V_afterv (ok := (fun k_ => ((P0_ k_ ∨ P1_0_ k_ ∨ P1_1_ k_) ∨ w.heap.size ≤ k_) ∧ some k_ ≠ (u7 : Value).ownBlock ∧ some k_ ≠ (v547 : Value).ownBlock ∧ some k_ ≠ (v550 : Value).ownBlock ∧ some k_ ≠ (.slice Ao38 t553.length co38 : Value).ownBlock ∧ some k_ ≠ (.slice Ao39 t556.length co39 : Value).ownBlock ∧ k_ ≠ gb536)) (by (with_reducible repeat (first | apply Kd.V_alloc | apply Kd.V_drewN | apply Kd.V_drew)); exact Kd.V_mono HL552_1.out (fun _ hk => ⟨⟨hk.1.1.1, ⟨hk.1.1.2.2.2.2.1, ⟨hk.1.1.2.1, ⟨hk.1.1.2.2.1, ⟨hk.1.2, ⟨hk.2, hk.1.1.2.2.2.2.2⟩⟩⟩⟩⟩⟩, hk.1.1.2.2.2.1⟩)) hg hat); replace HO555 := Aside0.mk (Kd.R_over' (jR HO555) (Kd.N_typed (by (with_reducible repeat (first | apply Kd.N_alloc | apply Kd.N_drewN | apply Kd.N_drew)); exact HO_6.out)) (by decide) hg); replace HO558 := Aside0.mk (Kd.R_over' (jR HO558) (Kd.N_typed (by (with_reducible repeat (first | apply Kd.N_alloc | apply Kd.N_drewN | apply Kd.N_drew)); exact HO_6.out)) (by decide) hg); replace HL560_0 := Aside0.mk (Kd.V_afterv (ok := (fun k_ => ((P0_ k_ ∨ P1_0_ k_ ∨ P1_1_ k_) ∨ w.heap.size ≤ k_) ∧ some k_ ≠ (u7 : Value).ownBlock ∧ some k_ ≠ (v547 : Value).ownBlock ∧ some k_ ≠ (v550 : Value).ownBlock ∧ some k_ ≠ (.slice Ao38 t553.length co38 : Value).ownBlock ∧ some k_ ≠ (.slice Ao39 t556.length co39 : Value).ownBlock ∧ k_ ≠ gb536)) (by (with_reducible repeat (first | apply Kd.V_alloc | apply Kd.V_drewN | apply Kd.V_drew)); exact Kd.V_mono HL560_0.out (fun _ hk => ⟨⟨hk.1.1.1, ⟨hk.1.1.2.2.2.2.1, ⟨hk.1.1.2.1, ⟨hk.1.1.2.2.1, ⟨hk.1.2, ⟨hk.2, hk.1.1.2.2.2.2.2⟩⟩⟩⟩⟩⟩, hk.1.1.2.2.2.1⟩)) hg hat); replace HL560_1 := Aside0.mk (Kd.V_afterv (ok := (fun k_ => ((P0_ k_ ∨ P1_0_ k_ ∨ P1_1_ k_) ∨ w.heap.size ≤ k_) ∧ some k_ ≠ (u7 : Value).ownBlock ∧ some k_ ≠ (v547 : Value).ownBlock ∧ some k_ ≠ (v550 : Value).ownBlock ∧ some k_ ≠ (.slice Ao38 t553.length co38 : Value).ownBlock ∧ some k_ ≠ (.slice Ao39 t556.length co39 : Value).ownBlock ∧ k_ ≠ gb536)) (by (with_reducible repeat (first | apply Kd.V_alloc | apply Kd.V_drewN | apply Kd.V_drew)); exact Kd.V_mono HL560_1.out (fun _ hk => ⟨⟨hk.1.1.1, ⟨hk.1.1.2.2.2.2.1, ⟨hk.1.1.2.1, ⟨hk.1.1.2.2.1, ⟨hk.1.2, ⟨hk.2, hk.1.1.2.2.2.2.2⟩⟩⟩⟩⟩⟩, hk.1.1.2.2.2.1⟩)) hg hat); replace HB := Aside0.mk (hb); clear HO_6; clear ho hb hg hat))
           go_roundg k2
           case measure => have := HJ2.out; have := HK2.out; omega
           case rel => exact ⟨(y561), (x7_2), (wrap64 (x8_2 + 1)), jS, H', ⟨by have := HJ2.out; have := HK2.out; omega⟩, ⟨by (with_reducible repeat (first | apply Kd.V_alloc | apply Kd.V_drewN | apply Kd.V_drew)); exact Kd.V_mono HO_0.out (fun _ hk => ⟨hk.1.1, ⟨hk.2, ⟨hk.1.2.1, hk.1.2.2.2.2.2.2⟩⟩⟩)⟩, ⟨by (with_reducible repeat (first | apply Kd.N_alloc | apply Kd.N_drewN | apply Kd.N_drew)); exact Kd.N_mono HO563.out (fun _ hk => ⟨hk.1, ⟨hk.2.1, hk.2.2.2.2.2.2⟩⟩)⟩, ⟨by (with_reducible repeat (first | apply Kd.N_alloc | apply Kd.N_drewN | apply Kd.N_drew)); exact Kd.N_mono HO_7.out (fun _ hk => ⟨hk.1.1, ⟨hk.2, hk.1.2.2.2.2.2⟩⟩)⟩, ⟨by (with_reducible repeat (first | apply Kd.V_alloc | apply Kd.V_drewN | apply Kd.V_drew)); exact Kd.V_mono HO_537000.out (fun _ hk => ⟨hk.1.1, ⟨hk.2, ⟨hk.1.2.1, hk.1.2.2.2.2.2.2⟩⟩⟩)⟩, ⟨by (with_reducible repeat (first | apply Kd.V_alloc | apply Kd.V_drewN | apply Kd.V_drew)); exact Kd.V_mono HO_537001.out (fun _ hk => ⟨hk.1.1, ⟨hk.2, ⟨hk.1.2.1, hk.1.2.2.2.2.2.2⟩⟩⟩)⟩, ⟨jK BK536⟩, ⟨jH HB⟩⟩
          ·rw [if_neg c28] at H
           exact absurd H (by simp)
         ·replace c27 := Bool.eq_false_iff.mpr c27
          subst c27
          rw [if_neg (show ¬ (false = true) by decide)] at H
          by_cases c41 : x7_2.length < 2513169434916
          ·rw [if_pos c41] at H
           have LMc41 := Aside0.mk c41
           clear c41
           obtain ⟨y565, hy565⟩ : ∃ y_ : List (S45), y_ = (x7_2 ++ [(⟨(rd_T45 l0 x8_2).f0, (rd_T45 l0 x8_2).f1, (rd_T45 l0 x8_2).f2⟩ : S45)]) := ⟨_, rfl⟩
           simp only [Option.bind_some, ← hy565] at H
           have Ny565 := Aside0.mk hy565
           clear hy565
           have H' := Aside0.mk H
           clear H
           try go_wp2
           replace HO_0 := Aside0.mk (Kd.V_drew HO_0.out)
           replace HO_6 := Aside0.mk (Kd.N_drew HO_6.out)
           replace HO_7 := Aside0.mk (Kd.N_drew HO_7.out)
           replace HO_537000 := Aside0.mk (Kd.V_drew HO_537000.out)
           replace HO_537001 := Aside0.mk (Kd.V_drew HO_537001.out)
           replace BK536 := Aside0.mk (kD BK536.out)
           replace HB := Aside0.mk (zD HB.out)
           have p545 : 0 ≤ (x8_2 : Int) := oD (jA)
           have q545 : x8_2 < (l0.length : Int) := oD (jA)
           obtain ⟨ad545, A545_0, c545_0, A545_1, c545_1, e545, hx545_0, hx545_1, hx545_2, hl545_0, hi545_0, hl545_1, hi545_1⟩ := at_T45 (Kd.V_reads' HO_0.out).2.2 x8_2 p545 q545
           cases e545
           obtain ⟨ce545, hce545, hMe545, hcc545⟩ := Kd.V_get HO_0.out z45 x8_2 p545 (by first | exact q545 | exact oD (jA) | (have e_ := (Kd.V_reads' HO_0.out).1; omega))
           obtain ⟨ua545_0, uc545_0, ua545_1, uc545_1, rfl, ul545_0, ge545_0, ul545_1, ge545_1⟩ := k45_openF hMe545
           have hv545_0 := hcc545 0 _ rfl
           rw [Nat.add_zero] at hv545_0
           replace hv545_0 := Option.some.inj (hv545_0.symm.trans hx545_0)
           injection hv545_0 with hva_ hvn_ hvc_
           rw [hva_] at ge545_0
           rw [hvc_] at ul545_0
           have HL545_0 := Aside0.mk (show Kd.V k59 59 _ w.heap.size _ _ ((rd_T45 l0 x8_2).f0) from Kd.V_mk ul545_0 ge545_0)
           clear hva_ hvn_ hvc_ ge545_0 ul545_0
           have hv545_1 := hcc545 1 _ rfl
           rw [add_field _ _ 1 (by omega)] at hv545_1
           replace hv545_1 := Option.some.inj (hv545_1.symm.trans hx545_1)
           injection hv545_1 with hva_ hvn_ hvc_
           rw [hva_] at ge545_1
           rw [hvc_] at ul545_1
           have HL545_1 := Aside0.mk (show Kd.V k59 59 _ w.heap.size _ _ ((rd_T45 l0 x8_2).f1) from Kd.V_mk ul545_1 ge545_1)
           clear hva_ hvn_ hvc_ ge545_1 ul545_1
           clear hcc545 hce545
           have HR545_0 := Aside0.mk hi545_0
           have HC545_0 := Aside0.mk hl545_0
           clear hi545_0 hl545_0
           have HR545_1 := Aside0.mk hi545_1
           have HC545_1 := Aside0.mk hl545_1
           clear hi545_1 hl545_1
           replace p545 := eq_true p545
           replace q545 := eq_true q545
           refine start_ (n := 10) (S := fun w' => w'.cell? ⟨gb536, 0, none⟩ = some (.slice A1_0 l1_0.length c1_0) ∧ w'.cell? ⟨gb536, 1, none⟩ = some (.slice A1_1 l1_1.length c1_1) ∧ w'.cell? ⟨gb536, 2, none⟩ = some (.int .u32 a1_2) ∧ w'.cell? (ad545.add ((x8_2).toNat * 3)) = some (.slice A545_0 ((rd_T45 l0 x8_2).f0).length c545_0) ∧ w'.cell? ⟨(ad545.add ((x8_2).toNat * 3)).block, (ad545.add ((x8_2).toNat * 3)).off + 1, none⟩ = some (.slice A545_1 ((rd_T45 l0 x8_2).f1).length c545_1) ∧ w'.cell? ⟨(ad545.add ((x8_2).toNat * 3)).block, (ad545.add ((x8_2).toNat * 3)).off + 2, none⟩ = some (.int .u32 ((rd_T45 l0 x8_2).f2))) (ds := []) #[false, false, false, false, false, false, false, false, false, false] (by kernel_rfl) rfl rfl ⟨(kC BK536.out 0).trans rfl, (kC BK536.out 1).trans rfl, (kC BK536.out 2).trans rfl, hx545_0, hx545_1, hx545_2⟩ (fun hHeld => ?_); refine with_tabW r21_Learn.tab7 r21_Learn.bits7 (fun HT_ HW_ => ?_)
           generalize wr.drew = w42 at HO_0 HO_6 HO_7 HO_537000 HO_537001 BK536 HB HL545_0 HL545_1 HR545_0 HR545_1 hx545_0 hx545_1 hx545_2 hHeld ⊢
           refine qP 0 24 (tB 10 1) ?_
           refine qP 1 25 (tB 10 3) ?_
           refine qP 2 26 (tB 10 7) ?_
           refine qT 3 27 (tB 10 15) hHeld ?_ (hv := by rintro w' ⟨s0, s1, s2, s3, s4, s5⟩; go_simp; with_reducible rfl)
           refine qT 6 30 (tB 10 79) hHeld ?_ (hv := by rintro w' ⟨s0, s1, s2, s3, s4, s5⟩; go_simp; with_reducible rfl)
           refine one_ (i := 4) (N := some 28) (tB 10 95) rfl rfl (one_of HT_.out (by kernel_rfl)) (by decide) (fun K hK => ?_)
           refine goes_ Tryd.func31 (by kernel_rfl) rfl #[.agg #[.slice A545_0 ((rd_T45 l0 x8_2).f0).length c545_0, .slice A545_1 ((rd_T45 l0 x8_2).f1).length c545_1, .int .u32 ((rd_T45 l0 x8_2).f2)]] (by rfl) rfl rfl jZ ?_
           with_reducible refine (r21_Bytes.calls k2 _ _ ((rd_T45 l0 x8_2).f0) _ _ ((rd_T45 l0 x8_2).f1) ((rd_T45 l0 x8_2).f2) t546 _ ?side1 ?side2 ?side3 ?side4 A15.out).mono ?_
           (case side1 => repeat (first | exact (by repeat (first | (with_reducible exact HR545_0.out) | (with_reducible refine Kd.C_alloc ?_ _) | (with_reducible refine Kd.C_drewN ?_ _) | (with_reducible refine Kd.C_drew ?_) | exact HR545_0.out)) | (with_reducible refine Kd.C_alloc ?_ _) | (with_reducible refine Kd.C_drewN ?_ _) | (with_reducible refine Kd.C_drew ?_)))
           (case side2 => exact HC545_0.out)
           (case side3 => repeat (first | exact (by repeat (first | (with_reducible exact HR545_1.out) | (with_reducible refine Kd.C_alloc ?_ _) | (with_reducible refine Kd.C_drewN ?_ _) | (with_reducible refine Kd.C_drew ?_) | exact HR545_1.out)) | (with_reducible refine Kd.C_alloc ?_ _) | (with_reducible refine Kd.C_drewN ?_ _) | (with_reducible refine Kd.C_drew ?_)))
           (case side4 => exact HC545_1.out)
           rintro e w43 ⟨v547, rfl, ho0, hb⟩
           have HS3_ := (hb.cell (bL _ _ (hHeld.2.2.2.1))).trans (hHeld.2.2.2.1)
           have HS4_ := (hb.cell (bL _ _ (hHeld.2.2.2.2.1))).trans (hHeld.2.2.2.2.1)
           have HS5_ := (hb.cell (bL _ _ (hHeld.2.2.2.2.2))).trans (hHeld.2.2.2.2.2)
           refine ⟨_, rfl, ?_⟩
           have HO548 := Aside0.mk (Kd.R_lower (Kd.R_newM (M := fun k_ => (w.heap.size ≤ k_)) ho0 (zZ (jH HB)) (fun k_ h_ => h_)) (zZ (jH HB)))
           replace HO_0 := Aside0.mk (Kd.V_elder' (jV HO_0) (Kd.R_base ho0) hb)
           replace HO_6 := Aside0.mk (Kd.N_elder' (by (with_reducible repeat (first | apply Kd.N_alloc | apply Kd.N_drewN | apply Kd.N_drew)); exact HO_6.out) (Kd.R_base ho0) hb)
           replace HO_7 := Aside0.mk (Kd.N_elder' (by (with_reducible repeat (first | apply Kd.N_alloc | apply Kd.N_drewN | apply Kd.N_drew)); exact HO_7.out) (Kd.R_base ho0) hb)
           replace HO_537000 := Aside0.mk (Kd.V_elder' (jV HO_537000) (Kd.R_base ho0) hb)
           replace HO_537001 := Aside0.mk (Kd.V_elder' (jV HO_537001) (Kd.R_base ho0) hb)
           replace HL545_0 := Aside0.mk (Kd.V_elder' (jV HL545_0) (Kd.R_base ho0) hb)
           replace HL545_1 := Aside0.mk (Kd.V_elder' (jV HL545_1) (Kd.R_base ho0) hb)
           replace BK536 := Aside0.mk (jB BK536 hb)
           replace HR545_0 := Aside0.mk (Kd.C_below (by repeat (first | (with_reducible exact HR545_0.out) | (with_reducible refine Kd.C_alloc ?_ _) | (with_reducible refine Kd.C_drewN ?_ _) | (with_reducible refine Kd.C_drew ?_) | exact HR545_0.out)) hb)
           replace HR545_1 := Aside0.mk (Kd.C_below (by repeat (first | (with_reducible exact HR545_1.out) | (with_reducible refine Kd.C_alloc ?_ _) | (with_reducible refine Kd.C_drewN ?_ _) | (with_reducible refine Kd.C_drew ?_) | exact HR545_1.out)) hb)
           replace HB := Aside0.mk (zT (jH HB) hb)
           (try clear hb)
           (try clear hb2)
           (try clear hk)
           (try clear hi)
           (try clear ho0)
           refine hK.out _ _ ⟨(kC BK536.out 0).trans rfl, (kC BK536.out 1).trans rfl, (kC BK536.out 2).trans rfl, HS3_, HS4_, HS5_⟩ (fun hHeld => ?_)
           clear hK K
           refine qN 28 ?_
           refine join_ (σ := Value) 1 #[true, true, true, true, true, true, true, true, true, false] (fun s_ => [(29, .string (strOfNums t546)), (31, s_), (32, .string (strOfNums t549))]) (fun s_ w' => (w'.cell? ⟨gb536, 0, none⟩ = some (.slice A1_0 l1_0.length c1_0) ∧ w'.cell? ⟨gb536, 1, none⟩ = some (.slice A1_1 l1_1.length c1_1) ∧ w'.cell? ⟨gb536, 2, none⟩ = some (.int .u32 a1_2) ∧ w'.cell? (ad545.add ((x8_2).toNat * 3)) = some (.slice A545_0 ((rd_T45 l0 x8_2).f0).length c545_0) ∧ w'.cell? ⟨(ad545.add ((x8_2).toNat * 3)).block, (ad545.add ((x8_2).toNat * 3)).off + 1, none⟩ = some (.slice A545_1 ((rd_T45 l0 x8_2).f1).length c545_1) ∧ w'.cell? ⟨(ad545.add ((x8_2).toNat * 3)).block, (ad545.add ((x8_2).toNat * 3)).off + 2, none⟩ = some (.int .u32 ((rd_T45 l0 x8_2).f2))) ∧ (Kd.V k59 59 w' w.heap.size (fun k_ => ((P0_ k_ ∨ P1_0_ k_ ∨ P1_1_ k_) ∨ w.heap.size ≤ k_) ∧ some k_ ≠ (v547 : Value).ownBlock ∧ some k_ ≠ (s_ : Value).ownBlock ∧ some k_ ≠ (u6 : Value).ownBlock ∧ some k_ ≠ (u7 : Value).ownBlock ∧ k_ ≠ gb536) (.slice A545_0 ((rd_T45 l0 x8_2).f0).length c545_0) ((rd_T45 l0 x8_2).f0)) ∧ (Kd.V k59 59 w' w.heap.size (fun k_ => ((P0_ k_ ∨ P1_0_ k_ ∨ P1_1_ k_) ∨ w.heap.size ≤ k_) ∧ some k_ ≠ (v547 : Value).ownBlock ∧ some k_ ≠ (s_ : Value).ownBlock ∧ some k_ ≠ (u6 : Value).ownBlock ∧ some k_ ≠ (u7 : Value).ownBlock ∧ k_ ≠ gb536) (.slice A545_1 ((rd_T45 l0 x8_2).f1).length c545_1) ((rd_T45 l0 x8_2).f1)) ∧ (Kd.R (Kd.int .u8) 5 w' w.heap.size (fun k_ => (w.heap.size ≤ k_) ∧ some k_ ≠ (s_ : Value).ownBlock) v547 t546) ∧ (Kd.R (Kd.int .u8) 5 w' w.heap.size (fun k_ => (w.heap.size ≤ k_) ∧ some k_ ≠ (v547 : Value).ownBlock) s_ t549) ∧ (Kd.V k45 45 w' w.heap.size (fun k_ => ((P0_ k_ ∨ P1_0_ k_ ∨ P1_1_ k_) ∨ w.heap.size ≤ k_) ∧ some k_ ≠ (v547 : Value).ownBlock ∧ some k_ ≠ (s_ : Value).ownBlock ∧ some k_ ≠ (u6 : Value).ownBlock ∧ some k_ ≠ (u7 : Value).ownBlock ∧ k_ ≠ gb536) (.slice (some ad545) l0.length c0) l0) ∧ (Kd.V k59 59 w' w.heap.size (fun k_ => ((P0_ k_ ∨ P1_0_ k_ ∨ P1_1_ k_) ∨ w.heap.size ≤ k_) ∧ some k_ ≠ (v547 : Value).ownBlock ∧ some k_ ≠ (s_ : Value).ownBlock ∧ some k_ ≠ (u6 : Value).ownBlock ∧ some k_ ≠ (u7 : Value).ownBlock ∧ k_ ≠ gb536) (.slice A1_0 l1_0.length c1_0) l1_0) ∧ (Kd.V k59 59 w' w.heap.size (fun k_ => ((P0_ k_ ∨ P1_0_ k_ ∨ P1_1_ k_) ∨ w.heap.size ≤ k_) ∧ some k_ ≠ (v547 : Value).ownBlock ∧ some k_ ≠ (s_ : Value).ownBlock ∧ some k_ ≠ (u6 : Value).ownBlock ∧ some k_ ≠ (u7 : Value).ownBlock ∧ k_ ≠ gb536) (.slice A1_1 l1_1.length c1_1) l1_1) ∧ (Kd.N k45 45 w' w.heap.size (fun k_ => ((P0_ k_ ∨ P1_0_ k_ ∨ P1_1_ k_) ∨ w.heap.size ≤ k_) ∧ some k_ ≠ (v547 : Value).ownBlock ∧ some k_ ≠ (s_ : Value).ownBlock ∧ some k_ ≠ (u7 : Value).ownBlock ∧ k_ ≠ gb536) u6 x6_2) ∧ (Kd.N k45 45 w' w.heap.size (fun k_ => ((P0_ k_ ∨ P1_0_ k_ ∨ P1_1_ k_) ∨ w.heap.size ≤ k_) ∧ some k_ ≠ (v547 : Value).ownBlock ∧ some k_ ≠ (s_ : Value).ownBlock ∧ some k_ ≠ (u6 : Value).ownBlock ∧ k_ ≠ gb536) u7 x7_2) ∧ (w'.heap[gb536]? = some (.cells #[.slice A1_0 l1_0.length c1_0, .slice A1_1 l1_1.length c1_1, .int .u32 a1_2] 45 (0, 0))) ∧ (Below w.heap.size w w')) ?_ ?_
           rotate_left
           ·intro hCont
            refine two_ (i := 5) (j := 7) (Ni := some 29) (Nj := some 31) #[true, true, true, true, true, true, true, false, false, false] (tB 10 223) rfl rfl rfl rfl (two_of HT_.out (by kernel_rfl)) (by decide) (by decide) (fun K hK => ?_) (fun K hK => ?_)
            ·skip
             have hcv44 := own_string (P := Tryd.prog) Tryd.underlying25 Tryd.underlying5 Tryd.underlying9 (Kd.own_of_R HO548.out)
             refine value_ (w1 := ?_) (v := ?_) (by rfl) rfl ?_ ?_
             rotate_left 2
             ·go_simp
              constructor
              ·rfl
              ·rfl
             clear hcv44
             refine hK.out _ _ ⟨(kC BK536.out 0).trans rfl, (kC BK536.out 1).trans rfl, (kC BK536.out 2).trans rfl, hHeld.2.2.2.1, hHeld.2.2.2.2.1, hHeld.2.2.2.2.2⟩ (fun hHeld => ?_)
             clear hK K
             refine qN 29 ?_
             refine one_ (i := 7) (N := some 31) (tB 10 255) rfl rfl (one_of HT_.out (by kernel_rfl)) (by decide) (fun K hK => ?_)
             refine goes_ Tryd.func31 (by kernel_rfl) rfl #[.agg #[.slice A1_0 l1_0.length c1_0, .slice A1_1 l1_1.length c1_1, .int .u32 a1_2]] (by rfl) rfl rfl jZ ?_
             with_reducible refine (r21_Bytes.calls k2 _ _ l1_0 _ _ l1_1 a1_2 t549 _ ?side1 ?side2 ?side3 ?side4 A16.out).mono ?_
             (case side1 => exact jC (Kd.V_reads' HO_537000.out).2.2)
             (case side2 => exact (Kd.V_reads' HO_537000.out).2.1)
             (case side3 => exact jC (Kd.V_reads' HO_537001.out).2.2)
             (case side4 => exact (Kd.V_reads' HO_537001.out).2.1)
             rintro e w45 ⟨v550, rfl, ho0, hb⟩
             have HS3_ := (hb.cell (bL _ _ (hHeld.2.2.2.1))).trans (hHeld.2.2.2.1)
             have HS4_ := (hb.cell (bL _ _ (hHeld.2.2.2.2.1))).trans (hHeld.2.2.2.2.1)
             have HS5_ := (hb.cell (bL _ _ (hHeld.2.2.2.2.2))).trans (hHeld.2.2.2.2.2)
             refine ⟨_, rfl, ?_⟩
             have HO551 := Aside0.mk (Kd.R_lower (Kd.R_new' (Kd.R_newM (M := fun k_ => (w.heap.size ≤ k_)) ho0 (zZ (jH HB)) (fun k_ h_ => h_)) (Kd.R_lt (jR HO548))) (zZ (jH HB)))
             replace HO_0 := Aside0.mk (Kd.V_elder' (jV HO_0) (Kd.R_base ho0) hb)
             replace HO_6 := Aside0.mk (Kd.N_elder' (by (with_reducible repeat (first | apply Kd.N_alloc | apply Kd.N_drewN | apply Kd.N_drew)); exact HO_6.out) (Kd.R_base ho0) hb)
             replace HO_7 := Aside0.mk (Kd.N_elder' (by (with_reducible repeat (first | apply Kd.N_alloc | apply Kd.N_drewN | apply Kd.N_drew)); exact HO_7.out) (Kd.R_base ho0) hb)
             replace HO_537000 := Aside0.mk (Kd.V_elder' (jV HO_537000) (Kd.R_base ho0) hb)
             replace HO_537001 := Aside0.mk (Kd.V_elder' (jV HO_537001) (Kd.R_base ho0) hb)
             replace HL545_0 := Aside0.mk (Kd.V_elder' (jV HL545_0) (Kd.R_base ho0) hb)
             replace HL545_1 := Aside0.mk (Kd.V_elder' (jV HL545_1) (Kd.R_base ho0) hb)
             replace HO548 := Aside0.mk (Kd.R_elder' (jR HO548) (Kd.R_base ho0) hb)
             replace BK536 := Aside0.mk (jB BK536 hb)
             replace HR545_0 := Aside0.mk (Kd.C_below (by repeat (first | (with_reducible exact HR545_0.out) | (with_reducible refine Kd.C_alloc ?_ _) | (with_reducible refine Kd.C_drewN ?_ _) | (with_reducible refine Kd.C_drew ?_) | exact HR545_0.out)) hb)
             replace HR545_1 := Aside0.mk (Kd.C_below (by repeat (first | (with_reducible exact HR545_1.out) | (with_reducible refine Kd.C_alloc ?_ _) | (with_reducible refine Kd.C_drewN ?_ _) | (with_reducible refine Kd.C_drew ?_) | exact HR545_1.out)) hb)
             replace HB := Aside0.mk (zT (jH HB) hb)
             (try clear hb)
             (try clear hb2)
             (try clear hk)
             (try clear hi)
             (try clear ho0)
             refine hK.out _ _ ⟨(kC BK536.out 0).trans rfl, (kC BK536.out 1).trans rfl, (kC BK536.out 2).trans rfl, HS3_, HS4_, HS5_⟩ (fun hHeld => ?_)
             clear hK K
             refine qN 31 ?_
             refine one_ (i := 8) (N := some 32) (tB 10 511) rfl rfl (one_of HT_.out (by kernel_rfl)) (by decide) (fun K hK => ?_)
             have hcv46 := own_string (P := Tryd.prog) Tryd.underlying25 Tryd.underlying5 Tryd.underlying9 (Kd.own_of_R HO551.out)
             refine value_ (w1 := ?_) (v := ?_) (by rfl) rfl ?_ ?_
             rotate_left 2
             ·go_simp
              constructor
              ·rfl
              ·rfl
             clear hcv46
             refine hK.out _ _ ⟨(kC BK536.out 0).trans rfl, (kC BK536.out 1).trans rfl, (kC BK536.out 2).trans rfl, hHeld.2.2.2.1, hHeld.2.2.2.2.1, hHeld.2.2.2.2.2⟩ (fun hHeld => ?_)
             clear hK K
             refine qN 32 ?_
             exact norm_ (by simp only [putAll, Act.put, List.setIfInBounds_toArray, List.set_cons_zero, List.set_cons_succ]) (hCont (v550) _ ⟨hHeld, (by (with_reducible repeat (first | apply Kd.V_alloc | apply Kd.V_drewN | apply Kd.V_drew)); exact Kd.V_mono HL545_0.out (fun _ hk => ⟨hk.1.1.1, ⟨hk.1.2, ⟨hk.2, ⟨hk.1.1.2.1, ⟨hk.1.1.2.2.1, hk.1.1.2.2.2⟩⟩⟩⟩⟩)), (by (with_reducible repeat (first | apply Kd.V_alloc | apply Kd.V_drewN | apply Kd.V_drew)); exact Kd.V_mono HL545_1.out (fun _ hk => ⟨hk.1.1.1, ⟨hk.1.2, ⟨hk.2, ⟨hk.1.1.2.1, ⟨hk.1.1.2.2.1, hk.1.1.2.2.2⟩⟩⟩⟩⟩)), (by (with_reducible repeat (first | apply Kd.R_alloc | apply Kd.R_drewN | apply Kd.R_drew)); exact Kd.R_mono HO548.out (fun _ hk => ⟨hk.1.1, hk.2⟩)), (by (with_reducible repeat (first | apply Kd.R_alloc | apply Kd.R_drewN | apply Kd.R_drew)); exact Kd.R_mono HO551.out (fun _ hk => ⟨hk.1.1, hk.2⟩)), (by (with_reducible repeat (first | apply Kd.V_alloc | apply Kd.V_drewN | apply Kd.V_drew)); exact Kd.V_mono HO_0.out (fun _ hk => ⟨hk.1.1.1, ⟨hk.1.2, ⟨hk.2, ⟨hk.1.1.2.1, ⟨hk.1.1.2.2.1, hk.1.1.2.2.2⟩⟩⟩⟩⟩)), (by (with_reducible repeat (first | apply Kd.V_alloc | apply Kd.V_drewN | apply Kd.V_drew)); exact Kd.V_mono HO_537000.out (fun _ hk => ⟨hk.1.1.1, ⟨hk.1.2, ⟨hk.2, ⟨hk.1.1.2.1, ⟨hk.1.1.2.2.1, hk.1.1.2.2.2⟩⟩⟩⟩⟩)), (by (with_reducible repeat (first | apply Kd.V_alloc | apply Kd.V_drewN | apply Kd.V_drew)); exact Kd.V_mono HO_537001.out (fun _ hk => ⟨hk.1.1.1, ⟨hk.1.2, ⟨hk.2, ⟨hk.1.1.2.1, ⟨hk.1.1.2.2.1, hk.1.1.2.2.2⟩⟩⟩⟩⟩)), (by (with_reducible repeat (first | apply Kd.N_alloc | apply Kd.N_drewN | apply Kd.N_drew)); exact Kd.N_mono HO_6.out (fun _ hk => ⟨hk.1.1.1, ⟨hk.1.2, ⟨hk.2, ⟨hk.1.1.2.1, hk.1.1.2.2⟩⟩⟩⟩)), (by (with_reducible repeat (first | apply Kd.N_alloc | apply Kd.N_drewN | apply Kd.N_drew)); exact Kd.N_mono HO_7.out (fun _ hk => ⟨hk.1.1.1, ⟨hk.1.2, ⟨hk.2, ⟨hk.1.1.2.1, hk.1.1.2.2⟩⟩⟩⟩)), (jK BK536), (jH HB)⟩)
            ·skip
             refine goes_ Tryd.func31 (by kernel_rfl) rfl #[.agg #[.slice A1_0 l1_0.length c1_0, .slice A1_1 l1_1.length c1_1, .int .u32 a1_2]] (by rfl) rfl rfl jZ ?_
             with_reducible refine (r21_Bytes.calls k2 _ _ l1_0 _ _ l1_1 a1_2 t549 _ ?side1 ?side2 ?side3 ?side4 A16.out).mono ?_
             (case side1 => exact jC (Kd.V_reads' HO_537000.out).2.2)
             (case side2 => exact (Kd.V_reads' HO_537000.out).2.1)
             (case side3 => exact jC (Kd.V_reads' HO_537001.out).2.2)
             (case side4 => exact (Kd.V_reads' HO_537001.out).2.1)
             rintro e w44 ⟨v550, rfl, ho0, hb⟩
             have HS3_ := (hb.cell (bL _ _ (hHeld.2.2.2.1))).trans (hHeld.2.2.2.1)
             have HS4_ := (hb.cell (bL _ _ (hHeld.2.2.2.2.1))).trans (hHeld.2.2.2.2.1)
             have HS5_ := (hb.cell (bL _ _ (hHeld.2.2.2.2.2))).trans (hHeld.2.2.2.2.2)
             refine ⟨_, rfl, ?_⟩
             have HO551 := Aside0.mk (Kd.R_lower (Kd.R_new' (Kd.R_newM (M := fun k_ => (w.heap.size ≤ k_)) ho0 (zZ (jH HB)) (fun k_ h_ => h_)) (Kd.R_lt (jR HO548))) (zZ (jH HB)))
             replace HO_0 := Aside0.mk (Kd.V_elder' (jV HO_0) (Kd.R_base ho0) hb)
             replace HO_6 := Aside0.mk (Kd.N_elder' (by (with_reducible repeat (first | apply Kd.N_alloc | apply Kd.N_drewN | apply Kd.N_drew)); exact HO_6.out) (Kd.R_base ho0) hb)
             replace HO_7 := Aside0.mk (Kd.N_elder' (by (with_reducible repeat (first | apply Kd.N_alloc | apply Kd.N_drewN | apply Kd.N_drew)); exact HO_7.out) (Kd.R_base ho0) hb)
             replace HO_537000 := Aside0.mk (Kd.V_elder' (jV HO_537000) (Kd.R_base ho0) hb)
             replace HO_537001 := Aside0.mk (Kd.V_elder' (jV HO_537001) (Kd.R_base ho0) hb)
             replace HL545_0 := Aside0.mk (Kd.V_elder' (jV HL545_0) (Kd.R_base ho0) hb)
             replace HL545_1 := Aside0.mk (Kd.V_elder' (jV HL545_1) (Kd.R_base ho0) hb)
             replace HO548 := Aside0.mk (Kd.R_elder' (jR HO548) (Kd.R_base ho0) hb)
             replace BK536 := Aside0.mk (jB BK536 hb)
             replace HR545_0 := Aside0.mk (Kd.C_below (by repeat (first | (with_reducible exact HR545_0.out) | (with_reducible refine Kd.C_alloc ?_ _) | (with_reducible refine Kd.C_drewN ?_ _) | (with_reducible refine Kd.C_drew ?_) | exact HR545_0.out)) hb)
             replace HR545_1 := Aside0.mk (Kd.C_below (by repeat (first | (with_reducible exact HR545_1.out) | (with_reducible refine Kd.C_alloc ?_ _) | (with_reducible refine Kd.C_drewN ?_ _) | (with_reducible refine Kd.C_drew ?_) | exact HR545_1.out)) hb)
             replace HB := Aside0.mk (zT (jH HB) hb)
             (try clear hb)
             (try clear hb2)
             (try clear hk)
             (try clear hi)
             (try clear ho0)
             refine hK.out _ _ ⟨(kC BK536.out 0).trans rfl, (kC BK536.out 1).trans rfl, (kC BK536.out 2).trans rfl, HS3_, HS4_, HS5_⟩ (fun hHeld => ?_)
             clear hK K
             refine qN 31 ?_
             refine two_ (i := 5) (j := 8) (Ni := some 29) (Nj := some 32) #[true, true, true, true, true, true, true, true, false, false] (tB 10 479) rfl rfl rfl rfl (two_of HT_.out (by kernel_rfl)) (by decide) (by decide) (fun K hK => ?_) (fun K hK => ?_)
             ·skip
              have hcv45 := own_string (P := Tryd.prog) Tryd.underlying25 Tryd.underlying5 Tryd.underlying9 (Kd.own_of_R HO548.out)
              refine value_ (w1 := ?_) (v := ?_) (by rfl) rfl ?_ ?_
              rotate_left 2
              ·go_simp
               constructor
               ·rfl
               ·rfl
              clear hcv45
              refine hK.out _ _ ⟨(kC BK536.out 0).trans rfl, (kC BK536.out 1).trans rfl, (kC BK536.out 2).trans rfl, hHeld.2.2.2.1, hHeld.2.2.2.2.1, hHeld.2.2.2.2.2⟩ (fun hHeld => ?_)
              clear hK K
              refine qN 29 ?_
              refine one_ (i := 8) (N := some 32) (tB 10 511) rfl rfl (one_of HT_.out (by kernel_rfl)) (by decide) (fun K hK => ?_)
              have hcv46 := own_string (P := Tryd.prog) Tryd.underlying25 Tryd.underlying5 Tryd.underlying9 (Kd.own_of_R HO551.out)
              refine value_ (w1 := ?_) (v := ?_) (by rfl) rfl ?_ ?_
              rotate_left 2
              ·go_simp
               constructor
               ·rfl
               ·rfl
              clear hcv46
              refine hK.out _ _ ⟨(kC BK536.out 0).trans rfl, (kC BK536.out 1).trans rfl, (kC BK536.out 2).trans rfl, hHeld.2.2.2.1, hHeld.2.2.2.2.1, hHeld.2.2.2.2.2⟩ (fun hHeld => ?_)
              clear hK K
              refine qN 32 ?_
              exact norm_ (by simp only [putAll, Act.put, List.setIfInBounds_toArray, List.set_cons_zero, List.set_cons_succ]) (hCont (v550) _ ⟨hHeld, (by (with_reducible repeat (first | apply Kd.V_alloc | apply Kd.V_drewN | apply Kd.V_drew)); exact Kd.V_mono HL545_0.out (fun _ hk => ⟨hk.1.1.1, ⟨hk.1.2, ⟨hk.2, ⟨hk.1.1.2.1, ⟨hk.1.1.2.2.1, hk.1.1.2.2.2⟩⟩⟩⟩⟩)), (by (with_reducible repeat (first | apply Kd.V_alloc | apply Kd.V_drewN | apply Kd.V_drew)); exact Kd.V_mono HL545_1.out (fun _ hk => ⟨hk.1.1.1, ⟨hk.1.2, ⟨hk.2, ⟨hk.1.1.2.1, ⟨hk.1.1.2.2.1, hk.1.1.2.2.2⟩⟩⟩⟩⟩)), (by (with_reducible repeat (first | apply Kd.R_alloc | apply Kd.R_drewN | apply Kd.R_drew)); exact Kd.R_mono HO548.out (fun _ hk => ⟨hk.1.1, hk.2⟩)), (by (with_reducible repeat (first | apply Kd.R_alloc | apply Kd.R_drewN | apply Kd.R_drew)); exact Kd.R_mono HO551.out (fun _ hk => ⟨hk.1.1, hk.2⟩)), (by (with_reducible repeat (first | apply Kd.V_alloc | apply Kd.V_drewN | apply Kd.V_drew)); exact Kd.V_mono HO_0.out (fun _ hk => ⟨hk.1.1.1, ⟨hk.1.2, ⟨hk.2, ⟨hk.1.1.2.1, ⟨hk.1.1.2.2.1, hk.1.1.2.2.2⟩⟩⟩⟩⟩)), (by (with_reducible repeat (first | apply Kd.V_alloc | apply Kd.V_drewN | apply Kd.V_drew)); exact Kd.V_mono HO_537000.out (fun _ hk => ⟨hk.1.1.1, ⟨hk.1.2, ⟨hk.2, ⟨hk.1.1.2.1, ⟨hk.1.1.2.2.1, hk.1.1.2.2.2⟩⟩⟩⟩⟩)), (by (with_reducible repeat (first | apply Kd.V_alloc | apply Kd.V_drewN | apply Kd.V_drew)); exact Kd.V_mono HO_537001.out (fun _ hk => ⟨hk.1.1.1, ⟨hk.1.2, ⟨hk.2, ⟨hk.1.1.2.1, ⟨hk.1.1.2.2.1, hk.1.1.2.2.2⟩⟩⟩⟩⟩)), (by (with_reducible repeat (first | apply Kd.N_alloc | apply Kd.N_drewN | apply Kd.N_drew)); exact Kd.N_mono HO_6.out (fun _ hk => ⟨hk.1.1.1, ⟨hk.1.2, ⟨hk.2, ⟨hk.1.1.2.1, hk.1.1.2.2⟩⟩⟩⟩)), (by (with_reducible repeat (first | apply Kd.N_alloc | apply Kd.N_drewN | apply Kd.N_drew)); exact Kd.N_mono HO_7.out (fun _ hk => ⟨hk.1.1.1, ⟨hk.1.2, ⟨hk.2, ⟨hk.1.1.2.1, hk.1.1.2.2⟩⟩⟩⟩)), (jK BK536), (jH HB)⟩)
             ·skip
              have hcv45 := own_string (P := Tryd.prog) Tryd.underlying25 Tryd.underlying5 Tryd.underlying9 (Kd.own_of_R HO551.out)
              refine value_ (w1 := ?_) (v := ?_) (by rfl) rfl ?_ ?_
              rotate_left 2
              ·go_simp
               constructor
               ·rfl
               ·rfl
              clear hcv45
              refine hK.out _ _ ⟨(kC BK536.out 0).trans rfl, (kC BK536.out 1).trans rfl, (kC BK536.out 2).trans rfl, hHeld.2.2.2.1, hHeld.2.2.2.2.1, hHeld.2.2.2.2.2⟩ (fun hHeld => ?_)
              clear hK K
              refine qN 32 ?_
              refine one_ (i := 5) (N := some 29) (tB 10 511) rfl rfl (one_of HT_.out (by kernel_rfl)) (by decide) (fun K hK => ?_)
              have hcv46 := own_string (P := Tryd.prog) Tryd.underlying25 Tryd.underlying5 Tryd.underlying9 (Kd.own_of_R HO548.out)
              refine value_ (w1 := ?_) (v := ?_) (by rfl) rfl ?_ ?_
              rotate_left 2
              ·go_simp
               constructor
               ·rfl
               ·rfl
              clear hcv46
              refine hK.out _ _ ⟨(kC BK536.out 0).trans rfl, (kC BK536.out 1).trans rfl, (kC BK536.out 2).trans rfl, hHeld.2.2.2.1, hHeld.2.2.2.2.1, hHeld.2.2.2.2.2⟩ (fun hHeld => ?_)
              clear hK K
              refine qN 29 ?_
              exact norm_ (by simp only [putAll, Act.put, List.setIfInBounds_toArray, List.set_cons_zero, List.set_cons_succ]) (hCont (v550) _ ⟨hHeld, (by (with_reducible repeat (first | apply Kd.V_alloc | apply Kd.V_drewN | apply Kd.V_drew)); exact Kd.V_mono HL545_0.out (fun _ hk => ⟨hk.1.1.1, ⟨hk.1.2, ⟨hk.2, ⟨hk.1.1.2.1, ⟨hk.1.1.2.2.1, hk.1.1.2.2.2⟩⟩⟩⟩⟩)), (by (with_reducible repeat (first | apply Kd.V_alloc | apply Kd.V_drewN | apply Kd.V_drew)); exact Kd.V_mono HL545_1.out (fun _ hk => ⟨hk.1.1.1, ⟨hk.1.2, ⟨hk.2, ⟨hk.1.1.2.1, ⟨hk.1.1.2.2.1, hk.1.1.2.2.2⟩⟩⟩⟩⟩)), (by (with_reducible repeat (first | apply Kd.R_alloc | apply Kd.R_drewN | apply Kd.R_drew)); exact Kd.R_mono HO548.out (fun _ hk => ⟨hk.1.1, hk.2⟩)), (by (with_reducible repeat (first | apply Kd.R_alloc | apply Kd.R_drewN | apply Kd.R_drew)); exact Kd.R_mono HO551.out (fun _ hk => ⟨hk.1.1, hk.2⟩)), (by (with_reducible repeat (first | apply Kd.V_alloc | apply Kd.V_drewN | apply Kd.V_drew)); exact Kd.V_mono HO_0.out (fun _ hk => ⟨hk.1.1.1, ⟨hk.1.2, ⟨hk.2, ⟨hk.1.1.2.1, ⟨hk.1.1.2.2.1, hk.1.1.2.2.2⟩⟩⟩⟩⟩)), (by (with_reducible repeat (first | apply Kd.V_alloc | apply Kd.V_drewN | apply Kd.V_drew)); exact Kd.V_mono HO_537000.out (fun _ hk => ⟨hk.1.1.1, ⟨hk.1.2, ⟨hk.2, ⟨hk.1.1.2.1, ⟨hk.1.1.2.2.1, hk.1.1.2.2.2⟩⟩⟩⟩⟩)), (by (with_reducible repeat (first | apply Kd.V_alloc | apply Kd.V_drewN | apply Kd.V_drew)); exact Kd.V_mono HO_537001.out (fun _ hk => ⟨hk.1.1.1, ⟨hk.1.2, ⟨hk.2, ⟨hk.1.1.2.1, ⟨hk.1.1.2.2.1, hk.1.1.2.2.2⟩⟩⟩⟩⟩)), (by (with_reducible repeat (first | apply Kd.N_alloc | apply Kd.N_drewN | apply Kd.N_drew)); exact Kd.N_mono HO_6.out (fun _ hk => ⟨hk.1.1.1, ⟨hk.1.2, ⟨hk.2, ⟨hk.1.1.2.1, hk.1.1.2.2⟩⟩⟩⟩)), (by (with_reducible repeat (first | apply Kd.N_alloc | apply Kd.N_drewN | apply Kd.N_drew)); exact Kd.N_mono HO_7.out (fun _ hk => ⟨hk.1.1.1, ⟨hk.1.2, ⟨hk.2, ⟨hk.1.1.2.1, hk.1.1.2.2⟩⟩⟩⟩)), (jK BK536), (jH HB)⟩)
           rintro v550 w47 ⟨hS_, h0_, h1_, h2_, h3_, h4_, h5_, h6_, h7_, h8_, h9_, h10_⟩
           have n0_ : Aside0 (Kd.V k59 59 w47 w.heap.size (fun k_ => ((P0_ k_ ∨ P1_0_ k_ ∨ P1_1_ k_) ∨ w.heap.size ≤ k_) ∧ some k_ ≠ (v547 : Value).ownBlock ∧ some k_ ≠ (v550 : Value).ownBlock ∧ some k_ ≠ (u6 : Value).ownBlock ∧ some k_ ≠ (u7 : Value).ownBlock ∧ k_ ≠ gb536) (.slice A545_0 ((rd_T45 l0 x8_2).f0).length c545_0) ((rd_T45 l0 x8_2).f0)) := ⟨h0_⟩
           have n1_ : Aside0 (Kd.V k59 59 w47 w.heap.size (fun k_ => ((P0_ k_ ∨ P1_0_ k_ ∨ P1_1_ k_) ∨ w.heap.size ≤ k_) ∧ some k_ ≠ (v547 : Value).ownBlock ∧ some k_ ≠ (v550 : Value).ownBlock ∧ some k_ ≠ (u6 : Value).ownBlock ∧ some k_ ≠ (u7 : Value).ownBlock ∧ k_ ≠ gb536) (.slice A545_1 ((rd_T45 l0 x8_2).f1).length c545_1) ((rd_T45 l0 x8_2).f1)) := ⟨h1_⟩
           have n2_ : Aside0 (Kd.R (Kd.int .u8) 5 w47 w.heap.size (fun k_ => (w.heap.size ≤ k_) ∧ some k_ ≠ (v550 : Value).ownBlock) v547 t546) := ⟨h2_⟩
           have n3_ : Aside0 (Kd.R (Kd.int .u8) 5 w47 w.heap.size (fun k_ => (w.heap.size ≤ k_) ∧ some k_ ≠ (v547 : Value).ownBlock) v550 t549) := ⟨h3_⟩
           have n4_ : Aside0 (Kd.V k45 45 w47 w.heap.size (fun k_ => ((P0_ k_ ∨ P1_0_ k_ ∨ P1_1_ k_) ∨ w.heap.size ≤ k_) ∧ some k_ ≠ (v547 : Value).ownBlock ∧ some k_ ≠ (v550 : Value).ownBlock ∧ some k_ ≠ (u6 : Value).ownBlock ∧ some k_ ≠ (u7 : Value).ownBlock ∧ k_ ≠ gb536) (.slice (some ad545) l0.length c0) l0) := ⟨h4_⟩
           have n5_ : Aside0 (Kd.V k59 59 w47 w.heap.size (fun k_ => ((P0_ k_ ∨ P1_0_ k_ ∨ P1_1_ k_) ∨ w.heap.size ≤ k_) ∧ some k_ ≠ (v547 : Value).ownBlock ∧ some k_ ≠ (v550 : Value).ownBlock ∧ some k_ ≠ (u6 : Value).ownBlock ∧ some k_ ≠ (u7 : Value).ownBlock ∧ k_ ≠ gb536) (.slice A1_0 l1_0.length c1_0) l1_0) := ⟨h5_⟩
           have n6_ : Aside0 (Kd.V k59 59 w47 w.heap.size (fun k_ => ((P0_ k_ ∨ P1_0_ k_ ∨ P1_1_ k_) ∨ w.heap.size ≤ k_) ∧ some k_ ≠ (v547 : Value).ownBlock ∧ some k_ ≠ (v550 : Value).ownBlock ∧ some k_ ≠ (u6 : Value).ownBlock ∧ some k_ ≠ (u7 : Value).ownBlock ∧ k_ ≠ gb536) (.slice A1_1 l1_1.length c1_1) l1_1) := ⟨h6_⟩
           have n7_ : Aside0 (Kd.N k45 45 w47 w.heap.size (fun k_ => ((P0_ k_ ∨ P1_0_ k_ ∨ P1_1_ k_) ∨ w.heap.size ≤ k_) ∧ some k_ ≠ (v547 : Value).ownBlock ∧ some k_ ≠ (v550 : Value).ownBlock ∧ some k_ ≠ (u7 : Value).ownBlock ∧ k_ ≠ gb536) u6 x6_2) := ⟨h7_⟩
           have n8_ : Aside0 (Kd.N k45 45 w47 w.heap.size (fun k_ => ((P0_ k_ ∨ P1_0_ k_ ∨ P1_1_ k_) ∨ w.heap.size ≤ k_) ∧ some k_ ≠ (v547 : Value).ownBlock ∧ some k_ ≠ (v550 : Value).ownBlock ∧ some k_ ≠ (u6 : Value).ownBlock ∧ k_ ≠ gb536) u7 x7_2) := ⟨h8_⟩
           have n9_ : Aside0 (w47.heap[gb536]? = some (.cells #[.slice A1_0 l1_0.length c1_0, .slice A1_1 l1_1.length c1_1, .int .u32 a1_2] 45 (0, 0))) := ⟨h9_⟩
           have n10_ : Aside0 (Below w.heap.size w w47) := ⟨h10_⟩
           clear HO_0
           clear HO_6
           clear HO_7
           clear HO_537000
           clear HO_537001
           clear BK536
           clear HB
           clear h0_ h1_ h2_ h3_ h4_ h5_ h6_ h7_ h8_ h9_ h10_
           have HL545_0 := n0_
           have HL545_1 := n1_
           have HO548 := n2_
           have HO551 := n3_
           have HO_0 := n4_
           have HO_537000 := n5_
           have HO_537001 := n6_
           have HO_6 := n7_
           have HO_7 := n8_
           have BK536 := n9_
           have HB := n10_
           clear n0_ n1_ n2_ n3_ n4_ n5_ n6_ n7_ n8_ n9_ n10_
           have hHeld : w47.cell? ⟨gb536, 0, none⟩ = some (.slice A1_0 l1_0.length c1_0) ∧ w47.cell? ⟨gb536, 1, none⟩ = some (.slice A1_1 l1_1.length c1_1) ∧ w47.cell? ⟨gb536, 2, none⟩ = some (.int .u32 a1_2) ∧ w47.cell? (ad545.add ((x8_2).toNat * 3)) = some (.slice A545_0 ((rd_T45 l0 x8_2).f0).length c545_0) ∧ w47.cell? ⟨(ad545.add ((x8_2).toNat * 3)).block, (ad545.add ((x8_2).toNat * 3)).off + 1, none⟩ = some (.slice A545_1 ((rd_T45 l0 x8_2).f1).length c545_1) ∧ w47.cell? ⟨(ad545.add ((x8_2).toNat * 3)).block, (ad545.add ((x8_2).toNat * 3)).off + 2, none⟩ = some (.int .u32 ((rd_T45 l0 x8_2).f2)) := hS_
           refine norm_ (a' := ?_) ?_ ?_
           rotate_left
           ·simp only [putAll, Act.put, List.setIfInBounds_toArray, List.set_cons_zero, List.set_cons_succ]
            rfl
           refine qP 9 33 (tB 10 1023) ?_
           refine done_ (done_of HT_.out (by kernel_rfl)) ?_
           try go_wp2
           replace HO_0 := Aside0.mk (Kd.V_drew HO_0.out)
           replace HO_6 := Aside0.mk (Kd.N_drew HO_6.out)
           replace HO_7 := Aside0.mk (Kd.N_drew HO_7.out)
           replace HO_537000 := Aside0.mk (Kd.V_drew HO_537000.out)
           replace HO_537001 := Aside0.mk (Kd.V_drew HO_537001.out)
           replace HL545_0 := Aside0.mk (Kd.V_drew HL545_0.out)
           replace HL545_1 := Aside0.mk (Kd.V_drew HL545_1.out)
           replace HO548 := Aside0.mk (Kd.R_drew HO548.out)
           replace HO551 := Aside0.mk (Kd.R_drew HO551.out)
           replace BK536 := Aside0.mk (kD BK536.out)
           replace HB := Aside0.mk (zD HB.out)
           have p552 : 0 ≤ (x8_2 : Int) := oD (jA)
           have q552 : x8_2 < (l0.length : Int) := oD (jA)
           obtain ⟨ad552, A552_0, c552_0, A552_1, c552_1, e552, hx552_0, hx552_1, hx552_2, hl552_0, hi552_0, hl552_1, hi552_1⟩ := at_T45 (Kd.V_reads' HO_0.out).2.2 x8_2 p552 q552
           obtain rfl : ad545 = ad552 := (by injection e552)
           obtain ⟨ce552, hce552, hMe552, hcc552⟩ := Kd.V_get HO_0.out z45 x8_2 p552 (by first | exact q552 | exact oD (jA) | (have e_ := (Kd.V_reads' HO_0.out).1; omega))
           obtain ⟨ua552_0, uc552_0, ua552_1, uc552_1, rfl, ul552_0, ge552_0, ul552_1, ge552_1⟩ := k45_openF hMe552
           have hv552_0 := hcc552 0 _ rfl
           rw [Nat.add_zero] at hv552_0
           replace hv552_0 := Option.some.inj (hv552_0.symm.trans hx552_0)
           injection hv552_0 with hva_ hvn_ hvc_
           rw [hva_] at ge552_0
           rw [hvc_] at ul552_0
           have HL552_0 := Aside0.mk (show Kd.V k59 59 _ w.heap.size _ _ ((rd_T45 l0 x8_2).f0) from Kd.V_mk ul552_0 ge552_0)
           clear hva_ hvn_ hvc_ ge552_0 ul552_0
           have hv552_1 := hcc552 1 _ rfl
           rw [add_field _ _ 1 (by omega)] at hv552_1
           replace hv552_1 := Option.some.inj (hv552_1.symm.trans hx552_1)
           injection hv552_1 with hva_ hvn_ hvc_
           rw [hva_] at ge552_1
           rw [hvc_] at ul552_1
           have HL552_1 := Aside0.mk (show Kd.V k59 59 _ w.heap.size _ _ ((rd_T45 l0 x8_2).f1) from Kd.V_mk ul552_1 ge552_1)
           clear hva_ hvn_ hvc_ ge552_1 ul552_1
           clear hcc552 hce552
           have HR552_0 := Aside0.mk hi552_0
           have HC552_0 := Aside0.mk hl552_0
           clear hi552_0 hl552_0
           have HR552_1 := Aside0.mk hi552_1
           have HC552_1 := Aside0.mk hl552_1
           clear hi552_1 hl552_1
           replace p552 := eq_true p552
           replace q552 := eq_true q552
           refine start_ (n := 8) (S := fun w' => w'.cell? ⟨gb536, 0, none⟩ = some (.slice A1_0 l1_0.length c1_0) ∧ w'.cell? ⟨gb536, 1, none⟩ = some (.slice A1_1 l1_1.length c1_1) ∧ w'.cell? ⟨gb536, 2, none⟩ = some (.int .u32 a1_2) ∧ w'.cell? (ad545.add ((x8_2).toNat * 3)) = some (.slice A552_0 ((rd_T45 l0 x8_2).f0).length c552_0) ∧ w'.cell? ⟨(ad545.add ((x8_2).toNat * 3)).block, (ad545.add ((x8_2).toNat * 3)).off + 1, none⟩ = some (.slice A552_1 ((rd_T45 l0 x8_2).f1).length c552_1) ∧ w'.cell? ⟨(ad545.add ((x8_2).toNat * 3)).block, (ad545.add ((x8_2).toNat * 3)).off + 2, none⟩ = some (.int .u32 ((rd_T45 l0 x8_2).f2))) (ds := []) #[false, false, false, false, false, false, false, false] (by kernel_rfl) rfl rfl ⟨(kC BK536.out 0).trans rfl, (kC BK536.out 1).trans rfl, (kC BK536.out 2).trans rfl, hx552_0, hx552_1, hx552_2⟩ (fun hHeld => ?_); refine with_tabW r21_Learn.tab9 r21_Learn.bits9 (fun HT_ HW_ => ?_)
           generalize w47.drew = w48 at HO_0 HO_6 HO_7 HO_537000 HO_537001 HL545_0 HL545_1 HO548 HO551 BK536 HB HL552_0 HL552_1 HR552_0 HR552_1 hx552_0 hx552_1 hx552_2 hHeld ⊢
           refine qP 0 35 (tB 8 1) ?_
           refine qP 1 36 (tB 8 3) ?_
           refine qP 2 37 (tB 8 7) ?_
           refine qT 3 38 (tB 8 15) hHeld ?_ (hv := by rintro w' ⟨s0, s1, s2, s3, s4, s5⟩; go_simp; with_reducible rfl)
           refine qT 5 40 (tB 8 47) hHeld ?_ (hv := by rintro w' ⟨s0, s1, s2, s3, s4, s5⟩; go_simp; with_reducible rfl)
           refine one_ (i := 4) (N := some 39) (tB 8 63) rfl rfl (one_of HT_.out (by kernel_rfl)) (by decide) (fun K hK => ?_)
           refine goes_ Tryd.func31 (by kernel_rfl) rfl #[.agg #[.slice A552_0 ((rd_T45 l0 x8_2).f0).length c552_0, .slice A552_1 ((rd_T45 l0 x8_2).f1).length c552_1, .int .u32 ((rd_T45 l0 x8_2).f2)]] (by rfl) rfl rfl jZ ?_
           with_reducible refine (r21_Bytes.calls k2 _ _ ((rd_T45 l0 x8_2).f0) _ _ ((rd_T45 l0 x8_2).f1) ((rd_T45 l0 x8_2).f2) t553 _ ?side1 ?side2 ?side3 ?side4 A24.out).mono ?_
           (case side1 => repeat (first | exact (by repeat (first | (with_reducible exact HR552_0.out) | (with_reducible refine Kd.C_alloc ?_ _) | (with_reducible refine Kd.C_drewN ?_ _) | (with_reducible refine Kd.C_drew ?_) | exact HR552_0.out)) | (with_reducible refine Kd.C_alloc ?_ _) | (with_reducible refine Kd.C_drewN ?_ _) | (with_reducible refine Kd.C_drew ?_)))
           (case side2 => exact HC552_0.out)
           (case side3 => repeat (first | exact (by repeat (first | (with_reducible exact HR552_1.out) | (with_reducible refine Kd.C_alloc ?_ _) | (with_reducible refine Kd.C_drewN ?_ _) | (with_reducible refine Kd.C_drew ?_) | exact HR552_1.out)) | (with_reducible refine Kd.C_alloc ?_ _) | (with_reducible refine Kd.C_drewN ?_ _) | (with_reducible refine Kd.C_drew ?_)))
           (case side4 => exact HC552_1.out)
           rintro e w49 ⟨v554, rfl, ho0, hb⟩
           have HS3_ := (hb.cell (bL _ _ (hHeld.2.2.2.1))).trans (hHeld.2.2.2.1)
           have HS4_ := (hb.cell (bL _ _ (hHeld.2.2.2.2.1))).trans (hHeld.2.2.2.2.1)
           have HS5_ := (hb.cell (bL _ _ (hHeld.2.2.2.2.2))).trans (hHeld.2.2.2.2.2)
           refine ⟨_, rfl, ?_⟩
           have HO555 := Aside0.mk (Kd.R_lower (Kd.R_new' (Kd.R_new' (Kd.R_newM (M := fun k_ => (w.heap.size ≤ k_)) ho0 (zZ (jH HB)) (fun k_ h_ => h_)) (Kd.R_lt (jR HO548))) (Kd.R_lt (jR HO551))) (zZ (jH HB)))
           replace HO_0 := Aside0.mk (Kd.V_elder' (jV HO_0) (Kd.R_base ho0) hb)
           replace HO_6 := Aside0.mk (Kd.N_elder' (by (with_reducible repeat (first | apply Kd.N_alloc | apply Kd.N_drewN | apply Kd.N_drew)); exact HO_6.out) (Kd.R_base ho0) hb)
           replace HO_7 := Aside0.mk (Kd.N_elder' (by (with_reducible repeat (first | apply Kd.N_alloc | apply Kd.N_drewN | apply Kd.N_drew)); exact HO_7.out) (Kd.R_base ho0) hb)
           replace HO_537000 := Aside0.mk (Kd.V_elder' (jV HO_537000) (Kd.R_base ho0) hb)
           replace HO_537001 := Aside0.mk (Kd.V_elder' (jV HO_537001) (Kd.R_base ho0) hb)
           replace HL545_0 := Aside0.mk (Kd.V_elder' (jV HL545_0) (Kd.R_base ho0) hb)
           replace HL545_1 := Aside0.mk (Kd.V_elder' (jV HL545_1) (Kd.R_base ho0) hb)
           replace HO548 := Aside0.mk (Kd.R_elder' (jR HO548) (Kd.R_base ho0) hb)
           replace HO551 := Aside0.mk (Kd.R_elder' (jR HO551) (Kd.R_base ho0) hb)
           replace HL552_0 := Aside0.mk (Kd.V_elder' (jV HL552_0) (Kd.R_base ho0) hb)
           replace HL552_1 := Aside0.mk (Kd.V_elder' (jV HL552_1) (Kd.R_base ho0) hb)
           replace BK536 := Aside0.mk (jB BK536 hb)
           replace HR552_0 := Aside0.mk (Kd.C_below (by repeat (first | (with_reducible exact HR552_0.out) | (with_reducible refine Kd.C_alloc ?_ _) | (with_reducible refine Kd.C_drewN ?_ _) | (with_reducible refine Kd.C_drew ?_) | exact HR552_0.out)) hb)
           replace HR552_1 := Aside0.mk (Kd.C_below (by repeat (first | (with_reducible exact HR552_1.out) | (with_reducible refine Kd.C_alloc ?_ _) | (with_reducible refine Kd.C_drewN ?_ _) | (with_reducible refine Kd.C_drew ?_) | exact HR552_1.out)) hb)
           replace HB := Aside0.mk (zT (jH HB) hb)
           (try clear hb)
           (try clear hb2)
           (try clear hk)
           (try clear hi)
           (try clear ho0)
           refine hK.out _ _ ⟨(kC BK536.out 0).trans rfl, (kC BK536.out 1).trans rfl, (kC BK536.out 2).trans rfl, HS3_, HS4_, HS5_⟩ (fun hHeld => ?_)
           clear hK K
           refine qN 39 ?_
           refine one_ (i := 6) (N := some 41) (tB 8 127) rfl rfl (one_of HT_.out (by kernel_rfl)) (by decide) (fun K hK => ?_)
           refine goes_ Tryd.func31 (by kernel_rfl) rfl #[.agg #[.slice A1_0 l1_0.length c1_0, .slice A1_1 l1_1.length c1_1, .int .u32 a1_2]] (by rfl) rfl rfl jZ ?_
           with_reducible refine (r21_Bytes.calls k2 _ _ l1_0 _ _ l1_1 a1_2 t556 _ ?side1 ?side2 ?side3 ?side4 A25.out).mono ?_
           (case side1 => exact jC (Kd.V_reads' HO_537000.out).2.2)
           (case side2 => exact (Kd.V_reads' HO_537000.out).2.1)
           (case side3 => exact jC (Kd.V_reads' HO_537001.out).2.2)
           (case side4 => exact (Kd.V_reads' HO_537001.out).2.1)
           rintro e w50 ⟨v557, rfl, ho0, hb⟩
           have HS3_ := (hb.cell (bL _ _ (hHeld.2.2.2.1))).trans (hHeld.2.2.2.1)
           have HS4_ := (hb.cell (bL _ _ (hHeld.2.2.2.2.1))).trans (hHeld.2.2.2.2.1)
           have HS5_ := (hb.cell (bL _ _ (hHeld.2.2.2.2.2))).trans (hHeld.2.2.2.2.2)
           refine ⟨_, rfl, ?_⟩
           have HO558 := Aside0.mk (Kd.R_lower (Kd.R_new' (Kd.R_new' (Kd.R_new' (Kd.R_newM (M := fun k_ => (w.heap.size ≤ k_)) ho0 (zZ (jH HB)) (fun k_ h_ => h_)) (Kd.R_lt (jR HO548))) (Kd.R_lt (jR HO551))) (Kd.R_lt (jR HO555))) (zZ (jH HB)))
           replace HO_0 := Aside0.mk (Kd.V_elder' (jV HO_0) (Kd.R_base ho0) hb)
           replace HO_6 := Aside0.mk (Kd.N_elder' (by (with_reducible repeat (first | apply Kd.N_alloc | apply Kd.N_drewN | apply Kd.N_drew)); exact HO_6.out) (Kd.R_base ho0) hb)
           replace HO_7 := Aside0.mk (Kd.N_elder' (by (with_reducible repeat (first | apply Kd.N_alloc | apply Kd.N_drewN | apply Kd.N_drew)); exact HO_7.out) (Kd.R_base ho0) hb)
           replace HO_537000 := Aside0.mk (Kd.V_elder' (jV HO_537000) (Kd.R_base ho0) hb)
           replace HO_537001 := Aside0.mk (Kd.V_elder' (jV HO_537001) (Kd.R_base ho0) hb)
           replace HL545_0 := Aside0.mk (Kd.V_elder' (jV HL545_0) (Kd.R_base ho0) hb)
           replace HL545_1 := Aside0.mk (Kd.V_elder' (jV HL545_1) (Kd.R_base ho0) hb)
           replace HO548 := Aside0.mk (Kd.R_elder' (jR HO548) (Kd.R_base ho0) hb)
           replace HO551 := Aside0.mk (Kd.R_elder' (jR HO551) (Kd.R_base ho0) hb)
           replace HL552_0 := Aside0.mk (Kd.V_elder' (jV HL552_0) (Kd.R_base ho0) hb)
           replace HL552_1 := Aside0.mk (Kd.V_elder' (jV HL552_1) (Kd.R_base ho0) hb)
           replace HO555 := Aside0.mk (Kd.R_elder' (jR HO555) (Kd.R_base ho0) hb)
           replace BK536 := Aside0.mk (jB BK536 hb)
           replace HR552_0 := Aside0.mk (Kd.C_below (by repeat (first | (with_reducible exact HR552_0.out) | (with_reducible refine Kd.C_alloc ?_ _) | (with_reducible refine Kd.C_drewN ?_ _) | (with_reducible refine Kd.C_drew ?_) | exact HR552_0.out)) hb)
           replace HR552_1 := Aside0.mk (Kd.C_below (by repeat (first | (with_reducible exact HR552_1.out) | (with_reducible refine Kd.C_alloc ?_ _) | (with_reducible refine Kd.C_drewN ?_ _) | (with_reducible refine Kd.C_drew ?_) | exact HR552_1.out)) hb)
           replace HB := Aside0.mk (zT (jH HB) hb)
           (try clear hb)
           (try clear hb2)
           (try clear hk)
           (try clear hi)
           (try clear ho0)
           obtain ⟨Ao51, co51, eo51⟩ := Kd.R_slice HO555.out
           (first | subst eo51 | (injection eo51 with f1_ f2_ f3_; have f4_ := f1_.symm; have f5_ := f3_.symm; clear f1_ f2_ f3_; subst f4_; subst f5_))
           obtain ⟨Ao52, co52, eo52⟩ := Kd.R_slice HO558.out
           (first | subst eo52 | (injection eo52 with f1_ f2_ f3_; have f4_ := f1_.symm; have f5_ := f3_.symm; clear f1_ f2_ f3_; subst f4_; subst f5_))
           refine hK.out _ _ ⟨(kC BK536.out 0).trans rfl, (kC BK536.out 1).trans rfl, (kC BK536.out 2).trans rfl, HS3_, HS4_, HS5_⟩ (fun hHeld => ?_)
           clear hK K
           refine qN 41 ?_
           refine one_ (i := 7) (N := some 42) (tB 8 255) rfl rfl (one_of HT_.out (by kernel_rfl)) (by decide) (fun K hK => ?_)
           refine goes_ Tryd.func30 (by kernel_rfl) rfl #[.slice Ao51 t553.length co51, .slice Ao52 t556.length co52] (by rfl) rfl rfl jZ ?_
           with_reducible refine (r21_less.calls k2 _ _ t553 _ _ t556 false _ ?side1 ?side2 ?side3 ?side4 A26.out).mono ?_
           (case side1 => exact jC (Kd.R_reads' HO555.out).2.2)
           (case side2 => exact (Kd.R_reads' HO555.out).2.1)
           (case side3 => exact jC (Kd.R_reads' HO558.out).2.2)
           (case side4 => exact (Kd.R_reads' HO558.out).2.1)
           rintro e w' ⟨rfl, ⟨nd, rfl⟩⟩
           refine ⟨_, rfl, ?_⟩
           refine hK.out _ _ ⟨(kC BK536.out 0).trans rfl, (kC BK536.out 1).trans rfl, (kC BK536.out 2).trans rfl, hHeld.2.2.2.1, hHeld.2.2.2.2.1, hHeld.2.2.2.2.2⟩ (fun hHeld => ?_)
           clear hK K
           refine qN 42 ?_
           refine done_ (done_of HT_.out (by kernel_rfl)) ?_
           have p564 : 0 ≤ (x8_2 : Int) := oD (jA)
           have q564 : x8_2 < (l0.length : Int) := oD (jA)
           obtain ⟨ad564, A564_0, c564_0, A564_1, c564_1, e564, hx564_0, hx564_1, hx564_2, hl564_0, hi564_0, hl564_1, hi564_1⟩ := at_T45 (Kd.V_reads' HO_0.out).2.2 x8_2 p564 q564
           obtain rfl : ad545 = ad564 := (by injection e564)
           obtain ⟨rfl, rfl⟩ : A552_0 = A564_0 ∧ c552_0 = c564_0 := by have q_ := Option.some.inj (HS3_.symm.trans hx564_0); injection q_ with q1_ q2_ q3_; exact ⟨q1_, q3_⟩
           obtain ⟨rfl, rfl⟩ : A552_1 = A564_1 ∧ c552_1 = c564_1 := by have q_ := Option.some.inj (HS4_.symm.trans hx564_1); injection q_ with q1_ q2_ q3_; exact ⟨q1_, q3_⟩
           obtain ⟨ce564, hce564, hMe564, hcc564⟩ := Kd.V_get HO_0.out z45 x8_2 p564 (by first | exact q564 | exact oD (jA) | (have e_ := (Kd.V_reads' HO_0.out).1; omega))
           obtain ⟨ua564_0, uc564_0, ua564_1, uc564_1, rfl, ul564_0, ge564_0, ul564_1, ge564_1⟩ := k45_openF hMe564
           have hv564_0 := hcc564 0 _ rfl
           rw [Nat.add_zero] at hv564_0
           replace hv564_0 := Option.some.inj (hv564_0.symm.trans hx564_0)
           injection hv564_0 with hva_ hvn_ hvc_
           rw [hva_] at ge564_0
           rw [hvc_] at ul564_0
           have HL564_0 := Aside0.mk (show Kd.V k59 59 _ w.heap.size _ _ ((rd_T45 l0 x8_2).f0) from Kd.V_mk ul564_0 ge564_0)
           clear hva_ hvn_ hvc_ ge564_0 ul564_0
           have hv564_1 := hcc564 1 _ rfl
           rw [add_field _ _ 1 (by omega)] at hv564_1
           replace hv564_1 := Option.some.inj (hv564_1.symm.trans hx564_1)
           injection hv564_1 with hva_ hvn_ hvc_
           rw [hva_] at ge564_1
           rw [hvc_] at ul564_1
           have HL564_1 := Aside0.mk (show Kd.V k59 59 _ w.heap.size _ _ ((rd_T45 l0 x8_2).f1) from Kd.V_mk ul564_1 ge564_1)
           clear hva_ hvn_ hvc_ ge564_1 ul564_1
           clear hcc564 hce564
           have HR564_0 := Aside0.mk hi564_0
           have HC564_0 := Aside0.mk hl564_0
           clear hi564_0 hl564_0
           have HR564_1 := Aside0.mk hi564_1
           have HC564_1 := Aside0.mk hl564_1
           clear hi564_1 hl564_1
           replace p564 := eq_true p564
           replace q564 := eq_true q564
           try go_wp2_with (first | ((with_reducible refine gate_builtin (b := .append) (xs := #[.tmp 50, .tmp 55]) rfl ?_); at_builtin; refine Kd.N_append k45 (w0 := w) w.heap.size rfl (.tmp 50) (.tmp 55) 30 45 (.agg #[(.slice none 0 0), (.slice none 0 0), (.int .u32 0)]) 56 rfl Tryd.underlying30 info45 rfl (by decide) (by omega) u7 x7_2 (⟨(rd_T45 l0 x8_2).f0, (rd_T45 l0 x8_2).f1, (rd_T45 l0 x8_2).f2⟩ : S45) [.slice A552_0 ((rd_T45 l0 x8_2).f0).length c552_0, .slice A552_1 ((rd_T45 l0 x8_2).f1).length c552_1, .int .u32 ((rd_T45 l0 x8_2).f2)] (fun k_ => ((P0_ k_ ∨ P1_0_ k_ ∨ P1_1_ k_) ∨ w.heap.size ≤ k_) ∧ some k_ ≠ (u6 : Value).ownBlock ∧ some k_ ≠ (v547 : Value).ownBlock ∧ some k_ ≠ (v550 : Value).ownBlock ∧ some k_ ≠ (.slice Ao51 t553.length co51 : Value).ownBlock ∧ some k_ ≠ (.slice Ao52 t556.length co52 : Value).ownBlock ∧ k_ ≠ gb536) (fun k_ => ((fun k_ => ((P0_ k_ ∨ P1_0_ k_ ∨ P1_1_ k_) ∨ w.heap.size ≤ k_) ∧ some k_ ≠ (u6 : Value).ownBlock ∧ some k_ ≠ (v547 : Value).ownBlock ∧ some k_ ≠ (v550 : Value).ownBlock ∧ some k_ ≠ (.slice Ao51 t553.length co51 : Value).ownBlock ∧ some k_ ≠ (.slice Ao52 t556.length co52 : Value).ownBlock ∧ k_ ≠ gb536)) k_ ∧ some k_ ≠ (u7 : Value).ownBlock) rfl rfl ?aP (fun _ hk => hk) ?aF ?aO ?aB ?aS ?aL ?_; (case aP => exact (k45_mkF _ _ (⟨(rd_T45 l0 x8_2).f0, (rd_T45 l0 x8_2).f1, (rd_T45 l0 x8_2).f2⟩ : S45) (Kd.V_reads' HL564_0.out).2.1 (Kd.V_F (Kd.V_mono (ok' := (fun k_ => ((fun k_ => ((P0_ k_ ∨ P1_0_ k_ ∨ P1_1_ k_) ∨ w.heap.size ≤ k_) ∧ some k_ ≠ (u6 : Value).ownBlock ∧ some k_ ≠ (v547 : Value).ownBlock ∧ some k_ ≠ (v550 : Value).ownBlock ∧ some k_ ≠ (.slice Ao51 t553.length co51 : Value).ownBlock ∧ some k_ ≠ (.slice Ao52 t556.length co52 : Value).ownBlock ∧ k_ ≠ gb536)) k_ ∧ some k_ ≠ (u7 : Value).ownBlock)) (HL564_0.out) (fun k_ hk => ⟨⟨hk.1.1.1, ⟨hk.1.1.2.2.2.1, ⟨hk.1.1.2.1, ⟨hk.1.1.2.2.1, ⟨hk.1.2, ⟨hk.2, hk.1.1.2.2.2.2.2⟩⟩⟩⟩⟩⟩, hk.1.1.2.2.2.2.1⟩))) (Kd.V_reads' HL564_1.out).2.1 (Kd.V_F (Kd.V_mono (ok' := (fun k_ => ((fun k_ => ((P0_ k_ ∨ P1_0_ k_ ∨ P1_1_ k_) ∨ w.heap.size ≤ k_) ∧ some k_ ≠ (u6 : Value).ownBlock ∧ some k_ ≠ (v547 : Value).ownBlock ∧ some k_ ≠ (v550 : Value).ownBlock ∧ some k_ ≠ (.slice Ao51 t553.length co51 : Value).ownBlock ∧ some k_ ≠ (.slice Ao52 t556.length co52 : Value).ownBlock ∧ k_ ≠ gb536)) k_ ∧ some k_ ≠ (u7 : Value).ownBlock)) (HL564_1.out) (fun k_ hk => ⟨⟨hk.1.1.1, ⟨hk.1.1.2.2.2.1, ⟨hk.1.1.2.1, ⟨hk.1.1.2.2.1, ⟨hk.1.2, ⟨hk.2, hk.1.1.2.2.2.2.2⟩⟩⟩⟩⟩⟩, hk.1.1.2.2.2.2.1⟩))))); (case aB => exact (jH HB)); (case aF => exact (fun k_ hk => ⟨(.inr (Nat.le_trans (zZ (jH HB)) hk)), Kd.fresh' (Kd.N_lt (by (with_reducible repeat (first | apply Kd.N_alloc | apply Kd.N_drewN | apply Kd.N_drew)); exact HO_6.out)) k_ hk, Kd.fresh' (Kd.R_lt (jR HO548)) k_ hk, Kd.fresh' (Kd.R_lt (jR HO551)) k_ hk, Kd.fresh' (Kd.R_lt (jR HO555)) k_ hk, Kd.fresh' (Kd.R_lt (jR HO558)) k_ hk, Kd.freshB (g := gb536) (o := .cells #[.slice A1_0 l1_0.length c1_0, .slice A1_1 l1_1.length c1_1, .int .u32 a1_2] 45 (0, 0)) (jK BK536) k_ hk⟩)); (case aO => exact (by (with_reducible repeat (first | apply Kd.N_alloc | apply Kd.N_drewN | apply Kd.N_drew)); exact Kd.N_mono HO_7.out (fun _ hk => ⟨hk.1.1.1, ⟨hk.1.1.2.2.2.1, ⟨hk.1.1.2.1, ⟨hk.1.1.2.2.1, ⟨hk.1.2, ⟨hk.2, hk.1.1.2.2.2.2⟩⟩⟩⟩⟩⟩))); (case aS => exact (zZ (jH HB))); (case aL => have := LMc41.out; omega); intro v566 w53 ho hb hg hat; rw [← Ny565.out] at ho; have HO567 := Aside0.mk (ho); replace HO_0 := Aside0.mk (Kd.V_afterv (ok := (fun k_ => ((P0_ k_ ∨ P1_0_ k_ ∨ P1_1_ k_) ∨ w.heap.size ≤ k_) ∧ some k_ ≠ (u6 : Value).ownBlock ∧ some k_ ≠ (v547 : Value).ownBlock ∧ some k_ ≠ (v550 : Value).ownBlock ∧ some k_ ≠ (.slice Ao51 t553.length co51 : Value).ownBlock ∧ some k_ ≠ (.slice Ao52 t556.length co52 : Value).ownBlock ∧ k_ ≠ gb536)) (by (with_reducible repeat (first | apply Kd.V_alloc | apply Kd.V_drewN | apply Kd.V_drew)); exact Kd.V_mono HO_0.out (fun _ hk => ⟨⟨hk.1.1.1, ⟨hk.1.1.2.2.2.1, ⟨hk.1.1.2.1, ⟨hk.1.1.2.2.1, ⟨hk.1.2, ⟨hk.2, hk.1.1.2.2.2.2.2⟩⟩⟩⟩⟩⟩, hk.1.1.2.2.2.2.1⟩)) hg hat); replace HO_6 := Aside0.mk (Kd.N_afterv (ok := (fun k_ => ((P0_ k_ ∨ P1_0_ k_ ∨ P1_1_ k_) ∨ w.heap.size ≤ k_) ∧ some k_ ≠ (v547 : Value).ownBlock ∧ some k_ ≠ (v550 : Value).ownBlock ∧ some k_ ≠ (.slice Ao51 t553.length co51 : Value).ownBlock ∧ some k_ ≠ (.slice Ao52 t556.length co52 : Value).ownBlock ∧ k_ ≠ gb536)) (by (with_reducible repeat (first | apply Kd.N_alloc | apply Kd.N_drewN | apply Kd.N_drew)); exact Kd.N_mono HO_6.out (fun _ hk => ⟨⟨hk.1.1.1, ⟨hk.1.1.2.1, ⟨hk.1.1.2.2.1, ⟨hk.1.2, ⟨hk.2, hk.1.1.2.2.2.2⟩⟩⟩⟩⟩, hk.1.1.2.2.2.1⟩)) hg hat); replace HO_537000 := Aside0.mk (Kd.V_afterv (ok := (fun k_ => ((P0_ k_ ∨ P1_0_ k_ ∨ P1_1_ k_) ∨ w.heap.size ≤ k_) ∧ some k_ ≠ (u6 : Value).ownBlock ∧ some k_ ≠ (v547 : Value).ownBlock ∧ some k_ ≠ (v550 : Value).ownBlock ∧ some k_ ≠ (.slice Ao51 t553.length co51 : Value).ownBlock ∧ some k_ ≠ (.slice Ao52 t556.length co52 : Value).ownBlock ∧ k_ ≠ gb536)) (by (with_reducible repeat (first | apply Kd.V_alloc | apply Kd.V_drewN | apply Kd.V_drew)); exact Kd.V_mono HO_537000.out (fun _ hk => ⟨⟨hk.1.1.1, ⟨hk.1.1.2.2.2.1, ⟨hk.1.1.2.1, ⟨hk.1.1.2.2.1, ⟨hk.1.2, ⟨hk.2, hk.1.1.2.2.2.2.2⟩⟩⟩⟩⟩⟩, hk.1.1.2.2.2.2.1⟩)) hg hat); replace HO_537001 := Aside0.mk (Kd.V_afterv (ok := (fun k_ => ((P0_ k_ ∨ P1_0_ k_ ∨ P1_1_ k_) ∨ w.heap.size ≤ k_) ∧ some k_ ≠ (u6 : Value).ownBlock ∧ some k_ ≠ (v547 : Value).ownBlock ∧ some k_ ≠ (v550 : Value).ownBlock ∧ some k_ ≠ (.slice Ao51 t553.length co51 : Value).ownBlock ∧ some k_ ≠ (.slice Ao52 t556.length co52 : Value).ownBlock ∧ k_ ≠ gb536)) (by (with_reducible repeat (first | apply Kd.V_alloc | apply Kd.V_drewN | apply Kd.V_drew)); exact Kd.V_mono HO_537001.out (fun _ hk => ⟨⟨hk.1.1.1, ⟨hk.1.1.2.2.2.1, ⟨hk.1.1.2.1, ⟨hk.1.1.2.2.1, ⟨hk.1.2, ⟨hk.2, hk.1.1.2.2.2.2.2⟩⟩⟩⟩⟩⟩, hk.1.1.2.2.2.2.1⟩)) hg hat); replace BK536 := Aside0.mk (kG (g := gb536) (o := .cells #[.slice A1_0 l1_0.length c1_0, .slice A1_1 l1_1.length c1_1, .int .u32 a1_2] 45 (0, 0)) (jK BK536) hg (Kd.N_away HO_7.out (fun _ hk => hk.1.1.2.2.2.2))); replace HL545_0 := Aside0.mk (Kd.V_afterv (ok := (fun k_ => ((P0_ k_ ∨ P1_0_ k_ ∨ P1_1_ k_) ∨ w.heap.size ≤ k_) ∧ some k_ ≠ (u6 : Value).ownBlock ∧ some k_ ≠ (v547 : Value).ownBlock ∧ some k_ ≠ (v550 : Value).ownBlock ∧ some k_ ≠ (.slice Ao51 t553.length co51 : Value).ownBlock ∧ some k_ ≠ (.slice Ao52 t556.length co52 : Value).ownBlock ∧ k_ ≠ gb536)) (by (with_reducible repeat (first | apply Kd.V_alloc | apply Kd.V_drewN | apply Kd.V_drew)); exact Kd.V_mono HL545_0.out (fun _ hk => ⟨⟨hk.1.1.1, ⟨hk.1.1.2.2.2.1, ⟨hk.1.1.2.1, ⟨hk.1.1.2.2.1, ⟨hk.1.2, ⟨hk.2, hk.1.1.2.2.2.2.2⟩⟩⟩⟩⟩⟩, hk.1.1.2.2.2.2.1⟩)) hg hat); replace HL545_1 := Aside0.mk (Kd.V_afterv (ok := (fun k_ => ((P0_ k_ ∨ P1_0_ k_ ∨ P1_1_ k_) ∨ w.heap.size ≤ k_) ∧ some k_ ≠ (u6 : Value).ownBlock ∧ some k_ ≠ (v547 : Value).ownBlock ∧ some k_ ≠ (v550 : Value).ownBlock ∧ some k_ ≠ (.slice Ao51 t553.length co51 : Value).ownBlock ∧ some k_ ≠ (.slice Ao52 t556.length co52 : Value).ownBlock ∧ k_ ≠ gb536)) (by (with_reducible repeat (first | apply Kd.V_alloc | apply Kd.V_drewN | apply Kd.V_drew)); exact Kd.V_mono HL545_1.out (fun _ hk => ⟨⟨hk.1.1.1, ⟨hk.1.1.2.2.2.1, ⟨hk.1.1.2.1, ⟨hk.1.1.2.2.1, ⟨hk.1.2, ⟨hk.2, hk.1.1.2.2.2.2.2⟩⟩⟩⟩⟩⟩, hk.1.1.2.2.2.2.1⟩)) hg hat); replace HO548 := Aside0.mk (Kd.R_over' (jR HO548) (Kd.N_typed (by (with_reducible repeat (first | apply Kd.N_alloc | apply Kd.N_drewN | apply Kd.N_drew)); exact HO_7.out)) (by decide) hg); replace HO551 := Aside0.mk (Kd.R_over' (jR HO551) (Kd.N_typed (by (with_reducible repeat (first | apply Kd.N_alloc | apply Kd.N_drewN | apply Kd.N_drew)); exact HO_7.out)) (by decide) hg); replace HL552_0 := Aside0.mk (Kd.V_afterv (ok := (fun k_ => ((P0_ k_ ∨ P1_0_ k_ ∨ P1_1_ k_) ∨ w.heap.size ≤ k_) ∧ some k_ ≠ (u6 : Value).ownBlock ∧ some k_ ≠ (v547 : Value).ownBlock ∧ some k_ ≠ (v550 : Value).ownBlock ∧ some k_ ≠ (.slice Ao51 t553.length co51 : Value).ownBlock ∧ some k_ ≠ (.slice Ao52 t556.length co52 : Value).ownBlock ∧ k_ ≠ gb536)) (by (with_reducible repeat (first | apply Kd.V_alloc | apply Kd.V_drewN | apply Kd.V_drew)); exact Kd.V_mono HL552_0.out (fun _ hk => ⟨⟨hk.1.1.1, ⟨hk.1.1.2.2.2.1, ⟨hk.1.1.2.1, ⟨hk.1.1.2.2.1, ⟨hk.1.2, ⟨hk.2, hk.1.1.2.2.2.2.2⟩⟩⟩⟩⟩⟩, hk.1.1.2.2.2.2.1⟩)) hg hat); replace HL552_1 := Aside0.mk (Kd.V_afterv (ok := (fun k_ => ((P0_ k_ ∨ P1_0_ k_ ∨ P1_1_ k_) ∨ w.heap.size ≤ k_) ∧ some k_ ≠ (u6 : Value).ownBlock ∧ some k_ ≠ (v547 : Value).ownBlock ∧ some k_ ≠ (v550 : Value).ownBlock ∧ some k_ ≠ (.slice Ao51 t553.length co51 : Value).ownBlock ∧ some k_ ≠ (.slice Ao52 t556.length co52 : Value).ownBlock ∧ k_ ≠ gb536)) (by (with_reducible repeat (first | apply Kd.V_alloc | apply Kd.V_drewN | apply Kd.V_drew)); exact Kd.V_mono HL552_1.out (fun _ hk => ⟨⟨hk.1.1.1, ⟨hk.1.1.2.2.2.1, ⟨hk.1.1.2.1, ⟨hk.1.1.2.2.1, ⟨hk.1.2, ⟨hk.2, hk.1.1.2.2.2.2.2⟩⟩⟩⟩⟩⟩, hk.1.1.2.2.2.2.1⟩)) hg hat); replace HO555 := Aside0.mk (Kd.R_over' (jR HO555) (Kd.N_typed (by (with_reducible repeat (first | apply Kd.N_alloc | apply Kd.N_drewN | apply Kd.N_drew)); exact HO_7.out)) (by decide) hg); replace HO558 := Aside0.mk (Kd.R_over' (jR HO558) (Kd.N_typed (by (with_reducible repeat (first | apply Kd.N_alloc | apply Kd.N_drewN | apply Kd.N_drew)); exact HO_7.out)) (by decide) hg); replace HL564_0 := Aside0.mk (Kd.V_afterv (ok := (fun k_ => ((P0_ k_ ∨ P1_0_ k_ ∨ P1_1_ k_) ∨ w.heap.size ≤ k_) ∧ some k_ ≠ (u6 : Value).ownBlock ∧ some k_ ≠ (v547 : Value).ownBlock ∧ some k_ ≠ (v550 : Value).ownBlock ∧ some k_ ≠ (.slice Ao51 t553.length co51 : Value).ownBlock ∧ some k_ ≠ (.slice Ao52 t556.length co52 : Value).ownBlock ∧ k_ ≠ gb536)) (by (with_reducible repeat (first | apply Kd.V_alloc | apply Kd.V_drewN | apply Kd.V_drew)); exact Kd.V_mono HL564_0.out (fun _ hk => ⟨⟨hk.1.1.1, ⟨hk.1.1.2.2.2.1, ⟨hk.1.1.2.1, ⟨hk.1.1.2.2.1, ⟨hk.1.2, ⟨hk.2, hk.1.1.2.2.2.2.2⟩⟩⟩⟩⟩⟩, hk.1.1.2.2.2.2.1⟩)) hg hat); replace HL564_1 := Aside0.mk (Kd.V_afterv (ok := (fun k_ => ((P0_ k_ ∨ P1_0_ k_ ∨ P1_1_ k_) ∨ w.heap.size ≤ k_) ∧ some k_ ≠ (u6 : Value).ownBlock ∧ some k_ ≠ (v547 : Value).ownBlock ∧ some k_ ≠ (v550 : Value).ownBlock ∧ some k_ ≠ (.slice Ao51 t553.length co51 : Value).ownBlock ∧ some k_ ≠ (.slice Ao52 t556.length co52 : Value).ownBlock ∧ k_ ≠ gb536)) (by (with_reducible repeat (first | apply Kd.V_alloc | apply Kd.V_drewN | apply Kd.V_drew)); exact Kd.V_mono HL564_1.out (fun _ hk => ⟨⟨hk.1.1.1, ⟨hk.1.1.2.2.2.1, ⟨hk.1.1.2.1, ⟨hk.1.1.2.2.1, ⟨hk.1.2, ⟨hk.2, hk.1.1.2.2.2.2.2⟩⟩⟩⟩⟩⟩, hk.1.1.2.2.2.2.1⟩)) hg hat); replace HB := Aside0.mk (hb); clear HO_7; clear ho hb hg hat))
           go_roundg k2
           case measure => have := HJ2.out; have := HK2.out; omega
           case rel => exact ⟨(x6_2), (y565), (wrap64 (x8_2 + 1)), jS, H', ⟨by have := HJ2.out; have := HK2.out; omega⟩, ⟨by (with_reducible repeat (first | apply Kd.V_alloc | apply Kd.V_drewN | apply Kd.V_drew)); exact Kd.V_mono HO_0.out (fun _ hk => ⟨hk.1.1, ⟨hk.1.2.1, ⟨hk.2, hk.1.2.2.2.2.2.2⟩⟩⟩)⟩, ⟨by (with_reducible repeat (first | apply Kd.N_alloc | apply Kd.N_drewN | apply Kd.N_drew)); exact Kd.N_mono HO_6.out (fun _ hk => ⟨hk.1.1, ⟨hk.2, hk.1.2.2.2.2.2⟩⟩)⟩, ⟨by (with_reducible repeat (first | apply Kd.N_alloc | apply Kd.N_drewN | apply Kd.N_drew)); exact Kd.N_mono HO567.out (fun _ hk => ⟨hk.1, ⟨hk.2.1, hk.2.2.2.2.2.2⟩⟩)⟩, ⟨by (with_reducible repeat (first | apply Kd.V_alloc | apply Kd.V_drewN | apply Kd.V_drew)); exact Kd.V_mono HO_537000.out (fun _ hk => ⟨hk.1.1, ⟨hk.1.2.1, ⟨hk.2, hk.1.2.2.2.2.2.2⟩⟩⟩)⟩, ⟨by (with_reducible repeat (first | apply Kd.V_alloc | apply Kd.V_drewN | apply Kd.V_drew)); exact Kd.V_mono HO_537001.out (fun _ hk => ⟨hk.1.1, ⟨hk.1.2.1, ⟨hk.2, hk.1.2.2.2.2.2.2⟩⟩⟩)⟩, ⟨jK BK536⟩, ⟨jH HB⟩⟩
          ·rw [if_neg c41] at H
           exact absurd H (by simp)
       ·rw [if_neg c14] at H
        exact absurd H (by simp)
      ·rw [if_neg c13] at H
       have c13b0 := dF c13
       clear c13
       by_cases c54 : (l0.length : Int) ≥ 64
       ·rw [if_pos c54] at H
        have c54b0 : decide (64 ≤ (l0.length : Int)) = true := dT c54
        have c54b1 : decide (64 ≤ l0.length) = true := dT (by omega)
        clear c54
        simp only [Option.some.injEq, Prod.mk.injEq] at H
        obtain ⟨rfl, rfl⟩ := H
        go_wp2
        go_ret2
        exact ⟨_, jE, by (with_reducible repeat (first | apply Kd.V_alloc | apply Kd.V_drewN | apply Kd.V_drew)); exact Kd.V_mono HO_0.out (fun _ hk => hk.1), jH HB⟩
       ·rw [if_neg c54] at H
        have c54b0 : decide (64 ≤ (l0.length : Int)) = false := dF c54
        have c54b1 : decide (64 ≤ l0.length) = false := dF (by omega)
        clear c54
        by_cases c55 : x6_2.length < 2513169434916
        ·rw [if_pos c55] at H
         have LMc55 := Aside0.mk c55
         clear c55
         obtain ⟨y539, hy539⟩ : ∃ y_ : List (S45), y_ = (x6_2 ++ [(⟨l1_0, l1_1, a1_2⟩ : S45)]) := ⟨_, rfl⟩
         simp only [Option.bind_some, ← hy539] at H
         have Ny539 := Aside0.mk hy539
         clear hy539
         by_cases c56 : y539.length + x7_2.length < 2513169434916
         ·rw [if_pos c56] at H
          have LMc56 := Aside0.mk c56
          clear c56
          obtain ⟨y542, hy542⟩ : ∃ y_ : List (S45), y_ = (y539 ++ x7_2) := ⟨_, rfl⟩
          simp only [Option.bind_some, ← hy542] at H
          have Ny542 := Aside0.mk hy542
          clear hy542
          simp only [Option.some.injEq, Prod.mk.injEq] at H
          obtain ⟨rfl, rfl⟩ := H
          obtain ⟨hcz57_0, hcz57_1, hcz57_2, hfz57_0, hfz57_1, hfz57_2⟩ := kQ3 BK536.out
          go_wp2_with (first | ((with_reducible refine gate_builtin (b := .append) (xs := #[.tmp 61, .tmp 63]) rfl ?_); at_builtin; refine Kd.N_append k45 (w0 := w) w.heap.size rfl (.tmp 61) (.tmp 63) 30 45 (.agg #[(.slice none 0 0), (.slice none 0 0), (.int .u32 0)]) 56 rfl Tryd.underlying30 info45 rfl (by decide) (by omega) u6 x6_2 (⟨l1_0, l1_1, a1_2⟩ : S45) [.slice A1_0 l1_0.length c1_0, .slice A1_1 l1_1.length c1_1, .int .u32 a1_2] (fun k_ => ((P0_ k_ ∨ P1_0_ k_ ∨ P1_1_ k_) ∨ w.heap.size ≤ k_) ∧ some k_ ≠ (u7 : Value).ownBlock ∧ k_ ≠ gb536) (fun k_ => ((fun k_ => ((P0_ k_ ∨ P1_0_ k_ ∨ P1_1_ k_) ∨ w.heap.size ≤ k_) ∧ some k_ ≠ (u7 : Value).ownBlock ∧ k_ ≠ gb536)) k_ ∧ some k_ ≠ (u6 : Value).ownBlock) rfl rfl ?aP (fun _ hk => hk) ?aF ?aO ?aB ?aS ?aL ?_; (case aP => exact (k45_mkF _ _ (⟨l1_0, l1_1, a1_2⟩ : S45) (Kd.V_reads' HO_537000.out).2.1 (Kd.V_F (Kd.V_mono (ok' := (fun k_ => ((fun k_ => ((P0_ k_ ∨ P1_0_ k_ ∨ P1_1_ k_) ∨ w.heap.size ≤ k_) ∧ some k_ ≠ (u7 : Value).ownBlock ∧ k_ ≠ gb536)) k_ ∧ some k_ ≠ (u6 : Value).ownBlock)) (HO_537000.out) (fun k_ hk => ⟨⟨hk.1, ⟨hk.2.2.1, hk.2.2.2⟩⟩, hk.2.1⟩))) (Kd.V_reads' HO_537001.out).2.1 (Kd.V_F (Kd.V_mono (ok' := (fun k_ => ((fun k_ => ((P0_ k_ ∨ P1_0_ k_ ∨ P1_1_ k_) ∨ w.heap.size ≤ k_) ∧ some k_ ≠ (u7 : Value).ownBlock ∧ k_ ≠ gb536)) k_ ∧ some k_ ≠ (u6 : Value).ownBlock)) (HO_537001.out) (fun k_ hk => ⟨⟨hk.1, ⟨hk.2.2.1, hk.2.2.2⟩⟩, hk.2.1⟩))))); (case aB => exact (jH HB)); (case aF => exact (fun k_ hk => ⟨(.inr (Nat.le_trans (zZ (jH HB)) hk)), Kd.fresh' (Kd.N_lt (by (with_reducible repeat (first | apply Kd.N_alloc | apply Kd.N_drewN | apply Kd.N_drew)); exact HO_7.out)) k_ hk, Kd.freshB (g := gb536) (o := .cells #[.slice A1_0 l1_0.length c1_0, .slice A1_1 l1_1.length c1_1, .int .u32 a1_2] 45 (0, 0)) (jK BK536) k_ hk⟩)); (case aO => exact (by (with_reducible repeat (first | apply Kd.N_alloc | apply Kd.N_drewN | apply Kd.N_drew)); exact HO_6.out)); (case aS => exact (zZ (jH HB))); (case aL => have := LMc55.out; omega); intro v540 w58 ho hb hg hat; rw [← Ny539.out] at ho; have HO541 := Aside0.mk (ho); replace HO_0 := Aside0.mk (Kd.V_afterv (ok := (fun k_ => ((P0_ k_ ∨ P1_0_ k_ ∨ P1_1_ k_) ∨ w.heap.size ≤ k_) ∧ some k_ ≠ (u7 : Value).ownBlock ∧ k_ ≠ gb536)) (by (with_reducible repeat (first | apply Kd.V_alloc | apply Kd.V_drewN | apply Kd.V_drew)); exact Kd.V_mono HO_0.out (fun _ hk => ⟨⟨hk.1, ⟨hk.2.2.1, hk.2.2.2⟩⟩, hk.2.1⟩)) hg hat); replace HO_7 := Aside0.mk (Kd.N_afterv (ok := (fun k_ => ((P0_ k_ ∨ P1_0_ k_ ∨ P1_1_ k_) ∨ w.heap.size ≤ k_) ∧ k_ ≠ gb536)) (by (with_reducible repeat (first | apply Kd.N_alloc | apply Kd.N_drewN | apply Kd.N_drew)); exact Kd.N_mono HO_7.out (fun _ hk => ⟨⟨hk.1, hk.2.2⟩, hk.2.1⟩)) hg hat); replace HO_537000 := Aside0.mk (Kd.V_afterv (ok := (fun k_ => ((P0_ k_ ∨ P1_0_ k_ ∨ P1_1_ k_) ∨ w.heap.size ≤ k_) ∧ some k_ ≠ (u7 : Value).ownBlock ∧ k_ ≠ gb536)) (by (with_reducible repeat (first | apply Kd.V_alloc | apply Kd.V_drewN | apply Kd.V_drew)); exact Kd.V_mono HO_537000.out (fun _ hk => ⟨⟨hk.1, ⟨hk.2.2.1, hk.2.2.2⟩⟩, hk.2.1⟩)) hg hat); replace HO_537001 := Aside0.mk (Kd.V_afterv (ok := (fun k_ => ((P0_ k_ ∨ P1_0_ k_ ∨ P1_1_ k_) ∨ w.heap.size ≤ k_) ∧ some k_ ≠ (u7 : Value).ownBlock ∧ k_ ≠ gb536)) (by (with_reducible repeat (first | apply Kd.V_alloc | apply Kd.V_drewN | apply Kd.V_drew)); exact Kd.V_mono HO_537001.out (fun _ hk => ⟨⟨hk.1, ⟨hk.2.2.1, hk.2.2.2⟩⟩, hk.2.1⟩)) hg hat); replace BK536 := Aside0.mk (kG (g := gb536) (o := .cells #[.slice A1_0 l1_0.length c1_0, .slice A1_1 l1_1.length c1_1, .int .u32 a1_2] 45 (0, 0)) (jK BK536) hg (Kd.N_away HO_6.out (fun _ hk => hk.2.2))); replace HB := Aside0.mk (hb); clear HO_6; clear ho hb hg hat; obtain ⟨Ao60, co60, eo60⟩ := Kd.N_slice HO_7.out; subst eo60) | ((with_reducible refine gate_builtin (b := .append) (xs := #[.tmp 64, .tmp 65]) rfl ?_); at_builtin; refine Kd.N_append_rows k45 (w0 := w) w.heap.size rfl (.tmp 64) (.tmp 65) 30 45 (.agg #[(.slice none 0 0), (.slice none 0 0), (.int .u32 0)]) 56 rfl Tryd.underlying30 info45 rfl (by decide) (by omega) v540 y539 x7_2 _ _ _ (fun k_ => ((P0_ k_ ∨ P1_0_ k_ ∨ P1_1_ k_) ∨ w.heap.size ≤ k_) ∧ k_ ≠ gb536) (fun k_ => ((fun k_ => ((P0_ k_ ∨ P1_0_ k_ ∨ P1_1_ k_) ∨ w.heap.size ≤ k_) ∧ k_ ≠ gb536)) k_ ∧ some k_ ≠ (v540 : Value).ownBlock) rfl rfl ?aO ?aR (fun _ hk => hk) ?aF ?aB ?aS ?aL ?_; (case aR => exact (by skip; exact Kd.N_F (Kd.N_mono (ok' := (fun k_ => ((fun k_ => ((P0_ k_ ∨ P1_0_ k_ ∨ P1_1_ k_) ∨ w.heap.size ≤ k_) ∧ k_ ≠ gb536)) k_ ∧ some k_ ≠ (v540 : Value).ownBlock)) (HO_7.out) (fun k_ hk => ⟨⟨hk.1.1, hk.1.2⟩, hk.2⟩)))); (case aB => exact (jH HB)); (case aF => exact (fun k_ hk => ⟨(.inr (Nat.le_trans (zZ (jH HB)) hk)), Kd.freshB (g := gb536) (o := .cells #[.slice A1_0 l1_0.length c1_0, .slice A1_1 l1_1.length c1_1, .int .u32 a1_2] 45 (0, 0)) (jK BK536) k_ hk⟩)); (case aO => exact (by (with_reducible repeat (first | apply Kd.N_alloc | apply Kd.N_drewN | apply Kd.N_drew)); exact Kd.N_mono HO541.out (fun _ hk => ⟨hk.1, hk.2.2⟩))); (case aS => exact (zZ (jH HB))); (case aL => have := LMc56.out; omega); intro v543 w59 ho hb hg hat; rw [← Ny542.out] at ho; have HO544 := Aside0.mk (ho); replace HO_0 := Aside0.mk (Kd.V_afterv (ok := (fun k_ => ((P0_ k_ ∨ P1_0_ k_ ∨ P1_1_ k_) ∨ w.heap.size ≤ k_) ∧ some k_ ≠ (.slice Ao60 x7_2.length co60 : Value).ownBlock ∧ k_ ≠ gb536)) (jV HO_0) hg hat); replace HO_7 := Aside0.mk (Kd.N_afterv (ok := (fun k_ => ((P0_ k_ ∨ P1_0_ k_ ∨ P1_1_ k_) ∨ w.heap.size ≤ k_) ∧ k_ ≠ gb536)) (by (with_reducible repeat (first | apply Kd.N_alloc | apply Kd.N_drewN | apply Kd.N_drew)); exact HO_7.out) hg hat); replace HO_537000 := Aside0.mk (Kd.V_afterv (ok := (fun k_ => ((P0_ k_ ∨ P1_0_ k_ ∨ P1_1_ k_) ∨ w.heap.size ≤ k_) ∧ some k_ ≠ (.slice Ao60 x7_2.length co60 : Value).ownBlock ∧ k_ ≠ gb536)) (jV HO_537000) hg hat); replace HO_537001 := Aside0.mk (Kd.V_afterv (ok := (fun k_ => ((P0_ k_ ∨ P1_0_ k_ ∨ P1_1_ k_) ∨ w.heap.size ≤ k_) ∧ some k_ ≠ (.slice Ao60 x7_2.length co60 : Value).ownBlock ∧ k_ ≠ gb536)) (jV HO_537001) hg hat); replace BK536 := Aside0.mk (kG (g := gb536) (o := .cells #[.slice A1_0 l1_0.length c1_0, .slice A1_1 l1_1.length c1_1, .int .u32 a1_2] 45 (0, 0)) (jK BK536) hg (Kd.N_away HO541.out (fun _ hk => hk.2.2))); replace HB := Aside0.mk (hb); clear HO541; clear ho hb hg hat))
          go_ret2
          exact ⟨_, jE, Kd.N_V (by (with_reducible repeat (first | apply Kd.N_alloc | apply Kd.N_drewN | apply Kd.N_drew)); exact Kd.N_mono HO544.out (fun _ hk => hk.1)), jH HB⟩
         ·rw [if_neg c56] at H
          exact absurd H (by simp)
        ·rw [if_neg c55] at H
         exact absurd H (by simp)
end Go.Proofs.YtahacmdhhfmhiaaDoor.M
