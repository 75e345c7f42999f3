/- What Go functions compute; their calls come to it. No condition. -/
import Derived.Test.YtohpbjnihmcelaaDoorM0
import Derived.Test.YtohpbjnihmcelaaDoorM7
import Derived.Test.YtohpbjnihmcelaaDoorM12
import Derived.Test.YtohpbjnihmcelaaDoorM17
import Derived.Test.YtohpbjnihmcelaaDoorM27
namespace Go.Proofs.YtohpbjnihmcelaaDoor.M
open Go.RowKit Go.Proofs.YtohpbjnihmcelaaDoorW.PrintWords Go.Proofs.YtohpbjnihmcelaaDoorW.PrintLast Go.Proofs.YtohpbjnihmcelaaDoorW.PrintMore
attribute [local go_sem] max2_int min2_int max_two min_two max_three min_three max_four min_four   -- for this text's walks alone
set_option linter.unusedVariables false
set_option linter.unusedSimpArgs false
mutual
def l23_PruneMet.j0 : Nat → List (S45) → Bool → Int → Int → Int → List Int → Option (Bool)
 | 0, _, _, _, _, _, _ => none
 | k + 1, x0, x18, x288000, x288001, x288002, x288003 => if x18 = true then ((l23_knows.f k).bind fun t289 => (some t289)) else ((prune_Met.f k x0).bind fun bt290 => (if bt290.2 = 0 then (if (bt290.1.length : Int) = (x0.length : Int) then (if 0 < (bt290.1.length : Int) then (l23_PruneMet.j1 k x0 bt290.1 (!(rdOf false bt290.1 0)) x288000 x288001 x288002 x288003) else (none)) else (l23_PruneMet.j1 k x0 bt290.1 true x288000 x288001 x288002 x288003)) else (l23_PruneMet.j1 k x0 bt290.1 true x288000 x288001 x288002 x288003)))
def l23_PruneMet.j1 : Nat → List (S45) → List Bool → Bool → Int → Int → Int → List Int → Option (Bool)
 | 0, _, _, _, _, _, _, _ => none
 | k + 1, x0, x5, x39, x288000, x288001, x288002, x288003 => if x39 = true then (none) else (l23_PruneMet.l0 k x0 x5 0 0 x288000 x288001 x288002 x288003)
def l23_PruneMet.l0 : Nat → List (S45) → List Bool → Int → Int → Int → Int → Int → List Int → Option (Bool)
 | 0, _, _, _, _, _, _, _, _ => none
 | k + 1, x0, x5, x7, x8, x288000, x288001, x288002, x288003 => if x8 < (x5.length : Int) then (if 0 ≤ x8 then (if rdOf false x5 x8 = true then (l23_PruneMet.l0 k x0 x5 (wrap64 (x7 + 1)) (wrap64 (x8 + 1)) x288000 x288001 x288002 x288003) else (l23_PruneMet.l0 k x0 x5 x7 (wrap64 (x8 + 1)) x288000 x288001 x288002 x288003)) else (none)) else ((r06_Run.f k x0 x288000 x288001 x288002 x288003).bind fun bt296 => (if bt296.2 ≤ x7 then ((l23_knows.f k).bind fun t298 => (some t298)) else (none)))
end
def l23_PruneMet.f (k : Nat) (l0 : List (S45)) (a1_0 : Int) (a1_1 : Int) (a1_2 : Int) (a1_3 : List Int) : Option (Bool) := if (l0.length : Int) > 100 then (l23_PruneMet.j0 k l0 true a1_0 a1_1 a1_2 a1_3) else ((r05_Sound.f k l0).bind fun t288 => (l23_PruneMet.j0 k l0 (!t288) a1_0 a1_1 a1_2 a1_3))
theorem l23_PruneMet.mono_l : ∀ k, (∀ y0 y1 y2 y3 y4 y5, LeO (l23_PruneMet.j0 k y0 y1 y2 y3 y4 y5) (l23_PruneMet.j0 (k + 1) y0 y1 y2 y3 y4 y5)) ∧ (∀ y0 y1 y2 y3 y4 y5 y6, LeO (l23_PruneMet.j1 k y0 y1 y2 y3 y4 y5 y6) (l23_PruneMet.j1 (k + 1) y0 y1 y2 y3 y4 y5 y6)) ∧ (∀ y0 y1 y2 y3 y4 y5 y6 y7, LeO (l23_PruneMet.l0 k y0 y1 y2 y3 y4 y5 y6 y7) (l23_PruneMet.l0 (k + 1) y0 y1 y2 y3 y4 y5 y6 y7))
 | 0 => ⟨fun _ _ _ _ _ _ r h => by simp [l23_PruneMet.j0] at h, fun _ _ _ _ _ _ _ r h => by simp [l23_PruneMet.j1] at h, fun _ _ _ _ _ _ _ _ r h => by simp [l23_PruneMet.l0] at h⟩
 | k + 1 => by
  obtain ⟨ih0, ih1, ih2⟩ := l23_PruneMet.mono_l k
  refine ⟨?_, ?_, ?_⟩
  all_goals intros
  all_goals first | unfold l23_PruneMet.j0 | unfold l23_PruneMet.j1 | unfold l23_PruneMet.l0
  all_goals repeat' first
   | (with_reducible apply ih0)
   | (with_reducible apply ih1)
   | (with_reducible apply ih2)
   | (with_reducible apply l23_knows.mono)
   | (with_reducible apply r05_Sound.mono)
   | (with_reducible apply r06_Run.mono)
   | (with_reducible apply prune_Met.mono)
   | (with_reducible exact LeO.refl _)
   | (with_reducible exact LeO.none _)
   | (with_reducible refine LeO.ite ?_ ?_)
   | (with_reducible refine LeO.bind ?_ (fun _ => ?_))
   | apply ih0
   | apply ih1
   | apply ih2
   | apply l23_knows.mono
   | apply r05_Sound.mono
   | apply r06_Run.mono
   | apply prune_Met.mono
   | exact LeO.none _
   | refine LeO.ite ?_ ?_
   | refine LeO.bind ?_ (fun _ => ?_)
theorem l23_PruneMet.mono : ∀ a0 a1 a2 a3 a4 k, LeO (l23_PruneMet.f k a0 a1 a2 a3 a4) (l23_PruneMet.f (k + 1) a0 a1 a2 a3 a4) := by
 intro a0 a1 a2 a3 a4 k
 obtain ⟨ih0, ih1, ih2⟩ := l23_PruneMet.mono_l k
 unfold l23_PruneMet.f
 repeat' first
   | (with_reducible apply ih0)
   | (with_reducible apply ih1)
   | (with_reducible apply ih2)
   | (with_reducible apply l23_knows.mono)
   | (with_reducible apply r05_Sound.mono)
   | (with_reducible apply r06_Run.mono)
   | (with_reducible apply prune_Met.mono)
   | (with_reducible exact LeO.refl _)
   | (with_reducible exact LeO.none _)
   | (with_reducible refine LeO.ite ?_ ?_)
   | (with_reducible refine LeO.bind ?_ (fun _ => ?_))
   | apply ih0
   | apply ih1
   | apply ih2
   | apply l23_knows.mono
   | apply r05_Sound.mono
   | apply r06_Run.mono
   | apply prune_Met.mono
   | exact LeO.none _
   | refine LeO.ite ?_ ?_
   | refine LeO.bind ?_ (fun _ => ?_)
set_option maxHeartbeats 8000000 in
set_option maxRecDepth 100000 in
theorem l23_PruneMet.calls (k : Nat) (A0 : Option Addr) (c0 : Nat) (l0 : List (S45)) (a1_0 : Int) (a1_1 : Int) (a1_2 : Int) (a1_3 : List Int) (r : Bool) (w : World) (hr0 : Kd.C k45 w A0 l0.length l0) (hc0 : l0.length ≤ c0) (hG : Glob w) (h : l23_PruneMet.f k l0 a1_0 a1_1 a1_2 a1_3 = some r) :
  Calls Tryd.prog 7 #[.slice A0 l0.length c0, .agg (arC [.int .u32 a1_0, .int .u32 a1_1, .int .u64 a1_2] .u64 6 a1_3)] w fun e w' => e = .returned (.bool r) ∧ Below w.heap.size w w' := by
 have hu38 := Tryd.underlying38
 have HG := Aside0.mk hG
 clear hG
 have HR0 := Aside0.mk hr0
 have HC0 := Aside0.mk hc0
 clear hr0 hc0
 have HB := Aside0.mk (Below.refl w.heap.size w)
 have H : (if (l0.length : Int) > 100 then (l23_PruneMet.j0 k l0 true a1_0 a1_1 a1_2 a1_3) else ((r05_Sound.f k l0).bind fun t288 => (l23_PruneMet.j0 k l0 (!t288) a1_0 a1_1 a1_2 a1_3))) = some r := h
 clear h
 have HC3 := Aside0.mk H
 clear H
 go_enter Tryd.func7, Tryd.ntmps7
 go_upto_region 1 with (first | ((with_reducible refine gate_dst (N := 3) rfl ?_); (try (refine gate_guard (by rfl) ?_; dsimp only)); refine box_event rfl (N := 3) rfl (cs := (arC [.int .u32 a1_0, .int .u32 a1_1, .int .u64 a1_2] .u64 6 a1_3)) (t := 38) jW ?_; intro gb287 hg w4 hbox hb; have n0_ := Aside0.mk (zT (jH HB) hb); have n1_ := Aside0.mk hbox; have n2_ := Aside0.mk (jG hg HB); have n3_ := Aside0.mk (jG hg HB); clear HB; have HB := n0_; have BK287 := n1_; have GW287 := n2_; have GE287 := n3_; clear n0_ n1_ n2_ n3_; clear hb hbox hg))
 (try simp only [Act.put, List.setIfInBounds_toArray, List.set_cons_zero, List.set_cons_succ])
 go_cut [18] (fun v18 wc => ∃ (kq : Nat) (x18_2 : Bool), v18 = .bool x18_2 ∧ Aside0 (l23_PruneMet.j0 kq l0 x18_2 a1_0 a1_1 a1_2 a1_3 = some r) ∧ Aside0 (kq ≤ k) ∧ Aside0 (wc.heap[gb287]? = some (.cells (arC [.int .u32 a1_0, .int .u32 a1_1, .int .u64 a1_2] .u64 6 a1_3) 38 (0, 0))) ∧ Aside0 (Below w.heap.size w wc))
 case first =>
  have H := HC3.out
  clear HC3
  by_cases c5 : (l0.length : Int) > 100
  ·rw [if_pos c5] at H
   have c5b0 : decide (100 < (l0.length : Int)) = true := dT c5
   have c5b1 : decide (100 < l0.length) = true := dT (by omega)
   clear c5
   (first | rw [c5b0] | (simp only [i64_w, i32_w]; rw [c5b0]) | skip)
   have H' := Aside0.mk H
   clear H
   go_wp2
   go_meet
   case rel => exact ⟨_, (true), jS, H', ⟨jO⟩, ⟨jK BK287⟩, ⟨jH HB⟩⟩
  ·rw [if_neg c5] at H
   have c5b0 : decide (100 < (l0.length : Int)) = false := dF c5
   have c5b1 : decide (100 < l0.length) = false := dF (by omega)
   clear c5
   (first | rw [c5b0] | (simp only [i64_w, i32_w]; rw [c5b0]) | skip)
   replace H := Option.bind_eq_some_iff.mp H
   obtain ⟨t288, A60, H⟩ := H
   try dsimp only at H
   have A6 := Aside0.mk A60
   clear A60
   have H' := Aside0.mk H
   clear H
   go_wp2_with (first | (go_at_call 11; (with_reducible refine (r05_Sound.calls k _ _ l0 t288 _ ?side1 ?side2 A6.out).mono ?_); (case side1 => exact jC (Kd.C_below HR0.out HB.out)); (case side2 => exact HC0.out); rintro e w7 ⟨rfl, hb⟩; have n0_ := Aside0.mk (jB BK287 hb); have n1_ := Aside0.mk (zT (jH HB) hb); clear BK287; clear HB; have BK287 := n0_; have HB := n1_; clear n0_ n1_; (try clear hb); (try clear hb2); (try clear hk); (try clear hi)))
   go_meet
   case rel => exact ⟨_, (!t288), jS, H', ⟨jO⟩, ⟨jK BK287⟩, ⟨jH HB⟩⟩
 case rest =>
  clear HC3
  obtain ⟨kq, x18_2, rfl, HA, HJ2, BK287, HB⟩ := hcut
  cases kq with
  | zero => exact absurd HA.out (by simp [l23_PruneMet.j0])
  | succ kj2 =>
   have H := HA.out
   clear HA
   simp only [l23_PruneMet.j0] at H
   by_cases c8 : x18_2 = true
   ·subst c8
    rw [if_pos rfl] at H
    replace H := Option.bind_eq_some_iff.mp H
    obtain ⟨t289, A90, H⟩ := H
    try dsimp only at H
    have A9 := Aside0.mk A90
    clear A90
    obtain rfl := Option.some.inj H
    go_wp2_with (first | ((with_reducible refine gate_callee (f := 8) rfl ?_); refine goesL_ (some 19) rfl rfl Tryd.func8 (by kernel_rfl) rfl #[] rfl jZ ?_; (with_reducible refine (l23_knows.calls kj2  t289 _ ?side1 A9.out).mono ?_); (case side1 => exact Glob.below HG.out (jH HB)); rintro e w10 ⟨rfl, hb⟩; refine ⟨_, rfl, ?_⟩; have n0_ := Aside0.mk (jB BK287 hb); have n1_ := Aside0.mk (zT (jH HB) hb); clear BK287; clear HB; have BK287 := n0_; have HB := n1_; clear n0_ n1_; (try clear hb); (try clear hb2); (try clear hk); (try clear hi)))
    go_ret
    exact ⟨jE, jH HB⟩
   ·replace c8 := Bool.eq_false_iff.mpr c8
    subst c8
    rw [if_neg (show ¬ (false = true) by decide)] at H
    replace H := Option.bind_eq_some_iff.mp H
    obtain ⟨⟨t290, t291⟩, A110, H⟩ := H
    try dsimp only at H
    have A11 := Aside0.mk A110
    clear A110
    have HC12 := Aside0.mk H
    clear H
    go_upto_region 4 with (first | ((with_reducible refine gate_callee (f := 9) rfl ?_); refine goesL_ (some 22) rfl rfl Tryd.func9 (by kernel_rfl) rfl #[.slice A0 l0.length c0] rfl jZ ?_; (with_reducible refine (prune_Met.calls kj2 _ _ l0 t290 t291 _ ?side1 ?side2 ?side3 A11.out).mono ?_); (case side1 => exact jC (Kd.C_below HR0.out HB.out)); (case side2 => exact HC0.out); (case side3 => exact Glob.below HG.out (jH HB)); rintro e w13 ⟨v292, rfl, ho0, hb⟩; refine ⟨_, rfl, ?_⟩; have n0_ := Aside0.mk (Kd.R_lower ho0 (zZ (jH HB))); have n1_ := Aside0.mk (jB BK287 hb); have n2_ := Aside0.mk (zT (jH HB) hb); clear BK287; clear HB; have HO293 := n0_; have BK287 := n1_; have HB := n2_; clear n0_ n1_ n2_; (try clear hb); (try clear hb2); (try clear hk); (try clear hi); (try clear ho0)))
    (try simp only [Act.put, List.setIfInBounds_toArray, List.set_cons_zero, List.set_cons_succ])
    go_cut [39] (fun v39 wc => ∃ (kq : Nat) (x39_11 : Bool), v39 = .bool x39_11 ∧ Aside0 (l23_PruneMet.j1 kq l0 t290 x39_11 a1_0 a1_1 a1_2 a1_3 = some r) ∧ Aside0 (kq ≤ kj2) ∧ Aside0 (Kd.R Kd.bool 4 wc w.heap.size (fun _ => True) v292 t290) ∧ Aside0 (wc.heap[gb287]? = some (.cells (arC [.int .u32 a1_0, .int .u32 a1_1, .int .u64 a1_2] .u64 6 a1_3) 38 (0, 0))) ∧ Aside0 (Below w.heap.size w wc))
    case first =>
     have H := HC12.out
     clear HC12
     by_cases c14 : t291 = 0
     ·rw [if_pos c14] at H
      have c14b0 : (t291 == 0) = true := bI.mpr c14
      have c14b1 : (t291 != 0) = false := nF.mpr c14
      clear c14
      (first | rw [c14b0] | (simp only [i64_w, i32_w]; rw [c14b0]) | skip)
      by_cases c15 : (t290.length : Int) = (l0.length : Int)
      ·rw [if_pos c15] at H
       have c15b0 : ((t290.length : Int) == (l0.length : Int)) = true := bI.mpr c15
       have c15b1 : ((t290.length : Int) != (l0.length : Int)) = false := nF.mpr c15
       have c15b2 : (t290.length == l0.length) = true := by first | simpa using c15 | (simp at c15 ⊢; omega)
       clear c15
       by_cases c16 : 0 < (t290.length : Int)
       ·rw [if_pos c16] at H
        have c16b0 : decide (0 < (t290.length : Int)) = true := dT c16
        have c16b1 : decide (0 < t290.length) = true := dT (by omega)
        clear c16
        have H' := Aside0.mk H
        clear H
        obtain ⟨Ao17, co17, eo17⟩ := Kd.R_slice HO293.out
        subst eo17
        have p294 : 0 ≤ (0 : Int) := (by omega)
        have q294 : 0 < (t290.length : Int) := oD (jA)
        obtain ⟨ad294, e294, hx294_0⟩ := Kd.at_bool (Kd.R_reads' HO293.out).2.2 0 p294 q294
        cases e294
        have qi294 : (0 < t290.length) = True := eq_true (by omega)
        (try rw [show ((0 : Int)).toNat = 0 from rfl] at hx294_0)
        (try rw [Addr.add_zero'] at hx294_0)
        replace p294 := eq_true p294
        replace q294 := eq_true q294
        go_wp2
        go_meet
        case rel => exact ⟨_, (!(rdOf false t290 0)), jS, H', ⟨by have := HJ2.out; first | omega | exact Nat.le_refl _⟩, ⟨jR HO293⟩, ⟨jK BK287⟩, ⟨jH HB⟩⟩
       ·rw [if_neg c16] at H
        exact absurd H (by simp)
      ·rw [if_neg c15] at H
       have c15b0 : ((t290.length : Int) == (l0.length : Int)) = false := bF.mpr c15
       have c15b1 : ((t290.length : Int) != (l0.length : Int)) = true := nI.mpr c15
       have c15b2 : (t290.length == l0.length) = false := by first | simpa using c15 | (simp at c15 ⊢; omega)
       have H' := Aside0.mk H
       clear H
       obtain ⟨Ao18, co18, eo18⟩ := Kd.R_slice HO293.out
       subst eo18
       go_wp2
       go_meet
       case rel => exact ⟨_, (true), jS, H', ⟨by have := HJ2.out; first | omega | exact Nat.le_refl _⟩, ⟨jR HO293⟩, ⟨jK BK287⟩, ⟨jH HB⟩⟩
     ·rw [if_neg c14] at H
      have c14b0 : (t291 == 0) = false := bF.mpr c14
      have c14b1 : (t291 != 0) = true := nI.mpr c14
      (first | rw [c14b0] | (simp only [i64_w, i32_w]; rw [c14b0]) | skip)
      have H' := Aside0.mk H
      clear H
      go_wp2
      go_meet
      case rel => exact ⟨_, (true), jS, H', ⟨by have := HJ2.out; first | omega | exact Nat.le_refl _⟩, ⟨jR HO293⟩, ⟨jK BK287⟩, ⟨jH HB⟩⟩
    case rest =>
     clear HC12
     obtain ⟨kq, x39_11, rfl, HA, HJ11, HO_5, BK287, HB⟩ := hcut
     cases kq with
     | zero => exact absurd HA.out (by simp [l23_PruneMet.j1])
     | succ kj11 =>
      have H := HA.out
      clear HA
      simp only [l23_PruneMet.j1] at H
      by_cases c19 : x39_11 = true
      ·subst c19
       rw [if_pos rfl] at H
       exact absurd H (by simp)
      ·replace c19 := Bool.eq_false_iff.mpr c19
       subst c19
       rw [if_neg (show ¬ (false = true) by decide)] at H
       have H' := Aside0.mk H
       clear H
       go_wp2
       go_loopg [7, 8] kj11 (fun kq v7 v8 w' => ∃ (x7_3 : Int) (x8_3 : Int), v7 = .int .i64 x7_3 ∧ v8 = .int .i64 x8_3 ∧ Aside0 (l23_PruneMet.l0 kq l0 t290 x7_3 x8_3 a1_0 a1_1 a1_2 a1_3 = some r) ∧ Aside0 (kq ≤ kj11) ∧ Aside0 (Kd.R Kd.bool 4 w' w.heap.size (fun _ => True) v292 t290) ∧ Aside0 (w'.heap[gb287]? = some (.cells (arC [.int .u32 a1_0, .int .u32 a1_1, .int .u64 a1_2] .u64 6 a1_3) 38 (0, 0))) ∧ Aside0 (Below w.heap.size w w'))
       case atStart => exact ⟨(0), (0), jS, jS, H', ⟨Nat.le_refl _⟩, ⟨jR HO_5⟩, ⟨jK BK287⟩, ⟨jH HB⟩⟩
       case round =>
        clear H'
        obtain ⟨x7_3, x8_3, rfl, rfl, HA, HK3, HO_5, BK287, HB⟩ := hrel
        cases gk with
        | zero => exact absurd HA.out (by simp [l23_PruneMet.l0])
        | succ k3 =>
         have H := HA.out
         clear HA
         simp only [l23_PruneMet.l0] at H
         by_cases c20 : x8_3 < (t290.length : Int)
         ·rw [if_pos c20] at H
          have c20b0 : decide (x8_3 < (t290.length : Int)) = true := dT c20
          clear c20
          by_cases c21 : 0 ≤ x8_3
          ·rw [if_pos c21] at H
           have c21b0 : decide (0 ≤ x8_3) = true := dT c21
           clear c21
           obtain ⟨bq22, hbq22⟩ : ∃ b_ : Bool, b_ = (rdOf false t290 x8_3) := ⟨_, rfl⟩
           replace H : (if bq22 = true then (l23_PruneMet.l0 k3 l0 t290 (wrap64 (x7_3 + 1)) (wrap64 (x8_3 + 1)) a1_0 a1_1 a1_2 a1_3) else (l23_PruneMet.l0 k3 l0 t290 x7_3 (wrap64 (x8_3 + 1)) a1_0 a1_1 a1_2 a1_3)) = some r := by rw [← hbq22] at H; exact H
           have Nbq22 := Aside0.mk hbq22
           clear hbq22
           by_cases c23 : bq22 = true
           ·subst c23
            rw [if_pos rfl] at H
            have H' := Aside0.mk H
            clear H
            obtain ⟨Ao24, co24, eo24⟩ := Kd.R_slice HO_5.out
            subst eo24
            have p295 : 0 ≤ (x8_3 : Int) := oD (jA)
            have q295 : x8_3 < (t290.length : Int) := oD (jA)
            obtain ⟨ad295, e295, hx295_0⟩ := Kd.at_bool (Kd.R_reads' HO_5.out).2.2 x8_3 p295 q295
            (try rw [← Nbq22.out] at hx295_0)
            cases e295
            replace p295 := eq_true p295
            replace q295 := eq_true q295
            go_wp2
            go_roundg k3
            case measure => have := HJ2.out; have := HJ11.out; have := HK3.out; omega
            case rel => exact ⟨(wrap64 (x7_3 + 1)), (wrap64 (x8_3 + 1)), jS, jS, H', ⟨by have := HJ2.out; have := HJ11.out; have := HK3.out; omega⟩, ⟨jR HO_5⟩, ⟨jK BK287⟩, ⟨jH HB⟩⟩
           ·replace c23 := Bool.eq_false_iff.mpr c23
            subst c23
            rw [if_neg (show ¬ (false = true) by decide)] at H
            have H' := Aside0.mk H
            clear H
            obtain ⟨Ao25, co25, eo25⟩ := Kd.R_slice HO_5.out
            subst eo25
            have p295 : 0 ≤ (x8_3 : Int) := oD (jA)
            have q295 : x8_3 < (t290.length : Int) := oD (jA)
            obtain ⟨ad295, e295, hx295_0⟩ := Kd.at_bool (Kd.R_reads' HO_5.out).2.2 x8_3 p295 q295
            (try rw [← Nbq22.out] at hx295_0)
            cases e295
            replace p295 := eq_true p295
            replace q295 := eq_true q295
            go_wp2
            go_roundg k3
            case measure => have := HJ2.out; have := HJ11.out; have := HK3.out; omega
            case rel => exact ⟨(x7_3), (wrap64 (x8_3 + 1)), jS, jS, H', ⟨by have := HJ2.out; have := HJ11.out; have := HK3.out; omega⟩, ⟨jR HO_5⟩, ⟨jK BK287⟩, ⟨jH HB⟩⟩
          ·rw [if_neg c21] at H
           exact absurd H (by simp)
         ·rw [if_neg c20] at H
          have c20b0 : decide (x8_3 < (t290.length : Int)) = false := dF c20
          clear c20
          replace H := Option.bind_eq_some_iff.mp H
          obtain ⟨⟨t296, t297⟩, A260, H⟩ := H
          try dsimp only at H
          have A26 := Aside0.mk A260
          clear A260
          by_cases c27 : t297 ≤ x7_3
          ·rw [if_pos c27] at H
           have c27b0 : decide (t297 ≤ x7_3) = true := dT c27
           clear c27
           replace H := Option.bind_eq_some_iff.mp H
           obtain ⟨t298, A280, H⟩ := H
           try dsimp only at H
           have A28 := Aside0.mk A280
           clear A280
           obtain rfl := Option.some.inj H
           obtain ⟨Ao29, co29, eo29⟩ := Kd.R_slice HO_5.out
           subst eo29
           go_wp2_with (first | ((with_reducible refine gate_dst (N := 54) rfl ?_); (try (refine gate_guard (by rfl) ?_; dsimp only)); refine wpList_load_row rfl 38 (.tmp 3) rfl gb287 rfl 38 (arC [.int .u32 a1_0, .int .u32 a1_1, .int .u64 a1_2] .u64 6 a1_3) (0, 0) _ (jK BK287) Tryd.underlying38 rfl (by kernel_rfl) ?_) | ((with_reducible refine gate_callee (f := 16) rfl ?_); refine goesL_ (some 55) rfl rfl Tryd.func16 (by kernel_rfl) rfl #[.slice A0 l0.length c0, .agg (arC [.int .u32 a1_0, .int .u32 a1_1, .int .u64 a1_2] .u64 6 a1_3)] rfl jZ ?_; (with_reducible refine (r06_Run.calls k3 _ _ l0 a1_0 a1_1 a1_2 a1_3 t296 t297 _ ?side1 ?side2 A26.out).mono ?_); (case side1 => exact jC (Kd.C_below HR0.out HB.out)); (case side2 => exact HC0.out); rintro e w30 ⟨rfl, hb⟩; refine ⟨_, rfl, ?_⟩; have n0_ := Aside0.mk (Kd.R_below (jR HO_5) hb); have n1_ := Aside0.mk (jB BK287 hb); have n2_ := Aside0.mk (zT (jH HB) hb); clear HO_5; clear BK287; clear HB; have HO_5 := n0_; have BK287 := n1_; have HB := n2_; clear n0_ n1_ n2_; (try clear hb); (try clear hb2); (try clear hk); (try clear hi)) | (go_at_call 8; (with_reducible refine (l23_knows.calls k3  t298 _ ?side1 A28.out).mono ?_); (case side1 => exact Glob.below HG.out (jH HB)); rintro e w31 ⟨rfl, hb⟩; have n0_ := Aside0.mk (Kd.R_below (jR HO_5) hb); have n1_ := Aside0.mk (jB BK287 hb); have n2_ := Aside0.mk (zT (jH HB) hb); clear HO_5; clear BK287; clear HB; have HO_5 := n0_; have BK287 := n1_; have HB := n2_; clear n0_ n1_ n2_; (try clear hb); (try clear hb2); (try clear hk); (try clear hi)))
           go_ret
           exact ⟨jE, jH HB⟩
          ·rw [if_neg c27] at H
           exact absurd H (by simp)
end Go.Proofs.YtohpbjnihmcelaaDoor.M
