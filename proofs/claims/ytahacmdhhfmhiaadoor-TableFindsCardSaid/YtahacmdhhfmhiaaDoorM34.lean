/- What Go functions compute; their calls come to it. No condition. -/
import Derived.Test.YtahacmdhhfmhiaaDoorM0
namespace Go.Proofs.YtahacmdhhfmhiaaDoor.M
open Go.RowKit Go.Proofs.YtahacmdhhfmhiaaDoorW.PrintWords Go.Proofs.YtahacmdhhfmhiaaDoorW.PrintLast Go.Proofs.YtahacmdhhfmhiaaDoorW.PrintMore
attribute [local go_sem] max2_int min2_int max_two min_two max_three min_three max_four min_four   -- for this text's walks alone
set_option linter.unusedVariables false
set_option linter.unusedSimpArgs false
def l21_as.f (l0_0 : List (S59)) (l0_1 : List (S59)) (a0_2 : Int) : Option ((List (S59)) × (List (S59)) × Int) := some (l0_0, l0_1, a0_2)
set_option maxHeartbeats 8000000 in
set_option maxRecDepth 100000 in
theorem l21_as.calls (P0_0_ : Nat → Prop) (A0_0 : Option Addr) (c0_0 : Nat) (l0_0 : List (S59)) (P0_1_ : Nat → Prop) (A0_1 : Option Addr) (c0_1 : Nat) (l0_1 : List (S59)) (a0_2 : Int) (r1 : List (S59)) (r2 : List (S59)) (r3 : Int) (w : World) (hs0_0 : Kd.V k59 59 w w.heap.size (fun k_ => P0_0_ k_) (.slice A0_0 l0_0.length c0_0) l0_0) (hs0_1 : Kd.V k59 59 w w.heap.size (fun k_ => P0_1_ k_) (.slice A0_1 l0_1.length c0_1) l0_1) (h : l21_as.f l0_0 l0_1 a0_2 = some (r1, r2, r3)) :
  Calls Tryd.prog 22 #[.agg #[.slice A0_0 l0_0.length c0_0, .slice A0_1 l0_1.length c0_1, .int .u32 a0_2]] w fun e w' => ∃ v0_ v1_ : Value, e = .returned (.agg #[v0_, v1_, .int .u32 r3]) ∧ Kd.V k59 59 w' w.heap.size (fun k_ => ((P0_0_ k_ ∨ P0_1_ k_) ∨ w.heap.size ≤ k_)) v0_ r1 ∧ Kd.V k59 59 w' w.heap.size (fun k_ => ((P0_0_ k_ ∨ P0_1_ k_) ∨ w.heap.size ≤ k_)) v1_ r2 ∧ Below w.heap.size w w' := by
 have hu42 := Tryd.underlying42
 have hu45 := Tryd.underlying45
 have HO0_0 := Aside0.mk (show Kd.V k59 59 w w.heap.size (fun k_ => ((P0_0_ k_ ∨ P0_1_ k_) ∨ w.heap.size ≤ k_)) (.slice A0_0 l0_0.length c0_0) l0_0 from Kd.V_mono hs0_0 (fun k_ hk => .inl (.inl hk)))
 have HO0_1 := Aside0.mk (show Kd.V k59 59 w w.heap.size (fun k_ => ((P0_0_ k_ ∨ P0_1_ k_) ∨ w.heap.size ≤ k_)) (.slice A0_1 l0_1.length c0_1) l0_1 from Kd.V_mono hs0_1 (fun k_ hk => .inl (.inr hk)))
 have HB := Aside0.mk (Below.refl w.heap.size w)
 have H : (some (l0_0, l0_1, a0_2)) = some (r1, r2, r3) := h
 clear h
 simp only [Option.some.injEq, Prod.mk.injEq] at H
 obtain ⟨rfl, rfl, rfl⟩ := H
 go_enter Tryd.func22, Tryd.ntmps22
 go_wp2_with (first | ((with_reducible refine gate_dst (N := 1) rfl ?_); refine box_event rfl (N := 1) rfl (cs := #[.slice A0_0 l0_0.length c0_0, .slice A0_1 l0_1.length c0_1, .int .u32 a0_2]) (t := 42) jW ?_; intro gb482 hg w2 hbox hb; have BK482 := Aside0.mk hbox; have GW482 := Aside0.mk (jG hg HB); have GE482 := Aside0.mk (jG hg HB); replace HO0_0 := Aside0.mk (Kd.V_below (Kd.V_elderB (jV HO0_0) gb482 (Nat.le_of_eq hg.symm)) hb); replace HO0_1 := Aside0.mk (Kd.V_below (Kd.V_elderB (jV HO0_1) gb482 (Nat.le_of_eq hg.symm)) hb); replace HB := Aside0.mk (zT (jH HB) hb); clear hb hbox hg) | ((with_reducible refine gate_dst (N := 2) rfl ?_); refine box_event rfl (N := 2) rfl (cs := #[.slice none 0 0, .slice none 0 0, .int .u32 0]) (t := 45) jW ?_; intro gb483 hg w3 hbox hb; have BK483 := Aside0.mk hbox; have GW483 := Aside0.mk (jG hg HB); have GE483 := Aside0.mk (jG hg HB); have NB482_483 := Aside0.mk (jN hg BK482); have NB483_482 := Aside0.mk (jM hg BK482); replace HO0_0 := Aside0.mk (Kd.V_below (Kd.V_elderB (jV HO0_0) gb483 (Nat.le_of_eq hg.symm)) hb); replace HO0_1 := Aside0.mk (Kd.V_below (Kd.V_elderB (jV HO0_1) gb483 (Nat.le_of_eq hg.symm)) hb); replace BK482 := Aside0.mk (jB BK482 hb); replace HB := Aside0.mk (zT (jH HB) hb); clear hb hbox hg; have hnb4 := NB482_483.out; have hnc4 := NB483_482.out; obtain ⟨hcz5_0, hcz5_1, hcz5_2, hfz5_0, hfz5_1, hfz5_2⟩ := kQ3 BK482.out; obtain ⟨hcz6_0, hcz6_1, hcz6_2, hfz6_0, hfz6_1, hfz6_2⟩ := kQ3 BK483.out))
 refine bodyPost_ret (results_cell_row rfl _ _ gb483 45 #[.slice A0_0 l0_0.length c0_0, .slice A0_1 l0_1.length c0_1, .int .u32 a0_2] (0, 0) _ rfl (by (with_reducible repeat (first | refine kN ?_ _ | refine kD ?_ | refine kA ?_ _)); refine kP (cs := #[.slice A0_0 l0_0.length c0_0, .slice A0_1 l0_1.length c0_1, .int .u32 0]) ?_ 2 _ rfl; (with_reducible repeat (first | refine kN ?_ _ | refine kD ?_ | refine kA ?_ _)); refine kP (cs := #[.slice A0_0 l0_0.length c0_0, .slice none 0 0, .int .u32 0]) ?_ 1 _ rfl; (with_reducible repeat (first | refine kN ?_ _ | refine kD ?_ | refine kA ?_ _)); refine kP (cs := #[.slice none 0 0, .slice none 0 0, .int .u32 0]) ?_ 0 _ rfl; (with_reducible repeat (first | refine kN ?_ _ | refine kD ?_ | refine kA ?_ _)); exact BK483.out) Tryd.underlying45 rfl (by kernel_rfl)) rfl ?_
 exact ⟨_, _, jE, by (with_reducible repeat (first | apply Kd.V_alloc | apply Kd.V_drewN | apply Kd.V_drew)); exact Kd.V_mono (Kd.V_far (p := ⟨gb483, 2, none⟩) (Kd.V_far (p := ⟨gb483, 1, none⟩) (Kd.V_far (p := ⟨gb483, 0, none⟩) (Kd.V_mono HO0_0.out (fun k_ hk => (⟨hk, hk.2⟩ : _ ∧ k_ ≠ gb483))) (fun _ hk => hk.2) (.slice A0_0 l0_0.length c0_0)) (fun _ hk => hk.2) (.slice A0_1 l0_1.length c0_1)) (fun _ hk => hk.2) (.int .u32 a0_2)) (fun _ hk => hk.1.1.1), by (with_reducible repeat (first | apply Kd.V_alloc | apply Kd.V_drewN | apply Kd.V_drew)); exact Kd.V_mono (Kd.V_far (p := ⟨gb483, 2, none⟩) (Kd.V_far (p := ⟨gb483, 1, none⟩) (Kd.V_far (p := ⟨gb483, 0, none⟩) (Kd.V_mono HO0_1.out (fun k_ hk => (⟨hk, hk.2⟩ : _ ∧ k_ ≠ gb483))) (fun _ hk => hk.2) (.slice A0_0 l0_0.length c0_0)) (fun _ hk => hk.2) (.slice A0_1 l0_1.length c0_1)) (fun _ hk => hk.2) (.int .u32 a0_2)) (fun _ hk => hk.1.1.1), jH HB⟩
def l21_As.l0 : Nat → List (S42) → List (S45) → Int → Option ((List (S45)))
 | 0, _, _, _ => none
 | k + 1, x0, x3, x4 => if x4 < (x0.length : Int) then (if 0 ≤ x4 then ((l21_as.f ((rd_T42 x0 x4).f0) ((rd_T42 x0 x4).f1) ((rd_T42 x0 x4).f2)).bind fun bt485 => (if x3.length < 2513169434916 then (l21_As.l0 k x0 (x3 ++ [(⟨bt485.1, bt485.2.1, bt485.2.2⟩ : S45)]) (wrap64 (x4 + 1))) else (none))) else (none)) else (some x3)
def l21_As.f (k : Nat) (l0 : List (S42)) : Option ((List (S45))) := l21_As.l0 k l0 ([] : List (S45)) 0
theorem l21_As.mono_l : ∀ k, (∀ y0 y1 y2, LeO (l21_As.l0 k y0 y1 y2) (l21_As.l0 (k + 1) y0 y1 y2))
 | 0 => fun _ _ _ r h => by simp [l21_As.l0] at h
 | k + 1 => by
  have ih0 := l21_As.mono_l k
  ·intro y0 y1 y2
   unfold l21_As.l0
   repeat' first
   | (with_reducible apply ih0)
   | (with_reducible exact LeO.refl _)
   | (with_reducible exact LeO.none _)
   | (with_reducible refine LeO.ite ?_ ?_)
   | (with_reducible refine LeO.bind ?_ (fun _ => ?_))
   | apply ih0
   | exact LeO.none _
   | refine LeO.ite ?_ ?_
   | refine LeO.bind ?_ (fun _ => ?_)
theorem l21_As.mono : ∀ a0 k, LeO (l21_As.f k a0) (l21_As.f (k + 1) a0) := by
 intro a0 k
 have ih0 := l21_As.mono_l k
 unfold l21_As.f
 repeat' first
   | (with_reducible apply ih0)
   | (with_reducible exact LeO.refl _)
   | (with_reducible exact LeO.none _)
   | (with_reducible refine LeO.ite ?_ ?_)
   | (with_reducible refine LeO.bind ?_ (fun _ => ?_))
   | apply ih0
   | exact LeO.none _
   | refine LeO.ite ?_ ?_
   | refine LeO.bind ?_ (fun _ => ?_)
set_option maxHeartbeats 8000000 in
set_option maxRecDepth 100000 in
theorem l21_As.calls (k : Nat) (P0_ : Nat → Prop) (A0 : Option Addr) (c0 : Nat) (l0 : List (S42)) (r : List (S45)) (w : World) (hs0 : Kd.V k42 42 w w.heap.size (fun k_ => P0_ k_) (.slice A0 l0.length c0) l0) (h : l21_As.f k l0 = some r) :
  Calls Tryd.prog 14 #[.slice A0 l0.length c0] w fun e w' => ∃ v0_ : Value, e = .returned (v0_) ∧ Kd.N k45 45 w' w.heap.size (fun k_ => (P0_ k_ ∨ w.heap.size ≤ k_)) v0_ r ∧ Below w.heap.size w w' := by
 have hu42 := Tryd.underlying42
 have HO0 := Aside0.mk (show Kd.V k42 42 w w.heap.size (fun k_ => (P0_ k_ ∨ w.heap.size ≤ k_)) (.slice A0 l0.length c0) l0 from Kd.V_mono hs0 (fun k_ hk => .inl hk))
 have HB := Aside0.mk (Below.refl w.heap.size w)
 have H : (l21_As.l0 k l0 ([] : List (S45)) 0) = some r := h
 clear h
 have H' := Aside0.mk H
 clear H
 go_enter Tryd.func14, Tryd.ntmps14
 go_wp2
 go_loopg [3, 4] k (fun kq v3 v4 w' => ∃ (x3_1 : List (S45)) (x4_1 : Int), v4 = .int .i64 x4_1 ∧ Aside0 (l21_As.l0 kq l0 x3_1 x4_1 = some r) ∧ Aside0 (kq ≤ k) ∧ Aside0 (Kd.V k42 42 w' w.heap.size (fun k_ => (P0_ k_ ∨ w.heap.size ≤ k_) ∧ some k_ ≠ (v3 : Value).ownBlock) (.slice A0 l0.length c0) l0) ∧ Aside0 (Kd.N k45 45 w' w.heap.size (fun k_ => (P0_ k_ ∨ w.heap.size ≤ k_)) v3 x3_1) ∧ Aside0 (Below w.heap.size w w'))
 case atStart => exact ⟨(([] : List (S45))), (0), jS, H', ⟨Nat.le_refl _⟩, ⟨by (with_reducible repeat (first | apply Kd.V_alloc | apply Kd.V_drewN | apply Kd.V_drew)); exact Kd.V_mono HO0.out (fun _ hk => ⟨hk, (by simp [Value.ownBlock])⟩)⟩, ⟨by first | exact Kd.S_nil _ _ _ _ _ | exact Kd.N_nil _ _ _ _ _ | exact Kd.V_nil _ _ _ _ _ | exact Kd.Q_nil _ _ _ _ _ | exact Kd.R_nil _ _ _ _ _⟩, ⟨jH HB⟩⟩
 case round =>
  clear H'
  obtain ⟨x3_1, x4_1, rfl, HA, HK1, HO_0, HO_3, HB⟩ := hrel
  cases gk with
  | zero => exact absurd HA.out (by simp [l21_As.l0])
  | succ k1 =>
   have H := HA.out
   clear HA
   simp only [l21_As.l0] at H
   by_cases c2 : x4_1 < (l0.length : Int)
   ·rw [if_pos c2] at H
    have c2b0 : decide (x4_1 < (l0.length : Int)) = true := dT c2
    clear c2
    by_cases c3 : 0 ≤ x4_1
    ·rw [if_pos c3] at H
     have c3b0 : decide (0 ≤ x4_1) = true := dT c3
     clear c3
     replace H := Option.bind_eq_some_iff.mp H
     obtain ⟨⟨t485, t488, t491⟩, A40, H⟩ := H
     try dsimp only at H
     have A4 := Aside0.mk A40
     clear A40
     by_cases c5 : x3_1.length < 2513169434916
     ·rw [if_pos c5] at H
      have LMc5 := Aside0.mk c5
      clear c5
      obtain ⟨y492, hy492⟩ : ∃ y_ : List (S45), y_ = (x3_1 ++ [(⟨t485, t488, t491⟩ : S45)]) := ⟨_, rfl⟩
      simp only [Option.bind_some, ← hy492] at H
      have Ny492 := Aside0.mk hy492
      clear hy492
      have H' := Aside0.mk H
      clear H
      have p484 : 0 ≤ (x4_1 : Int) := oD (jA)
      have q484 : x4_1 < (l0.length : Int) := oD (jA)
      obtain ⟨ad484, A484_0, c484_0, A484_1, c484_1, e484, hx484_0, hx484_1, hx484_2, hl484_0, hi484_0, hl484_1, hi484_1⟩ := at_T42 (Kd.V_reads' HO_0.out).2.2 x4_1 p484 q484
      cases e484
      obtain ⟨ce484, hce484, hMe484, hcc484⟩ := Kd.V_get HO_0.out z42 x4_1 p484 (by first | exact q484 | exact oD (jA) | (have e_ := (Kd.V_reads' HO_0.out).1; omega))
      obtain ⟨ua484_0, uc484_0, ua484_1, uc484_1, rfl, ul484_0, ge484_0, ul484_1, ge484_1⟩ := k42_openF hMe484
      have hv484_0 := hcc484 0 _ rfl
      rw [Nat.add_zero] at hv484_0
      replace hv484_0 := Option.some.inj (hv484_0.symm.trans hx484_0)
      injection hv484_0 with hva_ hvn_ hvc_
      rw [hva_] at ge484_0
      rw [hvc_] at ul484_0
      have HL484_0 := Aside0.mk (show Kd.V k59 59 _ w.heap.size _ _ ((rd_T42 l0 x4_1).f0) from Kd.V_mk ul484_0 ge484_0)
      clear hva_ hvn_ hvc_ ge484_0 ul484_0
      have hv484_1 := hcc484 1 _ rfl
      rw [add_field _ _ 1 (by omega)] at hv484_1
      replace hv484_1 := Option.some.inj (hv484_1.symm.trans hx484_1)
      injection hv484_1 with hva_ hvn_ hvc_
      rw [hva_] at ge484_1
      rw [hvc_] at ul484_1
      have HL484_1 := Aside0.mk (show Kd.V k59 59 _ w.heap.size _ _ ((rd_T42 l0 x4_1).f1) from Kd.V_mk ul484_1 ge484_1)
      clear hva_ hvn_ hvc_ ge484_1 ul484_1
      clear hcc484 hce484
      have HR484_0 := Aside0.mk hi484_0
      have HC484_0 := Aside0.mk hl484_0
      clear hi484_0 hl484_0
      have HR484_1 := Aside0.mk hi484_1
      have HC484_1 := Aside0.mk hl484_1
      clear hi484_1 hl484_1
      replace p484 := eq_true p484
      replace q484 := eq_true q484
      go_wp2_with (first | ((with_reducible refine gate_callee (f := 22) rfl ?_); refine goesL_ (some 16) rfl rfl Tryd.func22 (by kernel_rfl) rfl #[.agg #[.slice A484_0 ((rd_T42 l0 x4_1).f0).length c484_0, .slice A484_1 ((rd_T42 l0 x4_1).f1).length c484_1, .int .u32 ((rd_T42 l0 x4_1).f2)]] rfl jZ ?_; (with_reducible refine (l21_as.calls (fun k_ => ((P0_ k_ ∨ w.heap.size ≤ k_) ∧ some k_ ≠ (u3 : Value).ownBlock)) _ _ ((rd_T42 l0 x4_1).f0) (fun k_ => ((P0_ k_ ∨ w.heap.size ≤ k_) ∧ some k_ ≠ (u3 : Value).ownBlock)) _ _ ((rd_T42 l0 x4_1).f1) ((rd_T42 l0 x4_1).f2) t485 t488 t491 _ ?side1 ?side2 A4.out).mono ?_); (case side1 => exact HL484_0.out); (case side2 => exact HL484_1.out); rintro e w6 ⟨v486, v489, rfl, ho0, ho1, hb⟩; refine ⟨_, rfl, ?_⟩; have n0_ := Aside0.mk (Kd.V_below (jV HO_0) hb); have n1_ := Aside0.mk (Kd.N_below (by (with_reducible repeat (first | apply Kd.N_alloc | apply Kd.N_drewN | apply Kd.N_drew)); exact HO_3.out) hb); have n2_ := Aside0.mk (Kd.V_below (jV HL484_0) hb); have n3_ := Aside0.mk (Kd.V_below (jV HL484_1) hb); have n4_ := Aside0.mk (Kd.V_lower (Kd.V_mono (ok' := fun k_ => (P0_ k_ ∨ w.heap.size ≤ k_) ∧ some k_ ≠ (u3 : Value).ownBlock) ho0 (fun k_ hk_ => ⟨Or.elim hk_ (fun hs_ => Or.elim hs_ (fun hs_ => hs_.1) (fun hs_ => hs_.1)) (fun hn_ => (.inr (Nat.le_trans (zZ (jH HB)) hn_))), Or.elim hk_ (fun hs_ => Or.elim hs_ (fun hs_ => hs_.2) (fun hs_ => hs_.2)) (fun hn_ => (Kd.fresh' (Kd.N_lt (by (with_reducible repeat (first | apply Kd.N_alloc | apply Kd.N_drewN | apply Kd.N_drew)); exact HO_3.out)) k_ hn_))⟩)) (zZ (jH HB))); have n5_ := Aside0.mk (Kd.V_lower (Kd.V_mono (ok' := fun k_ => (P0_ k_ ∨ w.heap.size ≤ k_) ∧ some k_ ≠ (u3 : Value).ownBlock) ho1 (fun k_ hk_ => ⟨Or.elim hk_ (fun hs_ => Or.elim hs_ (fun hs_ => hs_.1) (fun hs_ => hs_.1)) (fun hn_ => (.inr (Nat.le_trans (zZ (jH HB)) hn_))), Or.elim hk_ (fun hs_ => Or.elim hs_ (fun hs_ => hs_.2) (fun hs_ => hs_.2)) (fun hn_ => (Kd.fresh' (Kd.N_lt (by (with_reducible repeat (first | apply Kd.N_alloc | apply Kd.N_drewN | apply Kd.N_drew)); exact HO_3.out)) k_ hn_))⟩)) (zZ (jH HB))); have n6_ := Aside0.mk (Kd.C_below (by repeat (first | (with_reducible exact HR484_0.out) | (with_reducible refine Kd.C_alloc ?_ _) | (with_reducible refine Kd.C_drewN ?_ _) | (with_reducible refine Kd.C_drew ?_) | exact HR484_0.out)) hb); have n7_ := Aside0.mk (Kd.C_below (by repeat (first | (with_reducible exact HR484_1.out) | (with_reducible refine Kd.C_alloc ?_ _) | (with_reducible refine Kd.C_drewN ?_ _) | (with_reducible refine Kd.C_drew ?_) | exact HR484_1.out)) hb); have n8_ := Aside0.mk (zT (jH HB) hb); clear HO_0; clear HO_3; clear HL484_0; clear HL484_1; clear HR484_0; clear HR484_1; clear HB; have HO_0 := n0_; have HO_3 := n1_; have HL484_0 := n2_; have HL484_1 := n3_; have HO487 := n4_; have HO490 := n5_; have HR484_0 := n6_; have HR484_1 := n7_; have HB := n8_; clear n0_ n1_ n2_ n3_ n4_ n5_ n6_ n7_ n8_; (try clear hb); (try clear hb2); (try clear hk); (try clear hi); (try clear ho0); (try clear ho1); obtain ⟨Ao8, co8, eo8⟩ := Kd.V_slice HO487.out; subst eo8; obtain ⟨Ao9, co9, eo9⟩ := Kd.V_slice HO490.out; subst eo9) | ((with_reducible refine gate_builtin (b := .append) (xs := #[.tmp 11, .tmp 17]) rfl ?_); at_builtin; refine Kd.N_append k45 (w0 := w) w.heap.size rfl (.tmp 11) (.tmp 17) 30 45 (.agg #[(.slice none 0 0), (.slice none 0 0), (.int .u32 0)]) 56 rfl Tryd.underlying30 info45 rfl (by decide) (by omega) u3 x3_1 (⟨t485, t488, t491⟩ : S45) [.slice Ao8 t485.length co8, .slice Ao9 t488.length co9, .int .u32 t491] (fun k_ => (P0_ k_ ∨ w.heap.size ≤ k_)) (fun k_ => ((fun k_ => (P0_ k_ ∨ w.heap.size ≤ k_))) k_ ∧ some k_ ≠ (u3 : Value).ownBlock) rfl rfl ?aP (fun _ hk => hk) ?aF ?aO ?aB ?aS ?aL ?_; (case aP => exact (k45_mkF _ _ (⟨t485, t488, t491⟩ : S45) (Kd.V_reads' (Kd.V_mono (ok' := (fun k_ => ((fun k_ => (P0_ k_ ∨ w.heap.size ≤ k_))) k_ ∧ some k_ ≠ (u3 : Value).ownBlock)) (HO487.out) (fun k_ hk => ⟨hk.1, hk.2⟩))).2.1 (Kd.V_F (Kd.V_mono (ok' := (fun k_ => ((fun k_ => (P0_ k_ ∨ w.heap.size ≤ k_))) k_ ∧ some k_ ≠ (u3 : Value).ownBlock)) (HO487.out) (fun k_ hk => ⟨hk.1, hk.2⟩))) (Kd.V_reads' (Kd.V_mono (ok' := (fun k_ => ((fun k_ => (P0_ k_ ∨ w.heap.size ≤ k_))) k_ ∧ some k_ ≠ (u3 : Value).ownBlock)) (HO490.out) (fun k_ hk => ⟨hk.1, hk.2⟩))).2.1 (Kd.V_F (Kd.V_mono (ok' := (fun k_ => ((fun k_ => (P0_ k_ ∨ w.heap.size ≤ k_))) k_ ∧ some k_ ≠ (u3 : Value).ownBlock)) (HO490.out) (fun k_ hk => ⟨hk.1, hk.2⟩))))); (case aB => exact (jH HB)); (case aF => exact (fun k_ hk => (.inr (Nat.le_trans (zZ (jH HB)) hk)))); (case aO => exact (by (with_reducible repeat (first | apply Kd.N_alloc | apply Kd.N_drewN | apply Kd.N_drew)); exact HO_3.out)); (case aS => exact (zZ (jH HB))); (case aL => have := LMc5.out; omega); intro v493 w7 ho hb hg hat; rw [← Ny492.out] at ho; have HO494 := Aside0.mk (ho); replace HO_0 := Aside0.mk (Kd.V_afterv (ok := (fun k_ => (P0_ k_ ∨ w.heap.size ≤ k_))) (jV HO_0) hg hat); replace HL484_0 := Aside0.mk (Kd.V_afterv (ok := (fun k_ => (P0_ k_ ∨ w.heap.size ≤ k_))) (jV HL484_0) hg hat); replace HL484_1 := Aside0.mk (Kd.V_afterv (ok := (fun k_ => (P0_ k_ ∨ w.heap.size ≤ k_))) (jV HL484_1) hg hat); replace HO487 := Aside0.mk (Kd.V_afterv (ok := (fun k_ => (P0_ k_ ∨ w.heap.size ≤ k_))) (jV HO487) hg hat); replace HO490 := Aside0.mk (Kd.V_afterv (ok := (fun k_ => (P0_ k_ ∨ w.heap.size ≤ k_))) (jV HO490) hg hat); replace HB := Aside0.mk (hb); clear HO_3; clear ho hb hg hat))
      go_roundg k1
      case measure => have := HK1.out; omega
      case rel => exact ⟨(y492), (wrap64 (x4_1 + 1)), jS, H', ⟨by have := HK1.out; omega⟩, ⟨jV HO_0⟩, ⟨by (with_reducible repeat (first | apply Kd.N_alloc | apply Kd.N_drewN | apply Kd.N_drew)); exact HO494.out⟩, ⟨jH HB⟩⟩
     ·rw [if_neg c5] at H
      exact absurd H (by simp)
    ·rw [if_neg c3] at H
     exact absurd H (by simp)
   ·rw [if_neg c2] at H
    have c2b0 : decide (x4_1 < (l0.length : Int)) = false := dF c2
    clear c2
    obtain rfl := Option.some.inj H
    go_wp2
    go_ret
    exact ⟨_, jE, by (with_reducible repeat (first | apply Kd.N_alloc | apply Kd.N_drewN | apply Kd.N_drew)); exact HO_3.out, jH HB⟩
def r20_bits.l0 : Nat → Int → List Bool → Int → Option (List Bool)
 | 0, _, _, _ => none
 | k + 1, x0, x3, x4 => if x4 < 32 then (if x3.length < 140737488355328 then (r20_bits.l0 k (IntKind.u64.wrap (Int.tdiv x0 2)) (x3 ++ [((Int.tmod x0 2) == 1)]) (wrap64 (x4 + 1))) else (none)) else (some x3)
def r20_bits.f (k : Nat) (a0 : Int) : Option (List Bool) := r20_bits.l0 k a0 ([] : List Bool) 0
theorem r20_bits.mono_l : ∀ k, (∀ y0 y1 y2, LeO (r20_bits.l0 k y0 y1 y2) (r20_bits.l0 (k + 1) y0 y1 y2))
 | 0 => fun _ _ _ r h => by simp [r20_bits.l0] at h
 | k + 1 => by
  have ih0 := r20_bits.mono_l k
  ·intro y0 y1 y2
   unfold r20_bits.l0
   repeat' first
   | (with_reducible apply ih0)
   | (with_reducible exact LeO.refl _)
   | (with_reducible exact LeO.none _)
   | (with_reducible refine LeO.ite ?_ ?_)
   | (with_reducible refine LeO.bind ?_ (fun _ => ?_))
   | apply ih0
   | exact LeO.none _
   | refine LeO.ite ?_ ?_
   | refine LeO.bind ?_ (fun _ => ?_)
theorem r20_bits.mono : ∀ a0 k, LeO (r20_bits.f k a0) (r20_bits.f (k + 1) a0) := by
 intro a0 k
 have ih0 := r20_bits.mono_l k
 unfold r20_bits.f
 repeat' first
   | (with_reducible apply ih0)
   | (with_reducible exact LeO.refl _)
   | (with_reducible exact LeO.none _)
   | (with_reducible refine LeO.ite ?_ ?_)
   | (with_reducible refine LeO.bind ?_ (fun _ => ?_))
   | apply ih0
   | exact LeO.none _
   | refine LeO.ite ?_ ?_
   | refine LeO.bind ?_ (fun _ => ?_)
set_option maxHeartbeats 8000000 in
set_option maxRecDepth 100000 in
theorem r20_bits.calls (k : Nat) (a0 : Int) (r : List Bool) (w : World) (h : r20_bits.f k a0 = some r) :
  Calls Tryd.prog 56 #[.int .u64 a0] w fun e w' => ∃ v0_ : Value, e = .returned (v0_) ∧ Kd.R Kd.bool 4 w' w.heap.size (fun _ => True) v0_ r ∧ Below w.heap.size w w' := by
 have HB := Aside0.mk (Below.refl w.heap.size w)
 have H : (r20_bits.l0 k a0 ([] : List Bool) 0) = some r := h
 clear h
 have H' := Aside0.mk H
 clear H
 go_enter Tryd.func56, Tryd.ntmps56
 go_wp2
 go_loopg [0, 3, 4] k (fun kq v0 v3 v4 w' => ∃ (x0_1 : Int) (x3_1 : List Bool) (x4_1 : Int), v0 = .int .u64 x0_1 ∧ v4 = .int .i64 x4_1 ∧ Aside0 (r20_bits.l0 kq x0_1 x3_1 x4_1 = some r) ∧ Aside0 (kq ≤ k) ∧ Aside0 (Kd.R Kd.bool 4 w' w.heap.size (fun _ => True) v3 x3_1) ∧ Aside0 (Below w.heap.size w w'))
 case atStart => exact ⟨(a0), (([] : List Bool)), (0), jS, jS, H', ⟨Nat.le_refl _⟩, ⟨by first | exact Kd.R_nil _ _ _ _ _ | exact Kd.N_nil _ _ _ _ _ | exact Kd.V_nil _ _ _ _ _ | exact Kd.Q_nil _ _ _ _ _ | exact Kd.S_nil _ _ _ _ _⟩, ⟨jH HB⟩⟩
 case round =>
  clear H'
  obtain ⟨x0_1, x3_1, x4_1, rfl, rfl, HA, HK1, HO_3, HB⟩ := hrel
  cases gk with
  | zero => exact absurd HA.out (by simp [r20_bits.l0])
  | succ k1 =>
   have H := HA.out
   clear HA
   simp only [r20_bits.l0] at H
   by_cases c2 : x4_1 < 32
   ·rw [if_pos c2] at H
    have c2b0 : decide (x4_1 < 32) = true := dT c2
    clear c2
    by_cases c3 : x3_1.length < 140737488355328
    ·rw [if_pos c3] at H
     have LMc3 := Aside0.mk c3
     clear c3
     obtain ⟨y495, hy495⟩ : ∃ y_ : List Bool, y_ = (x3_1 ++ [((Int.tmod x0_1 2) == 1)]) := ⟨_, rfl⟩
     simp only [Option.bind_some, ← hy495] at H
     have Ny495 := Aside0.mk hy495
     clear hy495
     have H' := Aside0.mk H
     clear H
     go_wp2_with (first | ((with_reducible refine gate_builtin (b := .append) (xs := #[.tmp 9, .tmp 13]) rfl ?_); at_builtin; refine Kd.R_append Kd.bool (w0 := w) w.heap.size rfl (.tmp 9) (.tmp 13) 88 4 (.bool false) 1 rfl Tryd.underlying88 info4 rfl (by decide) (by omega) u3 x3_1 ((Int.tmod x0_1 2) == 1) [.bool ((Int.tmod x0_1 2) == 1)] (fun _ => True) (fun _ => False) rfl rfl ?aP (fun _ hk => hk.elim) ?aF ?aO ?aB ?aS ?aL ?_; (case aP => exact rfl); (case aB => exact (jH HB)); (case aF => exact (fun _ _ => trivial)); (case aO => exact (jR HO_3)); (case aS => exact (zZ (jH HB))); (case aL => have := LMc3.out; omega); intro v496 w4 ho hb hg hat; rw [← Ny495.out] at ho; have HO497 := Aside0.mk (ho); replace HB := Aside0.mk (hb); clear HO_3; clear ho hb hg hat))
     go_roundg k1
     case measure => have := HK1.out; omega
     case rel => exact ⟨(IntKind.u64.wrap (Int.tdiv x0_1 2)), (y495), (wrap64 (x4_1 + 1)), jS, jS, H', ⟨by have := HK1.out; omega⟩, ⟨jR HO497⟩, ⟨jH HB⟩⟩
    ·rw [if_neg c3] at H
     exact absurd H (by simp)
   ·rw [if_neg c2] at H
    have c2b0 : decide (x4_1 < 32) = false := dF c2
    clear c2
    obtain rfl := Option.some.inj H
    go_wp2
    go_ret
    exact ⟨_, jE, by (with_reducible repeat (first | apply Kd.R_alloc | apply Kd.R_drewN | apply Kd.R_drew)); exact HO_3.out, jH HB⟩
end Go.Proofs.YtahacmdhhfmhiaaDoor.M
