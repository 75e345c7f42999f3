/- What Go functions compute; their calls come to it. No condition. -/
import Derived.Test.YtahacmdhhfmhiaaDoorM0
import Derived.Test.YtahacmdhhfmhiaaDoorMG
namespace Go.Proofs.YtahacmdhhfmhiaaDoor.M
open Go.RowKit Go.Proofs.YtahacmdhhfmhiaaDoorW.PrintWords Go.Proofs.YtahacmdhhfmhiaaDoorW.PrintLast Go.Proofs.YtahacmdhhfmhiaaDoorW.PrintMore
attribute [local go_sem] max2_int min2_int max_two min_two max_three min_three max_four min_four   -- for this text's walks alone
set_option linter.unusedVariables false
set_option linter.unusedSimpArgs false
def l21_as.f (l0_0 : List (S59)) (l0_1 : List (S59)) (a0_2 : Int) : Option ((List (S59)) × (List (S59)) × Int) := some (l0_0, l0_1, a0_2)
set_option maxHeartbeats 8000000 in
set_option maxRecDepth 100000 in
theorem l21_as.calls (P0_0_ : Nat → Prop) (A0_0 : Option Addr) (c0_0 : Nat) (l0_0 : List (S59)) (P0_1_ : Nat → Prop) (A0_1 : Option Addr) (c0_1 : Nat) (l0_1 : List (S59)) (a0_2 : Int) (r1 : List (S59)) (r2 : List (S59)) (r3 : Int) (w : World) (hs0_0 : Kd.V k59 59 w w.heap.size (fun k_ => P0_0_ k_) (.slice A0_0 l0_0.length c0_0) l0_0) (hs0_1 : Kd.V k59 59 w w.heap.size (fun k_ => P0_1_ k_) (.slice A0_1 l0_1.length c0_1) l0_1) (h : l21_as.f l0_0 l0_1 a0_2 = some (r1, r2, r3)) :
  Calls Tryd.prog 22 #[.agg #[.slice A0_0 l0_0.length c0_0, .slice A0_1 l0_1.length c0_1, .int .u32 a0_2]] w fun e w' => ∃ v0_ v1_ : Value, e = .returned (.agg #[v0_, v1_, .int .u32 r3]) ∧ Kd.V k59 59 w' w.heap.size (fun k_ => ((P0_0_ k_ ∨ P0_1_ k_) ∨ w.heap.size ≤ k_)) v0_ r1 ∧ Kd.V k59 59 w' w.heap.size (fun k_ => ((P0_0_ k_ ∨ P0_1_ k_) ∨ w.heap.size ≤ k_)) v1_ r2 ∧ Below w.heap.size w w' := by
 have hu42 := Tryd.underlying42
 have hu45 := Tryd.underlying45
 have HO0_0 := Aside0.mk (show Kd.V k59 59 w w.heap.size (fun k_ => ((P0_0_ k_ ∨ P0_1_ k_) ∨ w.heap.size ≤ k_)) (.slice A0_0 l0_0.length c0_0) l0_0 from Kd.V_mono hs0_0 (fun k_ hk => .inl (.inl hk)))
 have HO0_1 := Aside0.mk (show Kd.V k59 59 w w.heap.size (fun k_ => ((P0_0_ k_ ∨ P0_1_ k_) ∨ w.heap.size ≤ k_)) (.slice A0_1 l0_1.length c0_1) l0_1 from Kd.V_mono hs0_1 (fun k_ hk => .inl (.inr hk)))
 have HB := Aside0.mk (Below.refl w.heap.size w)
 have H : (some (l0_0, l0_1, a0_2)) = some (r1, r2, r3) := h
 clear h
 simp only [Option.some.injEq, Prod.mk.injEq] at H
 obtain ⟨rfl, rfl, rfl⟩ := H
 go_enter Tryd.func22, Tryd.ntmps22
 go_wp2_with (first | ((with_reducible refine gate_dst (N := 1) rfl ?_); refine box_event rfl (N := 1) rfl (cs := #[.slice A0_0 l0_0.length c0_0, .slice A0_1 l0_1.length c0_1, .int .u32 a0_2]) (t := 42) jW ?_; intro gb482 hg w2 hbox hb; have BK482 := Aside0.mk hbox; have GW482 := Aside0.mk (jG hg HB); have GE482 := Aside0.mk (jG hg HB); replace HO0_0 := Aside0.mk (Kd.V_below (Kd.V_elderB (jV HO0_0) gb482 (Nat.le_of_eq hg.symm)) hb); replace HO0_1 := Aside0.mk (Kd.V_below (Kd.V_elderB (jV HO0_1) gb482 (Nat.le_of_eq hg.symm)) hb); replace HB := Aside0.mk (zT (jH HB) hb); clear hb hbox hg) | ((with_reducible refine gate_dst (N := 2) rfl ?_); refine box_event rfl (N := 2) rfl (cs := #[.slice none 0 0, .slice none 0 0, .int .u32 0]) (t := 45) jW ?_; intro gb483 hg w3 hbox hb; have BK483 := Aside0.mk hbox; have GW483 := Aside0.mk (jG hg HB); have GE483 := Aside0.mk (jG hg HB); have NB482_483 := Aside0.mk (jN hg BK482); have NB483_482 := Aside0.mk (jM hg BK482); replace HO0_0 := Aside0.mk (Kd.V_below (Kd.V_elderB (jV HO0_0) gb483 (Nat.le_of_eq hg.symm)) hb); replace HO0_1 := Aside0.mk (Kd.V_below (Kd.V_elderB (jV HO0_1) gb483 (Nat.le_of_eq hg.symm)) hb); replace BK482 := Aside0.mk (jB BK482 hb); replace HB := Aside0.mk (zT (jH HB) hb); clear hb hbox hg; have hnb4 := NB482_483.out; have hnc4 := NB483_482.out; obtain ⟨hcz5_0, hcz5_1, hcz5_2, hfz5_0, hfz5_1, hfz5_2⟩ := kQ3 BK482.out; obtain ⟨hcz6_0, hcz6_1, hcz6_2, hfz6_0, hfz6_1, hfz6_2⟩ := kQ3 BK483.out))
 refine bodyPost_ret (results_cell_row rfl _ _ gb483 45 #[.slice A0_0 l0_0.length c0_0, .slice A0_1 l0_1.length c0_1, .int .u32 a0_2] (0, 0) _ rfl (by (with_reducible repeat (first | refine kN ?_ _ | refine kD ?_ | refine kA ?_ _)); refine kP (cs := #[.slice A0_0 l0_0.length c0_0, .slice A0_1 l0_1.length c0_1, .int .u32 0]) ?_ 2 _ rfl; (with_reducible repeat (first | refine kN ?_ _ | refine kD ?_ | refine kA ?_ _)); refine kP (cs := #[.slice A0_0 l0_0.length c0_0, .slice none 0 0, .int .u32 0]) ?_ 1 _ rfl; (with_reducible repeat (first | refine kN ?_ _ | refine kD ?_ | refine kA ?_ _)); refine kP (cs := #[.slice none 0 0, .slice none 0 0, .int .u32 0]) ?_ 0 _ rfl; (with_reducible repeat (first | refine kN ?_ _ | refine kD ?_ | refine kA ?_ _)); exact BK483.out) Tryd.underlying45 rfl (by kernel_rfl)) rfl ?_
 exact ⟨_, _, jE, by (with_reducible repeat (first | apply Kd.V_alloc | apply Kd.V_drewN | apply Kd.V_drew)); exact Kd.V_mono (Kd.V_far (p := ⟨gb483, 2, none⟩) (Kd.V_far (p := ⟨gb483, 1, none⟩) (Kd.V_far (p := ⟨gb483, 0, none⟩) (Kd.V_mono HO0_0.out (fun k_ hk => (⟨hk, hk.2⟩ : _ ∧ k_ ≠ gb483))) (fun _ hk => hk.2) (.slice A0_0 l0_0.length c0_0)) (fun _ hk => hk.2) (.slice A0_1 l0_1.length c0_1)) (fun _ hk => hk.2) (.int .u32 a0_2)) (fun _ hk => hk.1.1.1), by (with_reducible repeat (first | apply Kd.V_alloc | apply Kd.V_drewN | apply Kd.V_drew)); exact Kd.V_mono (Kd.V_far (p := ⟨gb483, 2, none⟩) (Kd.V_far (p := ⟨gb483, 1, none⟩) (Kd.V_far (p := ⟨gb483, 0, none⟩) (Kd.V_mono HO0_1.out (fun k_ hk => (⟨hk, hk.2⟩ : _ ∧ k_ ≠ gb483))) (fun _ hk => hk.2) (.slice A0_0 l0_0.length c0_0)) (fun _ hk => hk.2) (.slice A0_1 l0_1.length c0_1)) (fun _ hk => hk.2) (.int .u32 a0_2)) (fun _ hk => hk.1.1.1), jH HB⟩
def l21_As.l0 : Nat → List (S42) → List (S45) → Int → Option ((List (S45)))
 | 0, _, _, _ => none
 | k + 1, x0, x3, x4 => if x4 < (x0.length : Int) then (if 0 ≤ x4 then ((l21_as.f ((rd_T42 x0 x4).f0) ((rd_T42 x0 x4).f1) ((rd_T42 x0 x4).f2)).bind fun bt485 => (if x3.length < 2513169434916 then (l21_As.l0 k x0 (x3 ++ [(⟨bt485.1, bt485.2.1, bt485.2.2⟩ : S45)]) (wrap64 (x4 + 1))) else (none))) else (none)) else (some x3)
def l21_As.f (k : Nat) (l0 : List (S42)) : Option ((List (S45))) := l21_As.l0 k l0 ([] : List (S45)) 0
set_option maxHeartbeats 8000000 in
set_option maxRecDepth 100000 in
theorem l21_As.calls (k : Nat) (P0_ : Nat → Prop) (A0 : Option Addr) (c0 : Nat) (l0 : List (S42)) (r : List (S45)) (w : World) (hs0 : Kd.V k42 42 w w.heap.size (fun k_ => P0_ k_) (.slice A0 l0.length c0) l0) (h : l21_As.f k l0 = some r) :
  Calls Tryd.prog 14 #[.slice A0 l0.length c0] w fun e w' => ∃ v0_ : Value, e = .returned (v0_) ∧ Kd.N k45 45 w' w.heap.size (fun k_ => (P0_ k_ ∨ w.heap.size ≤ k_)) v0_ r ∧ Below w.heap.size w w' := by
 have hu42 := Tryd.underlying42
 have HO0 := Aside0.mk (show Kd.V k42 42 w w.heap.size (fun k_ => (P0_ k_ ∨ w.heap.size ≤ k_)) (.slice A0 l0.length c0) l0 from Kd.V_mono hs0 (fun k_ hk => .inl hk))
 have HB := Aside0.mk (Below.refl w.heap.size w)
 have H : (l21_As.l0 k l0 ([] : List (S45)) 0) = some r := h
 clear h
 have H' := Aside0.mk H
 clear H
 go_enter Tryd.func14, Tryd.ntmps14
 go_wp2
 go_loopg [3, 4] k (fun kq v3 v4 w' => ∃ (x3_1 : List (S45)) (x4_1 : Int), v4 = .int .i64 x4_1 ∧ Aside0 (l21_As.l0 kq l0 x3_1 x4_1 = some r) ∧ Aside0 (kq ≤ k) ∧ Aside0 (Kd.V k42 42 w' w.heap.size (fun k_ => (P0_ k_ ∨ w.heap.size ≤ k_) ∧ some k_ ≠ (v3 : Value).ownBlock) (.slice A0 l0.length c0) l0) ∧ Aside0 (Kd.N k45 45 w' w.heap.size (fun k_ => (P0_ k_ ∨ w.heap.size ≤ k_)) v3 x3_1) ∧ Aside0 (Below w.heap.size w w'))
 case atStart => exact ⟨(([] : List (S45))), (0), jS, H', ⟨Nat.le_refl _⟩, ⟨by (with_reducible repeat (first | apply Kd.V_alloc | apply Kd.V_drewN | apply Kd.V_drew)); exact Kd.V_mono HO0.out (fun _ hk => ⟨hk, (by simp [Value.ownBlock])⟩)⟩, ⟨by first | exact Kd.S_nil _ _ _ _ _ | exact Kd.N_nil _ _ _ _ _ | exact Kd.V_nil _ _ _ _ _ | exact Kd.Q_nil _ _ _ _ _ | exact Kd.R_nil _ _ _ _ _⟩, ⟨jH HB⟩⟩
 case round =>
  clear H'
  obtain ⟨x3_1, x4_1, rfl, HA, HK1, HO_0, HO_3, HB⟩ := hrel
  cases gk with
  | zero => exact absurd HA.out (by simp [l21_As.l0])
  | succ k1 =>
   have H := HA.out
   clear HA
   simp only [l21_As.l0] at H
   by_cases c2 : x4_1 < (l0.length : Int)
   ·rw [if_pos c2] at H
    have c2b0 := dT c2
    clear c2
    by_cases c3 : 0 ≤ x4_1
    ·rw [if_pos c3] at H
     have c3b0 := dT c3
     clear c3
     replace H := Option.bind_eq_some_iff.mp H
     obtain ⟨⟨t485, t488, t491⟩, A40, H⟩ := H
     try dsimp only at H
     have A4 := Aside0.mk A40
     clear A40
     by_cases c5 : x3_1.length < 2513169434916
     ·rw [if_pos c5] at H
      have LMc5 := Aside0.mk c5
      clear c5
      obtain ⟨y492, hy492⟩ : ∃ y_ : List (S45), y_ = (x3_1 ++ [(⟨t485, t488, t491⟩ : S45)]) := ⟨_, rfl⟩
      simp only [Option.bind_some, ← hy492] at H
      have Ny492 := Aside0.mk hy492
      clear hy492
      have H' := Aside0.mk H
      clear H
      have p484 : 0 ≤ (x4_1 : Int) := oD (jA)
      have q484 : x4_1 < (l0.length : Int) := oD (jA)
      obtain ⟨ad484, A484_0, c484_0, A484_1, c484_1, e484, hx484_0, hx484_1, hx484_2, hl484_0, hi484_0, hl484_1, hi484_1⟩ := at_T42 (Kd.V_reads' HO_0.out).2.2 x4_1 p484 q484
      cases e484
      obtain ⟨ce484, hce484, hMe484, hcc484⟩ := Kd.V_get HO_0.out z42 x4_1 p484 (by first | exact q484 | exact oD (jA) | (have e_ := (Kd.V_reads' HO_0.out).1; omega))
      obtain ⟨ua484_0, uc484_0, ua484_1, uc484_1, rfl, ul484_0, ge484_0, ul484_1, ge484_1⟩ := k42_openF hMe484
      have hv484_0 := hcc484 0 _ rfl
      rw [Nat.add_zero] at hv484_0
      replace hv484_0 := Option.some.inj (hv484_0.symm.trans hx484_0)
      injection hv484_0 with hva_ hvn_ hvc_
      rw [hva_] at ge484_0
      rw [hvc_] at ul484_0
      have HL484_0 := Aside0.mk (show Kd.V k59 59 _ w.heap.size _ _ ((rd_T42 l0 x4_1).f0) from Kd.V_mk ul484_0 ge484_0)
      clear hva_ hvn_ hvc_ ge484_0 ul484_0
      have hv484_1 := hcc484 1 _ rfl
      rw [add_field _ _ 1 (by omega)] at hv484_1
      replace hv484_1 := Option.some.inj (hv484_1.symm.trans hx484_1)
      injection hv484_1 with hva_ hvn_ hvc_
      rw [hva_] at ge484_1
      rw [hvc_] at ul484_1
      have HL484_1 := Aside0.mk (show Kd.V k59 59 _ w.heap.size _ _ ((rd_T42 l0 x4_1).f1) from Kd.V_mk ul484_1 ge484_1)
      clear hva_ hvn_ hvc_ ge484_1 ul484_1
      clear hcc484 hce484
      have HR484_0 := Aside0.mk hi484_0
      have HC484_0 := Aside0.mk hl484_0
      clear hi484_0 hl484_0
      have HR484_1 := Aside0.mk hi484_1
      have HC484_1 := Aside0.mk hl484_1
      clear hi484_1 hl484_1
      replace p484 := eq_true p484
      replace q484 := eq_true q484
      go_wp2_with (first | ((with_reducible refine gate_callee (f := 22) rfl ?_); refine goesL_ (some 16) rfl rfl Tryd.func22 (by kernel_rfl) rfl #[.agg #[.slice A484_0 ((rd_T42 l0 x4_1).f0).length c484_0, .slice A484_1 ((rd_T42 l0 x4_1).f1).length c484_1, .int .u32 ((rd_T42 l0 x4_1).f2)]] rfl jZ ?_; (with_reducible refine (l21_as.calls (fun k_ => ((P0_ k_ ∨ w.heap.size ≤ k_) ∧ some k_ ≠ (u3 : Value).ownBlock)) _ _ ((rd_T42 l0 x4_1).f0) (fun k_ => ((P0_ k_ ∨ w.heap.size ≤ k_) ∧ some k_ ≠ (u3 : Value).ownBlock)) _ _ ((rd_T42 l0 x4_1).f1) ((rd_T42 l0 x4_1).f2) t485 t488 t491 _ ?side1 ?side2 A4.out).mono ?_); (case side1 => exact HL484_0.out); (case side2 => exact HL484_1.out); rintro e w6 ⟨v486, v489, rfl, ho0, ho1, hb⟩; refine ⟨_, rfl, ?_⟩; have HO487 := Aside0.mk (Kd.V_lower (Kd.V_mono (ok' := fun k_ => (P0_ k_ ∨ w.heap.size ≤ k_) ∧ some k_ ≠ (u3 : Value).ownBlock) ho0 (fun k_ hk_ => ⟨Or.elim hk_ (fun hs_ => Or.elim hs_ (fun hs_ => hs_.1) (fun hs_ => hs_.1)) (fun hn_ => (.inr (Nat.le_trans (zZ (jH HB)) hn_))), Or.elim hk_ (fun hs_ => Or.elim hs_ (fun hs_ => hs_.2) (fun hs_ => hs_.2)) (fun hn_ => (Kd.fresh' (Kd.N_lt (by (with_reducible repeat (first | apply Kd.N_alloc | apply Kd.N_drewN | apply Kd.N_drew)); exact HO_3.out)) k_ hn_))⟩)) (zZ (jH HB))); have HO490 := Aside0.mk (Kd.V_lower (Kd.V_mono (ok' := fun k_ => (P0_ k_ ∨ w.heap.size ≤ k_) ∧ some k_ ≠ (u3 : Value).ownBlock) ho1 (fun k_ hk_ => ⟨Or.elim hk_ (fun hs_ => Or.elim hs_ (fun hs_ => hs_.1) (fun hs_ => hs_.1)) (fun hn_ => (.inr (Nat.le_trans (zZ (jH HB)) hn_))), Or.elim hk_ (fun hs_ => Or.elim hs_ (fun hs_ => hs_.2) (fun hs_ => hs_.2)) (fun hn_ => (Kd.fresh' (Kd.N_lt (by (with_reducible repeat (first | apply Kd.N_alloc | apply Kd.N_drewN | apply Kd.N_drew)); exact HO_3.out)) k_ hn_))⟩)) (zZ (jH HB))); replace HO_0 := Aside0.mk (Kd.V_below (jV HO_0) hb); replace HO_3 := Aside0.mk (Kd.N_below (by (with_reducible repeat (first | apply Kd.N_alloc | apply Kd.N_drewN | apply Kd.N_drew)); exact HO_3.out) hb); replace HL484_0 := Aside0.mk (Kd.V_below (jV HL484_0) hb); replace HL484_1 := Aside0.mk (Kd.V_below (jV HL484_1) hb); replace HR484_0 := Aside0.mk (Kd.C_below (by repeat (first | (with_reducible exact HR484_0.out) | (with_reducible refine Kd.C_alloc ?_ _) | (with_reducible refine Kd.C_drewN ?_ _) | (with_reducible refine Kd.C_drew ?_) | exact HR484_0.out)) hb); replace HR484_1 := Aside0.mk (Kd.C_below (by repeat (first | (with_reducible exact HR484_1.out) | (with_reducible refine Kd.C_alloc ?_ _) | (with_reducible refine Kd.C_drewN ?_ _) | (with_reducible refine Kd.C_drew ?_) | exact HR484_1.out)) hb); replace HB := Aside0.mk (zT (jH HB) hb); (try clear hb); (try clear hb2); (try clear hk); (try clear hi); (try clear ho0); (try clear ho1); obtain ⟨Ao8, co8, eo8⟩ := Kd.V_slice HO487.out; subst eo8; obtain ⟨Ao9, co9, eo9⟩ := Kd.V_slice HO490.out; subst eo9) | ((with_reducible refine gate_builtin (b := .append) (xs := #[.tmp 11, .tmp 17]) rfl ?_); at_builtin; refine Kd.N_append k45 (w0 := w) w.heap.size rfl (.tmp 11) (.tmp 17) 30 45 (.agg #[(.slice none 0 0), (.slice none 0 0), (.int .u32 0)]) 56 rfl Tryd.underlying30 info45 rfl (by decide) (by omega) u3 x3_1 (⟨t485, t488, t491⟩ : S45) [.slice Ao8 t485.length co8, .slice Ao9 t488.length co9, .int .u32 t491] (fun k_ => (P0_ k_ ∨ w.heap.size ≤ k_)) (fun k_ => ((fun k_ => (P0_ k_ ∨ w.heap.size ≤ k_))) k_ ∧ some k_ ≠ (u3 : Value).ownBlock) rfl rfl ?aP (fun _ hk => hk) ?aF ?aO ?aB ?aS ?aL ?_; (case aP => exact (k45_mkF _ _ (⟨t485, t488, t491⟩ : S45) (Kd.V_reads' HO487.out).2.1 (Kd.V_F (Kd.V_mono (ok' := (fun k_ => ((fun k_ => (P0_ k_ ∨ w.heap.size ≤ k_))) k_ ∧ some k_ ≠ (u3 : Value).ownBlock)) (HO487.out) (fun k_ hk => ⟨hk.1, hk.2⟩))) (Kd.V_reads' HO490.out).2.1 (Kd.V_F (Kd.V_mono (ok' := (fun k_ => ((fun k_ => (P0_ k_ ∨ w.heap.size ≤ k_))) k_ ∧ some k_ ≠ (u3 : Value).ownBlock)) (HO490.out) (fun k_ hk => ⟨hk.1, hk.2⟩))))); (case aB => exact (jH HB)); (case aF => exact (fun k_ hk => (.inr (Nat.le_trans (zZ (jH HB)) hk)))); (case aO => exact (by (with_reducible repeat (first | apply Kd.N_alloc | apply Kd.N_drewN | apply Kd.N_drew)); exact HO_3.out)); (case aS => exact (zZ (jH HB))); (case aL => have := LMc5.out; omega); intro v493 w7 ho hb hg hat; rw [← Ny492.out] at ho; have HO494 := Aside0.mk (ho); replace HO_0 := Aside0.mk (Kd.V_afterv (ok := (fun k_ => (P0_ k_ ∨ w.heap.size ≤ k_))) (jV HO_0) hg hat); replace HL484_0 := Aside0.mk (Kd.V_afterv (ok := (fun k_ => (P0_ k_ ∨ w.heap.size ≤ k_))) (jV HL484_0) hg hat); replace HL484_1 := Aside0.mk (Kd.V_afterv (ok := (fun k_ => (P0_ k_ ∨ w.heap.size ≤ k_))) (jV HL484_1) hg hat); replace HO487 := Aside0.mk (Kd.V_afterv (ok := (fun k_ => (P0_ k_ ∨ w.heap.size ≤ k_))) (jV HO487) hg hat); replace HO490 := Aside0.mk (Kd.V_afterv (ok := (fun k_ => (P0_ k_ ∨ w.heap.size ≤ k_))) (jV HO490) hg hat); replace HB := Aside0.mk (hb); clear HO_3; clear ho hb hg hat))
      go_roundg k1
      case measure => have := HK1.out; omega
      case rel => exact ⟨(y492), (wrap64 (x4_1 + 1)), jS, H', ⟨by have := HK1.out; omega⟩, ⟨jV HO_0⟩, ⟨by (with_reducible repeat (first | apply Kd.N_alloc | apply Kd.N_drewN | apply Kd.N_drew)); exact HO494.out⟩, ⟨jH HB⟩⟩
     ·rw [if_neg c5] at H
      exact absurd H (by simp)
    ·rw [if_neg c3] at H
     exact absurd H (by simp)
   ·rw [if_neg c2] at H
    have c2b0 := dF c2
    clear c2
    obtain rfl := Option.some.inj H
    go_wp2
    go_ret
    exact ⟨_, jE, by (with_reducible repeat (first | apply Kd.N_alloc | apply Kd.N_drewN | apply Kd.N_drew)); exact HO_3.out, jH HB⟩
def r20_bits.l0 : Nat → Int → List Bool → Int → Option (List Bool)
 | 0, _, _, _ => none
 | k + 1, x0, x3, x4 => if x4 < 32 then (if x3.length < 140737488355328 then (r20_bits.l0 k (IntKind.u64.wrap (Int.tdiv x0 2)) (x3 ++ [((Int.tmod x0 2) == 1)]) (wrap64 (x4 + 1))) else (none)) else (some x3)
def r20_bits.f (k : Nat) (a0 : Int) : Option (List Bool) := r20_bits.l0 k a0 ([] : List Bool) 0
set_option maxHeartbeats 8000000 in
set_option maxRecDepth 100000 in
theorem r20_bits.calls (k : Nat) (a0 : Int) (r : List Bool) (w : World) (h : r20_bits.f k a0 = some r) :
  Calls Tryd.prog 56 #[.int .u64 a0] w fun e w' => ∃ v0_ : Value, e = .returned (v0_) ∧ Kd.R Kd.bool 4 w' w.heap.size (fun _ => True) v0_ r ∧ Below w.heap.size w w' := by
 have HB := Aside0.mk (Below.refl w.heap.size w)
 have H : (r20_bits.l0 k a0 ([] : List Bool) 0) = some r := h
 clear h
 have H' := Aside0.mk H
 clear H
 go_enter Tryd.func56, Tryd.ntmps56
 go_wp2
 go_loopg [0, 3, 4] k (fun kq v0 v3 v4 w' => ∃ (x0_1 : Int) (x3_1 : List Bool) (x4_1 : Int), v0 = .int .u64 x0_1 ∧ v4 = .int .i64 x4_1 ∧ Aside0 (r20_bits.l0 kq x0_1 x3_1 x4_1 = some r) ∧ Aside0 (kq ≤ k) ∧ Aside0 (Kd.R Kd.bool 4 w' w.heap.size (fun _ => True) v3 x3_1) ∧ Aside0 (Below w.heap.size w w'))
 case atStart => exact ⟨(a0), (([] : List Bool)), (0), jS, jS, H', ⟨Nat.le_refl _⟩, ⟨by first | exact Kd.R_nil _ _ _ _ _ | exact Kd.N_nil _ _ _ _ _ | exact Kd.V_nil _ _ _ _ _ | exact Kd.Q_nil _ _ _ _ _ | exact Kd.S_nil _ _ _ _ _⟩, ⟨jH HB⟩⟩
 case round =>
  clear H'
  obtain ⟨x0_1, x3_1, x4_1, rfl, rfl, HA, HK1, HO_3, HB⟩ := hrel
  cases gk with
  | zero => exact absurd HA.out (by simp [r20_bits.l0])
  | succ k1 =>
   have H := HA.out
   clear HA
   simp only [r20_bits.l0] at H
   by_cases c2 : x4_1 < 32
   ·rw [if_pos c2] at H
    have c2b0 := dT c2
    clear c2
    by_cases c3 : x3_1.length < 140737488355328
    ·rw [if_pos c3] at H
     have LMc3 := Aside0.mk c3
     clear c3
     obtain ⟨y495, hy495⟩ : ∃ y_ : List Bool, y_ = (x3_1 ++ [((Int.tmod x0_1 2) == 1)]) := ⟨_, rfl⟩
     simp only [Option.bind_some, ← hy495] at H
     have Ny495 := Aside0.mk hy495
     clear hy495
     have H' := Aside0.mk H
     clear H
     go_wp2_with (first | ((with_reducible refine gate_builtin (b := .append) (xs := #[.tmp 9, .tmp 13]) rfl ?_); at_builtin; refine Kd.R_append Kd.bool (w0 := w) w.heap.size rfl (.tmp 9) (.tmp 13) 88 4 (.bool false) 1 rfl Tryd.underlying88 info4 rfl (by decide) (by omega) u3 x3_1 ((Int.tmod x0_1 2) == 1) [.bool ((Int.tmod x0_1 2) == 1)] (fun _ => True) (fun _ => False) rfl rfl ?aP (fun _ hk => hk.elim) ?aF ?aO ?aB ?aS ?aL ?_; (case aP => exact rfl); (case aB => exact (jH HB)); (case aF => exact (fun _ _ => trivial)); (case aO => exact (jR HO_3)); (case aS => exact (zZ (jH HB))); (case aL => have := LMc3.out; omega); intro v496 w4 ho hb hg hat; rw [← Ny495.out] at ho; have HO497 := Aside0.mk (ho); replace HB := Aside0.mk (hb); clear HO_3; clear ho hb hg hat))
     go_roundg k1
     case measure => have := HK1.out; omega
     case rel => exact ⟨(IntKind.u64.wrap (Int.tdiv x0_1 2)), (y495), (wrap64 (x4_1 + 1)), jS, jS, H', ⟨by have := HK1.out; omega⟩, ⟨jR HO497⟩, ⟨jH HB⟩⟩
    ·rw [if_neg c3] at H
     exact absurd H (by simp)
   ·rw [if_neg c2] at H
    have c2b0 := dF c2
    clear c2
    obtain rfl := Option.some.inj H
    go_wp2
    go_ret
    exact ⟨_, jE, by (with_reducible repeat (first | apply Kd.R_alloc | apply Kd.R_drewN | apply Kd.R_drew)); exact HO_3.out, jH HB⟩
def r20_xor.l0 : Nat → List Bool → List Bool → List Bool → Int → Option (List Bool)
 | 0, _, _, _, _ => none
 | k + 1, x0, x1, x5, x6 => if x6 < 32 then (if 0 ≤ x6 then (if x6 < (x0.length : Int) then (if x6 < (x1.length : Int) then (if x5.length < 140737488355328 then (r20_xor.l0 k x0 x1 (x5 ++ [((rdOf false x0 x6) != (rdOf false x1 x6))]) (wrap64 (x6 + 1))) else (none)) else (none)) else (none)) else (none)) else (some x5)
def r20_xor.f (k : Nat) (l0 : List Bool) (l1 : List Bool) : Option (List Bool) := r20_xor.l0 k l0 l1 ([] : List Bool) 0
def r20_xor.T5 : Bool × List (List Nat × List Nat) := (true, [([], []), ([], []), ([], []), ([1, 2], [1, 2]), ([3], [3]), ([], []), ([], []), ([5, 6], [5, 6]), ([7], [7]), ([4, 8], [4, 8]), ([9], [9]), ([0, 10], [0, 10]), ([11, 11, 0, 1, 2, 3, 4, 5, 6, 7, 8, 9, 10, 11], [0, 11])])
def r20_xor.B5 : List Nat := [0, 0, 0, 6, 14, 0, 0, 96, 224, 510, 1022, 2047, 4095]
theorem r20_xor.tab5 : rtab .any (opsOf Tryd.f57 5) = r20_xor.T5 := by kernel_rfl
theorem r20_xor.bits5 : waitsOk r20_xor.T5.2 r20_xor.B5 = true := by kernel_rfl
set_option maxHeartbeats 8000000 in
set_option maxRecDepth 100000 in
theorem r20_xor.calls (k : Nat) (A0 : Option Addr) (c0 : Nat) (l0 : List Bool) (A1 : Option Addr) (c1 : Nat) (l1 : List Bool) (r : List Bool) (w : World) (hr0 : Kd.C Kd.bool w A0 l0.length l0) (hc0 : l0.length ≤ c0) (hr1 : Kd.C Kd.bool w A1 l1.length l1) (hc1 : l1.length ≤ c1) (h : r20_xor.f k l0 l1 = some r) :
  Calls Tryd.prog 57 #[.slice A0 l0.length c0, .slice A1 l1.length c1] w fun e w' => ∃ v0_ : Value, e = .returned (v0_) ∧ Kd.R Kd.bool 4 w' w.heap.size (fun _ => True) v0_ r ∧ Below w.heap.size w w' := by
 have HR0 := Aside0.mk hr0
 have HC0 := Aside0.mk hc0
 clear hr0 hc0
 have HR1 := Aside0.mk hr1
 have HC1 := Aside0.mk hc1
 clear hr1 hc1
 have HB := Aside0.mk (Below.refl w.heap.size w)
 have H : (r20_xor.l0 k l0 l1 ([] : List Bool) 0) = some r := h
 clear h
 have H' := Aside0.mk H
 clear H
 go_enter Tryd.func57, Tryd.ntmps57
 go_wp2
 go_loopg [5, 6] k (fun kq v5 v6 w' => ∃ (x5_1 : List Bool) (x6_1 : Int), v6 = .int .i64 x6_1 ∧ Aside0 (r20_xor.l0 kq l0 l1 x5_1 x6_1 = some r) ∧ Aside0 (kq ≤ k) ∧ Aside0 (Kd.R Kd.bool 4 w' w.heap.size (fun _ => True) v5 x5_1) ∧ Aside0 (Below w.heap.size w w'))
 case atStart => exact ⟨(([] : List Bool)), (0), jS, H', ⟨Nat.le_refl _⟩, ⟨by first | exact Kd.R_nil _ _ _ _ _ | exact Kd.N_nil _ _ _ _ _ | exact Kd.V_nil _ _ _ _ _ | exact Kd.Q_nil _ _ _ _ _ | exact Kd.S_nil _ _ _ _ _⟩, ⟨jH HB⟩⟩
 case round =>
  clear H'
  obtain ⟨x5_1, x6_1, rfl, HA, HK1, HO_5, HB⟩ := hrel
  cases gk with
  | zero => exact absurd HA.out (by simp [r20_xor.l0])
  | succ k1 =>
   have H := HA.out
   clear HA
   simp only [r20_xor.l0] at H
   by_cases c3 : x6_1 < 32
   ·rw [if_pos c3] at H
    have c3b0 := dT c3
    clear c3
    by_cases c4 : 0 ≤ x6_1
    ·rw [if_pos c4] at H
     have c4b0 := dT c4
     clear c4
     by_cases c5 : x6_1 < (l0.length : Int)
     ·rw [if_pos c5] at H
      have c5b0 := dT c5
      clear c5
      by_cases c6 : x6_1 < (l1.length : Int)
      ·rw [if_pos c6] at H
       have c6b0 := dT c6
       clear c6
       by_cases c7 : x5_1.length < 140737488355328
       ·rw [if_pos c7] at H
        have LMc7 := Aside0.mk c7
        clear c7
        obtain ⟨y500, hy500⟩ : ∃ y_ : List Bool, y_ = (x5_1 ++ [((rdOf false l0 x6_1) != (rdOf false l1 x6_1))]) := ⟨_, rfl⟩
        simp only [Option.bind_some, ← hy500] at H
        have Ny500 := Aside0.mk hy500
        clear hy500
        have H' := Aside0.mk H
        clear H
        try go_wp2
        replace HO_5 := Aside0.mk (Kd.R_drew HO_5.out)
        replace HB := Aside0.mk (zD HB.out)
        have p498 : 0 ≤ (x6_1 : Int) := oD (jA)
        have q498 : x6_1 < (l0.length : Int) := oD (jA)
        obtain ⟨ad498, e498, hx498_0⟩ := Kd.at_bool HR0.out x6_1 p498 q498
        have hw498_0 := hx498_0
        cases e498
        replace hx498_0 := (HB.out.cell (bL w _ hx498_0)).trans hx498_0
        replace p498 := eq_true p498
        replace q498 := eq_true q498
        have p499 : 0 ≤ (x6_1 : Int) := oD (jA)
        have q499 : x6_1 < (l1.length : Int) := oD (jA)
        obtain ⟨ad499, e499, hx499_0⟩ := Kd.at_bool HR1.out x6_1 p499 q499
        have hw499_0 := hx499_0
        cases e499
        replace hx499_0 := (HB.out.cell (bL w _ hx499_0)).trans hx499_0
        replace p499 := eq_true p499
        replace q499 := eq_true q499
        refine start_ (n := 13) (S := fun w' => w'.cell? (ad498.add (x6_1).toNat) = some (.bool (rdOf false l0 x6_1)) ∧ w'.cell? (ad499.add (x6_1).toNat) = some (.bool (rdOf false l1 x6_1))) (ds := []) #[false, false, false, false, false, false, false, false, false, false, false, false, false] (by kernel_rfl) rfl rfl ⟨((HB.out.cell (bL w _ hw498_0)).trans hw498_0), ((HB.out.cell (bL w _ hw499_0)).trans hw499_0)⟩ (fun hHeld => ?_); refine with_tabW r20_xor.tab5 r20_xor.bits5 (fun HT_ HW_ => ?_)
        generalize wr.drew = w8 at HO_5 HB hx498_0 hx499_0 hHeld ⊢
        refine qP 0 11 (tB 13 1) ?_
        refine qP 1 12 (tB 13 3) ?_
        refine qP 2 13 (tB 13 7) ?_
        refine qP 3 14 (tB 13 15) ?_
        refine qP 5 16 (tB 13 47) ?_
        refine qP 6 17 (tB 13 111) ?_
        refine qP 7 18 (tB 13 239) ?_
        refine qT 4 15 (tB 13 255) hHeld ?_ (hv := by rintro w' ⟨s0, s1⟩; go_simp; with_reducible rfl)
        refine qT 8 19 (tB 13 511) hHeld ?_ (hv := by rintro w' ⟨s0, s1⟩; go_simp; with_reducible rfl)
        refine qP 9 20 (tB 13 1023) ?_
        refine one_ (i := 10) (N := some 21) (tB 13 2047) rfl rfl (one_of HT_.out (by kernel_rfl)) (by decide) (fun K hK => ?_)
        refine value_ (w1 := ?_) (v := ?_) (by rfl) rfl ?_ ?_
        rotate_left 2
        ·go_simp
         constructor
         ·rfl
         ·rfl
        refine hK.out _ _ ⟨(World.cell?_alloc_lt _ _ _ (bL _ _ (((HB.out.cell (bL w _ hw498_0)).trans hw498_0)))).trans (((HB.out.cell (bL w _ hw498_0)).trans hw498_0)), (World.cell?_alloc_lt _ _ _ (bL _ _ (((HB.out.cell (bL w _ hw499_0)).trans hw499_0)))).trans (((HB.out.cell (bL w _ hw499_0)).trans hw499_0))⟩ (fun hHeld => ?_)
        clear hK K
        refine qN 21 ?_
        refine one_ (i := 11) (N := some 22) (tB 13 4095) rfl rfl (one_of HT_.out (by kernel_rfl)) (by decide) (fun K hK => ?_)
        refine Kd.R_append_step Kd.bool (w0 := w) w.heap.size (by rfl) (.tmp 11) (.tmp 21) 88 4 (.bool false) 1 rfl Tryd.underlying88 info4 rfl (by decide) (by omega) u5 x5_1 ((rdOf false l0 x6_1) != (rdOf false l1 x6_1)) [.bool ((rdOf false l0 x6_1) != (rdOf false l1 x6_1))] (fun _ => True) (fun _ => False) rfl rfl ?aP (fun _ hk => hk.elim) ?aF ?aO ?aB ?aS ?aL ?_
        (case aP => exact rfl)
        (case aB => exact (jH HB))
        (case aF => exact (fun _ _ => trivial))
        (case aO => exact (jR HO_5))
        (case aS => exact (zZ (jH HB)))
        (case aL => have := LMc7.out; omega)
        intro v501 w9 ho hb hg hat
        rw [← Ny500.out] at ho
        have HO502 := Aside0.mk (ho)
        replace HB := Aside0.mk (hb)
        clear HO_5
        clear ho hb hg hat
        refine hK.out _ _ ⟨((HB.out.cell (bL w _ hw498_0)).trans hw498_0), ((HB.out.cell (bL w _ hw499_0)).trans hw499_0)⟩ (fun hHeld => ?_)
        clear hK K
        refine qN 22 ?_
        refine qP 12 5 (tB 13 8191) ?_
        refine done_ (done_of HT_.out (by kernel_rfl)) ?_
        try go_wp2
        go_roundg k1
        case measure => have := HK1.out; omega
        case rel => exact ⟨(y500), (wrap64 (x6_1 + 1)), jS, H', ⟨by have := HK1.out; omega⟩, ⟨jR HO502⟩, ⟨jH HB⟩⟩
       ·rw [if_neg c7] at H
        exact absurd H (by simp)
      ·rw [if_neg c6] at H
       exact absurd H (by simp)
     ·rw [if_neg c5] at H
      exact absurd H (by simp)
    ·rw [if_neg c4] at H
     exact absurd H (by simp)
   ·rw [if_neg c3] at H
    have c3b0 := dF c3
    clear c3
    obtain rfl := Option.some.inj H
    go_wp2
    go_ret
    exact ⟨_, jE, by (with_reducible repeat (first | apply Kd.R_alloc | apply Kd.R_drewN | apply Kd.R_drew)); exact HO_5.out, jH HB⟩
def r20_number.l0 : Nat → List Bool → Int → Int → Option (Int)
 | 0, _, _, _ => none
 | k + 1, x0, x3, x4 => if x4 ≥ 0 then (if 0 ≤ x4 then (if x4 < (x0.length : Int) then (if rdOf false x0 x4 = true then (r20_number.l0 k x0 (IntKind.u64.wrap ((IntKind.u64.wrap (x3 * 2)) + 1)) (wrap64 (x4 - 1))) else (r20_number.l0 k x0 (IntKind.u64.wrap (x3 * 2)) (wrap64 (x4 - 1)))) else (none)) else (none)) else (some ((x3) % 4294967296))
def r20_number.f (k : Nat) (l0 : List Bool) : Option (Int) := r20_number.l0 k l0 0 31
set_option maxHeartbeats 8000000 in
set_option maxRecDepth 100000 in
theorem r20_number.calls (k : Nat) (A0 : Option Addr) (c0 : Nat) (l0 : List Bool) (r : Int) (w : World) (hr0 : Kd.C Kd.bool w A0 l0.length l0) (hc0 : l0.length ≤ c0) (h : r20_number.f k l0 = some r) :
  Calls Tryd.prog 58 #[.slice A0 l0.length c0] w fun e w' => e = .returned (.int .u32 r) ∧ Drawn0 w w' := by
 have HR0 := Aside0.mk hr0
 have HC0 := Aside0.mk hc0
 clear hr0 hc0
 have H : (r20_number.l0 k l0 0 31) = some r := h
 clear h
 have H' := Aside0.mk H
 clear H
 go_enter Tryd.func58, Tryd.ntmps58
 go_wp2
 go_loopg [3, 4] k (fun kq v3 v4 w' => ∃ (x3_1 : Int) (x4_1 : Int), v3 = .int .u64 x3_1 ∧ v4 = .int .i64 x4_1 ∧ Aside0 (r20_number.l0 kq l0 x3_1 x4_1 = some r) ∧ Aside0 (kq ≤ k) ∧ Drawn0 w w')
 case atStart => exact ⟨(0), (31), jS, jS, H', ⟨Nat.le_refl _⟩, by repeat (first | exact Drawn0.refl _ | apply Drawn0.step)⟩
 case round =>
  clear H'
  obtain ⟨x3_1, x4_1, rfl, rfl, HA, HK1, ⟨m1, rfl⟩⟩ := hrel
  cases gk with
  | zero => exact absurd HA.out (by simp [r20_number.l0])
  | succ k1 =>
   have H := HA.out
   clear HA
   simp only [r20_number.l0] at H
   by_cases c2 : x4_1 ≥ 0
   ·rw [if_pos c2] at H
    have c2b0 : decide (0 ≤ x4_1) = true := dT c2
    clear c2
    by_cases c3 : 0 ≤ x4_1
    ·rw [if_pos c3] at H
     have c3b0 := dT c3
     clear c3
     by_cases c4 : x4_1 < (l0.length : Int)
     ·rw [if_pos c4] at H
      have c4b0 := dT c4
      clear c4
      obtain ⟨bq5, hbq5⟩ : ∃ b_ : Bool, b_ = (rdOf false l0 x4_1) := ⟨_, rfl⟩
      replace H : (if bq5 = true then (r20_number.l0 k1 l0 (IntKind.u64.wrap ((IntKind.u64.wrap (x3_1 * 2)) + 1)) (wrap64 (x4_1 - 1))) else (r20_number.l0 k1 l0 (IntKind.u64.wrap (x3_1 * 2)) (wrap64 (x4_1 - 1)))) = some r := by rw [← hbq5] at H; exact H
      have Nbq5 := Aside0.mk hbq5
      clear hbq5
      by_cases c6 : bq5 = true
      ·subst c6
       rw [if_pos rfl] at H
       have H' := Aside0.mk H
       clear H
       have p503 : 0 ≤ (x4_1 : Int) := oD (jA)
       have q503 : x4_1 < (l0.length : Int) := oD (jA)
       obtain ⟨ad503, e503, hx503_0⟩ := Kd.at_bool HR0.out x4_1 p503 q503
       (try rw [← Nbq5.out] at hx503_0)
       cases e503
       replace p503 := eq_true p503
       replace q503 := eq_true q503
       go_wp2
       go_roundg k1
       case measure => have := HK1.out; omega
       case rel => exact ⟨(IntKind.u64.wrap ((IntKind.u64.wrap (x3_1 * 2)) + 1)), (wrap64 (x4_1 - 1)), jS, jS, H', ⟨by have := HK1.out; omega⟩, by repeat (first | exact Drawn0.refl _ | apply Drawn0.step)⟩
      ·replace c6 := Bool.eq_false_iff.mpr c6
       subst c6
       rw [if_neg (show ¬ (false = true) by decide)] at H
       have H' := Aside0.mk H
       clear H
       have p503 : 0 ≤ (x4_1 : Int) := oD (jA)
       have q503 : x4_1 < (l0.length : Int) := oD (jA)
       obtain ⟨ad503, e503, hx503_0⟩ := Kd.at_bool HR0.out x4_1 p503 q503
       (try rw [← Nbq5.out] at hx503_0)
       cases e503
       replace p503 := eq_true p503
       replace q503 := eq_true q503
       go_wp2
       go_roundg k1
       case measure => have := HK1.out; omega
       case rel => exact ⟨(IntKind.u64.wrap (x3_1 * 2)), (wrap64 (x4_1 - 1)), jS, jS, H', ⟨by have := HK1.out; omega⟩, by repeat (first | exact Drawn0.refl _ | apply Drawn0.step)⟩
     ·rw [if_neg c4] at H
      exact absurd H (by simp)
    ·rw [if_neg c3] at H
     exact absurd H (by simp)
   ·rw [if_neg c2] at H
    have c2b0 : decide (0 ≤ x4_1) = false := dF c2
    clear c2
    obtain rfl := Option.some.inj H
    go_wp2
    go_ret
    exact ⟨by first | rfl | (simp; done) | (simp [*]; done), by repeat (first | exact Drawn0.refl _ | apply Drawn0.step)⟩
mutual
def r20_Sum.l0 : Nat → List Int → List Bool → Int → Option (Int)
 | 0, _, _, _ => none
 | k + 1, x0, x3, x4 => if x4 < (x0.length : Int) then (if 0 ≤ x4 then ((r20_bits.f k (IntKind.u64.wrap (rd x0 x4))).bind fun t515 => ((r20_xor.f k x3 t515).bind fun t518 => (r20_Sum.l1 k x0 t518 x4 0))) else (none)) else ((r20_bits.f k 4294967295).bind fun t507 => ((r20_xor.f k x3 t507).bind fun t510 => ((r20_number.f k t510).bind fun t513 => (some t513))))
def r20_Sum.l1 : Nat → List Int → List Bool → Int → Int → Option (Int)
 | 0, _, _, _, _ => none
 | k + 1, x0, x3, x4, x5 => if x5 < 8 then (if 0 < (x3.length : Int) then ((some (([] : List Bool) : List Bool)).bind fun y522 => (if 1 ≤ (x3.length : Int) then ((some (x3.drop 1 : List Bool)).bind fun y525 => (if y522.length + y525.length < 140737488355328 then ((some (y522 ++ y525 : List Bool)).bind fun y529 => (if y529.length < 140737488355328 then ((some (y529 ++ [false] : List Bool)).bind fun y532 => (if rdOf false x3 0 = true then ((r20_bits.f k 3988292384).bind fun t535 => ((r20_xor.f k y532 t535).bind fun t538 => (r20_Sum.l1 k x0 t538 x4 (wrap64 (x5 + 1))))) else (r20_Sum.l1 k x0 y532 x4 (wrap64 (x5 + 1))))) else (none))) else (none))) else (none))) else (none)) else (r20_Sum.l0 k x0 x3 (wrap64 (x4 + 1)))
end
def r20_Sum.f (k : Nat) (l0 : List Int) : Option (Int) := (r20_bits.f k 4294967295).bind fun t504 => (r20_Sum.l0 k l0 t504 0)
set_option maxHeartbeats 8000000 in
set_option maxRecDepth 100000 in
theorem r20_Sum.calls (k : Nat) (A0 : Option Addr) (c0 : Nat) (l0 : List Int) (r : Int) (w : World) (hr0 : Kd.C (Kd.int .u8) w A0 l0.length l0) (hc0 : l0.length ≤ c0) (h : r20_Sum.f k l0 = some r) :
  Calls Tryd.prog 45 #[.slice A0 l0.length c0] w fun e w' => e = .returned (.int .u32 r) ∧ Below w.heap.size w w' := by
 have HR0 := Aside0.mk hr0
 have HC0 := Aside0.mk hc0
 clear hr0 hc0
 have HB := Aside0.mk (Below.refl w.heap.size w)
 have H : ((r20_bits.f k 4294967295).bind fun t504 => (r20_Sum.l0 k l0 t504 0)) = some r := h
 clear h
 replace H := Option.bind_eq_some_iff.mp H
 obtain ⟨t504, A20, H⟩ := H
 replace H : (r20_Sum.l0 k l0 t504 0) = some r := H
 have A2 := Aside0.mk A20
 clear A20
 have H' := Aside0.mk H
 clear H
 go_enter Tryd.func45, Tryd.ntmps45
 go_wp2_with (first | ((with_reducible refine gate_callee (f := 56) rfl ?_); refine goesL_ (some 7) rfl rfl Tryd.func56 (by kernel_rfl) rfl #[.int .u64 4294967295] rfl jZ ?_; (with_reducible refine (r20_bits.calls k 4294967295 t504 _ A2.out).mono ?_); rintro e w3 ⟨v505, rfl, ho0, hb⟩; refine ⟨_, rfl, ?_⟩; have HO506 := Aside0.mk (Kd.R_lower ho0 (zZ (jH HB))); replace HB := Aside0.mk (zT (jH HB) hb); (try clear hb); (try clear hb2); (try clear hk); (try clear hi); (try clear ho0)))
 go_loopg [3, 4] k (fun kq v3 v4 w' => ∃ (x3_1 : List Bool) (x4_1 : Int), v4 = .int .i64 x4_1 ∧ Aside0 (r20_Sum.l0 kq l0 x3_1 x4_1 = some r) ∧ Aside0 (kq ≤ k) ∧ Aside0 (Kd.R Kd.bool 4 w' w.heap.size (fun _ => True) v3 x3_1) ∧ Aside0 (Below w.heap.size w w'))
 case atStart => exact ⟨(t504), (0), jS, H', ⟨Nat.le_refl _⟩, ⟨jR HO506⟩, ⟨jH HB⟩⟩
 case round =>
  clear H'
  obtain ⟨x3_1, x4_1, rfl, HA, HK1, HO_3, HB⟩ := hrel
  cases gk with
  | zero => exact absurd HA.out (by simp [r20_Sum.l0])
  | succ k1 =>
   have H := HA.out
   clear HA
   simp only [r20_Sum.l0] at H
   by_cases c4 : x4_1 < (l0.length : Int)
   ·rw [if_pos c4] at H
    have c4b0 := dT c4
    clear c4
    by_cases c5 : 0 ≤ x4_1
    ·rw [if_pos c5] at H
     have c5b0 := dT c5
     clear c5
     replace H := Option.bind_eq_some_iff.mp H
     obtain ⟨t515, A60, H⟩ := H
     replace H : ((r20_xor.f k1 x3_1 t515).bind fun t518 => (r20_Sum.l1 k1 l0 t518 x4_1 0)) = some r := H
     have A6 := Aside0.mk A60
     clear A60
     replace H := Option.bind_eq_some_iff.mp H
     obtain ⟨t518, A70, H⟩ := H
     replace H : (r20_Sum.l1 k1 l0 t518 x4_1 0) = some r := H
     have A7 := Aside0.mk A70
     clear A70
     have H' := Aside0.mk H
     clear H
     have p514 : 0 ≤ (x4_1 : Int) := oD (jA)
     have q514 : x4_1 < (l0.length : Int) := oD (jA)
     obtain ⟨ad514, e514, hx514_0⟩ := Kd.at_int HR0.out x4_1 p514 q514
     cases e514
     replace hx514_0 := (HB.out.cell (bL w _ hx514_0)).trans hx514_0
     replace p514 := eq_true p514
     replace q514 := eq_true q514
     go_wp2_with (first | ((with_reducible refine gate_callee (f := 56) rfl ?_); refine goesL_ (some 20) rfl rfl Tryd.func56 (by kernel_rfl) rfl #[.int .u64 (IntKind.u64.wrap (rd l0 x4_1))] rfl jZ ?_; (with_reducible refine (r20_bits.calls k1 (IntKind.u64.wrap (rd l0 x4_1)) t515 _ A6.out).mono ?_); rintro e w8 ⟨v516, rfl, ho0, hb⟩; refine ⟨_, rfl, ?_⟩; have HO517 := Aside0.mk (Kd.R_lower (Kd.R_new' ho0 (Kd.R_lt (jR HO_3))) (zZ (jH HB))); replace HO_3 := Aside0.mk (Kd.R_elder' (jR HO_3) (Kd.R_base ho0) hb); replace HB := Aside0.mk (zT (jH HB) hb); (try clear hb); (try clear hb2); (try clear hk); (try clear hi); (try clear ho0); obtain ⟨Ao9, co9, eo9⟩ := Kd.R_slice HO_3.out; subst eo9; obtain ⟨Ao10, co10, eo10⟩ := Kd.R_slice HO517.out; subst eo10) | ((with_reducible refine gate_callee (f := 57) rfl ?_); refine goesL_ (some 21) rfl rfl Tryd.func57 (by kernel_rfl) rfl #[.slice Ao9 x3_1.length co9, .slice Ao10 t515.length co10] rfl jZ ?_; (with_reducible refine (r20_xor.calls k1 _ _ x3_1 _ _ t515 t518 _ ?side1 ?side2 ?side3 ?side4 A7.out).mono ?_); (case side1 => exact jC (Kd.R_reads' HO_3.out).2.2); (case side2 => exact (Kd.R_reads' HO_3.out).2.1); (case side3 => exact jC (Kd.R_reads' HO517.out).2.2); (case side4 => exact (Kd.R_reads' HO517.out).2.1); rintro e w11 ⟨v519, rfl, ho0, hb⟩; refine ⟨_, rfl, ?_⟩; have HO520 := Aside0.mk (Kd.R_lower (Kd.R_new' (Kd.R_new' ho0 (Kd.R_lt (jR HO_3))) (Kd.R_lt (jR HO517))) (zZ (jH HB))); replace HO_3 := Aside0.mk (Kd.R_elder' (jR HO_3) (Kd.R_base ho0) hb); replace HO517 := Aside0.mk (Kd.R_elder' (jR HO517) (Kd.R_base ho0) hb); replace HB := Aside0.mk (zT (jH HB) hb); (try clear hb); (try clear hb2); (try clear hk); (try clear hi); (try clear ho0)))
     go_loopg [3, 5] k1 (fun kq v3 v5 w' => ∃ (x3_2 : List Bool) (x5_2 : Int), v5 = .int .i64 x5_2 ∧ Aside0 (r20_Sum.l1 kq l0 x3_2 x4_1 x5_2 = some r) ∧ Aside0 (kq ≤ k1) ∧ Aside0 (Kd.R Kd.bool 4 w' w.heap.size (fun _ => True) v3 x3_2) ∧ Aside0 (Below w.heap.size w w'))
     case atStart => exact ⟨(t518), (0), jS, H', ⟨Nat.le_refl _⟩, ⟨by (with_reducible repeat (first | apply Kd.R_alloc | apply Kd.R_drewN | apply Kd.R_drew)); exact Kd.R_mono HO520.out (fun _ hk => trivial)⟩, ⟨jH HB⟩⟩
     case round =>
      clear H'
      obtain ⟨x3_2, x5_2, rfl, HA, HK2, HO_3, HB⟩ := hrel
      cases gk with
      | zero => exact absurd HA.out (by simp [r20_Sum.l1])
      | succ k2 =>
       have H := HA.out
       clear HA
       simp only [r20_Sum.l1] at H
       by_cases c12 : x5_2 < 8
       ·rw [if_pos c12] at H
        have c12b0 := dT c12
        clear c12
        by_cases c13 : 0 < (x3_2.length : Int)
        ·rw [if_pos c13] at H
         have c13b0 := dT c13
         have c13b1 : decide (0 < x3_2.length) = true := dT (by omega)
         clear c13
         obtain ⟨y522, hy522⟩ : ∃ y_ : List Bool, y_ = (([] : List Bool)) := ⟨_, rfl⟩
         replace H : (if 1 ≤ (x3_2.length : Int) then ((some (x3_2.drop 1 : List Bool)).bind fun y525 => (if y522.length + y525.length < 140737488355328 then ((some (y522 ++ y525 : List Bool)).bind fun y529 => (if y529.length < 140737488355328 then ((some (y529 ++ [false] : List Bool)).bind fun y532 => (if rdOf false x3_2 0 = true then ((r20_bits.f k2 3988292384).bind fun t535 => ((r20_xor.f k2 y532 t535).bind fun t538 => (r20_Sum.l1 k2 l0 t538 x4_1 (wrap64 (x5_2 + 1))))) else (r20_Sum.l1 k2 l0 y532 x4_1 (wrap64 (x5_2 + 1))))) else (none))) else (none))) else (none)) = some r := by first | (rw [hy522]; with_reducible exact H) | (have H2_ := (Option.bind_some _ _).symm.trans H; rw [hy522]; with_reducible exact H2_) | (have H2_ := (Option.bind_some _ _).symm.trans H; with_reducible exact H2_) | with_reducible exact H | (rw [hy522]; exact H) | exact H
         have Ny522 := Aside0.mk hy522
         clear hy522
         by_cases c14 : 1 ≤ (x3_2.length : Int)
         ·rw [if_pos c14] at H
          have c14b0 := eq_true c14
          have c14b1 := dT c14
          clear c14
          obtain ⟨y525, hy525⟩ : ∃ y_ : List Bool, y_ = (x3_2.drop 1) := ⟨_, rfl⟩
          replace H : (if y522.length + y525.length < 140737488355328 then ((some (y522 ++ y525 : List Bool)).bind fun y529 => (if y529.length < 140737488355328 then ((some (y529 ++ [false] : List Bool)).bind fun y532 => (if rdOf false x3_2 0 = true then ((r20_bits.f k2 3988292384).bind fun t535 => ((r20_xor.f k2 y532 t535).bind fun t538 => (r20_Sum.l1 k2 l0 t538 x4_1 (wrap64 (x5_2 + 1))))) else (r20_Sum.l1 k2 l0 y532 x4_1 (wrap64 (x5_2 + 1))))) else (none))) else (none)) = some r := by first | (rw [hy525]; with_reducible exact H) | (have H2_ := (Option.bind_some _ _).symm.trans H; rw [hy525]; with_reducible exact H2_) | (have H2_ := (Option.bind_some _ _).symm.trans H; with_reducible exact H2_) | with_reducible exact H | (rw [hy525]; exact H) | exact H
          have Ny525 := Aside0.mk hy525
          clear hy525
          by_cases c15 : y522.length + y525.length < 140737488355328
          ·rw [if_pos c15] at H
           have LMc15 := Aside0.mk c15
           clear c15
           obtain ⟨y529, hy529⟩ : ∃ y_ : List Bool, y_ = (y522 ++ y525) := ⟨_, rfl⟩
           replace H : (if y529.length < 140737488355328 then ((some (y529 ++ [false] : List Bool)).bind fun y532 => (if rdOf false x3_2 0 = true then ((r20_bits.f k2 3988292384).bind fun t535 => ((r20_xor.f k2 y532 t535).bind fun t538 => (r20_Sum.l1 k2 l0 t538 x4_1 (wrap64 (x5_2 + 1))))) else (r20_Sum.l1 k2 l0 y532 x4_1 (wrap64 (x5_2 + 1))))) else (none)) = some r := by first | (rw [hy529]; with_reducible exact H) | (have H2_ := (Option.bind_some _ _).symm.trans H; rw [hy529]; with_reducible exact H2_) | (have H2_ := (Option.bind_some _ _).symm.trans H; with_reducible exact H2_) | with_reducible exact H | (rw [hy529]; exact H) | exact H
           have Ny529 := Aside0.mk hy529
           clear hy529
           by_cases c16 : y529.length < 140737488355328
           ·rw [if_pos c16] at H
            have LMc16 := Aside0.mk c16
            clear c16
            obtain ⟨y532, hy532⟩ : ∃ y_ : List Bool, y_ = (y529 ++ [false]) := ⟨_, rfl⟩
            replace H : (if rdOf false x3_2 0 = true then ((r20_bits.f k2 3988292384).bind fun t535 => ((r20_xor.f k2 y532 t535).bind fun t538 => (r20_Sum.l1 k2 l0 t538 x4_1 (wrap64 (x5_2 + 1))))) else (r20_Sum.l1 k2 l0 y532 x4_1 (wrap64 (x5_2 + 1)))) = some r := by first | (rw [hy532]; with_reducible exact H) | (have H2_ := (Option.bind_some _ _).symm.trans H; rw [hy532]; with_reducible exact H2_) | (have H2_ := (Option.bind_some _ _).symm.trans H; with_reducible exact H2_) | with_reducible exact H | (rw [hy532]; exact H) | exact H
            have Ny532 := Aside0.mk hy532
            clear hy532
            obtain ⟨bq17, hbq17⟩ : ∃ b_ : Bool, b_ = (rdOf false x3_2 0) := ⟨_, rfl⟩
            replace H : (if bq17 = true then ((r20_bits.f k2 3988292384).bind fun t535 => ((r20_xor.f k2 y532 t535).bind fun t538 => (r20_Sum.l1 k2 l0 t538 x4_1 (wrap64 (x5_2 + 1))))) else (r20_Sum.l1 k2 l0 y532 x4_1 (wrap64 (x5_2 + 1)))) = some r := by rw [← hbq17] at H; exact H
            have Nbq17 := Aside0.mk hbq17
            clear hbq17
            by_cases c18 : bq17 = true
            ·subst c18
             rw [if_pos rfl] at H
             replace H := Option.bind_eq_some_iff.mp H
             obtain ⟨t535, A190, H⟩ := H
             replace H : ((r20_xor.f k2 y532 t535).bind fun t538 => (r20_Sum.l1 k2 l0 t538 x4_1 (wrap64 (x5_2 + 1)))) = some r := H
             have A19 := Aside0.mk A190
             clear A190
             replace H := Option.bind_eq_some_iff.mp H
             obtain ⟨t538, A200, H⟩ := H
             replace H : (r20_Sum.l1 k2 l0 t538 x4_1 (wrap64 (x5_2 + 1))) = some r := H
             have A20 := Aside0.mk A200
             clear A200
             have H' := Aside0.mk H
             clear H
             obtain ⟨Ao21, co21, eo21⟩ := Kd.R_slice HO_3.out
             subst eo21
             have p521 : 0 ≤ (0 : Int) := (by omega)
             have q521 : 0 < (x3_2.length : Int) := oD (jA)
             obtain ⟨ad521, e521, hx521_0⟩ := Kd.at_bool (Kd.R_reads' HO_3.out).2.2 0 p521 q521
             (try rw [← Nbq17.out] at hx521_0)
             cases e521
             have qi521 : (0 < x3_2.length) = True := eq_true (by omega)
             (try rw [show ((0 : Int)).toNat = 0 from rfl] at hx521_0)
             (try rw [Addr.add_zero'] at hx521_0)
             replace p521 := eq_true p521
             replace q521 := eq_true q521
             go_wp2_with (first | ((with_reducible refine gate_dst (N := 29) rfl ?_); refine Kd.R_lit Kd.bool _ 4 ?hg (N := 29) ?hd (xs := ([] : List Bool)) (inner := []) (ok := fun _ => True) (okp := fun _ => True) ?hr ?hp (fun _ hk => hk) trivial (Below.refl _ _) (Nat.le_refl _) (by simp) ?_; (case hd => rfl); (case hg => rfl); (case hr => first | (go_simp; done) | (go_simp; rfl)); (case hp => exact (Reps.none _ _)); intro v523 w22 ho23 hb hg_ hnew_; clear hg_ hnew_; (first | rw [← Ny522.out] at ho23 | (simp only [Int.reduceToNat] at ho23; rw [← Ny522.out] at ho23)); have HO524 := Aside0.mk (Kd.R_lower (Kd.R_new' ho23 (Kd.R_lt (jR HO_3))) (zZ (jH HB))); replace HO_3 := Aside0.mk (Kd.R_elder' (jR HO_3) (Kd.R_base ho23) hb); replace HB := Aside0.mk (zT (jH HB) hb); clear hb ho23; have q24 : (1 : Int) ≤ ((x3_2.length : Int) : Int) := oD (jA); obtain ⟨i024, hi024, _, hsz24, _⟩ := info_parts info4; have hroom24 : x3_2.length ≤ co21 := (Kd.R_reads' HO_3.out).2.1; have hC24 : Kd.C Kd.bool _ (some ad521) x3_2.length x3_2 := (Kd.R_reads' HO_3.out).2.2; have hcut24 := cut_from (P := Tryd.prog) 88 4 .i64 Tryd.underlying88 hi024 1 hsz24 (some ad521) x3_2.length co21 1 (by omega) q24; have hr24 := Kd.C_drop (m := (1 : Int).toNat) (c := co21) hC24 (by omega) hroom24; obtain ⟨A24, hA24⟩ : ∃ A1, A1 = (if co21 = (1 : Int).toNat then (some ad521) else ((some ad521) : Option Addr).map (·.add ((1 : Int).toNat * 1))) := ⟨_, rfl⟩; obtain ⟨c24, hc24⟩ : ∃ c1, c1 = co21 - (1 : Int).toNat := ⟨_, rfl⟩; have hy24 : y525.length = x3_2.length - (1 : Int).toNat := (by rw [Ny525.out, List.length_drop] <;> omega); rw [show (x3_2).drop (1 : Int).toNat = y525 from Ny525.out.symm] at hr24; replace hr24 : Kd.C Kd.bool _ A24 y525.length y525 := (by rw [hA24]; exact hr24); rw [← hy24, ← hA24, ← hc24] at hcut24; have HR528 := Aside0.mk hr24; have HC528 := Aside0.mk (show y525.length ≤ c24 from by rw [hy24, hc24]; exact Nat.sub_le_sub_right hroom24 _); clear hr24 hC24 hroom24 hi024 hsz24 hc24; have KY24 := Aside0.mk hy24; have KA24 := Aside0.mk hA24; clear hy24 hA24; have KL24 := Aside0.mk (show 1 ≤ x3_2.length from by omega); replace q24 := eq_true q24) | ((with_reducible refine gate_builtin (b := .append) (xs := #[.tmp 29, .tmp 31]) rfl ?_); at_builtin; refine Kd.R_append_rows Kd.bool (w0 := w) w.heap.size rfl (.tmp 29) (.tmp 31) 88 4 (.bool false) 1 rfl Tryd.underlying88 info4 rfl (by decide) (by omega) v523 y522 y525 _ _ _ (fun k_ => some k_ ≠ (.slice (some ad521) x3_2.length co21 : Value).ownBlock) (fun _ => False) rfl rfl ?aO ?aR (fun _ _ h => h) (fun _ h => h.elim) ?aF ?aB ?aS ?aL ?_; (case aR => repeat (first | exact (by repeat (first | (with_reducible exact HR528.out) | (with_reducible refine Kd.C_alloc ?_ _) | (with_reducible refine Kd.C_drewN ?_ _) | (with_reducible refine Kd.C_drew ?_) | exact HR528.out)) | (with_reducible refine Kd.C_alloc ?_ _) | (with_reducible refine Kd.C_drewN ?_ _) | (with_reducible refine Kd.C_drew ?_))); (case aB => exact (jH HB)); (case aF => exact (fun k_ hk => Kd.fresh' (Kd.R_lt (jR HO_3)) k_ hk)); (case aO => exact (by (with_reducible repeat (first | apply Kd.R_alloc | apply Kd.R_drewN | apply Kd.R_drew)); exact Kd.R_mono HO524.out (fun _ hk => hk.2))); (case aS => exact (zZ (jH HB))); (case aL => have := LMc15.out; omega); intro v530 w25 ho hb hg hat; rw [← Ny529.out] at ho; have HO531 := Aside0.mk (ho); replace HB := Aside0.mk (hb); replace HR528 := Aside0.mk ((show Kd.C Kd.bool w25 A24 y525.length y525 from by rw [Ny525.out, KA24.out]; exact Kd.C_drop (m := 1) (c := co21) ((Kd.R_reads' (Kd.R_after (ok := (fun _ => True)) (jR HO_3) hg hat)).2.2) KL24.out ((Kd.R_reads' (Kd.R_after (ok := (fun _ => True)) (jR HO_3) hg hat)).2.1))); replace HO_3 := Aside0.mk (Kd.R_after (ok := (fun _ => True)) (jR HO_3) hg hat); clear HO524; clear ho hb hg hat) | ((with_reducible refine gate_builtin (b := .append) (xs := #[.tmp 32, .tmp 33]) rfl ?_); at_builtin; refine Kd.R_append Kd.bool (w0 := w) w.heap.size rfl (.tmp 32) (.tmp 33) 88 4 (.bool false) 1 rfl Tryd.underlying88 info4 rfl (by decide) (by omega) v530 y529 false [.bool false] (fun k_ => some k_ ≠ (.slice (some ad521) x3_2.length co21 : Value).ownBlock) (fun _ => False) rfl rfl ?aP (fun _ hk => hk.elim) ?aF ?aO ?aB ?aS ?aL ?_; (case aP => exact rfl); (case aB => exact (jH HB)); (case aF => exact (fun k_ hk => Kd.fresh' (Kd.R_lt (jR HO_3)) k_ hk)); (case aO => exact (jR HO531)); (case aS => exact (zZ (jH HB))); (case aL => have := LMc16.out; omega); intro v533 w26 ho hb hg hat; rw [← Ny532.out] at ho; have HO534 := Aside0.mk (ho); replace HB := Aside0.mk (hb); replace HR528 := Aside0.mk ((show Kd.C Kd.bool w26 A24 y525.length y525 from by rw [Ny525.out, KA24.out]; exact Kd.C_drop (m := 1) (c := co21) ((Kd.R_reads' (Kd.R_after (ok := (fun _ => True)) (jR HO_3) hg hat)).2.2) KL24.out ((Kd.R_reads' (Kd.R_after (ok := (fun _ => True)) (jR HO_3) hg hat)).2.1))); replace HO_3 := Aside0.mk (Kd.R_after (ok := (fun _ => True)) (jR HO_3) hg hat); clear HO531; clear ho hb hg hat) | ((with_reducible refine gate_callee (f := 56) rfl ?_); refine goesL_ (some 37) rfl rfl Tryd.func56 (by kernel_rfl) rfl #[.int .u64 3988292384] rfl jZ ?_; (with_reducible refine (r20_bits.calls k2 3988292384 t535 _ A19.out).mono ?_); rintro e w27 ⟨v536, rfl, ho0, hb⟩; refine ⟨_, rfl, ?_⟩; have HO537 := Aside0.mk (Kd.R_lower (Kd.R_new' (Kd.R_new' ho0 (Kd.R_lt (jR HO_3))) (Kd.R_lt (jR HO534))) (zZ (jH HB))); replace HO_3 := Aside0.mk (Kd.R_elder' (jR HO_3) (Kd.R_base ho0) hb); replace HO534 := Aside0.mk (Kd.R_elder' (jR HO534) (Kd.R_base ho0) hb); replace HR528 := Aside0.mk (Kd.C_below (by repeat (first | (with_reducible exact HR528.out) | (with_reducible refine Kd.C_alloc ?_ _) | (with_reducible refine Kd.C_drewN ?_ _) | (with_reducible refine Kd.C_drew ?_) | exact HR528.out)) hb); replace HB := Aside0.mk (zT (jH HB) hb); (try clear hb); (try clear hb2); (try clear hk); (try clear hi); (try clear ho0); obtain ⟨Ao28, co28, eo28⟩ := Kd.R_slice HO534.out; subst eo28; obtain ⟨Ao29, co29, eo29⟩ := Kd.R_slice HO537.out; subst eo29) | ((with_reducible refine gate_callee (f := 57) rfl ?_); refine goesL_ (some 38) rfl rfl Tryd.func57 (by kernel_rfl) rfl #[.slice Ao28 y532.length co28, .slice Ao29 t535.length co29] rfl jZ ?_; (with_reducible refine (r20_xor.calls k2 _ _ y532 _ _ t535 t538 _ ?side1 ?side2 ?side3 ?side4 A20.out).mono ?_); (case side1 => exact jC (Kd.R_reads' HO534.out).2.2); (case side2 => exact (Kd.R_reads' HO534.out).2.1); (case side3 => exact jC (Kd.R_reads' HO537.out).2.2); (case side4 => exact (Kd.R_reads' HO537.out).2.1); rintro e w30 ⟨v539, rfl, ho0, hb⟩; refine ⟨_, rfl, ?_⟩; have HO540 := Aside0.mk (Kd.R_lower (Kd.R_new' (Kd.R_new' (Kd.R_new' ho0 (Kd.R_lt (jR HO_3))) (Kd.R_lt (jR HO534))) (Kd.R_lt (jR HO537))) (zZ (jH HB))); replace HO_3 := Aside0.mk (Kd.R_elder' (jR HO_3) (Kd.R_base ho0) hb); replace HO534 := Aside0.mk (Kd.R_elder' (jR HO534) (Kd.R_base ho0) hb); replace HO537 := Aside0.mk (Kd.R_elder' (jR HO537) (Kd.R_base ho0) hb); replace HR528 := Aside0.mk (Kd.C_below (by repeat (first | (with_reducible exact HR528.out) | (with_reducible refine Kd.C_alloc ?_ _) | (with_reducible refine Kd.C_drewN ?_ _) | (with_reducible refine Kd.C_drew ?_) | exact HR528.out)) hb); replace HB := Aside0.mk (zT (jH HB) hb); (try clear hb); (try clear hb2); (try clear hk); (try clear hi); (try clear ho0)))
             go_roundg k2
             case measure => have := HK1.out; have := HK2.out; omega
             case rel => exact ⟨(t538), (wrap64 (x5_2 + 1)), jS, H', ⟨by have := HK1.out; have := HK2.out; omega⟩, ⟨by (with_reducible repeat (first | apply Kd.R_alloc | apply Kd.R_drewN | apply Kd.R_drew)); exact Kd.R_mono HO540.out (fun _ hk => trivial)⟩, ⟨jH HB⟩⟩
            ·replace c18 := Bool.eq_false_iff.mpr c18
             subst c18
             rw [if_neg (show ¬ (false = true) by decide)] at H
             have H' := Aside0.mk H
             clear H
             obtain ⟨Ao31, co31, eo31⟩ := Kd.R_slice HO_3.out
             subst eo31
             have p521 : 0 ≤ (0 : Int) := (by omega)
             have q521 : 0 < (x3_2.length : Int) := oD (jA)
             obtain ⟨ad521, e521, hx521_0⟩ := Kd.at_bool (Kd.R_reads' HO_3.out).2.2 0 p521 q521
             (try rw [← Nbq17.out] at hx521_0)
             cases e521
             have qi521 : (0 < x3_2.length) = True := eq_true (by omega)
             (try rw [show ((0 : Int)).toNat = 0 from rfl] at hx521_0)
             (try rw [Addr.add_zero'] at hx521_0)
             replace p521 := eq_true p521
             replace q521 := eq_true q521
             go_wp2_with (first | ((with_reducible refine gate_dst (N := 29) rfl ?_); refine Kd.R_lit Kd.bool _ 4 ?hg (N := 29) ?hd (xs := ([] : List Bool)) (inner := []) (ok := fun _ => True) (okp := fun _ => True) ?hr ?hp (fun _ hk => hk) trivial (Below.refl _ _) (Nat.le_refl _) (by simp) ?_; (case hd => rfl); (case hg => rfl); (case hr => first | (go_simp; done) | (go_simp; rfl)); (case hp => exact (Reps.none _ _)); intro v523 w32 ho33 hb hg_ hnew_; clear hg_ hnew_; (first | rw [← Ny522.out] at ho33 | (simp only [Int.reduceToNat] at ho33; rw [← Ny522.out] at ho33)); have HO524 := Aside0.mk (Kd.R_lower (Kd.R_new' ho33 (Kd.R_lt (jR HO_3))) (zZ (jH HB))); replace HO_3 := Aside0.mk (Kd.R_elder' (jR HO_3) (Kd.R_base ho33) hb); replace HB := Aside0.mk (zT (jH HB) hb); clear hb ho33; have q34 : (1 : Int) ≤ ((x3_2.length : Int) : Int) := oD (jA); obtain ⟨i034, hi034, _, hsz34, _⟩ := info_parts info4; have hroom34 : x3_2.length ≤ co31 := (Kd.R_reads' HO_3.out).2.1; have hC34 : Kd.C Kd.bool _ (some ad521) x3_2.length x3_2 := (Kd.R_reads' HO_3.out).2.2; have hcut34 := cut_from (P := Tryd.prog) 88 4 .i64 Tryd.underlying88 hi034 1 hsz34 (some ad521) x3_2.length co31 1 (by omega) q34; have hr34 := Kd.C_drop (m := (1 : Int).toNat) (c := co31) hC34 (by omega) hroom34; obtain ⟨A34, hA34⟩ : ∃ A1, A1 = (if co31 = (1 : Int).toNat then (some ad521) else ((some ad521) : Option Addr).map (·.add ((1 : Int).toNat * 1))) := ⟨_, rfl⟩; obtain ⟨c34, hc34⟩ : ∃ c1, c1 = co31 - (1 : Int).toNat := ⟨_, rfl⟩; have hy34 : y525.length = x3_2.length - (1 : Int).toNat := (by rw [Ny525.out, List.length_drop] <;> omega); rw [show (x3_2).drop (1 : Int).toNat = y525 from Ny525.out.symm] at hr34; replace hr34 : Kd.C Kd.bool _ A34 y525.length y525 := (by rw [hA34]; exact hr34); rw [← hy34, ← hA34, ← hc34] at hcut34; have HR528 := Aside0.mk hr34; have HC528 := Aside0.mk (show y525.length ≤ c34 from by rw [hy34, hc34]; exact Nat.sub_le_sub_right hroom34 _); clear hr34 hC34 hroom34 hi034 hsz34 hc34; have KY34 := Aside0.mk hy34; have KA34 := Aside0.mk hA34; clear hy34 hA34; have KL34 := Aside0.mk (show 1 ≤ x3_2.length from by omega); replace q34 := eq_true q34) | ((with_reducible refine gate_builtin (b := .append) (xs := #[.tmp 29, .tmp 31]) rfl ?_); at_builtin; refine Kd.R_append_rows Kd.bool (w0 := w) w.heap.size rfl (.tmp 29) (.tmp 31) 88 4 (.bool false) 1 rfl Tryd.underlying88 info4 rfl (by decide) (by omega) v523 y522 y525 _ _ _ (fun k_ => some k_ ≠ (.slice (some ad521) x3_2.length co31 : Value).ownBlock) (fun _ => False) rfl rfl ?aO ?aR (fun _ _ h => h) (fun _ h => h.elim) ?aF ?aB ?aS ?aL ?_; (case aR => repeat (first | exact (by repeat (first | (with_reducible exact HR528.out) | (with_reducible refine Kd.C_alloc ?_ _) | (with_reducible refine Kd.C_drewN ?_ _) | (with_reducible refine Kd.C_drew ?_) | exact HR528.out)) | (with_reducible refine Kd.C_alloc ?_ _) | (with_reducible refine Kd.C_drewN ?_ _) | (with_reducible refine Kd.C_drew ?_))); (case aB => exact (jH HB)); (case aF => exact (fun k_ hk => Kd.fresh' (Kd.R_lt (jR HO_3)) k_ hk)); (case aO => exact (by (with_reducible repeat (first | apply Kd.R_alloc | apply Kd.R_drewN | apply Kd.R_drew)); exact Kd.R_mono HO524.out (fun _ hk => hk.2))); (case aS => exact (zZ (jH HB))); (case aL => have := LMc15.out; omega); intro v530 w35 ho hb hg hat; rw [← Ny529.out] at ho; have HO531 := Aside0.mk (ho); replace HB := Aside0.mk (hb); replace HR528 := Aside0.mk ((show Kd.C Kd.bool w35 A34 y525.length y525 from by rw [Ny525.out, KA34.out]; exact Kd.C_drop (m := 1) (c := co31) ((Kd.R_reads' (Kd.R_after (ok := (fun _ => True)) (jR HO_3) hg hat)).2.2) KL34.out ((Kd.R_reads' (Kd.R_after (ok := (fun _ => True)) (jR HO_3) hg hat)).2.1))); replace HO_3 := Aside0.mk (Kd.R_after (ok := (fun _ => True)) (jR HO_3) hg hat); clear HO524; clear ho hb hg hat) | ((with_reducible refine gate_builtin (b := .append) (xs := #[.tmp 32, .tmp 33]) rfl ?_); at_builtin; refine Kd.R_append Kd.bool (w0 := w) w.heap.size rfl (.tmp 32) (.tmp 33) 88 4 (.bool false) 1 rfl Tryd.underlying88 info4 rfl (by decide) (by omega) v530 y529 false [.bool false] (fun k_ => some k_ ≠ (.slice (some ad521) x3_2.length co31 : Value).ownBlock) (fun _ => False) rfl rfl ?aP (fun _ hk => hk.elim) ?aF ?aO ?aB ?aS ?aL ?_; (case aP => exact rfl); (case aB => exact (jH HB)); (case aF => exact (fun k_ hk => Kd.fresh' (Kd.R_lt (jR HO_3)) k_ hk)); (case aO => exact (jR HO531)); (case aS => exact (zZ (jH HB))); (case aL => have := LMc16.out; omega); intro v533 w36 ho hb hg hat; rw [← Ny532.out] at ho; have HO534 := Aside0.mk (ho); replace HB := Aside0.mk (hb); replace HR528 := Aside0.mk ((show Kd.C Kd.bool w36 A34 y525.length y525 from by rw [Ny525.out, KA34.out]; exact Kd.C_drop (m := 1) (c := co31) ((Kd.R_reads' (Kd.R_after (ok := (fun _ => True)) (jR HO_3) hg hat)).2.2) KL34.out ((Kd.R_reads' (Kd.R_after (ok := (fun _ => True)) (jR HO_3) hg hat)).2.1))); replace HO_3 := Aside0.mk (Kd.R_after (ok := (fun _ => True)) (jR HO_3) hg hat); clear HO531; clear ho hb hg hat))
             go_roundg k2
             case measure => have := HK1.out; have := HK2.out; omega
             case rel => exact ⟨(y532), (wrap64 (x5_2 + 1)), jS, H', ⟨by have := HK1.out; have := HK2.out; omega⟩, ⟨by (with_reducible repeat (first | apply Kd.R_alloc | apply Kd.R_drewN | apply Kd.R_drew)); exact Kd.R_mono HO534.out (fun _ hk => trivial)⟩, ⟨jH HB⟩⟩
           ·rw [if_neg c16] at H
            exact absurd H (by simp)
          ·rw [if_neg c15] at H
           exact absurd H (by simp)
         ·rw [if_neg c14] at H
          exact absurd H (by simp)
        ·rw [if_neg c13] at H
         exact absurd H (by simp)
       ·rw [if_neg c12] at H
        have c12b0 := dF c12
        clear c12
        have H' := Aside0.mk H
        clear H
        go_wp2
        go_roundg k2
        case measure => have := HK1.out; have := HK2.out; omega
        case rel => exact ⟨(x3_2), (wrap64 (x4_1 + 1)), jS, H', ⟨by have := HK1.out; have := HK2.out; omega⟩, ⟨jR HO_3⟩, ⟨jH HB⟩⟩
    ·rw [if_neg c5] at H
     exact absurd H (by simp)
   ·rw [if_neg c4] at H
    have c4b0 := dF c4
    clear c4
    replace H := Option.bind_eq_some_iff.mp H
    obtain ⟨t507, A370, H⟩ := H
    replace H : ((r20_xor.f k1 x3_1 t507).bind fun t510 => ((r20_number.f k1 t510).bind fun t513 => (some t513))) = some r := H
    have A37 := Aside0.mk A370
    clear A370
    replace H := Option.bind_eq_some_iff.mp H
    obtain ⟨t510, A380, H⟩ := H
    replace H : ((r20_number.f k1 t510).bind fun t513 => (some t513)) = some r := H
    have A38 := Aside0.mk A380
    clear A380
    replace H := Option.bind_eq_some_iff.mp H
    obtain ⟨t513, A390, H⟩ := H
    replace H : (some t513) = some r := H
    have A39 := Aside0.mk A390
    clear A390
    obtain rfl := Option.some.inj H
    go_wp2_with (first | ((with_reducible refine gate_callee (f := 56) rfl ?_); refine goesL_ (some 40) rfl rfl Tryd.func56 (by kernel_rfl) rfl #[.int .u64 4294967295] rfl jZ ?_; (with_reducible refine (r20_bits.calls k1 4294967295 t507 _ A37.out).mono ?_); rintro e w40 ⟨v508, rfl, ho0, hb⟩; refine ⟨_, rfl, ?_⟩; have HO509 := Aside0.mk (Kd.R_lower (Kd.R_new' ho0 (Kd.R_lt (jR HO_3))) (zZ (jH HB))); replace HO_3 := Aside0.mk (Kd.R_elder' (jR HO_3) (Kd.R_base ho0) hb); replace HB := Aside0.mk (zT (jH HB) hb); (try clear hb); (try clear hb2); (try clear hk); (try clear hi); (try clear ho0); obtain ⟨Ao41, co41, eo41⟩ := Kd.R_slice HO_3.out; subst eo41; obtain ⟨Ao42, co42, eo42⟩ := Kd.R_slice HO509.out; subst eo42) | ((with_reducible refine gate_callee (f := 57) rfl ?_); refine goesL_ (some 41) rfl rfl Tryd.func57 (by kernel_rfl) rfl #[.slice Ao41 x3_1.length co41, .slice Ao42 t507.length co42] rfl jZ ?_; (with_reducible refine (r20_xor.calls k1 _ _ x3_1 _ _ t507 t510 _ ?side1 ?side2 ?side3 ?side4 A38.out).mono ?_); (case side1 => exact jC (Kd.R_reads' HO_3.out).2.2); (case side2 => exact (Kd.R_reads' HO_3.out).2.1); (case side3 => exact jC (Kd.R_reads' HO509.out).2.2); (case side4 => exact (Kd.R_reads' HO509.out).2.1); rintro e w43 ⟨v511, rfl, ho0, hb⟩; refine ⟨_, rfl, ?_⟩; have HO512 := Aside0.mk (Kd.R_lower (Kd.R_new' (Kd.R_new' ho0 (Kd.R_lt (jR HO_3))) (Kd.R_lt (jR HO509))) (zZ (jH HB))); replace HO_3 := Aside0.mk (Kd.R_elder' (jR HO_3) (Kd.R_base ho0) hb); replace HO509 := Aside0.mk (Kd.R_elder' (jR HO509) (Kd.R_base ho0) hb); replace HB := Aside0.mk (zT (jH HB) hb); (try clear hb); (try clear hb2); (try clear hk); (try clear hi); (try clear ho0); obtain ⟨Ao44, co44, eo44⟩ := Kd.R_slice HO512.out; subst eo44) | ((with_reducible refine gate_callee (f := 58) rfl ?_); refine goesL_ (some 42) rfl rfl Tryd.func58 (by kernel_rfl) rfl #[.slice Ao44 t510.length co44] rfl jZ ?_; (with_reducible refine (r20_number.calls k1 _ _ t510 t513 _ ?side1 ?side2 A39.out).mono ?_); (case side1 => exact jC (Kd.R_reads' HO512.out).2.2); (case side2 => exact (Kd.R_reads' HO512.out).2.1); rintro e w' ⟨rfl, ⟨nd, rfl⟩⟩; refine ⟨_, rfl, ?_⟩))
    go_ret
    exact ⟨jE, jH HB⟩
def r20_Seal.f (k : Nat) (l0 : List Int) : Option (List Int) := (r20_Sum.f k l0).bind fun t541 => ((some (([] : List Int) : List Int)).bind fun y542 => (if y542.length + l0.length < 140737488355328 then ((some (y542 ++ l0 : List Int)).bind fun y545 => ((some (([(Int.tmod (IntKind.u64.wrap (t541)) 256) % 256, (Int.tmod (IntKind.u64.wrap (Int.tdiv (IntKind.u64.wrap (t541)) 256)) 256) % 256, (Int.tmod (IntKind.u64.wrap (Int.tdiv (IntKind.u64.wrap (t541)) 65536)) 256) % 256, (IntKind.u64.wrap (Int.tdiv (IntKind.u64.wrap (t541)) 16777216)) % 256] : List Int) : List Int)).bind fun y548 => (if y545.length + y548.length < 140737488355328 then (some (y545 ++ y548)) else (none)))) else (none)))
set_option maxHeartbeats 8000000 in
set_option maxRecDepth 100000 in
theorem r20_Seal.calls (k : Nat) (A0 : Option Addr) (c0 : Nat) (l0 : List Int) (r : List Int) (w : World) (hr0 : Kd.C (Kd.int .u8) w A0 l0.length l0) (hc0 : l0.length ≤ c0) (h : r20_Seal.f k l0 = some r) :
  Calls Tryd.prog 33 #[.slice A0 l0.length c0] w fun e w' => ∃ v0_ : Value, e = .returned (v0_) ∧ Kd.R (Kd.int .u8) 5 w' w.heap.size (fun _ => True) v0_ r ∧ Below w.heap.size w w' := by
 have HR0 := Aside0.mk hr0
 have HC0 := Aside0.mk hc0
 clear hr0 hc0
 have HB := Aside0.mk (Below.refl w.heap.size w)
 have H : ((r20_Sum.f k l0).bind fun t541 => ((some (([] : List Int) : List Int)).bind fun y542 => (if y542.length + l0.length < 140737488355328 then ((some (y542 ++ l0 : List Int)).bind fun y545 => ((some (([(Int.tmod (IntKind.u64.wrap (t541)) 256) % 256, (Int.tmod (IntKind.u64.wrap (Int.tdiv (IntKind.u64.wrap (t541)) 256)) 256) % 256, (Int.tmod (IntKind.u64.wrap (Int.tdiv (IntKind.u64.wrap (t541)) 65536)) 256) % 256, (IntKind.u64.wrap (Int.tdiv (IntKind.u64.wrap (t541)) 16777216)) % 256] : List Int) : List Int)).bind fun y548 => (if y545.length + y548.length < 140737488355328 then (some (y545 ++ y548)) else (none)))) else (none)))) = some r := h
 clear h
 replace H := Option.bind_eq_some_iff.mp H
 obtain ⟨t541, A20, H⟩ := H
 replace H : ((some (([] : List Int) : List Int)).bind fun y542 => (if y542.length + l0.length < 140737488355328 then ((some (y542 ++ l0 : List Int)).bind fun y545 => ((some (([(Int.tmod (IntKind.u64.wrap (t541)) 256) % 256, (Int.tmod (IntKind.u64.wrap (Int.tdiv (IntKind.u64.wrap (t541)) 256)) 256) % 256, (Int.tmod (IntKind.u64.wrap (Int.tdiv (IntKind.u64.wrap (t541)) 65536)) 256) % 256, (IntKind.u64.wrap (Int.tdiv (IntKind.u64.wrap (t541)) 16777216)) % 256] : List Int) : List Int)).bind fun y548 => (if y545.length + y548.length < 140737488355328 then (some (y545 ++ y548)) else (none)))) else (none))) = some r := H
 have A2 := Aside0.mk A20
 clear A20
 obtain ⟨y542, hy542⟩ : ∃ y_ : List Int, y_ = (([] : List Int)) := ⟨_, rfl⟩
 replace H : (if y542.length + l0.length < 140737488355328 then ((some (y542 ++ l0 : List Int)).bind fun y545 => ((some (([(Int.tmod (IntKind.u64.wrap (t541)) 256) % 256, (Int.tmod (IntKind.u64.wrap (Int.tdiv (IntKind.u64.wrap (t541)) 256)) 256) % 256, (Int.tmod (IntKind.u64.wrap (Int.tdiv (IntKind.u64.wrap (t541)) 65536)) 256) % 256, (IntKind.u64.wrap (Int.tdiv (IntKind.u64.wrap (t541)) 16777216)) % 256] : List Int) : List Int)).bind fun y548 => (if y545.length + y548.length < 140737488355328 then (some (y545 ++ y548)) else (none)))) else (none)) = some r := by first | (rw [hy542]; with_reducible exact H) | (have H2_ := (Option.bind_some _ _).symm.trans H; rw [hy542]; with_reducible exact H2_) | (have H2_ := (Option.bind_some _ _).symm.trans H; with_reducible exact H2_) | with_reducible exact H | (rw [hy542]; exact H) | exact H
 have Ny542 := Aside0.mk hy542
 clear hy542
 by_cases c3 : y542.length + l0.length < 140737488355328
 ·rw [if_pos c3] at H
  have LMc3 := Aside0.mk c3
  clear c3
  obtain ⟨y545, hy545⟩ : ∃ y_ : List Int, y_ = (y542 ++ l0) := ⟨_, rfl⟩
  replace H : ((some (([(Int.tmod (IntKind.u64.wrap (t541)) 256) % 256, (Int.tmod (IntKind.u64.wrap (Int.tdiv (IntKind.u64.wrap (t541)) 256)) 256) % 256, (Int.tmod (IntKind.u64.wrap (Int.tdiv (IntKind.u64.wrap (t541)) 65536)) 256) % 256, (IntKind.u64.wrap (Int.tdiv (IntKind.u64.wrap (t541)) 16777216)) % 256] : List Int) : List Int)).bind fun y548 => (if y545.length + y548.length < 140737488355328 then (some (y545 ++ y548)) else (none))) = some r := by first | (rw [hy545]; with_reducible exact H) | (have H2_ := (Option.bind_some _ _).symm.trans H; rw [hy545]; with_reducible exact H2_) | (have H2_ := (Option.bind_some _ _).symm.trans H; with_reducible exact H2_) | with_reducible exact H | (rw [hy545]; exact H) | exact H
  have Ny545 := Aside0.mk hy545
  clear hy545
  obtain ⟨y548, hy548⟩ : ∃ y_ : List Int, y_ = (([(Int.tmod (IntKind.u64.wrap (t541)) 256) % 256, (Int.tmod (IntKind.u64.wrap (Int.tdiv (IntKind.u64.wrap (t541)) 256)) 256) % 256, (Int.tmod (IntKind.u64.wrap (Int.tdiv (IntKind.u64.wrap (t541)) 65536)) 256) % 256, (IntKind.u64.wrap (Int.tdiv (IntKind.u64.wrap (t541)) 16777216)) % 256] : List Int)) := ⟨_, rfl⟩
  replace H : (if y545.length + y548.length < 140737488355328 then (some (y545 ++ y548)) else (none)) = some r := by first | (rw [hy548]; with_reducible exact H) | (have H2_ := (Option.bind_some _ _).symm.trans H; rw [hy548]; with_reducible exact H2_) | (have H2_ := (Option.bind_some _ _).symm.trans H; with_reducible exact H2_) | with_reducible exact H | (rw [hy548]; exact H) | exact H
  have Ny548 := Aside0.mk hy548
  clear hy548
  by_cases c4 : y545.length + y548.length < 140737488355328
  ·rw [if_pos c4] at H
   have LMc4 := Aside0.mk c4
   clear c4
   obtain ⟨y551, hy551⟩ : ∃ y_ : List Int, y_ = (y545 ++ y548) := ⟨_, rfl⟩
   replace H : (some y551) = some r := by first | (rw [hy551]; with_reducible exact H) | (have H2_ := (Option.bind_some _ _).symm.trans H; rw [hy551]; with_reducible exact H2_) | (have H2_ := (Option.bind_some _ _).symm.trans H; with_reducible exact H2_) | with_reducible exact H | (rw [hy551]; exact H) | exact H
   have Ny551 := Aside0.mk hy551
   clear hy551
   obtain rfl := Option.some.inj H
   go_enter Tryd.func33, Tryd.ntmps33
   go_wp2_with (first | ((with_reducible refine gate_callee (f := 45) rfl ?_); refine goesL_ (some 5) rfl rfl Tryd.func45 (by kernel_rfl) rfl #[.slice A0 l0.length c0] rfl jZ ?_; (with_reducible refine (r20_Sum.calls k _ _ l0 t541 _ ?side1 ?side2 A2.out).mono ?_); (case side1 => repeat (first | exact HR0.out | (with_reducible refine Kd.C_alloc ?_ _) | (with_reducible refine Kd.C_drewN ?_ _) | (with_reducible refine Kd.C_drew ?_))); (case side2 => exact HC0.out); rintro e w5 ⟨rfl, hb⟩; refine ⟨_, rfl, ?_⟩; replace HB := Aside0.mk (zT (jH HB) hb); (try clear hb); (try clear hb2); (try clear hk); (try clear hi)) | ((with_reducible refine gate_dst (N := 7) rfl ?_); refine Kd.R_lit (Kd.int .u8) _ 5 ?hg (N := 7) ?hd (xs := ([] : List Int)) (inner := []) (ok := fun _ => True) (okp := fun _ => True) ?hr ?hp (fun _ hk => hk) trivial (Below.refl _ _) (Nat.le_refl _) (by simp) ?_; (case hd => rfl); (case hg => rfl); (case hr => first | (go_simp; done) | (go_simp; rfl)); (case hp => exact (Reps.none _ _)); intro v543 w6 ho7 hb hg_ hnew_; clear hg_ hnew_; (first | rw [← Ny542.out] at ho7 | (simp only [Int.reduceToNat] at ho7; rw [← Ny542.out] at ho7)); have HO544 := Aside0.mk (Kd.R_lower ho7 (zZ (jH HB))); replace HB := Aside0.mk (zT (jH HB) hb); clear hb ho7) | ((with_reducible refine gate_builtin (b := .append) (xs := #[.tmp 7, .tmp 8]) rfl ?_); at_builtin; refine Kd.R_append_rows (Kd.int .u8) (w0 := w) w.heap.size rfl (.tmp 7) (.tmp 8) 25 5 (.int .u8 0) 1 rfl Tryd.underlying25 info5 rfl (by decide) (by omega) v543 y542 l0 _ _ _ (fun _ => True) (fun _ => False) rfl rfl ?aO ?aR (fun _ _ h => h) (fun _ h => h.elim) ?aF ?aB ?aS ?aL ?_; (case aR => repeat (first | exact (Kd.C_below HR0.out HB.out) | (with_reducible refine Kd.C_alloc ?_ _) | (with_reducible refine Kd.C_drewN ?_ _) | (with_reducible refine Kd.C_drew ?_))); (case aB => exact (jH HB)); (case aF => exact (fun _ _ => trivial)); (case aO => exact (jR HO544)); (case aS => exact (zZ (jH HB))); (case aL => have := LMc3.out; omega); intro v546 w8 ho hb hg hat; rw [← Ny545.out] at ho; have HO547 := Aside0.mk (ho); replace HB := Aside0.mk (hb); clear HO544; clear ho hb hg hat) | ((with_reducible refine gate_dst (N := 24) rfl ?_); refine Kd.R_lit (Kd.int .u8) _ 5 ?hg (N := 24) ?hd (xs := ([(Int.tmod (IntKind.u64.wrap (t541)) 256) % 256, (Int.tmod (IntKind.u64.wrap (Int.tdiv (IntKind.u64.wrap (t541)) 256)) 256) % 256, (Int.tmod (IntKind.u64.wrap (Int.tdiv (IntKind.u64.wrap (t541)) 65536)) 256) % 256, (IntKind.u64.wrap (Int.tdiv (IntKind.u64.wrap (t541)) 16777216)) % 256] : List Int)) (inner := [.int .u8 ((Int.tmod (IntKind.u64.wrap (t541)) 256) % 256), .int .u8 ((Int.tmod (IntKind.u64.wrap (Int.tdiv (IntKind.u64.wrap (t541)) 256)) 256) % 256), .int .u8 ((Int.tmod (IntKind.u64.wrap (Int.tdiv (IntKind.u64.wrap (t541)) 65536)) 256) % 256), .int .u8 ((IntKind.u64.wrap (Int.tdiv (IntKind.u64.wrap (t541)) 16777216)) % 256)]) (ok := fun _ => True) (okp := fun _ => True) ?hr ?hp (fun _ hk => hk) trivial (Below.refl _ _) (Nat.le_refl _) (by simp) ?_; (case hd => rfl); (case hg => rfl); (case hr => first | (go_simp; done) | (go_simp; rfl)); (case hp => exact (Reps.one (show Kd.M (Kd.int .u8) _ _ _ ((Int.tmod (IntKind.u64.wrap (t541)) 256) % 256) [.int .u8 ((Int.tmod (IntKind.u64.wrap (t541)) 256) % 256)] from rfl) (Reps.one (show Kd.M (Kd.int .u8) _ _ _ ((Int.tmod (IntKind.u64.wrap (Int.tdiv (IntKind.u64.wrap (t541)) 256)) 256) % 256) [.int .u8 ((Int.tmod (IntKind.u64.wrap (Int.tdiv (IntKind.u64.wrap (t541)) 256)) 256) % 256)] from rfl) (Reps.one (show Kd.M (Kd.int .u8) _ _ _ ((Int.tmod (IntKind.u64.wrap (Int.tdiv (IntKind.u64.wrap (t541)) 65536)) 256) % 256) [.int .u8 ((Int.tmod (IntKind.u64.wrap (Int.tdiv (IntKind.u64.wrap (t541)) 65536)) 256) % 256)] from rfl) (Reps.one (show Kd.M (Kd.int .u8) _ _ _ ((IntKind.u64.wrap (Int.tdiv (IntKind.u64.wrap (t541)) 16777216)) % 256) [.int .u8 ((IntKind.u64.wrap (Int.tdiv (IntKind.u64.wrap (t541)) 16777216)) % 256)] from rfl) (Reps.none _ _)))))); intro v549 w9 ho10 hb hg_ hnew_; clear hg_ hnew_; (first | rw [← Ny548.out] at ho10 | (simp only [Int.reduceToNat] at ho10; rw [← Ny548.out] at ho10)); have HO550 := Aside0.mk (Kd.R_lower (Kd.R_new' ho10 (Kd.R_lt (jR HO547))) (zZ (jH HB))); replace HO547 := Aside0.mk (Kd.R_elder' (jR HO547) (Kd.R_base ho10) hb); replace HB := Aside0.mk (zT (jH HB) hb); clear hb ho10; obtain ⟨Ao12, co12, eo12⟩ := Kd.R_slice HO550.out; subst eo12) | ((with_reducible refine gate_builtin (b := .append) (xs := #[.tmp 9, .tmp 24]) rfl ?_); at_builtin; refine Kd.R_append_rows (Kd.int .u8) (w0 := w) w.heap.size rfl (.tmp 9) (.tmp 24) 25 5 (.int .u8 0) 1 rfl Tryd.underlying25 info5 rfl (by decide) (by omega) v546 y545 y548 _ _ _ (fun k_ => some k_ ≠ (.slice Ao12 y548.length co12 : Value).ownBlock) (fun _ => False) rfl rfl ?aO ?aR (fun _ _ h => h) (fun _ h => h.elim) ?aF ?aB ?aS ?aL ?_; (case aR => repeat (first | exact (Kd.R_reads' HO550.out).2.2 | (with_reducible refine Kd.C_alloc ?_ _) | (with_reducible refine Kd.C_drewN ?_ _) | (with_reducible refine Kd.C_drew ?_))); (case aB => exact (jH HB)); (case aF => exact (fun k_ hk => Kd.fresh' (Kd.R_lt (jR HO550)) k_ hk)); (case aO => exact (by (with_reducible repeat (first | apply Kd.R_alloc | apply Kd.R_drewN | apply Kd.R_drew)); exact Kd.R_mono HO547.out (fun _ hk => hk.2))); (case aS => exact (zZ (jH HB))); (case aL => have := LMc4.out; omega); intro v552 w11 ho hb hg hat; rw [← Ny551.out] at ho; have HO553 := Aside0.mk (ho); replace HO550 := Aside0.mk (Kd.R_after (ok := (fun _ => True)) (jR HO550) hg hat); replace HB := Aside0.mk (hb); clear HO547; clear ho hb hg hat))
   go_ret
   exact ⟨_, jE, by (with_reducible repeat (first | apply Kd.R_alloc | apply Kd.R_drewN | apply Kd.R_drew)); exact Kd.R_mono HO553.out (fun _ hk => trivial), jH HB⟩
  ·rw [if_neg c4] at H
   exact absurd H (by simp)
 ·rw [if_neg c3] at H
  exact absurd H (by simp)
end Go.Proofs.YtahacmdhhfmhiaaDoor.M
