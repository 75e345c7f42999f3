/- What Go functions compute; their calls come to it. No condition. -/
import Derived.Test.YtahacmdhhfmhiaaDoorM0
import Derived.Test.YtahacmdhhfmhiaaDoorMA
namespace Go.Proofs.YtahacmdhhfmhiaaDoor.M
open Go.RowKit Go.Proofs.YtahacmdhhfmhiaaDoorW.PrintWords Go.Proofs.YtahacmdhhfmhiaaDoorW.PrintLast Go.Proofs.YtahacmdhhfmhiaaDoorW.PrintMore
attribute [local go_sem] max2_int min2_int max_two min_two max_three min_three max_four min_four   -- for this text's walks alone
set_option linter.unusedVariables false
set_option linter.unusedSimpArgs false
def l21_as.f (l0_0 : List (S59)) (l0_1 : List (S59)) (a0_2 : Int) : Option ((List (S59)) × (List (S59)) × Int) := some (l0_0, l0_1, a0_2)
set_option maxHeartbeats 8000000 in
set_option maxRecDepth 100000 in
theorem l21_as.calls (P0_0_ : Nat → Prop) (A0_0 : Option Addr) (c0_0 : Nat) (l0_0 : List (S59)) (P0_1_ : Nat → Prop) (A0_1 : Option Addr) (c0_1 : Nat) (l0_1 : List (S59)) (a0_2 : Int) (r1 : List (S59)) (r2 : List (S59)) (r3 : Int) (w : World) (hs0_0 : Kd.V k59 59 w w.heap.size (fun k_ => P0_0_ k_) (.slice A0_0 l0_0.length c0_0) l0_0) (hs0_1 : Kd.V k59 59 w w.heap.size (fun k_ => P0_1_ k_) (.slice A0_1 l0_1.length c0_1) l0_1) (h : l21_as.f l0_0 l0_1 a0_2 = some (r1, r2, r3)) :
  Calls Tryd.prog 22 #[.agg #[.slice A0_0 l0_0.length c0_0, .slice A0_1 l0_1.length c0_1, .int .u32 a0_2]] w fun e w' => ∃ v0_ v1_ : Value, e = .returned (.agg #[v0_, v1_, .int .u32 r3]) ∧ Kd.V k59 59 w' w.heap.size (fun k_ => ((P0_0_ k_ ∨ P0_1_ k_) ∨ w.heap.size ≤ k_)) v0_ r1 ∧ Kd.V k59 59 w' w.heap.size (fun k_ => ((P0_0_ k_ ∨ P0_1_ k_) ∨ w.heap.size ≤ k_)) v1_ r2 ∧ Below w.heap.size w w' := by
 have hu42 := Tryd.underlying42
 have hu45 := Tryd.underlying45
 have HO0_0 := Aside0.mk (show Kd.V k59 59 w w.heap.size (fun k_ => ((P0_0_ k_ ∨ P0_1_ k_) ∨ w.heap.size ≤ k_)) (.slice A0_0 l0_0.length c0_0) l0_0 from Kd.V_mono hs0_0 (fun k_ hk => .inl (.inl hk)))
 have HO0_1 := Aside0.mk (show Kd.V k59 59 w w.heap.size (fun k_ => ((P0_0_ k_ ∨ P0_1_ k_) ∨ w.heap.size ≤ k_)) (.slice A0_1 l0_1.length c0_1) l0_1 from Kd.V_mono hs0_1 (fun k_ hk => .inl (.inr hk)))
 have HB := Aside0.mk (Below.refl w.heap.size w)
 have H : (some (l0_0, l0_1, a0_2)) = some (r1, r2, r3) := h
 clear h
 simp only [Option.some.injEq, Prod.mk.injEq] at H
 obtain ⟨rfl, rfl, rfl⟩ := H
 go_enter Tryd.func22, Tryd.ntmps22
 go_wp2_with (first | ((with_reducible refine gate_dst (N := 1) rfl ?_); refine box_event rfl (N := 1) rfl (cs := #[.slice A0_0 l0_0.length c0_0, .slice A0_1 l0_1.length c0_1, .int .u32 a0_2]) (t := 42) jW ?_; intro gb482 hg w2 hbox hb; have BK482 := Aside0.mk hbox; have GW482 := Aside0.mk (jG hg HB); have GE482 := Aside0.mk (jG hg HB); replace HO0_0 := Aside0.mk (Kd.V_below (Kd.V_elderB (jV HO0_0) gb482 (Nat.le_of_eq hg.symm)) hb); replace HO0_1 := Aside0.mk (Kd.V_below (Kd.V_elderB (jV HO0_1) gb482 (Nat.le_of_eq hg.symm)) hb); replace HB := Aside0.mk (zT (jH HB) hb); clear hb hbox hg) | ((with_reducible refine gate_dst (N := 2) rfl ?_); refine box_event rfl (N := 2) rfl (cs := #[.slice none 0 0, .slice none 0 0, .int .u32 0]) (t := 45) jW ?_; intro gb483 hg w3 hbox hb; have BK483 := Aside0.mk hbox; have GW483 := Aside0.mk (jG hg HB); have GE483 := Aside0.mk (jG hg HB); have NB482_483 := Aside0.mk (jN hg BK482); have NB483_482 := Aside0.mk (jM hg BK482); replace HO0_0 := Aside0.mk (Kd.V_below (Kd.V_elderB (jV HO0_0) gb483 (Nat.le_of_eq hg.symm)) hb); replace HO0_1 := Aside0.mk (Kd.V_below (Kd.V_elderB (jV HO0_1) gb483 (Nat.le_of_eq hg.symm)) hb); replace BK482 := Aside0.mk (jB BK482 hb); replace HB := Aside0.mk (zT (jH HB) hb); clear hb hbox hg; have hnb4 := NB482_483.out; have hnc4 := NB483_482.out; obtain ⟨hcz5_0, hcz5_1, hcz5_2, hfz5_0, hfz5_1, hfz5_2⟩ := kQ3 BK482.out; obtain ⟨hcz6_0, hcz6_1, hcz6_2, hfz6_0, hfz6_1, hfz6_2⟩ := kQ3 BK483.out))
 refine bodyPost_ret (results_cell_row rfl _ _ gb483 45 #[.slice A0_0 l0_0.length c0_0, .slice A0_1 l0_1.length c0_1, .int .u32 a0_2] (0, 0) _ rfl (by (with_reducible repeat (first | refine kN ?_ _ | refine kD ?_ | refine kA ?_ _)); refine kP (cs := #[.slice A0_0 l0_0.length c0_0, .slice A0_1 l0_1.length c0_1, .int .u32 0]) ?_ 2 _ rfl; (with_reducible repeat (first | refine kN ?_ _ | refine kD ?_ | refine kA ?_ _)); refine kP (cs := #[.slice A0_0 l0_0.length c0_0, .slice none 0 0, .int .u32 0]) ?_ 1 _ rfl; (with_reducible repeat (first | refine kN ?_ _ | refine kD ?_ | refine kA ?_ _)); refine kP (cs := #[.slice none 0 0, .slice none 0 0, .int .u32 0]) ?_ 0 _ rfl; (with_reducible repeat (first | refine kN ?_ _ | refine kD ?_ | refine kA ?_ _)); exact BK483.out) Tryd.underlying45 rfl (by kernel_rfl)) rfl ?_
 exact ⟨_, _, jE, by (with_reducible repeat (first | apply Kd.V_alloc | apply Kd.V_drewN | apply Kd.V_drew)); exact Kd.V_mono (Kd.V_far (p := ⟨gb483, 2, none⟩) (Kd.V_far (p := ⟨gb483, 1, none⟩) (Kd.V_far (p := ⟨gb483, 0, none⟩) (Kd.V_mono HO0_0.out (fun k_ hk => (⟨hk, hk.2⟩ : _ ∧ k_ ≠ gb483))) (fun _ hk => hk.2) (.slice A0_0 l0_0.length c0_0)) (fun _ hk => hk.2) (.slice A0_1 l0_1.length c0_1)) (fun _ hk => hk.2) (.int .u32 a0_2)) (fun _ hk => hk.1.1.1), by (with_reducible repeat (first | apply Kd.V_alloc | apply Kd.V_drewN | apply Kd.V_drew)); exact Kd.V_mono (Kd.V_far (p := ⟨gb483, 2, none⟩) (Kd.V_far (p := ⟨gb483, 1, none⟩) (Kd.V_far (p := ⟨gb483, 0, none⟩) (Kd.V_mono HO0_1.out (fun k_ hk => (⟨hk, hk.2⟩ : _ ∧ k_ ≠ gb483))) (fun _ hk => hk.2) (.slice A0_0 l0_0.length c0_0)) (fun _ hk => hk.2) (.slice A0_1 l0_1.length c0_1)) (fun _ hk => hk.2) (.int .u32 a0_2)) (fun _ hk => hk.1.1.1), jH HB⟩
def l21_As.l0 : Nat → List (S42) → List (S45) → Int → Option ((List (S45)))
 | 0, _, _, _ => none
 | k + 1, x0, x3, x4 => if x4 < (x0.length : Int) then (if 0 ≤ x4 then ((l21_as.f ((rd_T42 x0 x4).f0) ((rd_T42 x0 x4).f1) ((rd_T42 x0 x4).f2)).bind fun bt485 => (if x3.length < 2513169434916 then (l21_As.l0 k x0 (x3 ++ [(⟨bt485.1, bt485.2.1, bt485.2.2⟩ : S45)]) (wrap64 (x4 + 1))) else (none))) else (none)) else (some x3)
def l21_As.f (k : Nat) (l0 : List (S42)) : Option ((List (S45))) := l21_As.l0 k l0 ([] : List (S45)) 0
set_option maxHeartbeats 8000000 in
set_option maxRecDepth 100000 in
theorem l21_As.calls (k : Nat) (P0_ : Nat → Prop) (A0 : Option Addr) (c0 : Nat) (l0 : List (S42)) (r : List (S45)) (w : World) (hs0 : Kd.V k42 42 w w.heap.size (fun k_ => P0_ k_) (.slice A0 l0.length c0) l0) (h : l21_As.f k l0 = some r) :
  Calls Tryd.prog 14 #[.slice A0 l0.length c0] w fun e w' => ∃ v0_ : Value, e = .returned (v0_) ∧ Kd.N k45 45 w' w.heap.size (fun k_ => (P0_ k_ ∨ w.heap.size ≤ k_)) v0_ r ∧ Below w.heap.size w w' := by
 have hu42 := Tryd.underlying42
 have HO0 := Aside0.mk (show Kd.V k42 42 w w.heap.size (fun k_ => (P0_ k_ ∨ w.heap.size ≤ k_)) (.slice A0 l0.length c0) l0 from Kd.V_mono hs0 (fun k_ hk => .inl hk))
 have HB := Aside0.mk (Below.refl w.heap.size w)
 have H : (l21_As.l0 k l0 ([] : List (S45)) 0) = some r := h
 clear h
 have H' := Aside0.mk H
 clear H
 go_enter Tryd.func14, Tryd.ntmps14
 go_wp2
 go_loopg [3, 4] k (fun kq v3 v4 w' => ∃ (x3_1 : List (S45)) (x4_1 : Int), v4 = .int .i64 x4_1 ∧ Aside0 (l21_As.l0 kq l0 x3_1 x4_1 = some r) ∧ Aside0 (kq ≤ k) ∧ Aside0 (Kd.V k42 42 w' w.heap.size (fun k_ => (P0_ k_ ∨ w.heap.size ≤ k_) ∧ some k_ ≠ (v3 : Value).ownBlock) (.slice A0 l0.length c0) l0) ∧ Aside0 (Kd.N k45 45 w' w.heap.size (fun k_ => (P0_ k_ ∨ w.heap.size ≤ k_)) v3 x3_1) ∧ Aside0 (Below w.heap.size w w'))
 case atStart => exact ⟨(([] : List (S45))), (0), jS, H', ⟨Nat.le_refl _⟩, ⟨by (with_reducible repeat (first | apply Kd.V_alloc | apply Kd.V_drewN | apply Kd.V_drew)); exact Kd.V_mono HO0.out (fun _ hk => ⟨hk, (by simp [Value.ownBlock])⟩)⟩, ⟨by first | exact Kd.S_nil _ _ _ _ _ | exact Kd.N_nil _ _ _ _ _ | exact Kd.V_nil _ _ _ _ _ | exact Kd.Q_nil _ _ _ _ _ | exact Kd.R_nil _ _ _ _ _⟩, ⟨jH HB⟩⟩
 case round =>
  clear H'
  obtain ⟨x3_1, x4_1, rfl, HA, HK1, HO_0, HO_3, HB⟩ := hrel
  cases gk with
  | zero => exact absurd HA.out (by simp [l21_As.l0])
  | succ k1 =>
   have H := HA.out
   clear HA
   simp only [l21_As.l0] at H
   by_cases c2 : x4_1 < (l0.length : Int)
   ·rw [if_pos c2] at H
    have c2b0 := dT c2
    clear c2
    by_cases c3 : 0 ≤ x4_1
    ·rw [if_pos c3] at H
     have c3b0 := dT c3
     clear c3
     replace H := Option.bind_eq_some_iff.mp H
     obtain ⟨⟨t485, t488, t491⟩, A40, H⟩ := H
     try dsimp only at H
     have A4 := Aside0.mk A40
     clear A40
     by_cases c5 : x3_1.length < 2513169434916
     ·rw [if_pos c5] at H
      have LMc5 := Aside0.mk c5
      clear c5
      obtain ⟨y492, hy492⟩ : ∃ y_ : List (S45), y_ = (x3_1 ++ [(⟨t485, t488, t491⟩ : S45)]) := ⟨_, rfl⟩
      simp only [Option.bind_some, ← hy492] at H
      have Ny492 := Aside0.mk hy492
      clear hy492
      have H' := Aside0.mk H
      clear H
      have p484 : 0 ≤ (x4_1 : Int) := oD (jA)
      have q484 : x4_1 < (l0.length : Int) := oD (jA)
      obtain ⟨ad484, A484_0, c484_0, A484_1, c484_1, e484, hx484_0, hx484_1, hx484_2, hl484_0, hi484_0, hl484_1, hi484_1⟩ := at_T42 (Kd.V_reads' HO_0.out).2.2 x4_1 p484 q484
      cases e484
      obtain ⟨ce484, hce484, hMe484, hcc484⟩ := Kd.V_get HO_0.out z42 x4_1 p484 (by first | exact q484 | exact oD (jA) | (have e_ := (Kd.V_reads' HO_0.out).1; omega))
      obtain ⟨ua484_0, uc484_0, ua484_1, uc484_1, rfl, ul484_0, ge484_0, ul484_1, ge484_1⟩ := k42_openF hMe484
      have hv484_0 := hcc484 0 _ rfl
      rw [Nat.add_zero] at hv484_0
      replace hv484_0 := Option.some.inj (hv484_0.symm.trans hx484_0)
      injection hv484_0 with hva_ hvn_ hvc_
      rw [hva_] at ge484_0
      rw [hvc_] at ul484_0
      have HL484_0 := Aside0.mk (show Kd.V k59 59 _ w.heap.size _ _ ((rd_T42 l0 x4_1).f0) from Kd.V_mk ul484_0 ge484_0)
      clear hva_ hvn_ hvc_ ge484_0 ul484_0
      have hv484_1 := hcc484 1 _ rfl
      rw [add_field _ _ 1 (by omega)] at hv484_1
      replace hv484_1 := Option.some.inj (hv484_1.symm.trans hx484_1)
      injection hv484_1 with hva_ hvn_ hvc_
      rw [hva_] at ge484_1
      rw [hvc_] at ul484_1
      have HL484_1 := Aside0.mk (show Kd.V k59 59 _ w.heap.size _ _ ((rd_T42 l0 x4_1).f1) from Kd.V_mk ul484_1 ge484_1)
      clear hva_ hvn_ hvc_ ge484_1 ul484_1
      clear hcc484 hce484
      have HR484_0 := Aside0.mk hi484_0
      have HC484_0 := Aside0.mk hl484_0
      clear hi484_0 hl484_0
      have HR484_1 := Aside0.mk hi484_1
      have HC484_1 := Aside0.mk hl484_1
      clear hi484_1 hl484_1
      replace p484 := eq_true p484
      replace q484 := eq_true q484
      go_wp2_with (first | ((with_reducible refine gate_callee (f := 22) rfl ?_); refine goesL_ (some 16) rfl rfl Tryd.func22 (by kernel_rfl) rfl #[.agg #[.slice A484_0 ((rd_T42 l0 x4_1).f0).length c484_0, .slice A484_1 ((rd_T42 l0 x4_1).f1).length c484_1, .int .u32 ((rd_T42 l0 x4_1).f2)]] rfl jZ ?_; (with_reducible refine (l21_as.calls (fun k_ => ((P0_ k_ ∨ w.heap.size ≤ k_) ∧ some k_ ≠ (u3 : Value).ownBlock)) _ _ ((rd_T42 l0 x4_1).f0) (fun k_ => ((P0_ k_ ∨ w.heap.size ≤ k_) ∧ some k_ ≠ (u3 : Value).ownBlock)) _ _ ((rd_T42 l0 x4_1).f1) ((rd_T42 l0 x4_1).f2) t485 t488 t491 _ ?side1 ?side2 A4.out).mono ?_); (case side1 => exact HL484_0.out); (case side2 => exact HL484_1.out); rintro e w6 ⟨v486, v489, rfl, ho0, ho1, hb⟩; refine ⟨_, rfl, ?_⟩; have HO487 := Aside0.mk (Kd.V_lower (Kd.V_mono (ok' := fun k_ => (P0_ k_ ∨ w.heap.size ≤ k_) ∧ some k_ ≠ (u3 : Value).ownBlock) ho0 (fun k_ hk_ => ⟨Or.elim hk_ (fun hs_ => Or.elim hs_ (fun hs_ => hs_.1) (fun hs_ => hs_.1)) (fun hn_ => (.inr (Nat.le_trans (zZ (jH HB)) hn_))), Or.elim hk_ (fun hs_ => Or.elim hs_ (fun hs_ => hs_.2) (fun hs_ => hs_.2)) (fun hn_ => (Kd.fresh' (Kd.N_lt (by (with_reducible repeat (first | apply Kd.N_alloc | apply Kd.N_drewN | apply Kd.N_drew)); exact HO_3.out)) k_ hn_))⟩)) (zZ (jH HB))); have HO490 := Aside0.mk (Kd.V_lower (Kd.V_mono (ok' := fun k_ => (P0_ k_ ∨ w.heap.size ≤ k_) ∧ some k_ ≠ (u3 : Value).ownBlock) ho1 (fun k_ hk_ => ⟨Or.elim hk_ (fun hs_ => Or.elim hs_ (fun hs_ => hs_.1) (fun hs_ => hs_.1)) (fun hn_ => (.inr (Nat.le_trans (zZ (jH HB)) hn_))), Or.elim hk_ (fun hs_ => Or.elim hs_ (fun hs_ => hs_.2) (fun hs_ => hs_.2)) (fun hn_ => (Kd.fresh' (Kd.N_lt (by (with_reducible repeat (first | apply Kd.N_alloc | apply Kd.N_drewN | apply Kd.N_drew)); exact HO_3.out)) k_ hn_))⟩)) (zZ (jH HB))); replace HO_0 := Aside0.mk (Kd.V_below (jV HO_0) hb); replace HO_3 := Aside0.mk (Kd.N_below (by (with_reducible repeat (first | apply Kd.N_alloc | apply Kd.N_drewN | apply Kd.N_drew)); exact HO_3.out) hb); replace HL484_0 := Aside0.mk (Kd.V_below (jV HL484_0) hb); replace HL484_1 := Aside0.mk (Kd.V_below (jV HL484_1) hb); replace HR484_0 := Aside0.mk (Kd.C_below (by repeat (first | (with_reducible exact HR484_0.out) | (with_reducible refine Kd.C_alloc ?_ _) | (with_reducible refine Kd.C_drewN ?_ _) | (with_reducible refine Kd.C_drew ?_) | exact HR484_0.out)) hb); replace HR484_1 := Aside0.mk (Kd.C_below (by repeat (first | (with_reducible exact HR484_1.out) | (with_reducible refine Kd.C_alloc ?_ _) | (with_reducible refine Kd.C_drewN ?_ _) | (with_reducible refine Kd.C_drew ?_) | exact HR484_1.out)) hb); replace HB := Aside0.mk (zT (jH HB) hb); (try clear hb); (try clear hb2); (try clear hk); (try clear hi); (try clear ho0); (try clear ho1); obtain ⟨Ao8, co8, eo8⟩ := Kd.V_slice HO487.out; subst eo8; obtain ⟨Ao9, co9, eo9⟩ := Kd.V_slice HO490.out; subst eo9) | ((with_reducible refine gate_builtin (b := .append) (xs := #[.tmp 11, .tmp 17]) rfl ?_); at_builtin; refine Kd.N_append k45 (w0 := w) w.heap.size rfl (.tmp 11) (.tmp 17) 30 45 (.agg #[(.slice none 0 0), (.slice none 0 0), (.int .u32 0)]) 56 rfl Tryd.underlying30 info45 rfl (by decide) (by omega) u3 x3_1 (⟨t485, t488, t491⟩ : S45) [.slice Ao8 t485.length co8, .slice Ao9 t488.length co9, .int .u32 t491] (fun k_ => (P0_ k_ ∨ w.heap.size ≤ k_)) (fun k_ => ((fun k_ => (P0_ k_ ∨ w.heap.size ≤ k_))) k_ ∧ some k_ ≠ (u3 : Value).ownBlock) rfl rfl ?aP (fun _ hk => hk) ?aF ?aO ?aB ?aS ?aL ?_; (case aP => exact (k45_mkF _ _ (⟨t485, t488, t491⟩ : S45) (Kd.V_reads' HO487.out).2.1 (Kd.V_F (Kd.V_mono (ok' := (fun k_ => ((fun k_ => (P0_ k_ ∨ w.heap.size ≤ k_))) k_ ∧ some k_ ≠ (u3 : Value).ownBlock)) (HO487.out) (fun k_ hk => ⟨hk.1, hk.2⟩))) (Kd.V_reads' HO490.out).2.1 (Kd.V_F (Kd.V_mono (ok' := (fun k_ => ((fun k_ => (P0_ k_ ∨ w.heap.size ≤ k_))) k_ ∧ some k_ ≠ (u3 : Value).ownBlock)) (HO490.out) (fun k_ hk => ⟨hk.1, hk.2⟩))))); (case aB => exact (jH HB)); (case aF => exact (fun k_ hk => (.inr (Nat.le_trans (zZ (jH HB)) hk)))); (case aO => exact (by (with_reducible repeat (first | apply Kd.N_alloc | apply Kd.N_drewN | apply Kd.N_drew)); exact HO_3.out)); (case aS => exact (zZ (jH HB))); (case aL => have := LMc5.out; omega); intro v493 w7 ho hb hg hat; rw [← Ny492.out] at ho; have HO494 := Aside0.mk (ho); replace HO_0 := Aside0.mk (Kd.V_afterv (ok := (fun k_ => (P0_ k_ ∨ w.heap.size ≤ k_))) (jV HO_0) hg hat); replace HL484_0 := Aside0.mk (Kd.V_afterv (ok := (fun k_ => (P0_ k_ ∨ w.heap.size ≤ k_))) (jV HL484_0) hg hat); replace HL484_1 := Aside0.mk (Kd.V_afterv (ok := (fun k_ => (P0_ k_ ∨ w.heap.size ≤ k_))) (jV HL484_1) hg hat); replace HO487 := Aside0.mk (Kd.V_afterv (ok := (fun k_ => (P0_ k_ ∨ w.heap.size ≤ k_))) (jV HO487) hg hat); replace HO490 := Aside0.mk (Kd.V_afterv (ok := (fun k_ => (P0_ k_ ∨ w.heap.size ≤ k_))) (jV HO490) hg hat); replace HB := Aside0.mk (hb); clear HO_3; clear ho hb hg hat))
      go_roundg k1
      case measure => have := HK1.out; omega
      case rel => exact ⟨(y492), (wrap64 (x4_1 + 1)), jS, H', ⟨by have := HK1.out; omega⟩, ⟨jV HO_0⟩, ⟨by (with_reducible repeat (first | apply Kd.N_alloc | apply Kd.N_drewN | apply Kd.N_drew)); exact HO494.out⟩, ⟨jH HB⟩⟩
     ·rw [if_neg c5] at H
      exact absurd H (by simp)
    ·rw [if_neg c3] at H
     exact absurd H (by simp)
   ·rw [if_neg c2] at H
    have c2b0 := dF c2
    clear c2
    obtain rfl := Option.some.inj H
    go_wp2
    go_ret
    exact ⟨_, jE, by (with_reducible repeat (first | apply Kd.N_alloc | apply Kd.N_drewN | apply Kd.N_drew)); exact HO_3.out, jH HB⟩
attribute [local go_sem high] eqA59
def r03_Same.l0 : Nat → List (S59) → List (S59) → Int → Option (Bool)
 | 0, _, _, _ => none
 | k + 1, x0, x1, x5 => if x5 < (x0.length : Int) then (if 0 ≤ x5 then (if x5 < (x1.length : Int) then (if (!(((rd_T59 x0 x5).f0) == ((rd_T59 x1 x5).f0)) || (!(((rd_T59 x0 x5).f1) == ((rd_T59 x1 x5).f1)) || (!(((rd_T59 x0 x5).f2) == ((rd_T59 x1 x5).f2)) || (!(((rd_T59 x0 x5).f3) == ((rd_T59 x1 x5).f3)))))) = true then (some false) else (r03_Same.l0 k x0 x1 (wrap64 (x5 + 1)))) else (none)) else (none)) else (some true)
def r03_Same.f (k : Nat) (l0 : List (S59)) (l1 : List (S59)) : Option (Bool) := if (l0.length : Int) = (l1.length : Int) then (r03_Same.l0 k l0 l1 0) else (some false)
set_option maxHeartbeats 8000000 in
set_option maxRecDepth 100000 in
theorem r03_Same.calls (k : Nat) (A0 : Option Addr) (c0 : Nat) (l0 : List (S59)) (A1 : Option Addr) (c1 : Nat) (l1 : List (S59)) (r : Bool) (w : World) (hr0 : Kd.C k59 w A0 l0.length l0) (hc0 : l0.length ≤ c0) (hr1 : Kd.C k59 w A1 l1.length l1) (hc1 : l1.length ≤ c1) (h : r03_Same.f k l0 l1 = some r) :
  Calls Tryd.prog 25 #[.slice A0 l0.length c0, .slice A1 l1.length c1] w fun e w' => e = .returned (.bool r) ∧ Drawn0 w w' := by
 have hu59 := Tryd.underlying59
 have HR0 := Aside0.mk hr0
 have HC0 := Aside0.mk hc0
 clear hr0 hc0
 have HR1 := Aside0.mk hr1
 have HC1 := Aside0.mk hc1
 clear hr1 hc1
 have H : (if (l0.length : Int) = (l1.length : Int) then (r03_Same.l0 k l0 l1 0) else (some false)) = some r := h
 clear h
 by_cases c3 : (l0.length : Int) = (l1.length : Int)
 ·rw [if_pos c3] at H
  have c3b0 : ((l0.length : Int) == (l1.length : Int)) = true := bI.mpr c3
  have c3b1 : ((l0.length : Int) != (l1.length : Int)) = false := nF.mpr c3
  have c3b2 : (l0.length == l1.length) = true := by first | simpa using c3 | (simp at c3 ⊢; omega)
  clear c3
  have H' := Aside0.mk H
  clear H
  go_enter Tryd.func25, Tryd.ntmps25
  go_wp2
  repeat (go_quiet (fail); try go_wp2)
  go_loopg [5] k (fun kq v5 w' => ∃ (x5_1 : Int), v5 = .int .i64 x5_1 ∧ Aside0 (r03_Same.l0 kq l0 l1 x5_1 = some r) ∧ Aside0 (kq ≤ k) ∧ Drawn0 w w')
  case atStart => exact ⟨(0), jS, H', ⟨Nat.le_refl _⟩, by repeat (first | exact Drawn0.refl _ | apply Drawn0.step)⟩
  case round =>
   clear H'
   obtain ⟨x5_1, rfl, HA, HK1, ⟨m1, rfl⟩⟩ := hrel
   cases gk with
   | zero => exact absurd HA.out (by simp [r03_Same.l0])
   | succ k1 =>
    have H := HA.out
    clear HA
    simp only [r03_Same.l0] at H
    by_cases c4 : x5_1 < (l0.length : Int)
    ·rw [if_pos c4] at H
     have c4b0 := dT c4
     clear c4
     by_cases c5 : 0 ≤ x5_1
     ·rw [if_pos c5] at H
      have c5b0 := dT c5
      clear c5
      by_cases c6 : x5_1 < (l1.length : Int)
      ·rw [if_pos c6] at H
       have c6b0 := dT c6
       clear c6
       by_cases c7 : (!(((rd_T59 l0 x5_1).f0) == ((rd_T59 l1 x5_1).f0)) || (!(((rd_T59 l0 x5_1).f1) == ((rd_T59 l1 x5_1).f1)) || (!(((rd_T59 l0 x5_1).f2) == ((rd_T59 l1 x5_1).f2)) || (!(((rd_T59 l0 x5_1).f3) == ((rd_T59 l1 x5_1).f3)))))) = true
       ·rw [if_pos c7] at H
        have c7b0 : (!(((rd_T59 l0 x5_1).f0) == ((rd_T59 l1 x5_1).f0)) || (!(((rd_T59 l0 x5_1).f1) == ((rd_T59 l1 x5_1).f1)) || (!(((rd_T59 l0 x5_1).f2) == ((rd_T59 l1 x5_1).f2)) || (!(((rd_T59 l0 x5_1).f3) == ((rd_T59 l1 x5_1).f3)))))) = true := c7
        clear c7
        obtain rfl := Option.some.inj H
        have p640 : 0 ≤ (x5_1 : Int) := oD (jA)
        have q640 : x5_1 < (l0.length : Int) := oD (jA)
        obtain ⟨ad640, e640, hx640_0, hx640_1, hx640_2, hx640_3⟩ := at_T59 HR0.out x5_1 p640 q640
        cases e640
        replace p640 := eq_true p640
        replace q640 := eq_true q640
        have p641 : 0 ≤ (x5_1 : Int) := oD (jA)
        have q641 : x5_1 < (l1.length : Int) := oD (jA)
        obtain ⟨ad641, e641, hx641_0, hx641_1, hx641_2, hx641_3⟩ := at_T59 HR1.out x5_1 p641 q641
        cases e641
        replace p641 := eq_true p641
        replace q641 := eq_true q641
        go_wp2
        repeat (go_quiet (fail); try go_wp2)
        go_ret
        exact ⟨by first | rfl | (simp; done) | (simp [*]; done), by repeat (first | exact Drawn0.refl _ | apply Drawn0.step)⟩
       ·rw [if_neg c7] at H
        have c7b0 : (!(((rd_T59 l0 x5_1).f0) == ((rd_T59 l1 x5_1).f0)) || (!(((rd_T59 l0 x5_1).f1) == ((rd_T59 l1 x5_1).f1)) || (!(((rd_T59 l0 x5_1).f2) == ((rd_T59 l1 x5_1).f2)) || (!(((rd_T59 l0 x5_1).f3) == ((rd_T59 l1 x5_1).f3)))))) = false := by simpa using c7
        clear c7
        have H' := Aside0.mk H
        clear H
        have p640 : 0 ≤ (x5_1 : Int) := oD (jA)
        have q640 : x5_1 < (l0.length : Int) := oD (jA)
        obtain ⟨ad640, e640, hx640_0, hx640_1, hx640_2, hx640_3⟩ := at_T59 HR0.out x5_1 p640 q640
        cases e640
        replace p640 := eq_true p640
        replace q640 := eq_true q640
        have p641 : 0 ≤ (x5_1 : Int) := oD (jA)
        have q641 : x5_1 < (l1.length : Int) := oD (jA)
        obtain ⟨ad641, e641, hx641_0, hx641_1, hx641_2, hx641_3⟩ := at_T59 HR1.out x5_1 p641 q641
        cases e641
        replace p641 := eq_true p641
        replace q641 := eq_true q641
        go_wp2
        repeat (go_quiet (fail); try go_wp2)
        go_roundg k1
        case measure => have := HK1.out; omega
        case rel => exact ⟨(wrap64 (x5_1 + 1)), jS, H', ⟨by have := HK1.out; omega⟩, by repeat (first | exact Drawn0.refl _ | apply Drawn0.step)⟩
      ·rw [if_neg c6] at H
       exact absurd H (by simp)
     ·rw [if_neg c5] at H
      exact absurd H (by simp)
    ·rw [if_neg c4] at H
     have c4b0 := dF c4
     clear c4
     obtain rfl := Option.some.inj H
     go_wp2
     repeat (go_quiet (fail); try go_wp2)
     go_ret
     exact ⟨by first | rfl | (simp; done) | (simp [*]; done), by repeat (first | exact Drawn0.refl _ | apply Drawn0.step)⟩
 ·rw [if_neg c3] at H
  have c3b0 : ((l0.length : Int) == (l1.length : Int)) = false := bF.mpr c3
  have c3b1 : ((l0.length : Int) != (l1.length : Int)) = true := nI.mpr c3
  have c3b2 : (l0.length == l1.length) = false := by first | simpa using c3 | (simp at c3 ⊢; omega)
  obtain rfl := Option.some.inj H
  go_enter Tryd.func25, Tryd.ntmps25
  go_wp2
  repeat (go_quiet (fail); try go_wp2)
  go_ret
  exact ⟨by first | rfl | (simp; done) | (simp [*]; done), by repeat (first | exact Drawn0.refl _ | apply Drawn0.step)⟩
def r21_Same.l0 : Nat → List (S45) → List (S45) → Int → Option (Bool)
 | 0, _, _, _ => none
 | k + 1, x0, x1, x5 => if x5 < (x0.length : Int) then (if 0 ≤ x5 then (if x5 < (x1.length : Int) then (if ((rd_T45 x0 x5).f2) = ((rd_T45 x1 x5).f2) then ((r03_Same.f k ((rd_T45 x0 x5).f0) ((rd_T45 x1 x5).f0)).bind fun t646 => (if t646 = true then ((r03_Same.f k ((rd_T45 x0 x5).f1) ((rd_T45 x1 x5).f1)).bind fun t649 => (if t649 = true then (r21_Same.l0 k x0 x1 (wrap64 (x5 + 1))) else (some false))) else (some false))) else (some false)) else (none)) else (none)) else (some true)
def r21_Same.f (k : Nat) (l0 : List (S45)) (l1 : List (S45)) : Option (Bool) := if (l0.length : Int) = (l1.length : Int) then (r21_Same.l0 k l0 l1 0) else (some false)
def r21_Same.T6 : Bool × List (List Nat × List Nat) := (true, [([], []), ([], []), ([0, 1], [0, 1]), ([2], [2]), ([3], [3]), ([], []), ([], []), ([5, 6], [5, 6]), ([7], [7]), ([8], [8]), ([4, 9], [4, 9]), ([10], [10]), ([11], [11]), ([11], [11]), ([12, 13, 11], [11, 12, 13]), ([14, 11], [11, 14]), ([15, 11], [11, 15]), ([11], [11]), ([11], [11]), ([17, 18, 11], [11, 17, 18]), ([19, 11], [11, 19]), ([20, 11], [11, 20]), ([16, 21, 11, 11], [11, 16, 21]), ([22, 11], [11, 22]), ([11, 23], [11, 23]), ([24, 22], [24]), ([25], [25]), ([25], [25]), ([26, 27, 25], [25, 26, 27]), ([28, 25], [25, 28]), ([29, 25], [25, 29]), ([25], [25]), ([25], [25]), ([31, 32, 25], [25, 31, 32]), ([33, 25], [25, 33]), ([34, 25], [25, 34]), ([30, 35, 25, 25], [25, 30, 35]), ([36, 25], [25, 36]), ([25, 37], [25, 37])])
def r21_Same.B6 : List Nat := [0, 0, 3, 7, 15, 0, 0, 96, 224, 480, 1023, 2047, 4095, 4095, 16383, 32767, 65535, 4095, 4095, 397311, 921599, 1970175, 4194303, 8388607, 16777215, 33554431, 67108863, 67108863, 268435455, 536870911, 1073741823, 67108863, 67108863, 6509559807, 15099494399, 32279363583, 68719476735, 137438953471, 274877906943]
theorem r21_Same.tab6 : rtab .any (opsOf Tryd.f19 6) = r21_Same.T6 := by kernel_rfl
theorem r21_Same.bits6 : waitsOk r21_Same.T6.2 r21_Same.B6 = true := by kernel_rfl
set_option maxHeartbeats 8000000 in
set_option maxRecDepth 100000 in
theorem r21_Same.calls (k : Nat) (A0 : Option Addr) (c0 : Nat) (l0 : List (S45)) (A1 : Option Addr) (c1 : Nat) (l1 : List (S45)) (r : Bool) (w : World) (hr0 : Kd.C k45 w A0 l0.length l0) (hc0 : l0.length ≤ c0) (hr1 : Kd.C k45 w A1 l1.length l1) (hc1 : l1.length ≤ c1) (h : r21_Same.f k l0 l1 = some r) :
  Calls Tryd.prog 19 #[.slice A0 l0.length c0, .slice A1 l1.length c1] w fun e w' => e = .returned (.bool r) ∧ Below w.heap.size w w' := by
 have HR0 := Aside0.mk hr0
 have HC0 := Aside0.mk hc0
 clear hr0 hc0
 have HR1 := Aside0.mk hr1
 have HC1 := Aside0.mk hc1
 clear hr1 hc1
 have HB := Aside0.mk (Below.refl w.heap.size w)
 have H : (if (l0.length : Int) = (l1.length : Int) then (r21_Same.l0 k l0 l1 0) else (some false)) = some r := h
 clear h
 by_cases c3 : (l0.length : Int) = (l1.length : Int)
 ·rw [if_pos c3] at H
  have c3b0 : ((l0.length : Int) == (l1.length : Int)) = true := bI.mpr c3
  have c3b1 : ((l0.length : Int) != (l1.length : Int)) = false := nF.mpr c3
  have c3b2 : (l0.length == l1.length) = true := by first | simpa using c3 | (simp at c3 ⊢; omega)
  clear c3
  have H' := Aside0.mk H
  clear H
  go_enter Tryd.func19, Tryd.ntmps19
  go_wp2
  go_loopg [5] k (fun kq v5 w' => ∃ (x5_1 : Int), v5 = .int .i64 x5_1 ∧ Aside0 (r21_Same.l0 kq l0 l1 x5_1 = some r) ∧ Aside0 (kq ≤ k) ∧ Aside0 (Below w.heap.size w w'))
  case atStart => exact ⟨(0), jS, H', ⟨Nat.le_refl _⟩, ⟨jH HB⟩⟩
  case round =>
   clear H'
   obtain ⟨x5_1, rfl, HA, HK1, HB⟩ := hrel
   cases gk with
   | zero => exact absurd HA.out (by simp [r21_Same.l0])
   | succ k1 =>
    have H := HA.out
    clear HA
    simp only [r21_Same.l0] at H
    by_cases c4 : x5_1 < (l0.length : Int)
    ·rw [if_pos c4] at H
     have c4b0 := dT c4
     clear c4
     by_cases c5 : 0 ≤ x5_1
     ·rw [if_pos c5] at H
      have c5b0 := dT c5
      clear c5
      by_cases c6 : x5_1 < (l1.length : Int)
      ·rw [if_pos c6] at H
       have c6b0 := dT c6
       clear c6
       by_cases c7 : ((rd_T45 l0 x5_1).f2) = ((rd_T45 l1 x5_1).f2)
       ·rw [if_pos c7] at H
        have c7b0 : (((rd_T45 l0 x5_1).f2) == ((rd_T45 l1 x5_1).f2)) = true := bI.mpr c7
        have c7b1 : (((rd_T45 l0 x5_1).f2) != ((rd_T45 l1 x5_1).f2)) = false := nF.mpr c7
        clear c7
        replace H := Option.bind_eq_some_iff.mp H
        obtain ⟨t646, A80, H⟩ := H
        try dsimp only at H
        have A8 := Aside0.mk A80
        clear A80
        by_cases c9 : t646 = true
        ·subst c9
         rw [if_pos rfl] at H
         replace H := Option.bind_eq_some_iff.mp H
         obtain ⟨t649, A100, H⟩ := H
         try dsimp only at H
         have A10 := Aside0.mk A100
         clear A100
         by_cases c11 : t649 = true
         ·subst c11
          rw [if_pos rfl] at H
          have H' := Aside0.mk H
          clear H
          try go_wp2
          replace HB := Aside0.mk (zD HB.out)
          have p642 : 0 ≤ (x5_1 : Int) := oD (jA)
          have q642 : x5_1 < (l0.length : Int) := oD (jA)
          obtain ⟨ad642, A642_0, c642_0, A642_1, c642_1, e642, hx642_0, hx642_1, hx642_2, hl642_0, hi642_0, hl642_1, hi642_1⟩ := at_T45 HR0.out x5_1 p642 q642
          have hw642_2 := hx642_2
          have hw642_1 := hx642_1
          have hw642_0 := hx642_0
          cases e642
          replace hx642_0 := (HB.out.cell (bL w _ hx642_0)).trans hx642_0
          replace hx642_1 := (HB.out.cell (bL w _ hx642_1)).trans hx642_1
          replace hx642_2 := (HB.out.cell (bL w _ hx642_2)).trans hx642_2
          have HR642_0 := Aside0.mk hi642_0
          have HC642_0 := Aside0.mk hl642_0
          clear hi642_0 hl642_0
          have HR642_1 := Aside0.mk hi642_1
          have HC642_1 := Aside0.mk hl642_1
          clear hi642_1 hl642_1
          replace p642 := eq_true p642
          replace q642 := eq_true q642
          have p643 : 0 ≤ (x5_1 : Int) := oD (jA)
          have q643 : x5_1 < (l1.length : Int) := oD (jA)
          obtain ⟨ad643, A643_0, c643_0, A643_1, c643_1, e643, hx643_0, hx643_1, hx643_2, hl643_0, hi643_0, hl643_1, hi643_1⟩ := at_T45 HR1.out x5_1 p643 q643
          have hw643_2 := hx643_2
          have hw643_1 := hx643_1
          have hw643_0 := hx643_0
          cases e643
          replace hx643_0 := (HB.out.cell (bL w _ hx643_0)).trans hx643_0
          replace hx643_1 := (HB.out.cell (bL w _ hx643_1)).trans hx643_1
          replace hx643_2 := (HB.out.cell (bL w _ hx643_2)).trans hx643_2
          have HR643_0 := Aside0.mk hi643_0
          have HC643_0 := Aside0.mk hl643_0
          clear hi643_0 hl643_0
          have HR643_1 := Aside0.mk hi643_1
          have HC643_1 := Aside0.mk hl643_1
          clear hi643_1 hl643_1
          replace p643 := eq_true p643
          replace q643 := eq_true q643
          have p644 : 0 ≤ (x5_1 : Int) := oD (jA)
          have q644 : x5_1 < (l0.length : Int) := oD (jA)
          obtain ⟨ad644, A644_0, c644_0, A644_1, c644_1, e644, hx644_0, hx644_1, hx644_2, hl644_0, hi644_0, hl644_1, hi644_1⟩ := at_T45 HR0.out x5_1 p644 q644
          have hw644_2 := hx644_2
          have hw644_1 := hx644_1
          have hw644_0 := hx644_0
          obtain rfl : ad642 = ad644 := (by injection e644)
          replace hx644_0 := (HB.out.cell (bL w _ hx644_0)).trans hx644_0
          replace hx644_1 := (HB.out.cell (bL w _ hx644_1)).trans hx644_1
          replace hx644_2 := (HB.out.cell (bL w _ hx644_2)).trans hx644_2
          have HR644_0 := Aside0.mk hi644_0
          have HC644_0 := Aside0.mk hl644_0
          clear hi644_0 hl644_0
          have HR644_1 := Aside0.mk hi644_1
          have HC644_1 := Aside0.mk hl644_1
          clear hi644_1 hl644_1
          replace p644 := eq_true p644
          replace q644 := eq_true q644
          have ea_ := Option.some.inj (hx642_0.symm.trans hx644_0)
          injection ea_ with ea_ en_ ec_
          subst ea_
          subst ec_
          clear en_
          have ea_ := Option.some.inj (hx642_1.symm.trans hx644_1)
          injection ea_ with ea_ en_ ec_
          subst ea_
          subst ec_
          clear en_
          have p645 : 0 ≤ (x5_1 : Int) := oD (jA)
          have q645 : x5_1 < (l1.length : Int) := oD (jA)
          obtain ⟨ad645, A645_0, c645_0, A645_1, c645_1, e645, hx645_0, hx645_1, hx645_2, hl645_0, hi645_0, hl645_1, hi645_1⟩ := at_T45 HR1.out x5_1 p645 q645
          have hw645_2 := hx645_2
          have hw645_1 := hx645_1
          have hw645_0 := hx645_0
          obtain rfl : ad643 = ad645 := (by injection e645)
          replace hx645_0 := (HB.out.cell (bL w _ hx645_0)).trans hx645_0
          replace hx645_1 := (HB.out.cell (bL w _ hx645_1)).trans hx645_1
          replace hx645_2 := (HB.out.cell (bL w _ hx645_2)).trans hx645_2
          have HR645_0 := Aside0.mk hi645_0
          have HC645_0 := Aside0.mk hl645_0
          clear hi645_0 hl645_0
          have HR645_1 := Aside0.mk hi645_1
          have HC645_1 := Aside0.mk hl645_1
          clear hi645_1 hl645_1
          replace p645 := eq_true p645
          replace q645 := eq_true q645
          have ea_ := Option.some.inj (hx643_0.symm.trans hx645_0)
          injection ea_ with ea_ en_ ec_
          subst ea_
          subst ec_
          clear en_
          have ea_ := Option.some.inj (hx643_1.symm.trans hx645_1)
          injection ea_ with ea_ en_ ec_
          subst ea_
          subst ec_
          clear en_
          have p647 : 0 ≤ (x5_1 : Int) := oD (jA)
          have q647 : x5_1 < (l0.length : Int) := oD (jA)
          obtain ⟨ad647, A647_0, c647_0, A647_1, c647_1, e647, hx647_0, hx647_1, hx647_2, hl647_0, hi647_0, hl647_1, hi647_1⟩ := at_T45 HR0.out x5_1 p647 q647
          have hw647_2 := hx647_2
          have hw647_1 := hx647_1
          have hw647_0 := hx647_0
          obtain rfl : ad642 = ad647 := (by injection e647)
          replace hx647_0 := (HB.out.cell (bL w _ hx647_0)).trans hx647_0
          replace hx647_1 := (HB.out.cell (bL w _ hx647_1)).trans hx647_1
          replace hx647_2 := (HB.out.cell (bL w _ hx647_2)).trans hx647_2
          have HR647_0 := Aside0.mk hi647_0
          have HC647_0 := Aside0.mk hl647_0
          clear hi647_0 hl647_0
          have HR647_1 := Aside0.mk hi647_1
          have HC647_1 := Aside0.mk hl647_1
          clear hi647_1 hl647_1
          replace p647 := eq_true p647
          replace q647 := eq_true q647
          have ea_ := Option.some.inj (hx642_0.symm.trans hx647_0)
          injection ea_ with ea_ en_ ec_
          subst ea_
          subst ec_
          clear en_
          have ea_ := Option.some.inj (hx642_1.symm.trans hx647_1)
          injection ea_ with ea_ en_ ec_
          subst ea_
          subst ec_
          clear en_
          have p648 : 0 ≤ (x5_1 : Int) := oD (jA)
          have q648 : x5_1 < (l1.length : Int) := oD (jA)
          obtain ⟨ad648, A648_0, c648_0, A648_1, c648_1, e648, hx648_0, hx648_1, hx648_2, hl648_0, hi648_0, hl648_1, hi648_1⟩ := at_T45 HR1.out x5_1 p648 q648
          have hw648_2 := hx648_2
          have hw648_1 := hx648_1
          have hw648_0 := hx648_0
          obtain rfl : ad643 = ad648 := (by injection e648)
          replace hx648_0 := (HB.out.cell (bL w _ hx648_0)).trans hx648_0
          replace hx648_1 := (HB.out.cell (bL w _ hx648_1)).trans hx648_1
          replace hx648_2 := (HB.out.cell (bL w _ hx648_2)).trans hx648_2
          have HR648_0 := Aside0.mk hi648_0
          have HC648_0 := Aside0.mk hl648_0
          clear hi648_0 hl648_0
          have HR648_1 := Aside0.mk hi648_1
          have HC648_1 := Aside0.mk hl648_1
          clear hi648_1 hl648_1
          replace p648 := eq_true p648
          replace q648 := eq_true q648
          have ea_ := Option.some.inj (hx643_0.symm.trans hx648_0)
          injection ea_ with ea_ en_ ec_
          subst ea_
          subst ec_
          clear en_
          have ea_ := Option.some.inj (hx643_1.symm.trans hx648_1)
          injection ea_ with ea_ en_ ec_
          subst ea_
          subst ec_
          clear en_
          refine start_ (n := 39) (S := fun w' => w'.cell? (ad642.add ((x5_1).toNat * 3)) = some (.slice A642_0 ((rd_T45 l0 x5_1).f0).length c642_0) ∧ w'.cell? ⟨(ad642.add ((x5_1).toNat * 3)).block, (ad642.add ((x5_1).toNat * 3)).off + 1, none⟩ = some (.slice A642_1 ((rd_T45 l0 x5_1).f1).length c642_1) ∧ w'.cell? ⟨(ad642.add ((x5_1).toNat * 3)).block, (ad642.add ((x5_1).toNat * 3)).off + 2, none⟩ = some (.int .u32 ((rd_T45 l0 x5_1).f2)) ∧ w'.cell? (ad643.add ((x5_1).toNat * 3)) = some (.slice A643_0 ((rd_T45 l1 x5_1).f0).length c643_0) ∧ w'.cell? ⟨(ad643.add ((x5_1).toNat * 3)).block, (ad643.add ((x5_1).toNat * 3)).off + 1, none⟩ = some (.slice A643_1 ((rd_T45 l1 x5_1).f1).length c643_1) ∧ w'.cell? ⟨(ad643.add ((x5_1).toNat * 3)).block, (ad643.add ((x5_1).toNat * 3)).off + 2, none⟩ = some (.int .u32 ((rd_T45 l1 x5_1).f2)) ∧ w'.cell? (ad642.add ((x5_1).toNat * 3)) = some (.slice A642_0 ((rd_T45 l0 x5_1).f0).length c642_0) ∧ w'.cell? ⟨(ad642.add ((x5_1).toNat * 3)).block, (ad642.add ((x5_1).toNat * 3)).off + 1, none⟩ = some (.slice A642_1 ((rd_T45 l0 x5_1).f1).length c642_1) ∧ w'.cell? ⟨(ad642.add ((x5_1).toNat * 3)).block, (ad642.add ((x5_1).toNat * 3)).off + 2, none⟩ = some (.int .u32 ((rd_T45 l0 x5_1).f2)) ∧ w'.cell? (ad643.add ((x5_1).toNat * 3)) = some (.slice A643_0 ((rd_T45 l1 x5_1).f0).length c643_0) ∧ w'.cell? ⟨(ad643.add ((x5_1).toNat * 3)).block, (ad643.add ((x5_1).toNat * 3)).off + 1, none⟩ = some (.slice A643_1 ((rd_T45 l1 x5_1).f1).length c643_1) ∧ w'.cell? ⟨(ad643.add ((x5_1).toNat * 3)).block, (ad643.add ((x5_1).toNat * 3)).off + 2, none⟩ = some (.int .u32 ((rd_T45 l1 x5_1).f2)) ∧ w'.cell? (ad642.add ((x5_1).toNat * 3)) = some (.slice A642_0 ((rd_T45 l0 x5_1).f0).length c642_0) ∧ w'.cell? ⟨(ad642.add ((x5_1).toNat * 3)).block, (ad642.add ((x5_1).toNat * 3)).off + 1, none⟩ = some (.slice A642_1 ((rd_T45 l0 x5_1).f1).length c642_1) ∧ w'.cell? ⟨(ad642.add ((x5_1).toNat * 3)).block, (ad642.add ((x5_1).toNat * 3)).off + 2, none⟩ = some (.int .u32 ((rd_T45 l0 x5_1).f2)) ∧ w'.cell? (ad643.add ((x5_1).toNat * 3)) = some (.slice A643_0 ((rd_T45 l1 x5_1).f0).length c643_0) ∧ w'.cell? ⟨(ad643.add ((x5_1).toNat * 3)).block, (ad643.add ((x5_1).toNat * 3)).off + 1, none⟩ = some (.slice A643_1 ((rd_T45 l1 x5_1).f1).length c643_1) ∧ w'.cell? ⟨(ad643.add ((x5_1).toNat * 3)).block, (ad643.add ((x5_1).toNat * 3)).off + 2, none⟩ = some (.int .u32 ((rd_T45 l1 x5_1).f2))) (ds := []) #[false, false, false, false, false, false, false, false, false, false, false, false, false, false, false, false, false, false, false, false, false, false, false, false, false, false, false, false, false, false, false, false, false, false, false, false, false, false, false] (by kernel_rfl) rfl rfl ⟨((HB.out.cell (bL w _ hw642_0)).trans hw642_0), ((HB.out.cell (bL w _ hw642_1)).trans hw642_1), ((HB.out.cell (bL w _ hw642_2)).trans hw642_2), ((HB.out.cell (bL w _ hw643_0)).trans hw643_0), ((HB.out.cell (bL w _ hw643_1)).trans hw643_1), ((HB.out.cell (bL w _ hw643_2)).trans hw643_2), ((HB.out.cell (bL w _ hw644_0)).trans hw644_0), ((HB.out.cell (bL w _ hw644_1)).trans hw644_1), ((HB.out.cell (bL w _ hw644_2)).trans hw644_2), ((HB.out.cell (bL w _ hw645_0)).trans hw645_0), ((HB.out.cell (bL w _ hw645_1)).trans hw645_1), ((HB.out.cell (bL w _ hw645_2)).trans hw645_2), ((HB.out.cell (bL w _ hw647_0)).trans hw647_0), ((HB.out.cell (bL w _ hw647_1)).trans hw647_1), ((HB.out.cell (bL w _ hw647_2)).trans hw647_2), ((HB.out.cell (bL w _ hw648_0)).trans hw648_0), ((HB.out.cell (bL w _ hw648_1)).trans hw648_1), ((HB.out.cell (bL w _ hw648_2)).trans hw648_2)⟩ (fun hHeld => ?_); refine with_tabW r21_Same.tab6 r21_Same.bits6 (fun HT_ HW_ => ?_)
          generalize wr.drew = w12 at HB HR642_0 HR642_1 HR643_0 HR643_1 HR644_0 HR644_1 HR645_0 HR645_1 HR647_0 HR647_1 HR648_0 HR648_1 hx642_0 hx642_1 hx642_2 hx643_0 hx643_1 hx643_2 hx644_0 hx644_1 hx644_2 hx645_0 hx645_1 hx645_2 hx647_0 hx647_1 hx647_2 hx648_0 hx648_1 hx648_2 hHeld ⊢
          refine qP 0 17 (tB 39 1) ?_
          refine qP 1 18 (tB 39 3) ?_
          refine qP 2 19 (tB 39 7) ?_
          refine qP 3 20 (tB 39 15) ?_
          refine qP 5 22 (tB 39 47) ?_
          refine qP 6 23 (tB 39 111) ?_
          refine qP 7 24 (tB 39 239) ?_
          refine qP 8 25 (tB 39 495) ?_
          refine qT 4 21 (tB 39 511) hHeld ?_ (hv := by rintro w' ⟨s0, s1, s2, s3, s4, s5, s6, s7, s8, s9, s10, s11, s12, s13, s14, s15, s16, s17⟩; go_simp; with_reducible rfl)
          refine qT 9 26 (tB 39 1023) hHeld ?_ (hv := by rintro w' ⟨s0, s1, s2, s3, s4, s5, s6, s7, s8, s9, s10, s11, s12, s13, s14, s15, s16, s17⟩; go_simp; with_reducible rfl)
          refine qP 10 27 (tB 39 2047) ?_
          refine qP 11 28 (tB 39 4095) ?_
          refine qP 12 29 (tB 39 8191) ?_
          refine qP 13 30 (tB 39 16383) ?_
          refine qP 14 31 (tB 39 32767) ?_
          refine qP 15 32 (tB 39 65535) ?_
          refine qP 17 34 (tB 39 196607) ?_
          refine qP 18 35 (tB 39 458751) ?_
          refine qP 19 36 (tB 39 983039) ?_
          refine qP 20 37 (tB 39 2031615) ?_
          refine qT 16 33 (tB 39 2097151) hHeld ?_ (hv := by rintro w' ⟨s0, s1, s2, s3, s4, s5, s6, s7, s8, s9, s10, s11, s12, s13, s14, s15, s16, s17⟩; go_simp; with_reducible rfl)
          refine qT 21 38 (tB 39 4194303) hHeld ?_ (hv := by rintro w' ⟨s0, s1, s2, s3, s4, s5, s6, s7, s8, s9, s10, s11, s12, s13, s14, s15, s16, s17⟩; go_simp; with_reducible rfl)
          refine one_ (i := 22) (N := some 39) (tB 39 8388607) rfl rfl (one_of HT_.out (by kernel_rfl)) (by decide) (fun K hK => ?_)
          refine goes_ Tryd.func25 (by kernel_rfl) rfl #[.slice A642_0 ((rd_T45 l0 x5_1).f0).length c642_0, .slice A643_0 ((rd_T45 l1 x5_1).f0).length c643_0] (by rfl) rfl rfl jZ ?_
          with_reducible refine (r03_Same.calls k1 _ _ ((rd_T45 l0 x5_1).f0) _ _ ((rd_T45 l1 x5_1).f0) true _ ?side1 ?side2 ?side3 ?side4 A8.out).mono ?_
          (case side1 => exact jC (Kd.C_below HR644_0.out HB.out))
          (case side2 => exact HC644_0.out)
          (case side3 => exact jC (Kd.C_below HR645_0.out HB.out))
          (case side4 => exact HC645_0.out)
          rintro e w' ⟨rfl, ⟨nd, rfl⟩⟩
          refine ⟨_, rfl, ?_⟩
          refine hK.out _ _ ⟨((HB.out.cell (bL w _ hw642_0)).trans hw642_0), ((HB.out.cell (bL w _ hw642_1)).trans hw642_1), ((HB.out.cell (bL w _ hw642_2)).trans hw642_2), ((HB.out.cell (bL w _ hw643_0)).trans hw643_0), ((HB.out.cell (bL w _ hw643_1)).trans hw643_1), ((HB.out.cell (bL w _ hw643_2)).trans hw643_2), ((HB.out.cell (bL w _ hw644_0)).trans hw644_0), ((HB.out.cell (bL w _ hw644_1)).trans hw644_1), ((HB.out.cell (bL w _ hw644_2)).trans hw644_2), ((HB.out.cell (bL w _ hw645_0)).trans hw645_0), ((HB.out.cell (bL w _ hw645_1)).trans hw645_1), ((HB.out.cell (bL w _ hw645_2)).trans hw645_2), ((HB.out.cell (bL w _ hw647_0)).trans hw647_0), ((HB.out.cell (bL w _ hw647_1)).trans hw647_1), ((HB.out.cell (bL w _ hw647_2)).trans hw647_2), ((HB.out.cell (bL w _ hw648_0)).trans hw648_0), ((HB.out.cell (bL w _ hw648_1)).trans hw648_1), ((HB.out.cell (bL w _ hw648_2)).trans hw648_2)⟩ (fun hHeld => ?_)
          clear hK K
          refine qN 39 ?_
          refine qP 23 40 (tB 39 16777215) ?_
          refine qP 24 41 (tB 39 33554431) ?_
          refine qP 25 42 (tB 39 67108863) ?_
          refine qP 26 43 (tB 39 134217727) ?_
          refine qP 27 44 (tB 39 268435455) ?_
          refine qP 28 45 (tB 39 536870911) ?_
          refine qP 29 46 (tB 39 1073741823) ?_
          refine qP 31 48 (tB 39 3221225471) ?_
          refine qP 32 49 (tB 39 7516192767) ?_
          refine qP 33 50 (tB 39 16106127359) ?_
          refine qP 34 51 (tB 39 33285996543) ?_
          refine qT 30 47 (tB 39 34359738367) hHeld ?_ (hv := by rintro w' ⟨s0, s1, s2, s3, s4, s5, s6, s7, s8, s9, s10, s11, s12, s13, s14, s15, s16, s17⟩; go_simp; with_reducible rfl)
          refine qT 35 52 (tB 39 68719476735) hHeld ?_ (hv := by rintro w' ⟨s0, s1, s2, s3, s4, s5, s6, s7, s8, s9, s10, s11, s12, s13, s14, s15, s16, s17⟩; go_simp; with_reducible rfl)
          refine one_ (i := 36) (N := some 53) (tB 39 137438953471) rfl rfl (one_of HT_.out (by kernel_rfl)) (by decide) (fun K hK => ?_)
          refine goes_ Tryd.func25 (by kernel_rfl) rfl #[.slice A642_1 ((rd_T45 l0 x5_1).f1).length c642_1, .slice A643_1 ((rd_T45 l1 x5_1).f1).length c643_1] (by rfl) rfl rfl jZ ?_
          with_reducible refine (r03_Same.calls k1 _ _ ((rd_T45 l0 x5_1).f1) _ _ ((rd_T45 l1 x5_1).f1) true _ ?side1 ?side2 ?side3 ?side4 A10.out).mono ?_
          (case side1 => exact jC (Kd.C_below HR647_1.out (jH HB)))
          (case side2 => exact HC647_1.out)
          (case side3 => exact jC (Kd.C_below HR648_1.out (jH HB)))
          (case side4 => exact HC648_1.out)
          rintro e w' ⟨rfl, ⟨nd, rfl⟩⟩
          refine ⟨_, rfl, ?_⟩
          refine hK.out _ _ ⟨((HB.out.cell (bL w _ hw642_0)).trans hw642_0), ((HB.out.cell (bL w _ hw642_1)).trans hw642_1), ((HB.out.cell (bL w _ hw642_2)).trans hw642_2), ((HB.out.cell (bL w _ hw643_0)).trans hw643_0), ((HB.out.cell (bL w _ hw643_1)).trans hw643_1), ((HB.out.cell (bL w _ hw643_2)).trans hw643_2), ((HB.out.cell (bL w _ hw644_0)).trans hw644_0), ((HB.out.cell (bL w _ hw644_1)).trans hw644_1), ((HB.out.cell (bL w _ hw644_2)).trans hw644_2), ((HB.out.cell (bL w _ hw645_0)).trans hw645_0), ((HB.out.cell (bL w _ hw645_1)).trans hw645_1), ((HB.out.cell (bL w _ hw645_2)).trans hw645_2), ((HB.out.cell (bL w _ hw647_0)).trans hw647_0), ((HB.out.cell (bL w _ hw647_1)).trans hw647_1), ((HB.out.cell (bL w _ hw647_2)).trans hw647_2), ((HB.out.cell (bL w _ hw648_0)).trans hw648_0), ((HB.out.cell (bL w _ hw648_1)).trans hw648_1), ((HB.out.cell (bL w _ hw648_2)).trans hw648_2)⟩ (fun hHeld => ?_)
          clear hK K
          refine qN 53 ?_
          refine qP 37 54 (tB 39 274877906943) ?_
          refine qP 38 55 (tB 39 549755813887) ?_
          refine done_ (done_of HT_.out (by kernel_rfl)) ?_
          try go_wp2
          go_roundg k1
          case measure => have := HK1.out; omega
          case rel => exact ⟨(wrap64 (x5_1 + 1)), jS, H', ⟨by have := HK1.out; omega⟩, ⟨jH HB⟩⟩
         ·replace c11 := Bool.eq_false_iff.mpr c11
          subst c11
          rw [if_neg (show ¬ (false = true) by decide)] at H
          obtain rfl := Option.some.inj H
          try go_wp2
          replace HB := Aside0.mk (zD HB.out)
          have p642 : 0 ≤ (x5_1 : Int) := oD (jA)
          have q642 : x5_1 < (l0.length : Int) := oD (jA)
          obtain ⟨ad642, A642_0, c642_0, A642_1, c642_1, e642, hx642_0, hx642_1, hx642_2, hl642_0, hi642_0, hl642_1, hi642_1⟩ := at_T45 HR0.out x5_1 p642 q642
          have hw642_2 := hx642_2
          have hw642_1 := hx642_1
          have hw642_0 := hx642_0
          cases e642
          replace hx642_0 := (HB.out.cell (bL w _ hx642_0)).trans hx642_0
          replace hx642_1 := (HB.out.cell (bL w _ hx642_1)).trans hx642_1
          replace hx642_2 := (HB.out.cell (bL w _ hx642_2)).trans hx642_2
          have HR642_0 := Aside0.mk hi642_0
          have HC642_0 := Aside0.mk hl642_0
          clear hi642_0 hl642_0
          have HR642_1 := Aside0.mk hi642_1
          have HC642_1 := Aside0.mk hl642_1
          clear hi642_1 hl642_1
          replace p642 := eq_true p642
          replace q642 := eq_true q642
          have p643 : 0 ≤ (x5_1 : Int) := oD (jA)
          have q643 : x5_1 < (l1.length : Int) := oD (jA)
          obtain ⟨ad643, A643_0, c643_0, A643_1, c643_1, e643, hx643_0, hx643_1, hx643_2, hl643_0, hi643_0, hl643_1, hi643_1⟩ := at_T45 HR1.out x5_1 p643 q643
          have hw643_2 := hx643_2
          have hw643_1 := hx643_1
          have hw643_0 := hx643_0
          cases e643
          replace hx643_0 := (HB.out.cell (bL w _ hx643_0)).trans hx643_0
          replace hx643_1 := (HB.out.cell (bL w _ hx643_1)).trans hx643_1
          replace hx643_2 := (HB.out.cell (bL w _ hx643_2)).trans hx643_2
          have HR643_0 := Aside0.mk hi643_0
          have HC643_0 := Aside0.mk hl643_0
          clear hi643_0 hl643_0
          have HR643_1 := Aside0.mk hi643_1
          have HC643_1 := Aside0.mk hl643_1
          clear hi643_1 hl643_1
          replace p643 := eq_true p643
          replace q643 := eq_true q643
          have p644 : 0 ≤ (x5_1 : Int) := oD (jA)
          have q644 : x5_1 < (l0.length : Int) := oD (jA)
          obtain ⟨ad644, A644_0, c644_0, A644_1, c644_1, e644, hx644_0, hx644_1, hx644_2, hl644_0, hi644_0, hl644_1, hi644_1⟩ := at_T45 HR0.out x5_1 p644 q644
          have hw644_2 := hx644_2
          have hw644_1 := hx644_1
          have hw644_0 := hx644_0
          obtain rfl : ad642 = ad644 := (by injection e644)
          replace hx644_0 := (HB.out.cell (bL w _ hx644_0)).trans hx644_0
          replace hx644_1 := (HB.out.cell (bL w _ hx644_1)).trans hx644_1
          replace hx644_2 := (HB.out.cell (bL w _ hx644_2)).trans hx644_2
          have HR644_0 := Aside0.mk hi644_0
          have HC644_0 := Aside0.mk hl644_0
          clear hi644_0 hl644_0
          have HR644_1 := Aside0.mk hi644_1
          have HC644_1 := Aside0.mk hl644_1
          clear hi644_1 hl644_1
          replace p644 := eq_true p644
          replace q644 := eq_true q644
          have ea_ := Option.some.inj (hx642_0.symm.trans hx644_0)
          injection ea_ with ea_ en_ ec_
          subst ea_
          subst ec_
          clear en_
          have ea_ := Option.some.inj (hx642_1.symm.trans hx644_1)
          injection ea_ with ea_ en_ ec_
          subst ea_
          subst ec_
          clear en_
          have p645 : 0 ≤ (x5_1 : Int) := oD (jA)
          have q645 : x5_1 < (l1.length : Int) := oD (jA)
          obtain ⟨ad645, A645_0, c645_0, A645_1, c645_1, e645, hx645_0, hx645_1, hx645_2, hl645_0, hi645_0, hl645_1, hi645_1⟩ := at_T45 HR1.out x5_1 p645 q645
          have hw645_2 := hx645_2
          have hw645_1 := hx645_1
          have hw645_0 := hx645_0
          obtain rfl : ad643 = ad645 := (by injection e645)
          replace hx645_0 := (HB.out.cell (bL w _ hx645_0)).trans hx645_0
          replace hx645_1 := (HB.out.cell (bL w _ hx645_1)).trans hx645_1
          replace hx645_2 := (HB.out.cell (bL w _ hx645_2)).trans hx645_2
          have HR645_0 := Aside0.mk hi645_0
          have HC645_0 := Aside0.mk hl645_0
          clear hi645_0 hl645_0
          have HR645_1 := Aside0.mk hi645_1
          have HC645_1 := Aside0.mk hl645_1
          clear hi645_1 hl645_1
          replace p645 := eq_true p645
          replace q645 := eq_true q645
          have ea_ := Option.some.inj (hx643_0.symm.trans hx645_0)
          injection ea_ with ea_ en_ ec_
          subst ea_
          subst ec_
          clear en_
          have ea_ := Option.some.inj (hx643_1.symm.trans hx645_1)
          injection ea_ with ea_ en_ ec_
          subst ea_
          subst ec_
          clear en_
          have p647 : 0 ≤ (x5_1 : Int) := oD (jA)
          have q647 : x5_1 < (l0.length : Int) := oD (jA)
          obtain ⟨ad647, A647_0, c647_0, A647_1, c647_1, e647, hx647_0, hx647_1, hx647_2, hl647_0, hi647_0, hl647_1, hi647_1⟩ := at_T45 HR0.out x5_1 p647 q647
          have hw647_2 := hx647_2
          have hw647_1 := hx647_1
          have hw647_0 := hx647_0
          obtain rfl : ad642 = ad647 := (by injection e647)
          replace hx647_0 := (HB.out.cell (bL w _ hx647_0)).trans hx647_0
          replace hx647_1 := (HB.out.cell (bL w _ hx647_1)).trans hx647_1
          replace hx647_2 := (HB.out.cell (bL w _ hx647_2)).trans hx647_2
          have HR647_0 := Aside0.mk hi647_0
          have HC647_0 := Aside0.mk hl647_0
          clear hi647_0 hl647_0
          have HR647_1 := Aside0.mk hi647_1
          have HC647_1 := Aside0.mk hl647_1
          clear hi647_1 hl647_1
          replace p647 := eq_true p647
          replace q647 := eq_true q647
          have ea_ := Option.some.inj (hx642_0.symm.trans hx647_0)
          injection ea_ with ea_ en_ ec_
          subst ea_
          subst ec_
          clear en_
          have ea_ := Option.some.inj (hx642_1.symm.trans hx647_1)
          injection ea_ with ea_ en_ ec_
          subst ea_
          subst ec_
          clear en_
          have p648 : 0 ≤ (x5_1 : Int) := oD (jA)
          have q648 : x5_1 < (l1.length : Int) := oD (jA)
          obtain ⟨ad648, A648_0, c648_0, A648_1, c648_1, e648, hx648_0, hx648_1, hx648_2, hl648_0, hi648_0, hl648_1, hi648_1⟩ := at_T45 HR1.out x5_1 p648 q648
          have hw648_2 := hx648_2
          have hw648_1 := hx648_1
          have hw648_0 := hx648_0
          obtain rfl : ad643 = ad648 := (by injection e648)
          replace hx648_0 := (HB.out.cell (bL w _ hx648_0)).trans hx648_0
          replace hx648_1 := (HB.out.cell (bL w _ hx648_1)).trans hx648_1
          replace hx648_2 := (HB.out.cell (bL w _ hx648_2)).trans hx648_2
          have HR648_0 := Aside0.mk hi648_0
          have HC648_0 := Aside0.mk hl648_0
          clear hi648_0 hl648_0
          have HR648_1 := Aside0.mk hi648_1
          have HC648_1 := Aside0.mk hl648_1
          clear hi648_1 hl648_1
          replace p648 := eq_true p648
          replace q648 := eq_true q648
          have ea_ := Option.some.inj (hx643_0.symm.trans hx648_0)
          injection ea_ with ea_ en_ ec_
          subst ea_
          subst ec_
          clear en_
          have ea_ := Option.some.inj (hx643_1.symm.trans hx648_1)
          injection ea_ with ea_ en_ ec_
          subst ea_
          subst ec_
          clear en_
          refine start_ (n := 39) (S := fun w' => w'.cell? (ad642.add ((x5_1).toNat * 3)) = some (.slice A642_0 ((rd_T45 l0 x5_1).f0).length c642_0) ∧ w'.cell? ⟨(ad642.add ((x5_1).toNat * 3)).block, (ad642.add ((x5_1).toNat * 3)).off + 1, none⟩ = some (.slice A642_1 ((rd_T45 l0 x5_1).f1).length c642_1) ∧ w'.cell? ⟨(ad642.add ((x5_1).toNat * 3)).block, (ad642.add ((x5_1).toNat * 3)).off + 2, none⟩ = some (.int .u32 ((rd_T45 l0 x5_1).f2)) ∧ w'.cell? (ad643.add ((x5_1).toNat * 3)) = some (.slice A643_0 ((rd_T45 l1 x5_1).f0).length c643_0) ∧ w'.cell? ⟨(ad643.add ((x5_1).toNat * 3)).block, (ad643.add ((x5_1).toNat * 3)).off + 1, none⟩ = some (.slice A643_1 ((rd_T45 l1 x5_1).f1).length c643_1) ∧ w'.cell? ⟨(ad643.add ((x5_1).toNat * 3)).block, (ad643.add ((x5_1).toNat * 3)).off + 2, none⟩ = some (.int .u32 ((rd_T45 l1 x5_1).f2)) ∧ w'.cell? (ad642.add ((x5_1).toNat * 3)) = some (.slice A642_0 ((rd_T45 l0 x5_1).f0).length c642_0) ∧ w'.cell? ⟨(ad642.add ((x5_1).toNat * 3)).block, (ad642.add ((x5_1).toNat * 3)).off + 1, none⟩ = some (.slice A642_1 ((rd_T45 l0 x5_1).f1).length c642_1) ∧ w'.cell? ⟨(ad642.add ((x5_1).toNat * 3)).block, (ad642.add ((x5_1).toNat * 3)).off + 2, none⟩ = some (.int .u32 ((rd_T45 l0 x5_1).f2)) ∧ w'.cell? (ad643.add ((x5_1).toNat * 3)) = some (.slice A643_0 ((rd_T45 l1 x5_1).f0).length c643_0) ∧ w'.cell? ⟨(ad643.add ((x5_1).toNat * 3)).block, (ad643.add ((x5_1).toNat * 3)).off + 1, none⟩ = some (.slice A643_1 ((rd_T45 l1 x5_1).f1).length c643_1) ∧ w'.cell? ⟨(ad643.add ((x5_1).toNat * 3)).block, (ad643.add ((x5_1).toNat * 3)).off + 2, none⟩ = some (.int .u32 ((rd_T45 l1 x5_1).f2)) ∧ w'.cell? (ad642.add ((x5_1).toNat * 3)) = some (.slice A642_0 ((rd_T45 l0 x5_1).f0).length c642_0) ∧ w'.cell? ⟨(ad642.add ((x5_1).toNat * 3)).block, (ad642.add ((x5_1).toNat * 3)).off + 1, none⟩ = some (.slice A642_1 ((rd_T45 l0 x5_1).f1).length c642_1) ∧ w'.cell? ⟨(ad642.add ((x5_1).toNat * 3)).block, (ad642.add ((x5_1).toNat * 3)).off + 2, none⟩ = some (.int .u32 ((rd_T45 l0 x5_1).f2)) ∧ w'.cell? (ad643.add ((x5_1).toNat * 3)) = some (.slice A643_0 ((rd_T45 l1 x5_1).f0).length c643_0) ∧ w'.cell? ⟨(ad643.add ((x5_1).toNat * 3)).block, (ad643.add ((x5_1).toNat * 3)).off + 1, none⟩ = some (.slice A643_1 ((rd_T45 l1 x5_1).f1).length c643_1) ∧ w'.cell? ⟨(ad643.add ((x5_1).toNat * 3)).block, (ad643.add ((x5_1).toNat * 3)).off + 2, none⟩ = some (.int .u32 ((rd_T45 l1 x5_1).f2))) (ds := []) #[false, false, false, false, false, false, false, false, false, false, false, false, false, false, false, false, false, false, false, false, false, false, false, false, false, false, false, false, false, false, false, false, false, false, false, false, false, false, false] (by kernel_rfl) rfl rfl ⟨((HB.out.cell (bL w _ hw642_0)).trans hw642_0), ((HB.out.cell (bL w _ hw642_1)).trans hw642_1), ((HB.out.cell (bL w _ hw642_2)).trans hw642_2), ((HB.out.cell (bL w _ hw643_0)).trans hw643_0), ((HB.out.cell (bL w _ hw643_1)).trans hw643_1), ((HB.out.cell (bL w _ hw643_2)).trans hw643_2), ((HB.out.cell (bL w _ hw644_0)).trans hw644_0), ((HB.out.cell (bL w _ hw644_1)).trans hw644_1), ((HB.out.cell (bL w _ hw644_2)).trans hw644_2), ((HB.out.cell (bL w _ hw645_0)).trans hw645_0), ((HB.out.cell (bL w _ hw645_1)).trans hw645_1), ((HB.out.cell (bL w _ hw645_2)).trans hw645_2), ((HB.out.cell (bL w _ hw647_0)).trans hw647_0), ((HB.out.cell (bL w _ hw647_1)).trans hw647_1), ((HB.out.cell (bL w _ hw647_2)).trans hw647_2), ((HB.out.cell (bL w _ hw648_0)).trans hw648_0), ((HB.out.cell (bL w _ hw648_1)).trans hw648_1), ((HB.out.cell (bL w _ hw648_2)).trans hw648_2)⟩ (fun hHeld => ?_); refine with_tabW r21_Same.tab6 r21_Same.bits6 (fun HT_ HW_ => ?_)
          generalize wr.drew = w13 at HB HR642_0 HR642_1 HR643_0 HR643_1 HR644_0 HR644_1 HR645_0 HR645_1 HR647_0 HR647_1 HR648_0 HR648_1 hx642_0 hx642_1 hx642_2 hx643_0 hx643_1 hx643_2 hx644_0 hx644_1 hx644_2 hx645_0 hx645_1 hx645_2 hx647_0 hx647_1 hx647_2 hx648_0 hx648_1 hx648_2 hHeld ⊢
          refine qP 0 17 (tB 39 1) ?_
          refine qP 1 18 (tB 39 3) ?_
          refine qP 2 19 (tB 39 7) ?_
          refine qP 3 20 (tB 39 15) ?_
          refine qP 5 22 (tB 39 47) ?_
          refine qP 6 23 (tB 39 111) ?_
          refine qP 7 24 (tB 39 239) ?_
          refine qP 8 25 (tB 39 495) ?_
          refine qT 4 21 (tB 39 511) hHeld ?_ (hv := by rintro w' ⟨s0, s1, s2, s3, s4, s5, s6, s7, s8, s9, s10, s11, s12, s13, s14, s15, s16, s17⟩; go_simp; with_reducible rfl)
          refine qT 9 26 (tB 39 1023) hHeld ?_ (hv := by rintro w' ⟨s0, s1, s2, s3, s4, s5, s6, s7, s8, s9, s10, s11, s12, s13, s14, s15, s16, s17⟩; go_simp; with_reducible rfl)
          refine qP 10 27 (tB 39 2047) ?_
          refine qP 11 28 (tB 39 4095) ?_
          refine qP 12 29 (tB 39 8191) ?_
          refine qP 13 30 (tB 39 16383) ?_
          refine qP 14 31 (tB 39 32767) ?_
          refine qP 15 32 (tB 39 65535) ?_
          refine qP 17 34 (tB 39 196607) ?_
          refine qP 18 35 (tB 39 458751) ?_
          refine qP 19 36 (tB 39 983039) ?_
          refine qP 20 37 (tB 39 2031615) ?_
          refine qT 16 33 (tB 39 2097151) hHeld ?_ (hv := by rintro w' ⟨s0, s1, s2, s3, s4, s5, s6, s7, s8, s9, s10, s11, s12, s13, s14, s15, s16, s17⟩; go_simp; with_reducible rfl)
          refine qT 21 38 (tB 39 4194303) hHeld ?_ (hv := by rintro w' ⟨s0, s1, s2, s3, s4, s5, s6, s7, s8, s9, s10, s11, s12, s13, s14, s15, s16, s17⟩; go_simp; with_reducible rfl)
          refine one_ (i := 22) (N := some 39) (tB 39 8388607) rfl rfl (one_of HT_.out (by kernel_rfl)) (by decide) (fun K hK => ?_)
          refine goes_ Tryd.func25 (by kernel_rfl) rfl #[.slice A642_0 ((rd_T45 l0 x5_1).f0).length c642_0, .slice A643_0 ((rd_T45 l1 x5_1).f0).length c643_0] (by rfl) rfl rfl jZ ?_
          with_reducible refine (r03_Same.calls k1 _ _ ((rd_T45 l0 x5_1).f0) _ _ ((rd_T45 l1 x5_1).f0) true _ ?side1 ?side2 ?side3 ?side4 A8.out).mono ?_
          (case side1 => exact jC (Kd.C_below HR644_0.out HB.out))
          (case side2 => exact HC644_0.out)
          (case side3 => exact jC (Kd.C_below HR645_0.out HB.out))
          (case side4 => exact HC645_0.out)
          rintro e w' ⟨rfl, ⟨nd, rfl⟩⟩
          refine ⟨_, rfl, ?_⟩
          refine hK.out _ _ ⟨((HB.out.cell (bL w _ hw642_0)).trans hw642_0), ((HB.out.cell (bL w _ hw642_1)).trans hw642_1), ((HB.out.cell (bL w _ hw642_2)).trans hw642_2), ((HB.out.cell (bL w _ hw643_0)).trans hw643_0), ((HB.out.cell (bL w _ hw643_1)).trans hw643_1), ((HB.out.cell (bL w _ hw643_2)).trans hw643_2), ((HB.out.cell (bL w _ hw644_0)).trans hw644_0), ((HB.out.cell (bL w _ hw644_1)).trans hw644_1), ((HB.out.cell (bL w _ hw644_2)).trans hw644_2), ((HB.out.cell (bL w _ hw645_0)).trans hw645_0), ((HB.out.cell (bL w _ hw645_1)).trans hw645_1), ((HB.out.cell (bL w _ hw645_2)).trans hw645_2), ((HB.out.cell (bL w _ hw647_0)).trans hw647_0), ((HB.out.cell (bL w _ hw647_1)).trans hw647_1), ((HB.out.cell (bL w _ hw647_2)).trans hw647_2), ((HB.out.cell (bL w _ hw648_0)).trans hw648_0), ((HB.out.cell (bL w _ hw648_1)).trans hw648_1), ((HB.out.cell (bL w _ hw648_2)).trans hw648_2)⟩ (fun hHeld => ?_)
          clear hK K
          refine qN 39 ?_
          refine qP 23 40 (tB 39 16777215) ?_
          refine qP 24 41 (tB 39 33554431) ?_
          refine qP 25 42 (tB 39 67108863) ?_
          refine qP 26 43 (tB 39 134217727) ?_
          refine qP 27 44 (tB 39 268435455) ?_
          refine qP 28 45 (tB 39 536870911) ?_
          refine qP 29 46 (tB 39 1073741823) ?_
          refine qP 31 48 (tB 39 3221225471) ?_
          refine qP 32 49 (tB 39 7516192767) ?_
          refine qP 33 50 (tB 39 16106127359) ?_
          refine qP 34 51 (tB 39 33285996543) ?_
          refine qT 30 47 (tB 39 34359738367) hHeld ?_ (hv := by rintro w' ⟨s0, s1, s2, s3, s4, s5, s6, s7, s8, s9, s10, s11, s12, s13, s14, s15, s16, s17⟩; go_simp; with_reducible rfl)
          refine qT 35 52 (tB 39 68719476735) hHeld ?_ (hv := by rintro w' ⟨s0, s1, s2, s3, s4, s5, s6, s7, s8, s9, s10, s11, s12, s13, s14, s15, s16, s17⟩; go_simp; with_reducible rfl)
          refine one_ (i := 36) (N := some 53) (tB 39 137438953471) rfl rfl (one_of HT_.out (by kernel_rfl)) (by decide) (fun K hK => ?_)
          refine goes_ Tryd.func25 (by kernel_rfl) rfl #[.slice A642_1 ((rd_T45 l0 x5_1).f1).length c642_1, .slice A643_1 ((rd_T45 l1 x5_1).f1).length c643_1] (by rfl) rfl rfl jZ ?_
          with_reducible refine (r03_Same.calls k1 _ _ ((rd_T45 l0 x5_1).f1) _ _ ((rd_T45 l1 x5_1).f1) false _ ?side1 ?side2 ?side3 ?side4 A10.out).mono ?_
          (case side1 => exact jC (Kd.C_below HR647_1.out (jH HB)))
          (case side2 => exact HC647_1.out)
          (case side3 => exact jC (Kd.C_below HR648_1.out (jH HB)))
          (case side4 => exact HC648_1.out)
          rintro e w' ⟨rfl, ⟨nd, rfl⟩⟩
          refine ⟨_, rfl, ?_⟩
          refine hK.out _ _ ⟨((HB.out.cell (bL w _ hw642_0)).trans hw642_0), ((HB.out.cell (bL w _ hw642_1)).trans hw642_1), ((HB.out.cell (bL w _ hw642_2)).trans hw642_2), ((HB.out.cell (bL w _ hw643_0)).trans hw643_0), ((HB.out.cell (bL w _ hw643_1)).trans hw643_1), ((HB.out.cell (bL w _ hw643_2)).trans hw643_2), ((HB.out.cell (bL w _ hw644_0)).trans hw644_0), ((HB.out.cell (bL w _ hw644_1)).trans hw644_1), ((HB.out.cell (bL w _ hw644_2)).trans hw644_2), ((HB.out.cell (bL w _ hw645_0)).trans hw645_0), ((HB.out.cell (bL w _ hw645_1)).trans hw645_1), ((HB.out.cell (bL w _ hw645_2)).trans hw645_2), ((HB.out.cell (bL w _ hw647_0)).trans hw647_0), ((HB.out.cell (bL w _ hw647_1)).trans hw647_1), ((HB.out.cell (bL w _ hw647_2)).trans hw647_2), ((HB.out.cell (bL w _ hw648_0)).trans hw648_0), ((HB.out.cell (bL w _ hw648_1)).trans hw648_1), ((HB.out.cell (bL w _ hw648_2)).trans hw648_2)⟩ (fun hHeld => ?_)
          clear hK K
          refine qN 53 ?_
          refine qP 37 54 (tB 39 274877906943) ?_
          refine qP 38 55 (tB 39 549755813887) ?_
          refine done_ (done_of HT_.out (by kernel_rfl)) ?_
          try go_wp2
          go_ret
          exact ⟨jE, jH HB⟩
        ·replace c9 := Bool.eq_false_iff.mpr c9
         subst c9
         rw [if_neg (show ¬ (false = true) by decide)] at H
         obtain rfl := Option.some.inj H
         try go_wp2
         replace HB := Aside0.mk (zD HB.out)
         have p642 : 0 ≤ (x5_1 : Int) := oD (jA)
         have q642 : x5_1 < (l0.length : Int) := oD (jA)
         obtain ⟨ad642, A642_0, c642_0, A642_1, c642_1, e642, hx642_0, hx642_1, hx642_2, hl642_0, hi642_0, hl642_1, hi642_1⟩ := at_T45 HR0.out x5_1 p642 q642
         have hw642_2 := hx642_2
         have hw642_1 := hx642_1
         have hw642_0 := hx642_0
         cases e642
         replace hx642_0 := (HB.out.cell (bL w _ hx642_0)).trans hx642_0
         replace hx642_1 := (HB.out.cell (bL w _ hx642_1)).trans hx642_1
         replace hx642_2 := (HB.out.cell (bL w _ hx642_2)).trans hx642_2
         have HR642_0 := Aside0.mk hi642_0
         have HC642_0 := Aside0.mk hl642_0
         clear hi642_0 hl642_0
         have HR642_1 := Aside0.mk hi642_1
         have HC642_1 := Aside0.mk hl642_1
         clear hi642_1 hl642_1
         replace p642 := eq_true p642
         replace q642 := eq_true q642
         have p643 : 0 ≤ (x5_1 : Int) := oD (jA)
         have q643 : x5_1 < (l1.length : Int) := oD (jA)
         obtain ⟨ad643, A643_0, c643_0, A643_1, c643_1, e643, hx643_0, hx643_1, hx643_2, hl643_0, hi643_0, hl643_1, hi643_1⟩ := at_T45 HR1.out x5_1 p643 q643
         have hw643_2 := hx643_2
         have hw643_1 := hx643_1
         have hw643_0 := hx643_0
         cases e643
         replace hx643_0 := (HB.out.cell (bL w _ hx643_0)).trans hx643_0
         replace hx643_1 := (HB.out.cell (bL w _ hx643_1)).trans hx643_1
         replace hx643_2 := (HB.out.cell (bL w _ hx643_2)).trans hx643_2
         have HR643_0 := Aside0.mk hi643_0
         have HC643_0 := Aside0.mk hl643_0
         clear hi643_0 hl643_0
         have HR643_1 := Aside0.mk hi643_1
         have HC643_1 := Aside0.mk hl643_1
         clear hi643_1 hl643_1
         replace p643 := eq_true p643
         replace q643 := eq_true q643
         have p644 : 0 ≤ (x5_1 : Int) := oD (jA)
         have q644 : x5_1 < (l0.length : Int) := oD (jA)
         obtain ⟨ad644, A644_0, c644_0, A644_1, c644_1, e644, hx644_0, hx644_1, hx644_2, hl644_0, hi644_0, hl644_1, hi644_1⟩ := at_T45 HR0.out x5_1 p644 q644
         have hw644_2 := hx644_2
         have hw644_1 := hx644_1
         have hw644_0 := hx644_0
         obtain rfl : ad642 = ad644 := (by injection e644)
         replace hx644_0 := (HB.out.cell (bL w _ hx644_0)).trans hx644_0
         replace hx644_1 := (HB.out.cell (bL w _ hx644_1)).trans hx644_1
         replace hx644_2 := (HB.out.cell (bL w _ hx644_2)).trans hx644_2
         have HR644_0 := Aside0.mk hi644_0
         have HC644_0 := Aside0.mk hl644_0
         clear hi644_0 hl644_0
         have HR644_1 := Aside0.mk hi644_1
         have HC644_1 := Aside0.mk hl644_1
         clear hi644_1 hl644_1
         replace p644 := eq_true p644
         replace q644 := eq_true q644
         have ea_ := Option.some.inj (hx642_0.symm.trans hx644_0)
         injection ea_ with ea_ en_ ec_
         subst ea_
         subst ec_
         clear en_
         have ea_ := Option.some.inj (hx642_1.symm.trans hx644_1)
         injection ea_ with ea_ en_ ec_
         subst ea_
         subst ec_
         clear en_
         have p645 : 0 ≤ (x5_1 : Int) := oD (jA)
         have q645 : x5_1 < (l1.length : Int) := oD (jA)
         obtain ⟨ad645, A645_0, c645_0, A645_1, c645_1, e645, hx645_0, hx645_1, hx645_2, hl645_0, hi645_0, hl645_1, hi645_1⟩ := at_T45 HR1.out x5_1 p645 q645
         have hw645_2 := hx645_2
         have hw645_1 := hx645_1
         have hw645_0 := hx645_0
         obtain rfl : ad643 = ad645 := (by injection e645)
         replace hx645_0 := (HB.out.cell (bL w _ hx645_0)).trans hx645_0
         replace hx645_1 := (HB.out.cell (bL w _ hx645_1)).trans hx645_1
         replace hx645_2 := (HB.out.cell (bL w _ hx645_2)).trans hx645_2
         have HR645_0 := Aside0.mk hi645_0
         have HC645_0 := Aside0.mk hl645_0
         clear hi645_0 hl645_0
         have HR645_1 := Aside0.mk hi645_1
         have HC645_1 := Aside0.mk hl645_1
         clear hi645_1 hl645_1
         replace p645 := eq_true p645
         replace q645 := eq_true q645
         have ea_ := Option.some.inj (hx643_0.symm.trans hx645_0)
         injection ea_ with ea_ en_ ec_
         subst ea_
         subst ec_
         clear en_
         have ea_ := Option.some.inj (hx643_1.symm.trans hx645_1)
         injection ea_ with ea_ en_ ec_
         subst ea_
         subst ec_
         clear en_
         refine start_ (n := 39) (S := fun w' => w'.cell? (ad642.add ((x5_1).toNat * 3)) = some (.slice A642_0 ((rd_T45 l0 x5_1).f0).length c642_0) ∧ w'.cell? ⟨(ad642.add ((x5_1).toNat * 3)).block, (ad642.add ((x5_1).toNat * 3)).off + 1, none⟩ = some (.slice A642_1 ((rd_T45 l0 x5_1).f1).length c642_1) ∧ w'.cell? ⟨(ad642.add ((x5_1).toNat * 3)).block, (ad642.add ((x5_1).toNat * 3)).off + 2, none⟩ = some (.int .u32 ((rd_T45 l0 x5_1).f2)) ∧ w'.cell? (ad643.add ((x5_1).toNat * 3)) = some (.slice A643_0 ((rd_T45 l1 x5_1).f0).length c643_0) ∧ w'.cell? ⟨(ad643.add ((x5_1).toNat * 3)).block, (ad643.add ((x5_1).toNat * 3)).off + 1, none⟩ = some (.slice A643_1 ((rd_T45 l1 x5_1).f1).length c643_1) ∧ w'.cell? ⟨(ad643.add ((x5_1).toNat * 3)).block, (ad643.add ((x5_1).toNat * 3)).off + 2, none⟩ = some (.int .u32 ((rd_T45 l1 x5_1).f2)) ∧ w'.cell? (ad642.add ((x5_1).toNat * 3)) = some (.slice A642_0 ((rd_T45 l0 x5_1).f0).length c642_0) ∧ w'.cell? ⟨(ad642.add ((x5_1).toNat * 3)).block, (ad642.add ((x5_1).toNat * 3)).off + 1, none⟩ = some (.slice A642_1 ((rd_T45 l0 x5_1).f1).length c642_1) ∧ w'.cell? ⟨(ad642.add ((x5_1).toNat * 3)).block, (ad642.add ((x5_1).toNat * 3)).off + 2, none⟩ = some (.int .u32 ((rd_T45 l0 x5_1).f2)) ∧ w'.cell? (ad643.add ((x5_1).toNat * 3)) = some (.slice A643_0 ((rd_T45 l1 x5_1).f0).length c643_0) ∧ w'.cell? ⟨(ad643.add ((x5_1).toNat * 3)).block, (ad643.add ((x5_1).toNat * 3)).off + 1, none⟩ = some (.slice A643_1 ((rd_T45 l1 x5_1).f1).length c643_1) ∧ w'.cell? ⟨(ad643.add ((x5_1).toNat * 3)).block, (ad643.add ((x5_1).toNat * 3)).off + 2, none⟩ = some (.int .u32 ((rd_T45 l1 x5_1).f2))) (ds := []) #[false, false, false, false, false, false, false, false, false, false, false, false, false, false, false, false, false, false, false, false, false, false, false, false, false, false, false, false, false, false, false, false, false, false, false, false, false, false, false] (by kernel_rfl) rfl rfl ⟨((HB.out.cell (bL w _ hw642_0)).trans hw642_0), ((HB.out.cell (bL w _ hw642_1)).trans hw642_1), ((HB.out.cell (bL w _ hw642_2)).trans hw642_2), ((HB.out.cell (bL w _ hw643_0)).trans hw643_0), ((HB.out.cell (bL w _ hw643_1)).trans hw643_1), ((HB.out.cell (bL w _ hw643_2)).trans hw643_2), ((HB.out.cell (bL w _ hw644_0)).trans hw644_0), ((HB.out.cell (bL w _ hw644_1)).trans hw644_1), ((HB.out.cell (bL w _ hw644_2)).trans hw644_2), ((HB.out.cell (bL w _ hw645_0)).trans hw645_0), ((HB.out.cell (bL w _ hw645_1)).trans hw645_1), ((HB.out.cell (bL w _ hw645_2)).trans hw645_2)⟩ (fun hHeld => ?_); refine with_tabW r21_Same.tab6 r21_Same.bits6 (fun HT_ HW_ => ?_)
         generalize wr.drew = w14 at HB HR642_0 HR642_1 HR643_0 HR643_1 HR644_0 HR644_1 HR645_0 HR645_1 hx642_0 hx642_1 hx642_2 hx643_0 hx643_1 hx643_2 hx644_0 hx644_1 hx644_2 hx645_0 hx645_1 hx645_2 hHeld ⊢
         refine qP 0 17 (tB 39 1) ?_
         refine qP 1 18 (tB 39 3) ?_
         refine qP 2 19 (tB 39 7) ?_
         refine qP 3 20 (tB 39 15) ?_
         refine qP 5 22 (tB 39 47) ?_
         refine qP 6 23 (tB 39 111) ?_
         refine qP 7 24 (tB 39 239) ?_
         refine qP 8 25 (tB 39 495) ?_
         refine qT 4 21 (tB 39 511) hHeld ?_ (hv := by rintro w' ⟨s0, s1, s2, s3, s4, s5, s6, s7, s8, s9, s10, s11⟩; go_simp; with_reducible rfl)
         refine qT 9 26 (tB 39 1023) hHeld ?_ (hv := by rintro w' ⟨s0, s1, s2, s3, s4, s5, s6, s7, s8, s9, s10, s11⟩; go_simp; with_reducible rfl)
         refine qP 10 27 (tB 39 2047) ?_
         refine qP 11 28 (tB 39 4095) ?_
         refine qP 12 29 (tB 39 8191) ?_
         refine qP 13 30 (tB 39 16383) ?_
         refine qP 14 31 (tB 39 32767) ?_
         refine qP 15 32 (tB 39 65535) ?_
         refine qP 17 34 (tB 39 196607) ?_
         refine qP 18 35 (tB 39 458751) ?_
         refine qP 19 36 (tB 39 983039) ?_
         refine qP 20 37 (tB 39 2031615) ?_
         refine qT 16 33 (tB 39 2097151) hHeld ?_ (hv := by rintro w' ⟨s0, s1, s2, s3, s4, s5, s6, s7, s8, s9, s10, s11⟩; go_simp; with_reducible rfl)
         refine qT 21 38 (tB 39 4194303) hHeld ?_ (hv := by rintro w' ⟨s0, s1, s2, s3, s4, s5, s6, s7, s8, s9, s10, s11⟩; go_simp; with_reducible rfl)
         refine one_ (i := 22) (N := some 39) (tB 39 8388607) rfl rfl (one_of HT_.out (by kernel_rfl)) (by decide) (fun K hK => ?_)
         refine goes_ Tryd.func25 (by kernel_rfl) rfl #[.slice A642_0 ((rd_T45 l0 x5_1).f0).length c642_0, .slice A643_0 ((rd_T45 l1 x5_1).f0).length c643_0] (by rfl) rfl rfl jZ ?_
         with_reducible refine (r03_Same.calls k1 _ _ ((rd_T45 l0 x5_1).f0) _ _ ((rd_T45 l1 x5_1).f0) false _ ?side1 ?side2 ?side3 ?side4 A8.out).mono ?_
         (case side1 => exact jC (Kd.C_below HR644_0.out HB.out))
         (case side2 => exact HC644_0.out)
         (case side3 => exact jC (Kd.C_below HR645_0.out HB.out))
         (case side4 => exact HC645_0.out)
         rintro e w' ⟨rfl, ⟨nd, rfl⟩⟩
         refine ⟨_, rfl, ?_⟩
         refine hK.out _ _ ⟨((HB.out.cell (bL w _ hw642_0)).trans hw642_0), ((HB.out.cell (bL w _ hw642_1)).trans hw642_1), ((HB.out.cell (bL w _ hw642_2)).trans hw642_2), ((HB.out.cell (bL w _ hw643_0)).trans hw643_0), ((HB.out.cell (bL w _ hw643_1)).trans hw643_1), ((HB.out.cell (bL w _ hw643_2)).trans hw643_2), ((HB.out.cell (bL w _ hw644_0)).trans hw644_0), ((HB.out.cell (bL w _ hw644_1)).trans hw644_1), ((HB.out.cell (bL w _ hw644_2)).trans hw644_2), ((HB.out.cell (bL w _ hw645_0)).trans hw645_0), ((HB.out.cell (bL w _ hw645_1)).trans hw645_1), ((HB.out.cell (bL w _ hw645_2)).trans hw645_2)⟩ (fun hHeld => ?_)
         clear hK K
         refine qN 39 ?_
         refine qP 23 40 (tB 39 16777215) ?_
         refine qP 24 41 (tB 39 33554431) ?_
         refine qP 25 42 (tB 39 67108863) ?_
         refine qU 26 43 (tB 39 134217727) ?_
         refine qU 27 44 (tB 39 268435455) ?_
         refine qU 28 45 (tB 39 536870911) ?_
         refine qU 29 46 (tB 39 1073741823) ?_
         refine qU 30 47 (tB 39 2147483647) ?_
         refine qU 31 48 (tB 39 4294967295) ?_
         refine qU 32 49 (tB 39 8589934591) ?_
         refine qU 33 50 (tB 39 17179869183) ?_
         refine qU 34 51 (tB 39 34359738367) ?_
         refine qU 35 52 (tB 39 68719476735) ?_
         refine qU 36 53 (tB 39 137438953471) ?_
         refine qU 37 54 (tB 39 274877906943) ?_
         refine qP 38 55 (tB 39 549755813887) ?_
         refine done_ (done_of HT_.out (by kernel_rfl)) ?_
         try go_wp2
         go_ret
         exact ⟨jE, jH HB⟩
       ·rw [if_neg c7] at H
        have c7b0 : (((rd_T45 l0 x5_1).f2) == ((rd_T45 l1 x5_1).f2)) = false := bF.mpr c7
        have c7b1 : (((rd_T45 l0 x5_1).f2) != ((rd_T45 l1 x5_1).f2)) = true := nI.mpr c7
        obtain rfl := Option.some.inj H
        try go_wp2
        replace HB := Aside0.mk (zD HB.out)
        have p642 : 0 ≤ (x5_1 : Int) := oD (jA)
        have q642 : x5_1 < (l0.length : Int) := oD (jA)
        obtain ⟨ad642, A642_0, c642_0, A642_1, c642_1, e642, hx642_0, hx642_1, hx642_2, hl642_0, hi642_0, hl642_1, hi642_1⟩ := at_T45 HR0.out x5_1 p642 q642
        have hw642_2 := hx642_2
        have hw642_1 := hx642_1
        have hw642_0 := hx642_0
        cases e642
        replace hx642_0 := (HB.out.cell (bL w _ hx642_0)).trans hx642_0
        replace hx642_1 := (HB.out.cell (bL w _ hx642_1)).trans hx642_1
        replace hx642_2 := (HB.out.cell (bL w _ hx642_2)).trans hx642_2
        have HR642_0 := Aside0.mk hi642_0
        have HC642_0 := Aside0.mk hl642_0
        clear hi642_0 hl642_0
        have HR642_1 := Aside0.mk hi642_1
        have HC642_1 := Aside0.mk hl642_1
        clear hi642_1 hl642_1
        replace p642 := eq_true p642
        replace q642 := eq_true q642
        have p643 : 0 ≤ (x5_1 : Int) := oD (jA)
        have q643 : x5_1 < (l1.length : Int) := oD (jA)
        obtain ⟨ad643, A643_0, c643_0, A643_1, c643_1, e643, hx643_0, hx643_1, hx643_2, hl643_0, hi643_0, hl643_1, hi643_1⟩ := at_T45 HR1.out x5_1 p643 q643
        have hw643_2 := hx643_2
        have hw643_1 := hx643_1
        have hw643_0 := hx643_0
        cases e643
        replace hx643_0 := (HB.out.cell (bL w _ hx643_0)).trans hx643_0
        replace hx643_1 := (HB.out.cell (bL w _ hx643_1)).trans hx643_1
        replace hx643_2 := (HB.out.cell (bL w _ hx643_2)).trans hx643_2
        have HR643_0 := Aside0.mk hi643_0
        have HC643_0 := Aside0.mk hl643_0
        clear hi643_0 hl643_0
        have HR643_1 := Aside0.mk hi643_1
        have HC643_1 := Aside0.mk hl643_1
        clear hi643_1 hl643_1
        replace p643 := eq_true p643
        replace q643 := eq_true q643
        refine start_ (n := 39) (S := fun w' => w'.cell? (ad642.add ((x5_1).toNat * 3)) = some (.slice A642_0 ((rd_T45 l0 x5_1).f0).length c642_0) ∧ w'.cell? ⟨(ad642.add ((x5_1).toNat * 3)).block, (ad642.add ((x5_1).toNat * 3)).off + 1, none⟩ = some (.slice A642_1 ((rd_T45 l0 x5_1).f1).length c642_1) ∧ w'.cell? ⟨(ad642.add ((x5_1).toNat * 3)).block, (ad642.add ((x5_1).toNat * 3)).off + 2, none⟩ = some (.int .u32 ((rd_T45 l0 x5_1).f2)) ∧ w'.cell? (ad643.add ((x5_1).toNat * 3)) = some (.slice A643_0 ((rd_T45 l1 x5_1).f0).length c643_0) ∧ w'.cell? ⟨(ad643.add ((x5_1).toNat * 3)).block, (ad643.add ((x5_1).toNat * 3)).off + 1, none⟩ = some (.slice A643_1 ((rd_T45 l1 x5_1).f1).length c643_1) ∧ w'.cell? ⟨(ad643.add ((x5_1).toNat * 3)).block, (ad643.add ((x5_1).toNat * 3)).off + 2, none⟩ = some (.int .u32 ((rd_T45 l1 x5_1).f2))) (ds := []) #[false, false, false, false, false, false, false, false, false, false, false, false, false, false, false, false, false, false, false, false, false, false, false, false, false, false, false, false, false, false, false, false, false, false, false, false, false, false, false] (by kernel_rfl) rfl rfl ⟨((HB.out.cell (bL w _ hw642_0)).trans hw642_0), ((HB.out.cell (bL w _ hw642_1)).trans hw642_1), ((HB.out.cell (bL w _ hw642_2)).trans hw642_2), ((HB.out.cell (bL w _ hw643_0)).trans hw643_0), ((HB.out.cell (bL w _ hw643_1)).trans hw643_1), ((HB.out.cell (bL w _ hw643_2)).trans hw643_2)⟩ (fun hHeld => ?_); refine with_tabW r21_Same.tab6 r21_Same.bits6 (fun HT_ HW_ => ?_)
        generalize wr.drew = w15 at HB HR642_0 HR642_1 HR643_0 HR643_1 hx642_0 hx642_1 hx642_2 hx643_0 hx643_1 hx643_2 hHeld ⊢
        refine qP 0 17 (tB 39 1) ?_
        refine qP 1 18 (tB 39 3) ?_
        refine qP 2 19 (tB 39 7) ?_
        refine qP 3 20 (tB 39 15) ?_
        refine qP 5 22 (tB 39 47) ?_
        refine qP 6 23 (tB 39 111) ?_
        refine qP 7 24 (tB 39 239) ?_
        refine qP 8 25 (tB 39 495) ?_
        refine qT 4 21 (tB 39 511) hHeld ?_ (hv := by rintro w' ⟨s0, s1, s2, s3, s4, s5⟩; go_simp; with_reducible rfl)
        refine qT 9 26 (tB 39 1023) hHeld ?_ (hv := by rintro w' ⟨s0, s1, s2, s3, s4, s5⟩; go_simp; with_reducible rfl)
        refine qP 10 27 (tB 39 2047) ?_
        refine qP 11 28 (tB 39 4095) ?_
        refine qU 12 29 (tB 39 8191) ?_
        refine qU 13 30 (tB 39 16383) ?_
        refine qU 14 31 (tB 39 32767) ?_
        refine qU 15 32 (tB 39 65535) ?_
        refine qU 16 33 (tB 39 131071) ?_
        refine qU 17 34 (tB 39 262143) ?_
        refine qU 18 35 (tB 39 524287) ?_
        refine qU 19 36 (tB 39 1048575) ?_
        refine qU 20 37 (tB 39 2097151) ?_
        refine qU 21 38 (tB 39 4194303) ?_
        refine qU 22 39 (tB 39 8388607) ?_
        refine qU 23 40 (tB 39 16777215) ?_
        refine qP 24 41 (tB 39 33554431) ?_
        refine qP 25 42 (tB 39 67108863) ?_
        refine qU 26 43 (tB 39 134217727) ?_
        refine qU 27 44 (tB 39 268435455) ?_
        refine qU 28 45 (tB 39 536870911) ?_
        refine qU 29 46 (tB 39 1073741823) ?_
        refine qU 30 47 (tB 39 2147483647) ?_
        refine qU 31 48 (tB 39 4294967295) ?_
        refine qU 32 49 (tB 39 8589934591) ?_
        refine qU 33 50 (tB 39 17179869183) ?_
        refine qU 34 51 (tB 39 34359738367) ?_
        refine qU 35 52 (tB 39 68719476735) ?_
        refine qU 36 53 (tB 39 137438953471) ?_
        refine qU 37 54 (tB 39 274877906943) ?_
        refine qP 38 55 (tB 39 549755813887) ?_
        refine done_ (done_of HT_.out (by kernel_rfl)) ?_
        try go_wp2
        go_ret
        exact ⟨jE, jH HB⟩
      ·rw [if_neg c6] at H
       exact absurd H (by simp)
     ·rw [if_neg c5] at H
      exact absurd H (by simp)
    ·rw [if_neg c4] at H
     have c4b0 := dF c4
     clear c4
     obtain rfl := Option.some.inj H
     go_wp2
     go_ret
     exact ⟨jE, jH HB⟩
 ·rw [if_neg c3] at H
  have c3b0 : ((l0.length : Int) == (l1.length : Int)) = false := bF.mpr c3
  have c3b1 : ((l0.length : Int) != (l1.length : Int)) = true := nI.mpr c3
  have c3b2 : (l0.length == l1.length) = false := by first | simpa using c3 | (simp at c3 ⊢; omega)
  obtain rfl := Option.some.inj H
  go_enter Tryd.func19, Tryd.ntmps19
  go_wp2
  go_ret
  exact ⟨jE, jH HB⟩
end Go.Proofs.YtahacmdhhfmhiaaDoor.M
