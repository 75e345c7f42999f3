/- What Go functions compute; their calls come to it. No condition. -/
import Derived.Test.YtahacmdhhfmhiaaDoorM0
namespace Go.Proofs.YtahacmdhhfmhiaaDoor.M
open Go.RowKit Go.Proofs.YtahacmdhhfmhiaaDoorW.PrintWords Go.Proofs.YtahacmdhhfmhiaaDoorW.PrintLast Go.Proofs.YtahacmdhhfmhiaaDoorW.PrintMore
attribute [local go_sem] max2_int min2_int max_two min_two max_three min_three max_four min_four   -- for this text's walks alone
set_option linter.unusedVariables false
set_option linter.unusedSimpArgs false
def r20_Turn.l0 : Nat → Int → List Int → Int → Int → Option (List Int)
 | 0, _, _, _, _ => none
 | k + 1, x1, x5, x6, x7 => if x7 < (Int.tmod x1 8) then (r20_Turn.l0 k x1 x5 ((x6 * 2) % 256) (wrap64 (x7 + 1))) else (if 0 ≤ (wrap64 (Int.tdiv x1 8)) then (if (wrap64 (Int.tdiv x1 8)) < (x5.length : Int) then (if x6 = 0 then (none) else (if (((Int.tdiv (rd x5 (wrap64 (Int.tdiv x1 8))) x6) % 256) % 2) = 1 then (some (x5.set ((wrap64 (Int.tdiv x1 8)) : Int).toNat (((rd x5 (wrap64 (Int.tdiv x1 8))) - x6) % 256))) else (some (x5.set ((wrap64 (Int.tdiv x1 8)) : Int).toNat (((rd x5 (wrap64 (Int.tdiv x1 8))) + x6) % 256))))) else (none)) else (none))
def r20_Turn.f (k : Nat) (l0 : List Int) (a1 : Int) : Option (List Int) := (some (([] : List Int) : List Int)).bind fun y412 => (if y412.length + l0.length < 140737488355328 then (r20_Turn.l0 k a1 (y412 ++ l0) 1 0) else (none))
set_option maxHeartbeats 8000000 in
set_option maxRecDepth 100000 in
theorem r20_Turn.calls (k : Nat) (A0 : Option Addr) (c0 : Nat) (l0 : List Int) (a1 : Int) (r : List Int) (w : World) (hr0 : Kd.C (Kd.int .u8) w A0 l0.length l0) (hc0 : l0.length ≤ c0) (h : r20_Turn.f k l0 a1 = some r) :
  Calls Tryd.prog 26 #[.slice A0 l0.length c0, .int .i64 a1] w fun e w' => ∃ v0_ : Value, e = .returned (v0_) ∧ Kd.R (Kd.int .u8) 5 w' w.heap.size (fun _ => True) v0_ r ∧ Below w.heap.size w w' := by
 have HR0 := Aside0.mk hr0
 have HC0 := Aside0.mk hc0
 clear hr0 hc0
 have HB := Aside0.mk (Below.refl w.heap.size w)
 have H : ((some (([] : List Int) : List Int)).bind fun y412 => (if y412.length + l0.length < 140737488355328 then (r20_Turn.l0 k a1 (y412 ++ l0) 1 0) else (none))) = some r := h
 clear h
 obtain ⟨y412, hy412⟩ : ∃ y_ : List Int, y_ = (([] : List Int)) := ⟨_, rfl⟩
 simp only [Option.bind_some, ← hy412] at H
 have Ny412 := Aside0.mk hy412
 clear hy412
 by_cases c3 : y412.length + l0.length < 140737488355328
 ·rw [if_pos c3] at H
  have LMc3 := Aside0.mk c3
  clear c3
  obtain ⟨y415, hy415⟩ : ∃ y_ : List Int, y_ = (y412 ++ l0) := ⟨_, rfl⟩
  simp only [Option.bind_some, ← hy415] at H
  have Ny415 := Aside0.mk hy415
  clear hy415
  have H' := Aside0.mk H
  clear H
  go_enter Tryd.func26, Tryd.ntmps26
  go_wp2_with (first | ((with_reducible refine gate_dst (N := 8) rfl ?_); refine Kd.R_lit (Kd.int .u8) _ 5 ?hg (N := 8) ?hd (xs := ([] : List Int)) (inner := []) (ok := fun _ => True) (okp := fun _ => True) ?hr ?hp (fun _ hk => hk) trivial (Below.refl _ _) (Nat.le_refl _) (by simp) ?_; (case hd => rfl); (case hg => rfl); (case hr => first | (go_simp; done) | (go_simp; rfl)); (case hp => exact (Reps.none _ _)); intro v413 w4 ho5 hb hg_ hnew_; clear hg_ hnew_; (first | rw [← Ny412.out] at ho5 | (simp only [Int.reduceToNat] at ho5; rw [← Ny412.out] at ho5)); have HO414 := Aside0.mk (Kd.R_lower ho5 (zZ (jH HB))); replace HB := Aside0.mk (zT (jH HB) hb); clear hb ho5) | ((with_reducible refine gate_builtin (b := .append) (xs := #[.tmp 8, .tmp 9]) rfl ?_); at_builtin; refine Kd.R_append_rows (Kd.int .u8) (w0 := w) w.heap.size rfl (.tmp 8) (.tmp 9) 25 5 (.int .u8 0) 1 rfl Tryd.underlying25 info5 rfl (by decide) (by omega) v413 y412 l0 _ _ _ (fun _ => True) (fun _ => False) rfl rfl ?aO ?aR (fun _ _ h => h) (fun _ h => h.elim) ?aF ?aB ?aS ?aL ?_; (case aR => repeat (first | exact (Kd.C_below HR0.out HB.out) | (with_reducible refine Kd.C_alloc ?_ _) | (with_reducible refine Kd.C_drewN ?_ _) | (with_reducible refine Kd.C_drew ?_))); (case aB => exact (jH HB)); (case aF => exact (fun _ _ => trivial)); (case aO => exact (jR HO414)); (case aS => exact (zZ (jH HB))); (case aL => have := LMc3.out; omega); intro v416 w6 ho hb hg hat; rw [← Ny415.out] at ho; have HO417 := Aside0.mk (ho); replace HB := Aside0.mk (hb); clear HO414; clear ho hb hg hat))
  go_loopg [6, 7] k (fun kq v6 v7 w' => ∃ (x6_1 : Int) (x7_1 : Int), v6 = .int .u8 x6_1 ∧ v7 = .int .i64 x7_1 ∧ Aside0 (r20_Turn.l0 kq a1 y415 x6_1 x7_1 = some r) ∧ Aside0 (kq ≤ k) ∧ Aside0 (Kd.R (Kd.int .u8) 5 w' w.heap.size (fun _ => True) v416 y415) ∧ Aside0 (Below w.heap.size w w'))
  case atStart => exact ⟨(1), (0), jS, jS, H', ⟨Nat.le_refl _⟩, ⟨jR HO417⟩, ⟨jH HB⟩⟩
  case round =>
   clear H'
   obtain ⟨x6_1, x7_1, rfl, rfl, HA, HK1, HO_5, HB⟩ := hrel
   cases gk with
   | zero => exact absurd HA.out (by simp [r20_Turn.l0])
   | succ k1 =>
    have H := HA.out
    clear HA
    simp only [r20_Turn.l0] at H
    by_cases c7 : x7_1 < (Int.tmod a1 8)
    ·rw [if_pos c7] at H
     have c7b0 := dT c7
     clear c7
     have H' := Aside0.mk H
     clear H
     go_wp2
     go_roundg k1
     case measure => have := HK1.out; omega
     case rel => exact ⟨((x6_1 * 2) % 256), (wrap64 (x7_1 + 1)), jS, jS, H', ⟨by have := HK1.out; omega⟩, ⟨jR HO_5⟩, ⟨jH HB⟩⟩
    ·rw [if_neg c7] at H
     have c7b0 := dF c7
     clear c7
     obtain ⟨ji8, hji8⟩ : ∃ j_ : Int, (wrap64 (Int.tdiv a1 8)) = j_ := ⟨_, rfl⟩
     first | rw [hji8] at H | simp only [hji8] at H
     have hji8w : (IntKind.i64.wrap (Int.tdiv a1 8)) = ji8 := (i64_w _).trans hji8
     by_cases c9 : 0 ≤ (ji8)
     ·rw [if_pos c9] at H
      have c9b0 := dT c9
      clear c9
      by_cases c10 : (ji8) < (y415.length : Int)
      ·rw [if_pos c10] at H
       have c10b0 := dT c10
       clear c10
       by_cases c11 : x6_1 = 0
       ·rw [if_pos c11] at H
        exact absurd H (by simp)
       ·rw [if_neg c11] at H
        have c11b0 : (x6_1 == 0) = false := bF.mpr c11
        have c11b1 : (x6_1 != 0) = true := nI.mpr c11
        by_cases c12 : (((Int.tdiv (rd y415 (ji8)) x6_1) % 256) % 2) = 1
        ·rw [if_pos c12] at H
         have c12b0 : ((((Int.tdiv (rd y415 (ji8)) x6_1) % 256) % 2) == 1) = true := bI.mpr c12
         have c12b1 : ((((Int.tdiv (rd y415 (ji8)) x6_1) % 256) % 2) != 1) = false := nF.mpr c12
         clear c12
         obtain ⟨y420, hy420⟩ : ∃ y_ : List Int, y_ = (y415.set ((ji8) : Int).toNat (((rd y415 (ji8)) - x6_1) % 256)) := ⟨_, rfl⟩
         simp only [Option.bind_some, ← hy420] at H
         have Ny420 := Aside0.mk hy420
         clear hy420
         obtain rfl := Option.some.inj H
         obtain ⟨Ao14, co14, eo14⟩ := Kd.R_slice HO_5.out
         subst eo14
         have p418 : 0 ≤ ((ji8) : Int) := oD (jA)
         have q418 : (ji8) < (y415.length : Int) := oD (jA)
         obtain ⟨ad418, e418, hx418_0⟩ := Kd.at_int (Kd.R_reads' HO_5.out).2.2 (ji8) p418 q418
         cases e418
         replace p418 := eq_true p418
         replace q418 := eq_true q418
         have p419 : 0 ≤ ((ji8) : Int) := oD (jA)
         have q419 : (ji8) < (y415.length : Int) := oD (jA)
         obtain ⟨ad419, e419, hx419_0⟩ := Kd.at_int (Kd.R_reads' HO_5.out).2.2 (ji8) p419 q419
         obtain rfl : ad418 = ad419 := (by injection e419)
         replace p419 := eq_true p419
         replace q419 := eq_true q419
         have p13 : 0 ≤ ((ji8) : Int) := oD (jA)
         have q13 : ((ji8) : Int) < ((y415.length : Int) : Int) := oD (jA)
         obtain ⟨go13, co13, eo13, gb13, gl13, cl13, HG13⟩ := Kd.R_form HO_5.out (by omega)
         (first | cases eo13 | (injection eo13 with ea_ en_ ec_; (first | subst ea_ | (injection ea_ with ea_; subst ea_)); subst ec_; clear en_))
         have GB13 := Aside0.mk gb13
         have GG13 := Aside0.mk HG13
         clear gb13 gl13 HG13
         (first | simp only [add_plain] at hx418_0 | skip)
         (first | simp only [add_plain] at hx419_0 | skip)
         obtain ⟨hx13_0, hf13_0⟩ := Kd.R_celln 0 HO_5.out ((ji8) : Int) p13 q13
         replace p13 := eq_true p13
         replace q13 := eq_true q13
         have HP15 := Kd.R_putg HO_5.out ((ji8) : Int) (((rd y415 (ji8)) - x6_1) % 256)
         go_wp2_with (first | ((with_reducible refine gate_store (t := 5) (p := 38) rfl ?_); refine store_event (t := 5) (p := 38) (v := ?vo_w16) (w1 := (wr.setCell ⟨go13, ((ji8) : Int).toNat, none⟩ (.int .u8 (((rd y415 (ji8)) - x6_1) % 256)))) ?hg ?ho ?hn ?hr ?_; (case ho => rfl); (case hg => rfl); (case hn => rfl); (case hr => first | (go_simp; done) | (go_simp; rfl)); intro w16 hw; have hg : wr.grownBy w16 (some go13) := (by rw [hw]; exact HP15.2); have hp_ : Kd.R (Kd.int .u8) 5 w16 w.heap.size (fun _ => True) (.slice (some ⟨go13, 0, none⟩) y415.length co14) y420 := (by rw [hw, Ny420.out]; exact HP15.1); clear HP15; replace HO_5 := Aside0.mk (hp_); replace HB := Aside0.mk ((by rw [hw]; exact zS (HB.out) GB13.out : Below w.heap.size w w16)); clear hg hw hp_))
         go_ret
         exact ⟨_, by first | rfl | (simp [errW_none, errW_some] <;> rfl) | (simp only [← hji8]; first | rfl | (simp [errW_none, errW_some] <;> rfl)) | (simp [*, errW_none, errW_some] <;> rfl), by (with_reducible repeat (first | apply Kd.R_alloc | apply Kd.R_drewN | apply Kd.R_drew)); exact HO_5.out, jH HB⟩
        ·rw [if_neg c12] at H
         have c12b0 : ((((Int.tdiv (rd y415 (ji8)) x6_1) % 256) % 2) == 1) = false := bF.mpr c12
         have c12b1 : ((((Int.tdiv (rd y415 (ji8)) x6_1) % 256) % 2) != 1) = true := nI.mpr c12
         obtain ⟨y422, hy422⟩ : ∃ y_ : List Int, y_ = (y415.set ((ji8) : Int).toNat (((rd y415 (ji8)) + x6_1) % 256)) := ⟨_, rfl⟩
         simp only [Option.bind_some, ← hy422] at H
         have Ny422 := Aside0.mk hy422
         clear hy422
         obtain rfl := Option.some.inj H
         obtain ⟨Ao18, co18, eo18⟩ := Kd.R_slice HO_5.out
         subst eo18
         have p418 : 0 ≤ ((ji8) : Int) := oD (jA)
         have q418 : (ji8) < (y415.length : Int) := oD (jA)
         obtain ⟨ad418, e418, hx418_0⟩ := Kd.at_int (Kd.R_reads' HO_5.out).2.2 (ji8) p418 q418
         cases e418
         replace p418 := eq_true p418
         replace q418 := eq_true q418
         have p421 : 0 ≤ ((ji8) : Int) := oD (jA)
         have q421 : (ji8) < (y415.length : Int) := oD (jA)
         obtain ⟨ad421, e421, hx421_0⟩ := Kd.at_int (Kd.R_reads' HO_5.out).2.2 (ji8) p421 q421
         obtain rfl : ad418 = ad421 := (by injection e421)
         replace p421 := eq_true p421
         replace q421 := eq_true q421
         have p17 : 0 ≤ ((ji8) : Int) := oD (jA)
         have q17 : ((ji8) : Int) < ((y415.length : Int) : Int) := oD (jA)
         obtain ⟨go17, co17, eo17, gb17, gl17, cl17, HG17⟩ := Kd.R_form HO_5.out (by omega)
         (first | cases eo17 | (injection eo17 with ea_ en_ ec_; (first | subst ea_ | (injection ea_ with ea_; subst ea_)); subst ec_; clear en_))
         have GB17 := Aside0.mk gb17
         have GG17 := Aside0.mk HG17
         clear gb17 gl17 HG17
         (first | simp only [add_plain] at hx418_0 | skip)
         (first | simp only [add_plain] at hx421_0 | skip)
         obtain ⟨hx17_0, hf17_0⟩ := Kd.R_celln 0 HO_5.out ((ji8) : Int) p17 q17
         replace p17 := eq_true p17
         replace q17 := eq_true q17
         have HP19 := Kd.R_putg HO_5.out ((ji8) : Int) (((rd y415 (ji8)) + x6_1) % 256)
         go_wp2_with (first | ((with_reducible refine gate_store (t := 5) (p := 49) rfl ?_); refine store_event (t := 5) (p := 49) (v := ?vo_w20) (w1 := (wr.setCell ⟨go17, ((ji8) : Int).toNat, none⟩ (.int .u8 (((rd y415 (ji8)) + x6_1) % 256)))) ?hg ?ho ?hn ?hr ?_; (case ho => rfl); (case hg => rfl); (case hn => rfl); (case hr => first | (go_simp; done) | (go_simp; rfl)); intro w20 hw; have hg : wr.grownBy w20 (some go17) := (by rw [hw]; exact HP19.2); have hp_ : Kd.R (Kd.int .u8) 5 w20 w.heap.size (fun _ => True) (.slice (some ⟨go17, 0, none⟩) y415.length co18) y422 := (by rw [hw, Ny422.out]; exact HP19.1); clear HP19; replace HO_5 := Aside0.mk (hp_); replace HB := Aside0.mk ((by rw [hw]; exact zS (HB.out) GB17.out : Below w.heap.size w w20)); clear hg hw hp_))
         go_ret
         exact ⟨_, by first | rfl | (simp [errW_none, errW_some] <;> rfl) | (simp only [← hji8]; first | rfl | (simp [errW_none, errW_some] <;> rfl)) | (simp [*, errW_none, errW_some] <;> rfl), by (with_reducible repeat (first | apply Kd.R_alloc | apply Kd.R_drewN | apply Kd.R_drew)); exact HO_5.out, jH HB⟩
      ·rw [if_neg c10] at H
       exact absurd H (by simp)
     ·rw [if_neg c9] at H
      exact absurd H (by simp)
 ·rw [if_neg c3] at H
  exact absurd H (by simp)
end Go.Proofs.YtahacmdhhfmhiaaDoor.M
