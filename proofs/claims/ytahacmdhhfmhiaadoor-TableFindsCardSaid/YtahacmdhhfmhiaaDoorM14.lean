/- What Go functions compute; their calls come to it. No condition. -/
import Derived.Test.YtahacmdhhfmhiaaDoorM0
import Derived.Test.YtahacmdhhfmhiaaDoorM7
import Derived.Test.YtahacmdhhfmhiaaDoorM12
import Derived.Test.YtahacmdhhfmhiaaDoorMC
namespace Go.Proofs.YtahacmdhhfmhiaaDoor.M
open Go.RowKit Go.Proofs.YtahacmdhhfmhiaaDoorW.PrintWords Go.Proofs.YtahacmdhhfmhiaaDoorW.PrintLast Go.Proofs.YtahacmdhhfmhiaaDoorW.PrintMore
attribute [local go_sem] max2_int min2_int max_two min_two max_three min_three max_four min_four   -- for this text's walks alone
set_option linter.unusedVariables false
set_option linter.unusedSimpArgs false
def table_Encode.l0 : Nat → List Int → List (S42) → Int → Int → Option (List Int × Int)
 | 0, _, _, _, _ => none
 | k + 1, x4, x17, x18, x19 => if x19 < x18 then (if 0 ≤ x19 then (if x19 < (x17.length : Int) then ((table_Rule_bytes.f k ((rd_T42 x17 x19).f0) ((rd_T42 x17 x19).f1) ((rd_T42 x17 x19).f2)).bind fun t211 => (if x4.length + t211.size < 140737488355328 then (table_Encode.l0 k (x4 ++ bytesOf t211) x17 x18 (wrap64 (x19 + 1))) else (none))) else (none)) else (none)) else ((crc_Seal.f k x4).bind fun t215 => (some (t215, 0)))
def table_Encode.f (k : Nat) (l0 : List (S42)) : Option (List Int × Int) := (table_Right.f k l0).bind fun t202 => (if t202 = true then ((some (([72, 82, 84, 49] : List Int) : List Int)).bind fun y203 => (if y203.length < 140737488355328 then (table_Encode.l0 k (y203 ++ [((l0.length : Int)) % 256]) l0 (l0.length : Int) 0) else (none))) else (some (([] : List Int), 1)))
theorem table_Encode.mono_l : ∀ k, (∀ y0 y1 y2 y3, LeO (table_Encode.l0 k y0 y1 y2 y3) (table_Encode.l0 (k + 1) y0 y1 y2 y3))
 | 0 => fun _ _ _ _ r h => by simp [table_Encode.l0] at h
 | k + 1 => by
  have ih0 := table_Encode.mono_l k
  ·intro y0 y1 y2 y3
   unfold table_Encode.l0
   repeat' first
   | (with_reducible apply ih0)
   | (with_reducible apply crc_Seal.mono)
   | (with_reducible apply table_Right.mono)
   | (with_reducible apply table_Rule_bytes.mono)
   | (with_reducible exact LeO.refl _)
   | (with_reducible exact LeO.none _)
   | (with_reducible refine LeO.ite ?_ ?_)
   | (with_reducible refine LeO.bind ?_ (fun _ => ?_))
   | apply ih0
   | apply crc_Seal.mono
   | apply table_Right.mono
   | apply table_Rule_bytes.mono
   | exact LeO.none _
   | refine LeO.ite ?_ ?_
   | refine LeO.bind ?_ (fun _ => ?_)
theorem table_Encode.mono : ∀ a0 k, LeO (table_Encode.f k a0) (table_Encode.f (k + 1) a0) := by
 intro a0 k
 have ih0 := table_Encode.mono_l k
 unfold table_Encode.f
 repeat' first
   | (with_reducible apply ih0)
   | (with_reducible apply crc_Seal.mono)
   | (with_reducible apply table_Right.mono)
   | (with_reducible apply table_Rule_bytes.mono)
   | (with_reducible exact LeO.refl _)
   | (with_reducible exact LeO.none _)
   | (with_reducible refine LeO.ite ?_ ?_)
   | (with_reducible refine LeO.bind ?_ (fun _ => ?_))
   | apply ih0
   | apply crc_Seal.mono
   | apply table_Right.mono
   | apply table_Rule_bytes.mono
   | exact LeO.none _
   | refine LeO.ite ?_ ?_
   | refine LeO.bind ?_ (fun _ => ?_)
set_option maxHeartbeats 8000000 in
set_option maxRecDepth 100000 in
theorem table_Encode.calls (k : Nat) (A0 : Option Addr) (c0 : Nat) (l0 : List (S42)) (r1 : List Int) (r2 : Int) (w : World) (hr0 : Kd.C k42 w A0 l0.length l0) (hc0 : l0.length ≤ c0) (hG : Glob w) (h : table_Encode.f k l0 = some (r1, r2)) :
  Calls Tryd.prog 12 #[.slice A0 l0.length c0] w fun e w' => ∃ v0_ : Value, e = .returned (.tuple #[v0_, .int .i64 r2]) ∧ Kd.R (Kd.int .u8) 5 w' w.heap.size (fun _ => True) v0_ r1 ∧ Below w.heap.size w w' := by
 have hu42 := Tryd.underlying42
 have HG := Aside0.mk hG
 clear hG
 have HR0 := Aside0.mk hr0
 have HC0 := Aside0.mk hc0
 clear hr0 hc0
 have HB := Aside0.mk (Below.refl w.heap.size w)
 have H : ((table_Right.f k l0).bind fun t202 => (if t202 = true then ((some (([72, 82, 84, 49] : List Int) : List Int)).bind fun y203 => (if y203.length < 140737488355328 then (table_Encode.l0 k (y203 ++ [((l0.length : Int)) % 256]) l0 (l0.length : Int) 0) else (none))) else (some (([] : List Int), 1)))) = some (r1, r2) := h
 clear h
 replace H := Option.bind_eq_some_iff.mp H
 obtain ⟨t202, A20, H⟩ := H
 try dsimp only at H
 have A2 := Aside0.mk A20
 clear A20
 by_cases c3 : t202 = true
 ·subst c3
  rw [if_pos rfl] at H
  obtain ⟨y203, hy203⟩ : ∃ y_ : List Int, y_ = (([72, 82, 84, 49] : List Int)) := ⟨_, rfl⟩
  simp only [Option.bind_some, ← hy203] at H
  have Ny203 := Aside0.mk hy203
  clear hy203
  by_cases c4 : y203.length < 140737488355328
  ·rw [if_pos c4] at H
   have LMc4 := Aside0.mk c4
   clear c4
   obtain ⟨y206, hy206⟩ : ∃ y_ : List Int, y_ = (y203 ++ [((l0.length : Int)) % 256]) := ⟨_, rfl⟩
   simp only [Option.bind_some, ← hy206] at H
   have Ny206 := Aside0.mk hy206
   clear hy206
   have H' := Aside0.mk H
   clear H
   go_enter Tryd.func12, Tryd.ntmps12
   have kc := fun (w : World) (C : Array Value) (n c : Nat) => Lib.run_convert_bytes_const (P := Tryd.prog) w 25 5 C n c Tryd.underlying25 Tryd.underlying5
   go_wp2_with (first | ((with_reducible refine gate_callee (f := 15) rfl ?_); refine goesL_ (some 8) rfl rfl Tryd.func15 (by kernel_rfl) rfl #[.slice A0 l0.length c0] rfl jZ ?_; (with_reducible refine (table_Right.calls k _ _ l0 true _ ?side1 ?side2 ?side3 A2.out).mono ?_); (case side1 => repeat (first | exact HR0.out | (with_reducible refine Kd.C_alloc ?_ _) | (with_reducible refine Kd.C_drewN ?_ _) | (with_reducible refine Kd.C_drew ?_))); (case side2 => exact HC0.out); (case side3 => exact Glob.below HG.out (jH HB)); rintro e w5 ⟨rfl, hb⟩; refine ⟨_, rfl, ?_⟩; replace HB := Aside0.mk (zT (jH HB) hb); (try clear hb); (try clear hb2); (try clear hk); (try clear hi)) | ((with_reducible refine gate_builtin (b := .append) (xs := #[.tmp 11, .tmp 15]) rfl ?_); at_builtin; refine RowT.append (w0 := w) w.heap.size rfl (.tmp 11) (.tmp 15) 25 5 rfl Tryd.underlying25 info5 (.slice (some ⟨w5.heap.size, 0, none⟩) 4 4) [72, 82, 84, 49] (((l0.length : Int)) % 256) rfl (by go_simp) (.inr ⟨w5.heap.size, 4, zZ HB.out, rfl, by decide, Kd.C_lit .u8 w5 [72, 82, 84, 49] 5 (4, 5) (by decide)⟩) (zA HB.out _) (zZ (zA HB.out _)) (by decide) ?_; intro v207 w8 ho hb; rw [← Ny203.out, ← Ny206.out] at ho; have HO208 := Aside0.mk (ho); replace HB := Aside0.mk (hb); clear ho hb))
   clear kc
   go_loopg [4, 19] k (fun kq v4 v19 w' => ∃ (x4_1 : List Int) (x19_1 : Int), v19 = .int .i64 x19_1 ∧ Aside0 (table_Encode.l0 kq x4_1 l0 (l0.length : Int) x19_1 = some (r1, r2)) ∧ Aside0 (kq ≤ k) ∧ Aside0 (Kd.R (Kd.int .u8) 5 w' w.heap.size (fun _ => True) v4 x4_1) ∧ Aside0 (Below w.heap.size w w'))
   case atStart => exact ⟨(y206), (0), jS, H', ⟨Nat.le_refl _⟩, ⟨jR HO208⟩, ⟨jH HB⟩⟩
   case round =>
    clear H'
    obtain ⟨x4_1, x19_1, rfl, HA, HK1, HO_4, HB⟩ := hrel
    cases gk with
    | zero => exact absurd HA.out (by simp [table_Encode.l0])
    | succ k1 =>
     have H := HA.out
     clear HA
     simp only [table_Encode.l0] at H
     by_cases c9 : x19_1 < (l0.length : Int)
     ·rw [if_pos c9] at H
      have c9b0 : decide (x19_1 < (l0.length : Int)) = true := dT c9
      clear c9
      by_cases c10 : 0 ≤ x19_1
      ·rw [if_pos c10] at H
       have c10b0 : decide (0 ≤ x19_1) = true := dT c10
       clear c10
       by_cases c11 : x19_1 < (l0.length : Int)
       ·rw [if_pos c11] at H
        have c11b0 : decide (x19_1 < (l0.length : Int)) = true := dT c11
        clear c11
        replace H := Option.bind_eq_some_iff.mp H
        obtain ⟨t211, A120, H⟩ := H
        try dsimp only at H
        have A12 := Aside0.mk A120
        clear A120
        by_cases c13 : x4_1.length + t211.size < 140737488355328
        ·rw [if_pos c13] at H
         have LMc13 := Aside0.mk c13
         clear c13
         obtain ⟨y212, hy212⟩ : ∃ y_ : List Int, y_ = (x4_1 ++ bytesOf t211) := ⟨_, rfl⟩
         simp only [Option.bind_some, ← hy212] at H
         have Ny212 := Aside0.mk hy212
         clear hy212
         have H' := Aside0.mk H
         clear H
         have p209 : 0 ≤ (x19_1 : Int) := oD (jA)
         have q209 : x19_1 < (l0.length : Int) := oD (jA)
         obtain ⟨ad209, A209_0, c209_0, A209_1, c209_1, e209, hx209_0, hx209_1, hx209_2, hl209_0, hi209_0, hl209_1, hi209_1⟩ := at_T42 HR0.out x19_1 p209 q209
         cases e209
         replace hx209_0 := (HB.out.cell (bL w _ hx209_0)).trans hx209_0
         replace hx209_1 := (HB.out.cell (bL w _ hx209_1)).trans hx209_1
         replace hx209_2 := (HB.out.cell (bL w _ hx209_2)).trans hx209_2
         have HR209_0 := Aside0.mk hi209_0
         have HC209_0 := Aside0.mk hl209_0
         clear hi209_0 hl209_0
         have HR209_1 := Aside0.mk hi209_1
         have HC209_1 := Aside0.mk hl209_1
         clear hi209_1 hl209_1
         replace p209 := eq_true p209
         replace q209 := eq_true q209
         go_wp2_with (first | ((with_reducible refine gate_dst (N := 6) rfl ?_); refine box_event rfl (N := 6) rfl (cs := #[.slice none 0 0, .slice none 0 0, .int .u32 0]) (t := 42) jW ?_; intro gb210 hg w14 hbox hb; have BK210 := Aside0.mk hbox; have GW210 := Aside0.mk (jG hg HB); have GE210 := Aside0.mk (jG hg HB); replace HO_4 := Aside0.mk (Kd.R_below (jR HO_4) hb); replace HB := Aside0.mk (zT (jH HB) hb); clear hb hbox hg; obtain ⟨hcz15_0, hcz15_1, hcz15_2, hfz15_0, hfz15_1, hfz15_2⟩ := kQ3 BK210.out) | ((with_reducible refine gate_callee (f := 28) rfl ?_); refine goesL_ (some 25) rfl rfl Tryd.func28 (by kernel_rfl) rfl #[.agg #[.slice A209_0 ((rd_T42 l0 x19_1).f0).length c209_0, .slice A209_1 ((rd_T42 l0 x19_1).f1).length c209_1, .int .u32 ((rd_T42 l0 x19_1).f2)]] rfl jZ ?_; (with_reducible refine (table_Rule_bytes.calls k1 _ _ ((rd_T42 l0 x19_1).f0) _ _ ((rd_T42 l0 x19_1).f1) ((rd_T42 l0 x19_1).f2) t211 _ ?side1 ?side2 ?side3 ?side4 ?side5 A12.out).mono ?_); (case side1 => exact Kd.C_below HR209_0.out (jH HB)); (case side2 => exact HC209_0.out); (case side3 => exact Kd.C_below HR209_1.out (jH HB)); (case side4 => exact HC209_1.out); (case side5 => exact Glob.below HG.out (jH HB)); rintro e w16 ⟨rfl, hb⟩; refine ⟨_, rfl, ?_⟩; have n0_ := Aside0.mk (Kd.R_below (by (with_reducible repeat (first | apply Kd.R_alloc | apply Kd.R_drewN | apply Kd.R_drew)); exact (Kd.R_mono (Kd.R_far (p := ⟨gb210, 2, none⟩) (Kd.R_far (p := ⟨gb210, 1, none⟩) (Kd.R_far (p := ⟨gb210, 0, none⟩) (Kd.R_types HO_4.out BK210.out (by decide)) (fun _ hk => hk.2) (.slice A209_0 ((rd_T42 l0 x19_1).f0).length c209_0)) (fun _ hk => hk.2) (.slice A209_1 ((rd_T42 l0 x19_1).f1).length c209_1)) (fun _ hk => hk.2) (.int .u32 ((rd_T42 l0 x19_1).f2))) (fun _ h_ => h_.1))) hb); have n1_ := Aside0.mk (kB (g := gb210) (o := .cells #[.slice A209_0 ((rd_T42 l0 x19_1).f0).length c209_0, .slice A209_1 ((rd_T42 l0 x19_1).f1).length c209_1, .int .u32 ((rd_T42 l0 x19_1).f2)] 42 (0, 0)) (by (with_reducible repeat (first | refine kN ?_ _ | refine kD ?_ | refine kA ?_ _)); refine kP (cs := #[.slice A209_0 ((rd_T42 l0 x19_1).f0).length c209_0, .slice A209_1 ((rd_T42 l0 x19_1).f1).length c209_1, .int .u32 0]) ?_ 2 _ rfl; (with_reducible repeat (first | refine kN ?_ _ | refine kD ?_ | refine kA ?_ _)); refine kP (cs := #[.slice A209_0 ((rd_T42 l0 x19_1).f0).length c209_0, .slice none 0 0, .int .u32 0]) ?_ 1 _ rfl; (with_reducible repeat (first | refine kN ?_ _ | refine kD ?_ | refine kA ?_ _)); refine kP (cs := #[.slice none 0 0, .slice none 0 0, .int .u32 0]) ?_ 0 _ rfl; (with_reducible repeat (first | refine kN ?_ _ | refine kD ?_ | refine kA ?_ _)); exact BK210.out) hb); have n2_ := Aside0.mk (zT (jH HB) hb); clear HO_4; clear BK210; clear HB; have HO_4 := n0_; have BK210 := n1_; have HB := n2_; clear n0_ n1_ n2_; (try clear hb); (try clear hb2); (try clear hk); (try clear hi)) | (at_builtin; refine print_append_str (w0 := w) w.heap.size rfl (.tmp 23) _ 25 9 5 rfl Tryd.underlying25 Tryd.underlying9 info5 u4 x4_1 t211 rfl rfl ?aO ?aB ?aS ?aL ?_; (case aB => exact (jH HB)); (case aO => exact (Kd.own_of_R (jR HO_4))); (case aS => exact (zZ (jH HB))); (case aL => have := LMc13.out; omega); intro v213 w17 ho0 hb hg; have ho := Kd.R_of_own (h1 := fun _ => rfl) (ok := fun _ => True) ho0 (fun _ _ => trivial); clear ho0; have hat := True.intro; rw [← Ny212.out] at ho; change Kd.R (Kd.int .u8) 5 w17 w.heap.size (fun _ => True) v213 y212 at ho; have HO214 := Aside0.mk (ho); replace BK210 := Aside0.mk (kG (g := gb210) (o := .cells #[.slice A209_0 ((rd_T42 l0 x19_1).f0).length c209_0, .slice A209_1 ((rd_T42 l0 x19_1).f1).length c209_1, .int .u32 ((rd_T42 l0 x19_1).f2)] 42 (0, 0)) (jK BK210) hg (Kd.R_ne HO_4.out BK210.out (by decide))); replace HB := Aside0.mk (hb); clear HO_4; clear ho hb hg hat))
         go_roundg k1
         case measure => have := HK1.out; omega
         case rel => exact ⟨(y212), (wrap64 (x19_1 + 1)), jS, H', ⟨by have := HK1.out; omega⟩, ⟨jR HO214⟩, ⟨jH HB⟩⟩
        ·rw [if_neg c13] at H
         exact absurd H (by simp)
       ·rw [if_neg c11] at H
        exact absurd H (by simp)
      ·rw [if_neg c10] at H
       exact absurd H (by simp)
     ·rw [if_neg c9] at H
      have c9b0 : decide (x19_1 < (l0.length : Int)) = false := dF c9
      clear c9
      replace H := Option.bind_eq_some_iff.mp H
      obtain ⟨t215, A180, H⟩ := H
      try dsimp only at H
      have A18 := Aside0.mk A180
      clear A180
      simp only [Option.some.injEq, Prod.mk.injEq] at H
      obtain ⟨rfl, rfl⟩ := H
      obtain ⟨Ao19, co19, eo19⟩ := Kd.R_slice HO_4.out
      subst eo19
      go_wp2_with (first | ((with_reducible refine gate_callee (f := 29) rfl ?_); refine goesL_ (some 29) rfl rfl Tryd.func29 (by kernel_rfl) rfl #[.slice Ao19 x4_1.length co19] rfl jZ ?_; (with_reducible refine (crc_Seal.calls k1 _ _ x4_1 t215 _ ?side1 ?side2 A18.out).mono ?_); (case side1 => exact jC (Kd.R_reads' HO_4.out).2.2); (case side2 => exact (Kd.R_reads' HO_4.out).2.1); rintro e w20 ⟨v216, rfl, ho0, hb⟩; refine ⟨_, rfl, ?_⟩; have HO217 := Aside0.mk (Kd.R_lower (Kd.R_new' ho0 (Kd.R_lt (jR HO_4))) (zZ (jH HB))); replace HO_4 := Aside0.mk (Kd.R_elder' (jR HO_4) (Kd.R_base ho0) hb); replace HB := Aside0.mk (zT (jH HB) hb); (try clear hb); (try clear hb2); (try clear hk); (try clear hi); (try clear ho0)))
      go_ret2
      exact ⟨_, jE, by (with_reducible repeat (first | apply Kd.R_alloc | apply Kd.R_drewN | apply Kd.R_drew)); exact Kd.R_mono HO217.out (fun _ hk => trivial), jH HB⟩
  ·rw [if_neg c4] at H
   exact absurd H (by simp)
 ·replace c3 := Bool.eq_false_iff.mpr c3
  subst c3
  rw [if_neg (show ¬ (false = true) by decide)] at H
  simp only [Option.some.injEq, Prod.mk.injEq] at H
  obtain ⟨rfl, rfl⟩ := H
  go_enter Tryd.func12, Tryd.ntmps12
  go_wp2_with (first | ((with_reducible refine gate_callee (f := 15) rfl ?_); refine goesL_ (some 8) rfl rfl Tryd.func15 (by kernel_rfl) rfl #[.slice A0 l0.length c0] rfl jZ ?_; (with_reducible refine (table_Right.calls k _ _ l0 false _ ?side1 ?side2 ?side3 A2.out).mono ?_); (case side1 => repeat (first | exact HR0.out | (with_reducible refine Kd.C_alloc ?_ _) | (with_reducible refine Kd.C_drewN ?_ _) | (with_reducible refine Kd.C_drew ?_))); (case side2 => exact HC0.out); (case side3 => exact Glob.below HG.out (jH HB)); rintro e w21 ⟨rfl, hb⟩; refine ⟨_, rfl, ?_⟩; replace HB := Aside0.mk (zT (jH HB) hb); (try clear hb); (try clear hb2); (try clear hk); (try clear hi)))
  go_ret2
  exact ⟨_, jE, by first | exact Kd.R_nil _ _ _ _ _ | exact Kd.N_nil _ _ _ _ _ | exact Kd.V_nil _ _ _ _ _ | exact Kd.Q_nil _ _ _ _ _ | exact Kd.S_nil _ _ _ _ _, jH HB⟩
end Go.Proofs.YtahacmdhhfmhiaaDoor.M
