/- What Go functions compute; their calls come to it. No condition. -/
import Derived.Test.YtahacmdhhfmhiaaDoorM0
import Derived.Test.YtahacmdhhfmhiaaDoorMA
namespace Go.Proofs.YtahacmdhhfmhiaaDoor.M
open Go.RowKit Go.Proofs.YtahacmdhhfmhiaaDoorW.PrintWords Go.Proofs.YtahacmdhhfmhiaaDoorW.PrintLast Go.Proofs.YtahacmdhhfmhiaaDoorW.PrintMore
attribute [local go_sem] max2_int min2_int max_two min_two max_three min_three max_four min_four   -- for this text's walks alone
set_option linter.unusedVariables false
set_option linter.unusedSimpArgs false
def table_Rule_bytes.f (k : Nat) (l0_0 : List (S59)) (l0_1 : List (S59)) (a0_2 : Int) : Option (ByteArray) := (some (([(a0_2) % 256, (a0_2 / 256) % 256, (a0_2 / 65536) % 256, (a0_2 / 16777216) % 256, ((l0_0.length : Int)) % 256, ((l0_1.length : Int)) % 256] : List Int) : List Int)).bind fun y126 => ((codec_Encode.f k l0_0).bind fun bt129 => (if y126.length + bt129.1.length < 140737488355328 then ((some (y126 ++ bt129.1 : List Int)).bind fun y133 => ((codec_Encode.f k l0_1).bind fun bt136 => (if y133.length + bt136.1.length < 140737488355328 then (some (strOfNums (y133 ++ bt136.1))) else (none)))) else (none)))
theorem table_Rule_bytes.mono : ∀ a0 a1 a2 k, LeO (table_Rule_bytes.f k a0 a1 a2) (table_Rule_bytes.f (k + 1) a0 a1 a2) := by
 intro a0 a1 a2 k
 unfold table_Rule_bytes.f
 repeat' first
   | (with_reducible apply codec_Encode.mono)
   | (with_reducible exact LeO.refl _)
   | (with_reducible exact LeO.none _)
   | (with_reducible refine LeO.ite ?_ ?_)
   | (with_reducible refine LeO.bind ?_ (fun _ => ?_))
   | apply codec_Encode.mono
   | exact LeO.none _
   | refine LeO.ite ?_ ?_
   | refine LeO.bind ?_ (fun _ => ?_)
set_option maxHeartbeats 8000000 in
set_option maxRecDepth 100000 in
theorem table_Rule_bytes.calls (k : Nat) (A0_0 : Option Addr) (c0_0 : Nat) (l0_0 : List (S59)) (A0_1 : Option Addr) (c0_1 : Nat) (l0_1 : List (S59)) (a0_2 : Int) (r : ByteArray) (w : World) (hr0_0 : Kd.C k59 w A0_0 l0_0.length l0_0) (hc0_0 : l0_0.length ≤ c0_0) (hr0_1 : Kd.C k59 w A0_1 l0_1.length l0_1) (hc0_1 : l0_1.length ≤ c0_1) (hG : Glob w) (h : table_Rule_bytes.f k l0_0 l0_1 a0_2 = some r) :
  Calls Tryd.prog 28 #[.agg #[.slice A0_0 l0_0.length c0_0, .slice A0_1 l0_1.length c0_1, .int .u32 a0_2]] w fun e w' => e = .returned (.string r) ∧ Below w.heap.size w w' := by
 have hu42 := Tryd.underlying42
 have HG := Aside0.mk hG
 clear hG
 have HR0_0 := Aside0.mk hr0_0
 have HC0_0 := Aside0.mk hc0_0
 clear hr0_0 hc0_0
 have HR0_1 := Aside0.mk hr0_1
 have HC0_1 := Aside0.mk hc0_1
 clear hr0_1 hc0_1
 have HB := Aside0.mk (Below.refl w.heap.size w)
 have H : ((some (([(a0_2) % 256, (a0_2 / 256) % 256, (a0_2 / 65536) % 256, (a0_2 / 16777216) % 256, ((l0_0.length : Int)) % 256, ((l0_1.length : Int)) % 256] : List Int) : List Int)).bind fun y126 => ((codec_Encode.f k l0_0).bind fun bt129 => (if y126.length + bt129.1.length < 140737488355328 then ((some (y126 ++ bt129.1 : List Int)).bind fun y133 => ((codec_Encode.f k l0_1).bind fun bt136 => (if y133.length + bt136.1.length < 140737488355328 then (some (strOfNums (y133 ++ bt136.1))) else (none)))) else (none)))) = some r := h
 clear h
 obtain ⟨y126, hy126⟩ : ∃ y_ : List Int, y_ = (([(a0_2) % 256, (a0_2 / 256) % 256, (a0_2 / 65536) % 256, (a0_2 / 16777216) % 256, ((l0_0.length : Int)) % 256, ((l0_1.length : Int)) % 256] : List Int)) := ⟨_, rfl⟩
 simp only [Option.bind_some, ← hy126] at H
 have Ny126 := Aside0.mk hy126
 clear hy126
 replace H := Option.bind_eq_some_iff.mp H
 obtain ⟨⟨t129, t130⟩, A20, H⟩ := H
 try dsimp only at H
 have A2 := Aside0.mk A20
 clear A20
 by_cases c3 : y126.length + t129.length < 140737488355328
 ·rw [if_pos c3] at H
  have LMc3 := Aside0.mk c3
  clear c3
  obtain ⟨y133, hy133⟩ : ∃ y_ : List Int, y_ = (y126 ++ t129) := ⟨_, rfl⟩
  simp only [Option.bind_some, ← hy133] at H
  have Ny133 := Aside0.mk hy133
  clear hy133
  replace H := Option.bind_eq_some_iff.mp H
  obtain ⟨⟨t136, t137⟩, A40, H⟩ := H
  try dsimp only at H
  have A4 := Aside0.mk A40
  clear A40
  by_cases c5 : y133.length + t136.length < 140737488355328
  ·rw [if_pos c5] at H
   have LMc5 := Aside0.mk c5
   clear c5
   obtain ⟨y140, hy140⟩ : ∃ y_ : List Int, y_ = (y133 ++ t136) := ⟨_, rfl⟩
   simp only [Option.bind_some, ← hy140] at H
   have Ny140 := Aside0.mk hy140
   clear hy140
   obtain rfl := Option.some.inj H
   go_enter Tryd.func28, Tryd.ntmps28
   have hidx0 := fun W => (pair_index (P := Tryd.prog) W 75 39 59 (.slice A0_0 l0_0.length c0_0) (.slice A0_1 l0_1.length c0_1) Tryd.underlying75 Tryd.underlying39 (by kernel_rfl)).1
   have hidx1 := fun W => (pair_index (P := Tryd.prog) W 75 39 59 (.slice A0_0 l0_0.length c0_0) (.slice A0_1 l0_1.length c0_1) Tryd.underlying75 Tryd.underlying39 (by kernel_rfl)).2
   go_wp2_with (first | ((with_reducible refine gate_dst (N := 1) rfl ?_); refine box_event rfl (N := 1) rfl (cs := #[.slice A0_0 l0_0.length c0_0, .slice A0_1 l0_1.length c0_1, .int .u32 a0_2]) (t := 42) jW ?_; intro gb125 hg w6 hbox hb; have BK125 := Aside0.mk hbox; have GW125 := Aside0.mk (jG hg HB); have GE125 := Aside0.mk (jG hg HB); replace HB := Aside0.mk (zT (jH HB) hb); clear hb hbox hg; obtain ⟨hcz7_0, hcz7_1, hcz7_2, hfz7_0, hfz7_1, hfz7_2⟩ := kQ3 BK125.out) | ((with_reducible refine gate_dst (N := 31) rfl ?_); refine Kd.R_lit (Kd.int .u8) _ 5 ?hg (N := 31) ?hd (xs := ([(a0_2) % 256, (a0_2 / 256) % 256, (a0_2 / 65536) % 256, (a0_2 / 16777216) % 256, ((l0_0.length : Int)) % 256, ((l0_1.length : Int)) % 256] : List Int)) (inner := [.int .u8 ((a0_2) % 256), .int .u8 ((a0_2 / 256) % 256), .int .u8 ((a0_2 / 65536) % 256), .int .u8 ((a0_2 / 16777216) % 256), .int .u8 (((l0_0.length : Int)) % 256), .int .u8 (((l0_1.length : Int)) % 256)]) (ok := fun _ => True) (okp := fun _ => True) ?hr ?hp (fun _ hk => hk) trivial (Below.refl _ _) (Nat.le_refl _) (by simp) ?_; (case hd => rfl); (case hg => rfl); (case hr => first | (go_simp; done) | (go_simp; rfl)); (case hp => exact (Reps.one (show Kd.M (Kd.int .u8) _ _ _ ((a0_2) % 256) [.int .u8 ((a0_2) % 256)] from rfl) (Reps.one (show Kd.M (Kd.int .u8) _ _ _ ((a0_2 / 256) % 256) [.int .u8 ((a0_2 / 256) % 256)] from rfl) (Reps.one (show Kd.M (Kd.int .u8) _ _ _ ((a0_2 / 65536) % 256) [.int .u8 ((a0_2 / 65536) % 256)] from rfl) (Reps.one (show Kd.M (Kd.int .u8) _ _ _ ((a0_2 / 16777216) % 256) [.int .u8 ((a0_2 / 16777216) % 256)] from rfl) (Reps.one (show Kd.M (Kd.int .u8) _ _ _ (((l0_0.length : Int)) % 256) [.int .u8 (((l0_0.length : Int)) % 256)] from rfl) (Reps.one (show Kd.M (Kd.int .u8) _ _ _ (((l0_1.length : Int)) % 256) [.int .u8 (((l0_1.length : Int)) % 256)] from rfl) (Reps.none _ _)))))))); intro v127 w8 ho9 hb hg_ hnew_; clear hg_ hnew_; (first | rw [← Ny126.out] at ho9 | (simp only [Int.reduceToNat] at ho9; rw [← Ny126.out] at ho9)); have HO128 := Aside0.mk (Kd.R_lower ho9 (zZ (jH HB))); replace BK125 := Aside0.mk (jB BK125 hb); replace HB := Aside0.mk (zT (jH HB) hb); clear hb ho9; obtain ⟨hcz10_0, hcz10_1, hcz10_2, hfz10_0, hfz10_1, hfz10_2⟩ := kQ3 BK125.out))
   refine wp_loop_rounds 3 ?_
   rw [rounds_succ]
   go_wp2_with (first | ((with_reducible refine gate_callee (f := 41) rfl ?_); refine goesL_ (some 42) rfl rfl Tryd.func41 (by kernel_rfl) rfl #[.slice A0_0 l0_0.length c0_0] rfl jZ ?_; (with_reducible refine (codec_Encode.calls k _ _ l0_0 t129 t130 _ ?side1 ?side2 ?side3 A2.out).mono ?_); (case side1 => exact jC (Kd.C_below HR0_0.out HB.out)); (case side2 => exact HC0_0.out); (case side3 => exact Glob.below HG.out (jH HB)); rintro e w11 ⟨v131, rfl, ho0, hb⟩; refine ⟨_, rfl, ?_⟩; have HO132 := Aside0.mk (Kd.R_lower (Kd.R_new' ho0 (Kd.R_lt (jR HO128))) (zZ (jH HB))); replace HO128 := Aside0.mk (Kd.R_elder' (jR HO128) (Kd.R_base ho0) hb); replace BK125 := Aside0.mk (jB BK125 hb); replace HB := Aside0.mk (zT (jH HB) hb); (try clear hb); (try clear hb2); (try clear hk); (try clear hi); (try clear ho0); obtain ⟨Ao13, co13, eo13⟩ := Kd.R_slice HO132.out; subst eo13) | ((with_reducible refine gate_builtin (b := .append) (xs := #[.tmp 45, .tmp 46]) rfl ?_); at_builtin; refine Kd.R_append_rows (Kd.int .u8) (w0 := w) w.heap.size rfl (.tmp 45) (.tmp 46) 25 5 (.int .u8 0) 1 rfl Tryd.underlying25 info5 rfl (by decide) (by omega) v127 y126 t129 _ _ _ (fun k_ => some k_ ≠ (.slice Ao13 t129.length co13 : Value).ownBlock) (fun _ => False) rfl rfl ?aO ?aR (fun _ _ h => h) (fun _ h => h.elim) ?aF ?aB ?aS ?aL ?_; (case aR => repeat (first | exact (Kd.R_reads' HO132.out).2.2 | (with_reducible refine Kd.C_alloc ?_ _) | (with_reducible refine Kd.C_drewN ?_ _) | (with_reducible refine Kd.C_drew ?_))); (case aB => exact (jH HB)); (case aF => exact (fun k_ hk => Kd.fresh' (Kd.R_lt (jR HO132)) k_ hk)); (case aO => exact (by (with_reducible repeat (first | apply Kd.R_alloc | apply Kd.R_drewN | apply Kd.R_drew)); exact Kd.R_mono HO128.out (fun _ hk => hk.2))); (case aS => exact (zZ (jH HB))); (case aL => have := LMc3.out; omega); intro v134 w12 ho hb hg hat; rw [← Ny133.out] at ho; have HO135 := Aside0.mk (ho); replace BK125 := Aside0.mk (kG (g := gb125) (o := .cells #[.slice A0_0 l0_0.length c0_0, .slice A0_1 l0_1.length c0_1, .int .u32 a0_2] 42 (0, 0)) (jK BK125) hg (Kd.R_ne HO128.out BK125.out (by decide))); replace HO132 := Aside0.mk (Kd.R_after (ok := (fun _ => True)) (jR HO132) hg hat); replace HB := Aside0.mk (hb); clear HO128; clear ho hb hg hat))
   rw [rounds_succ]
   go_wp2_with (first | ((with_reducible refine gate_callee (f := 41) rfl ?_); refine goesL_ (some 42) rfl rfl Tryd.func41 (by kernel_rfl) rfl #[.slice A0_1 l0_1.length c0_1] rfl jZ ?_; (with_reducible refine (codec_Encode.calls k _ _ l0_1 t136 t137 _ ?side1 ?side2 ?side3 A4.out).mono ?_); (case side1 => exact jC (Kd.C_below HR0_1.out HB.out)); (case side2 => exact HC0_1.out); (case side3 => exact Glob.below HG.out (jH HB)); rintro e w14 ⟨v138, rfl, ho0, hb⟩; refine ⟨_, rfl, ?_⟩; have HO139 := Aside0.mk (Kd.R_lower (Kd.R_new' (Kd.R_new' ho0 (Kd.R_lt (jR HO132))) (Kd.R_lt (jR HO135))) (zZ (jH HB))); replace HO132 := Aside0.mk (Kd.R_elder' (jR HO132) (Kd.R_base ho0) hb); replace HO135 := Aside0.mk (Kd.R_elder' (jR HO135) (Kd.R_base ho0) hb); replace BK125 := Aside0.mk (jB BK125 hb); replace HB := Aside0.mk (zT (jH HB) hb); (try clear hb); (try clear hb2); (try clear hk); (try clear hi); (try clear ho0); obtain ⟨Ao16, co16, eo16⟩ := Kd.R_slice HO139.out; subst eo16) | ((with_reducible refine gate_builtin (b := .append) (xs := #[.tmp 45, .tmp 46]) rfl ?_); at_builtin; refine Kd.R_append_rows (Kd.int .u8) (w0 := w) w.heap.size rfl (.tmp 45) (.tmp 46) 25 5 (.int .u8 0) 1 rfl Tryd.underlying25 info5 rfl (by decide) (by omega) v134 y133 t136 _ _ _ (fun k_ => some k_ ≠ (.slice Ao13 t129.length co13 : Value).ownBlock ∧ some k_ ≠ (.slice Ao16 t136.length co16 : Value).ownBlock) (fun _ => False) rfl rfl ?aO ?aR (fun _ _ h => h) (fun _ h => h.elim) ?aF ?aB ?aS ?aL ?_; (case aR => repeat (first | exact (Kd.R_reads' HO139.out).2.2 | (with_reducible refine Kd.C_alloc ?_ _) | (with_reducible refine Kd.C_drewN ?_ _) | (with_reducible refine Kd.C_drew ?_))); (case aB => exact (jH HB)); (case aF => exact (fun k_ hk => ⟨Kd.fresh' (Kd.R_lt (jR HO132)) k_ hk, Kd.fresh' (Kd.R_lt (jR HO139)) k_ hk⟩)); (case aO => exact (jR HO135)); (case aS => exact (zZ (jH HB))); (case aL => have := LMc5.out; omega); intro v141 w15 ho hb hg hat; rw [← Ny140.out] at ho; have n0_ := Aside0.mk (kG (g := gb125) (o := .cells #[.slice A0_0 l0_0.length c0_0, .slice A0_1 l0_1.length c0_1, .int .u32 a0_2] 42 (0, 0)) (jK BK125) hg (Kd.R_ne HO135.out BK125.out (by decide))); have n1_ := Aside0.mk (Kd.R_after (ok := (fun k_ => some k_ ≠ (.slice Ao16 t136.length co16 : Value).ownBlock)) (by (with_reducible repeat (first | apply Kd.R_alloc | apply Kd.R_drewN | apply Kd.R_drew)); exact Kd.R_mono HO132.out (fun _ hk => ⟨hk.2, hk.1.2⟩)) hg hat); have n2_ := Aside0.mk (Kd.R_after (ok := (fun k_ => some k_ ≠ (.slice Ao13 t129.length co13 : Value).ownBlock)) (by (with_reducible repeat (first | apply Kd.R_alloc | apply Kd.R_drewN | apply Kd.R_drew)); exact Kd.R_mono HO139.out (fun _ hk => ⟨hk.1.2, hk.2⟩)) hg hat); have n3_ := Aside0.mk (hb); have n4_ := Aside0.mk (ho); clear BK125; clear HO132; clear HO139; clear HB; clear HO135; have BK125 := n0_; have HO132 := n1_; have HO139 := n2_; have HB := n3_; have HO142 := n4_; clear n0_ n1_ n2_ n3_ n4_; clear ho hb hg hat; have hcv17 := own_string (P := Tryd.prog) Tryd.underlying25 Tryd.underlying5 Tryd.underlying9 (Kd.own_of_R HO142.out)))
   rw [rounds_succ]
   go_wp2_with (fail)
   go_ret
   exact ⟨jE, jH HB⟩
  ·rw [if_neg c5] at H
   exact absurd H (by simp)
 ·rw [if_neg c3] at H
  exact absurd H (by simp)
def ins_Branch.f (a0_0 : Int) (a0_1 : Int) (a0_2 : Int) (a0_3 : Int) : Option (Bool) := (ins_of.f a0_0).bind fun bt144 => (if bt144.2.2.2.2 = true then (if (Go.bits .and .i64 a0_0 7) = 5 then (some (a0_0 != 5)) else (some false)) else (some false))
set_option maxHeartbeats 8000000 in
set_option maxRecDepth 100000 in
theorem ins_Branch.calls (a0_0 : Int) (a0_1 : Int) (a0_2 : Int) (a0_3 : Int) (r : Bool) (w : World) (hG : Glob w) (h : ins_Branch.f a0_0 a0_1 a0_2 a0_3 = some r) :
  Calls Tryd.prog 53 #[.agg #[.int .i64 a0_0, .int .i64 a0_1, .int .i64 a0_2, .int .u32 a0_3]] w fun e w' => e = .returned (.bool r) ∧ Below w.heap.size w w' := by
 have hu59 := Tryd.underlying59
 have hu95 := Tryd.underlying95
 have HG := Aside0.mk hG
 clear hG
 have HB := Aside0.mk (Below.refl w.heap.size w)
 have H : ((ins_of.f a0_0).bind fun bt144 => (if bt144.2.2.2.2 = true then (if (Go.bits .and .i64 a0_0 7) = 5 then (some (a0_0 != 5)) else (some false)) else (some false))) = some r := h
 clear h
 replace H := Option.bind_eq_some_iff.mp H
 obtain ⟨⟨t144, t145, t146, t147, t148⟩, A20, H⟩ := H
 try dsimp only at H
 have A2 := Aside0.mk A20
 clear A20
 by_cases c3 : t148 = true
 ·subst c3
  rw [if_pos rfl] at H
  by_cases c4 : (Go.bits .and .i64 a0_0 7) = 5
  ·rw [if_pos c4] at H
   have c4b0 : ((Go.bits .and .i64 a0_0 7) == 5) = true := bI.mpr c4
   have c4b1 : ((Go.bits .and .i64 a0_0 7) != 5) = false := nF.mpr c4
   clear c4
   obtain rfl := Option.some.inj H
   go_enter Tryd.func53, Tryd.ntmps53
   go_wp2_with (first | ((with_reducible refine gate_dst (N := 1) rfl ?_); refine box_event rfl (N := 1) rfl (cs := #[.int .i64 a0_0, .int .i64 a0_1, .int .i64 a0_2, .int .u32 a0_3]) (t := 59) jW ?_; intro gb143 hg w5 hbox hb; have BK143 := Aside0.mk hbox; have GW143 := Aside0.mk (jG hg HB); have GE143 := Aside0.mk (jG hg HB); replace HB := Aside0.mk (zT (jH HB) hb); clear hb hbox hg; obtain ⟨hcz6_0, hcz6_1, hcz6_2, hcz6_3, hfz6_0, hfz6_1, hfz6_2, hfz6_3⟩ := kQ4 BK143.out) | ((with_reducible refine gate_callee (f := 63) rfl ?_); refine goesL_ (some 8) rfl rfl Tryd.func63 (by kernel_rfl) rfl #[.int .i64 a0_0] rfl jZ ?_; (with_reducible refine (ins_of.calls a0_0 t144 t145 t146 t147 true _ ?side1 A2.out).mono ?_); (case side1 => exact Glob.below HG.out (jH HB)); rintro e w7 ⟨rfl, hb⟩; refine ⟨_, rfl, ?_⟩; replace BK143 := Aside0.mk (jB BK143 hb); replace HB := Aside0.mk (zT (jH HB) hb); (try clear hb); (try clear hb2); (try clear hk); (try clear hi)) | ((with_reducible refine gate_dst (N := 3) rfl ?_); refine box_event rfl (N := 3) rfl (cs := #[.int .i64 0, .string (⟨#[]⟩ : ByteArray), .bool false, .bool false]) (t := 95) jW ?_; intro gb149 hg w8 hbox hb; have BK149 := Aside0.mk hbox; have GW149 := Aside0.mk (jG hg HB); have GE149 := Aside0.mk (jG hg HB); have NB143_149 := Aside0.mk (jN hg BK143); have NB149_143 := Aside0.mk (jM hg BK143); replace BK143 := Aside0.mk (jB BK143 hb); replace HB := Aside0.mk (zT (jH HB) hb); clear hb hbox hg; have hnb9 := NB149_143.out; have hnc9 := NB143_149.out; obtain ⟨hcz10_0, hcz10_1, hcz10_2, hcz10_3, hfz10_0, hfz10_1, hfz10_2, hfz10_3⟩ := kQ4 BK149.out; obtain ⟨hcz11_0, hcz11_1, hcz11_2, hcz11_3, hfz11_0, hfz11_1, hfz11_2, hfz11_3⟩ := kQ4 BK143.out))
   go_ret
   exact ⟨jE, jH HB⟩
  ·rw [if_neg c4] at H
   have c4b0 : ((Go.bits .and .i64 a0_0 7) == 5) = false := bF.mpr c4
   have c4b1 : ((Go.bits .and .i64 a0_0 7) != 5) = true := nI.mpr c4
   obtain rfl := Option.some.inj H
   go_enter Tryd.func53, Tryd.ntmps53
   go_wp2_with (first | ((with_reducible refine gate_dst (N := 1) rfl ?_); refine box_event rfl (N := 1) rfl (cs := #[.int .i64 a0_0, .int .i64 a0_1, .int .i64 a0_2, .int .u32 a0_3]) (t := 59) jW ?_; intro gb143 hg w12 hbox hb; have BK143 := Aside0.mk hbox; have GW143 := Aside0.mk (jG hg HB); have GE143 := Aside0.mk (jG hg HB); replace HB := Aside0.mk (zT (jH HB) hb); clear hb hbox hg; obtain ⟨hcz13_0, hcz13_1, hcz13_2, hcz13_3, hfz13_0, hfz13_1, hfz13_2, hfz13_3⟩ := kQ4 BK143.out) | ((with_reducible refine gate_callee (f := 63) rfl ?_); refine goesL_ (some 8) rfl rfl Tryd.func63 (by kernel_rfl) rfl #[.int .i64 a0_0] rfl jZ ?_; (with_reducible refine (ins_of.calls a0_0 t144 t145 t146 t147 true _ ?side1 A2.out).mono ?_); (case side1 => exact Glob.below HG.out (jH HB)); rintro e w14 ⟨rfl, hb⟩; refine ⟨_, rfl, ?_⟩; replace BK143 := Aside0.mk (jB BK143 hb); replace HB := Aside0.mk (zT (jH HB) hb); (try clear hb); (try clear hb2); (try clear hk); (try clear hi)) | ((with_reducible refine gate_dst (N := 3) rfl ?_); refine box_event rfl (N := 3) rfl (cs := #[.int .i64 0, .string (⟨#[]⟩ : ByteArray), .bool false, .bool false]) (t := 95) jW ?_; intro gb149 hg w15 hbox hb; have BK149 := Aside0.mk hbox; have GW149 := Aside0.mk (jG hg HB); have GE149 := Aside0.mk (jG hg HB); have NB143_149 := Aside0.mk (jN hg BK143); have NB149_143 := Aside0.mk (jM hg BK143); replace BK143 := Aside0.mk (jB BK143 hb); replace HB := Aside0.mk (zT (jH HB) hb); clear hb hbox hg; have hnb16 := NB149_143.out; have hnc16 := NB143_149.out; obtain ⟨hcz17_0, hcz17_1, hcz17_2, hcz17_3, hfz17_0, hfz17_1, hfz17_2, hfz17_3⟩ := kQ4 BK149.out; obtain ⟨hcz18_0, hcz18_1, hcz18_2, hcz18_3, hfz18_0, hfz18_1, hfz18_2, hfz18_3⟩ := kQ4 BK143.out))
   go_ret
   exact ⟨jE, jH HB⟩
 ·replace c3 := Bool.eq_false_iff.mpr c3
  subst c3
  rw [if_neg (show ¬ (false = true) by decide)] at H
  obtain rfl := Option.some.inj H
  go_enter Tryd.func53, Tryd.ntmps53
  go_wp2_with (first | ((with_reducible refine gate_dst (N := 1) rfl ?_); refine box_event rfl (N := 1) rfl (cs := #[.int .i64 a0_0, .int .i64 a0_1, .int .i64 a0_2, .int .u32 a0_3]) (t := 59) jW ?_; intro gb143 hg w19 hbox hb; have BK143 := Aside0.mk hbox; have GW143 := Aside0.mk (jG hg HB); have GE143 := Aside0.mk (jG hg HB); replace HB := Aside0.mk (zT (jH HB) hb); clear hb hbox hg; obtain ⟨hcz20_0, hcz20_1, hcz20_2, hcz20_3, hfz20_0, hfz20_1, hfz20_2, hfz20_3⟩ := kQ4 BK143.out) | ((with_reducible refine gate_callee (f := 63) rfl ?_); refine goesL_ (some 8) rfl rfl Tryd.func63 (by kernel_rfl) rfl #[.int .i64 a0_0] rfl jZ ?_; (with_reducible refine (ins_of.calls a0_0 t144 t145 t146 t147 false _ ?side1 A2.out).mono ?_); (case side1 => exact Glob.below HG.out (jH HB)); rintro e w21 ⟨rfl, hb⟩; refine ⟨_, rfl, ?_⟩; replace BK143 := Aside0.mk (jB BK143 hb); replace HB := Aside0.mk (zT (jH HB) hb); (try clear hb); (try clear hb2); (try clear hk); (try clear hi)) | ((with_reducible refine gate_dst (N := 3) rfl ?_); refine box_event rfl (N := 3) rfl (cs := #[.int .i64 0, .string (⟨#[]⟩ : ByteArray), .bool false, .bool false]) (t := 95) jW ?_; intro gb149 hg w22 hbox hb; have BK149 := Aside0.mk hbox; have GW149 := Aside0.mk (jG hg HB); have GE149 := Aside0.mk (jG hg HB); have NB143_149 := Aside0.mk (jN hg BK143); have NB149_143 := Aside0.mk (jM hg BK143); replace BK143 := Aside0.mk (jB BK143 hb); replace HB := Aside0.mk (zT (jH HB) hb); clear hb hbox hg; have hnb23 := NB149_143.out; have hnc23 := NB143_149.out; obtain ⟨hcz24_0, hcz24_1, hcz24_2, hcz24_3, hfz24_0, hfz24_1, hfz24_2, hfz24_3⟩ := kQ4 BK149.out))
  go_ret
  exact ⟨jE, jH HB⟩
def ins_Ends.f (a0_0 : Int) (a0_1 : Int) (a0_2 : Int) (a0_3 : Int) : Option (Bool) := if a0_0 = 6 then (some true) else (some (a0_0 == 22))
set_option maxHeartbeats 8000000 in
set_option maxRecDepth 100000 in
theorem ins_Ends.calls (a0_0 : Int) (a0_1 : Int) (a0_2 : Int) (a0_3 : Int) (r : Bool) (w : World) (h : ins_Ends.f a0_0 a0_1 a0_2 a0_3 = some r) :
  Calls Tryd.prog 54 #[.agg #[.int .i64 a0_0, .int .i64 a0_1, .int .i64 a0_2, .int .u32 a0_3]] w fun e w' => e = .returned (.bool r) ∧ Below w.heap.size w w' := by
 have hu59 := Tryd.underlying59
 have HB := Aside0.mk (Below.refl w.heap.size w)
 have H : (if a0_0 = 6 then (some true) else (some (a0_0 == 22))) = some r := h
 clear h
 by_cases c2 : a0_0 = 6
 ·rw [if_pos c2] at H
  have c2b0 : (a0_0 == 6) = true := bI.mpr c2
  have c2b1 : (a0_0 != 6) = false := nF.mpr c2
  clear c2
  obtain rfl := Option.some.inj H
  go_enter Tryd.func54, Tryd.ntmps54
  go_wp2_with (first | ((with_reducible refine gate_dst (N := 1) rfl ?_); refine box_event rfl (N := 1) rfl (cs := #[.int .i64 a0_0, .int .i64 a0_1, .int .i64 a0_2, .int .u32 a0_3]) (t := 59) jW ?_; intro gb150 hg w3 hbox hb; have BK150 := Aside0.mk hbox; have GW150 := Aside0.mk (jG hg HB); have GE150 := Aside0.mk (jG hg HB); replace HB := Aside0.mk (zT (jH HB) hb); clear hb hbox hg; obtain ⟨hcz4_0, hcz4_1, hcz4_2, hcz4_3, hfz4_0, hfz4_1, hfz4_2, hfz4_3⟩ := kQ4 BK150.out))
  go_ret
  exact ⟨jE, jH HB⟩
 ·rw [if_neg c2] at H
  have c2b0 : (a0_0 == 6) = false := bF.mpr c2
  have c2b1 : (a0_0 != 6) = true := nI.mpr c2
  obtain rfl := Option.some.inj H
  go_enter Tryd.func54, Tryd.ntmps54
  go_wp2_with (first | ((with_reducible refine gate_dst (N := 1) rfl ?_); refine box_event rfl (N := 1) rfl (cs := #[.int .i64 a0_0, .int .i64 a0_1, .int .i64 a0_2, .int .u32 a0_3]) (t := 59) jW ?_; intro gb150 hg w5 hbox hb; have BK150 := Aside0.mk hbox; have GW150 := Aside0.mk (jG hg HB); have GE150 := Aside0.mk (jG hg HB); replace HB := Aside0.mk (zT (jH HB) hb); clear hb hbox hg; obtain ⟨hcz6_0, hcz6_1, hcz6_2, hcz6_3, hfz6_0, hfz6_1, hfz6_2, hfz6_3⟩ := kQ4 BK150.out))
  go_ret
  exact ⟨jE, jH HB⟩
-- NOT PRINTED: function 67 (check_rules)
def check_ways.f (a0_0 : Int) (a0_1 : Int) (a0_2 : Int) (a0_3 : Int) (a1 : Int) : Option (List Int) := (ins_Ends.f a0_0 a0_1 a0_2 a0_3).bind fun t152 => (if t152 = true then (some ([] : List Int)) else (if a0_0 = 5 then (some (([wrap64 ((wrap64 (a1 + 1)) + (wrap64 (a0_3)))] : List Int))) else ((ins_Branch.f a0_0 a0_1 a0_2 a0_3).bind fun t156 => (if t156 = true then (some (([wrap64 ((wrap64 (a1 + 1)) + (mn a0_1 a0_2)), wrap64 ((wrap64 (a1 + 1)) + (mx a0_1 a0_2))] : List Int))) else (some (([wrap64 (a1 + 1)] : List Int)))))))
set_option maxHeartbeats 8000000 in
set_option maxRecDepth 100000 in
theorem check_ways.calls (a0_0 : Int) (a0_1 : Int) (a0_2 : Int) (a0_3 : Int) (a1 : Int) (r : List Int) (w : World) (hG : Glob w) (h : check_ways.f a0_0 a0_1 a0_2 a0_3 a1 = some r) :
  Calls Tryd.prog 68 #[.agg #[.int .i64 a0_0, .int .i64 a0_1, .int .i64 a0_2, .int .u32 a0_3], .int .i64 a1] w fun e w' => ∃ v0_ : Value, e = .returned (v0_) ∧ Kd.R (Kd.int .i64) 2 w' w.heap.size (fun _ => True) v0_ r ∧ Below w.heap.size w w' := by
 have hu59 := Tryd.underlying59
 have HG := Aside0.mk hG
 clear hG
 have HB := Aside0.mk (Below.refl w.heap.size w)
 have H : ((ins_Ends.f a0_0 a0_1 a0_2 a0_3).bind fun t152 => (if t152 = true then (some ([] : List Int)) else (if a0_0 = 5 then (some (([wrap64 ((wrap64 (a1 + 1)) + (wrap64 (a0_3)))] : List Int))) else ((ins_Branch.f a0_0 a0_1 a0_2 a0_3).bind fun t156 => (if t156 = true then (some (([wrap64 ((wrap64 (a1 + 1)) + (mn a0_1 a0_2)), wrap64 ((wrap64 (a1 + 1)) + (mx a0_1 a0_2))] : List Int))) else (some (([wrap64 (a1 + 1)] : List Int)))))))) = some r := h
 clear h
 replace H := Option.bind_eq_some_iff.mp H
 obtain ⟨t152, A30, H⟩ := H
 try dsimp only at H
 have A3 := Aside0.mk A30
 clear A30
 by_cases c4 : t152 = true
 ·subst c4
  rw [if_pos rfl] at H
  obtain rfl := Option.some.inj H
  go_enter Tryd.func68, Tryd.ntmps68
  go_wp2_with (first | ((with_reducible refine gate_dst (N := 2) rfl ?_); refine box_event rfl (N := 2) rfl (cs := #[.int .i64 a0_0, .int .i64 a0_1, .int .i64 a0_2, .int .u32 a0_3]) (t := 59) jW ?_; intro gb151 hg w5 hbox hb; have BK151 := Aside0.mk hbox; have GW151 := Aside0.mk (jG hg HB); have GE151 := Aside0.mk (jG hg HB); replace HB := Aside0.mk (zT (jH HB) hb); clear hb hbox hg; obtain ⟨hcz6_0, hcz6_1, hcz6_2, hcz6_3, hfz6_0, hfz6_1, hfz6_2, hfz6_3⟩ := kQ4 BK151.out) | ((with_reducible refine gate_callee (f := 54) rfl ?_); refine goesL_ (some 10) rfl rfl Tryd.func54 (by kernel_rfl) rfl #[.agg #[.int .i64 a0_0, .int .i64 a0_1, .int .i64 a0_2, .int .u32 a0_3]] rfl jZ ?_; (with_reducible refine (ins_Ends.calls a0_0 a0_1 a0_2 a0_3 true _ A3.out).mono ?_); rintro e w7 ⟨rfl, hb⟩; refine ⟨_, rfl, ?_⟩; replace BK151 := Aside0.mk (jB BK151 hb); replace HB := Aside0.mk (zT (jH HB) hb); (try clear hb); (try clear hb2); (try clear hk); (try clear hi)))
  go_ret
  exact ⟨_, jE, by first | exact Kd.R_nil _ _ _ _ _ | exact Kd.N_nil _ _ _ _ _ | exact Kd.V_nil _ _ _ _ _ | exact Kd.Q_nil _ _ _ _ _ | exact Kd.S_nil _ _ _ _ _, jH HB⟩
 ·replace c4 := Bool.eq_false_iff.mpr c4
  subst c4
  rw [if_neg (show ¬ (false = true) by decide)] at H
  by_cases c8 : a0_0 = 5
  ·rw [if_pos c8] at H
   have c8b0 : (a0_0 == 5) = true := bI.mpr c8
   have c8b1 : (a0_0 != 5) = false := nF.mpr c8
   clear c8
   obtain ⟨y153, hy153⟩ : ∃ y_ : List Int, y_ = (([wrap64 ((wrap64 (a1 + 1)) + (wrap64 (a0_3)))] : List Int)) := ⟨_, rfl⟩
   simp only [Option.bind_some, ← hy153] at H
   have Ny153 := Aside0.mk hy153
   clear hy153
   obtain rfl := Option.some.inj H
   go_enter Tryd.func68, Tryd.ntmps68
   go_wp2_with (first | ((with_reducible refine gate_dst (N := 2) rfl ?_); refine box_event rfl (N := 2) rfl (cs := #[.int .i64 a0_0, .int .i64 a0_1, .int .i64 a0_2, .int .u32 a0_3]) (t := 59) jW ?_; intro gb151 hg w9 hbox hb; have BK151 := Aside0.mk hbox; have GW151 := Aside0.mk (jG hg HB); have GE151 := Aside0.mk (jG hg HB); replace HB := Aside0.mk (zT (jH HB) hb); clear hb hbox hg; obtain ⟨hcz10_0, hcz10_1, hcz10_2, hcz10_3, hfz10_0, hfz10_1, hfz10_2, hfz10_3⟩ := kQ4 BK151.out) | ((with_reducible refine gate_callee (f := 54) rfl ?_); refine goesL_ (some 10) rfl rfl Tryd.func54 (by kernel_rfl) rfl #[.agg #[.int .i64 a0_0, .int .i64 a0_1, .int .i64 a0_2, .int .u32 a0_3]] rfl jZ ?_; (with_reducible refine (ins_Ends.calls a0_0 a0_1 a0_2 a0_3 false _ A3.out).mono ?_); rintro e w11 ⟨rfl, hb⟩; refine ⟨_, rfl, ?_⟩; replace BK151 := Aside0.mk (jB BK151 hb); replace HB := Aside0.mk (zT (jH HB) hb); (try clear hb); (try clear hb2); (try clear hk); (try clear hi); obtain ⟨hcz12_0, hcz12_1, hcz12_2, hcz12_3, hfz12_0, hfz12_1, hfz12_2, hfz12_3⟩ := kQ4 BK151.out) | ((with_reducible refine gate_dst (N := 20) rfl ?_); refine Kd.R_lit (Kd.int .i64) _ 2 ?hg (N := 20) ?hd (xs := ([wrap64 ((wrap64 (a1 + 1)) + (wrap64 (a0_3)))] : List Int)) (inner := [.int .i64 (wrap64 ((wrap64 (a1 + 1)) + (wrap64 (a0_3))))]) (ok := fun _ => True) (okp := fun _ => True) ?hr ?hp (fun _ hk => hk) trivial (Below.refl _ _) (Nat.le_refl _) (by simp) ?_; (case hd => rfl); (case hg => rfl); (case hr => first | (go_simp; done) | (go_simp; rfl)); (case hp => exact (Reps.one (show Kd.M (Kd.int .i64) _ _ _ (wrap64 ((wrap64 (a1 + 1)) + (wrap64 (a0_3)))) [.int .i64 (wrap64 ((wrap64 (a1 + 1)) + (wrap64 (a0_3))))] from rfl) (Reps.none _ _))); intro v154 w13 ho14 hb hg_ hnew_; clear hg_ hnew_; (first | rw [← Ny153.out] at ho14 | (simp only [Int.reduceToNat] at ho14; rw [← Ny153.out] at ho14)); have HO155 := Aside0.mk (Kd.R_lower ho14 (zZ (jH HB))); replace BK151 := Aside0.mk (jB BK151 hb); replace HB := Aside0.mk (zT (jH HB) hb); clear hb ho14))
   go_ret
   exact ⟨_, jE, by (with_reducible repeat (first | apply Kd.R_alloc | apply Kd.R_drewN | apply Kd.R_drew)); exact HO155.out, jH HB⟩
  ·rw [if_neg c8] at H
   have c8b0 : (a0_0 == 5) = false := bF.mpr c8
   have c8b1 : (a0_0 != 5) = true := nI.mpr c8
   replace H := Option.bind_eq_some_iff.mp H
   obtain ⟨t156, A150, H⟩ := H
   try dsimp only at H
   have A15 := Aside0.mk A150
   clear A150
   by_cases c16 : t156 = true
   ·subst c16
    rw [if_pos rfl] at H
    obtain ⟨ji17, hji17⟩ : ∃ j_ : Int, (mn a0_1 a0_2) = j_ := ⟨_, rfl⟩
    replace H : (some (([wrap64 ((wrap64 (a1 + 1)) + (ji17)), wrap64 ((wrap64 (a1 + 1)) + (mx a0_1 a0_2))] : List Int))) = some r := by first | (rw [hji17] at H; exact H) | (simp only [hji17] at H ⊢; exact H)
    (try rw [hji17] at A3)
    (try rw [hji17] at A15)
    have hji17_ : (if a0_2 < a0_1 then a0_2 else a0_1) = ji17 := hji17
    obtain ⟨ji18, hji18⟩ : ∃ j_ : Int, (mx a0_1 a0_2) = j_ := ⟨_, rfl⟩
    replace H : (some (([wrap64 ((wrap64 (a1 + 1)) + (ji17)), wrap64 ((wrap64 (a1 + 1)) + (ji18))] : List Int))) = some r := by first | (rw [hji18] at H; exact H) | (simp only [hji18] at H ⊢; exact H)
    (try rw [hji18] at A3)
    (try rw [hji18] at A15)
    have hji18_ : (if a0_1 < a0_2 then a0_2 else a0_1) = ji18 := hji18
    obtain ⟨y157, hy157⟩ : ∃ y_ : List Int, y_ = (([wrap64 ((wrap64 (a1 + 1)) + (ji17)), wrap64 ((wrap64 (a1 + 1)) + (ji18))] : List Int)) := ⟨_, rfl⟩
    simp only [Option.bind_some, ← hy157] at H
    have Ny157 := Aside0.mk hy157
    clear hy157
    obtain rfl := Option.some.inj H
    go_enter Tryd.func68, Tryd.ntmps68
    go_wp2_with (first | ((with_reducible refine gate_dst (N := 2) rfl ?_); refine box_event rfl (N := 2) rfl (cs := #[.int .i64 a0_0, .int .i64 a0_1, .int .i64 a0_2, .int .u32 a0_3]) (t := 59) jW ?_; intro gb151 hg w19 hbox hb; have BK151 := Aside0.mk hbox; have GW151 := Aside0.mk (jG hg HB); have GE151 := Aside0.mk (jG hg HB); replace HB := Aside0.mk (zT (jH HB) hb); clear hb hbox hg; obtain ⟨hcz20_0, hcz20_1, hcz20_2, hcz20_3, hfz20_0, hfz20_1, hfz20_2, hfz20_3⟩ := kQ4 BK151.out) | ((with_reducible refine gate_callee (f := 54) rfl ?_); refine goesL_ (some 10) rfl rfl Tryd.func54 (by kernel_rfl) rfl #[.agg #[.int .i64 a0_0, .int .i64 a0_1, .int .i64 a0_2, .int .u32 a0_3]] rfl jZ ?_; (with_reducible refine (ins_Ends.calls a0_0 a0_1 a0_2 a0_3 false _ A3.out).mono ?_); rintro e w21 ⟨rfl, hb⟩; refine ⟨_, rfl, ?_⟩; replace BK151 := Aside0.mk (jB BK151 hb); replace HB := Aside0.mk (zT (jH HB) hb); (try clear hb); (try clear hb2); (try clear hk); (try clear hi); obtain ⟨hcz22_0, hcz22_1, hcz22_2, hcz22_3, hfz22_0, hfz22_1, hfz22_2, hfz22_3⟩ := kQ4 BK151.out) | ((with_reducible refine gate_callee (f := 53) rfl ?_); refine goesL_ (some 23) rfl rfl Tryd.func53 (by kernel_rfl) rfl #[.agg #[.int .i64 a0_0, .int .i64 a0_1, .int .i64 a0_2, .int .u32 a0_3]] rfl jZ ?_; (with_reducible refine (ins_Branch.calls a0_0 a0_1 a0_2 a0_3 true _ ?side1 A15.out).mono ?_); (case side1 => exact Glob.below HG.out (jH HB)); rintro e w23 ⟨rfl, hb⟩; refine ⟨_, rfl, ?_⟩; replace BK151 := Aside0.mk (jB BK151 hb); replace HB := Aside0.mk (zT (jH HB) hb); (try clear hb); (try clear hb2); (try clear hk); (try clear hi); obtain ⟨hcz24_0, hcz24_1, hcz24_2, hcz24_3, hfz24_0, hfz24_1, hfz24_2, hfz24_3⟩ := kQ4 BK151.out) | ((with_reducible refine gate_dst (N := 38) rfl ?_); refine Kd.R_lit (Kd.int .i64) _ 2 ?hg (N := 38) ?hd (xs := ([wrap64 ((wrap64 (a1 + 1)) + (ji17)), wrap64 ((wrap64 (a1 + 1)) + (ji18))] : List Int)) (inner := [.int .i64 (wrap64 ((wrap64 (a1 + 1)) + (ji17))), .int .i64 (wrap64 ((wrap64 (a1 + 1)) + (ji18)))]) (ok := fun _ => True) (okp := fun _ => True) ?hr ?hp (fun _ hk => hk) trivial (Below.refl _ _) (Nat.le_refl _) (by simp) ?_; (case hd => rfl); (case hg => rfl); (case hr => first | (go_simp; done) | (go_simp; rfl)); (case hp => exact (Reps.one (show Kd.M (Kd.int .i64) _ _ _ (wrap64 ((wrap64 (a1 + 1)) + (ji17))) [.int .i64 (wrap64 ((wrap64 (a1 + 1)) + (ji17)))] from rfl) (Reps.one (show Kd.M (Kd.int .i64) _ _ _ (wrap64 ((wrap64 (a1 + 1)) + (ji18))) [.int .i64 (wrap64 ((wrap64 (a1 + 1)) + (ji18)))] from rfl) (Reps.none _ _)))); intro v158 w25 ho26 hb hg_ hnew_; clear hg_ hnew_; (first | rw [← Ny157.out] at ho26 | (simp only [Int.reduceToNat] at ho26; rw [← Ny157.out] at ho26)); have HO159 := Aside0.mk (Kd.R_lower ho26 (zZ (jH HB))); replace BK151 := Aside0.mk (jB BK151 hb); replace HB := Aside0.mk (zT (jH HB) hb); clear hb ho26))
    go_ret
    exact ⟨_, by first | rfl | (simp [errW_none, errW_some] <;> rfl) | (simp only [← hji17, ← hji18]; first | rfl | (simp [errW_none, errW_some] <;> rfl)) | (simp [*, errW_none, errW_some] <;> rfl), by (with_reducible repeat (first | apply Kd.R_alloc | apply Kd.R_drewN | apply Kd.R_drew)); exact HO159.out, jH HB⟩
   ·replace c16 := Bool.eq_false_iff.mpr c16
    subst c16
    rw [if_neg (show ¬ (false = true) by decide)] at H
    obtain ⟨y160, hy160⟩ : ∃ y_ : List Int, y_ = (([wrap64 (a1 + 1)] : List Int)) := ⟨_, rfl⟩
    simp only [Option.bind_some, ← hy160] at H
    have Ny160 := Aside0.mk hy160
    clear hy160
    obtain rfl := Option.some.inj H
    go_enter Tryd.func68, Tryd.ntmps68
    go_wp2_with (first | ((with_reducible refine gate_dst (N := 2) rfl ?_); refine box_event rfl (N := 2) rfl (cs := #[.int .i64 a0_0, .int .i64 a0_1, .int .i64 a0_2, .int .u32 a0_3]) (t := 59) jW ?_; intro gb151 hg w27 hbox hb; have BK151 := Aside0.mk hbox; have GW151 := Aside0.mk (jG hg HB); have GE151 := Aside0.mk (jG hg HB); replace HB := Aside0.mk (zT (jH HB) hb); clear hb hbox hg; obtain ⟨hcz28_0, hcz28_1, hcz28_2, hcz28_3, hfz28_0, hfz28_1, hfz28_2, hfz28_3⟩ := kQ4 BK151.out) | ((with_reducible refine gate_callee (f := 54) rfl ?_); refine goesL_ (some 10) rfl rfl Tryd.func54 (by kernel_rfl) rfl #[.agg #[.int .i64 a0_0, .int .i64 a0_1, .int .i64 a0_2, .int .u32 a0_3]] rfl jZ ?_; (with_reducible refine (ins_Ends.calls a0_0 a0_1 a0_2 a0_3 false _ A3.out).mono ?_); rintro e w29 ⟨rfl, hb⟩; refine ⟨_, rfl, ?_⟩; replace BK151 := Aside0.mk (jB BK151 hb); replace HB := Aside0.mk (zT (jH HB) hb); (try clear hb); (try clear hb2); (try clear hk); (try clear hi); obtain ⟨hcz30_0, hcz30_1, hcz30_2, hcz30_3, hfz30_0, hfz30_1, hfz30_2, hfz30_3⟩ := kQ4 BK151.out) | ((with_reducible refine gate_callee (f := 53) rfl ?_); refine goesL_ (some 23) rfl rfl Tryd.func53 (by kernel_rfl) rfl #[.agg #[.int .i64 a0_0, .int .i64 a0_1, .int .i64 a0_2, .int .u32 a0_3]] rfl jZ ?_; (with_reducible refine (ins_Branch.calls a0_0 a0_1 a0_2 a0_3 false _ ?side1 A15.out).mono ?_); (case side1 => exact Glob.below HG.out (jH HB)); rintro e w31 ⟨rfl, hb⟩; refine ⟨_, rfl, ?_⟩; replace BK151 := Aside0.mk (jB BK151 hb); replace HB := Aside0.mk (zT (jH HB) hb); (try clear hb); (try clear hb2); (try clear hk); (try clear hi)) | ((with_reducible refine gate_dst (N := 40) rfl ?_); refine Kd.R_lit (Kd.int .i64) _ 2 ?hg (N := 40) ?hd (xs := ([wrap64 (a1 + 1)] : List Int)) (inner := [.int .i64 (wrap64 (a1 + 1))]) (ok := fun _ => True) (okp := fun _ => True) ?hr ?hp (fun _ hk => hk) trivial (Below.refl _ _) (Nat.le_refl _) (by simp) ?_; (case hd => rfl); (case hg => rfl); (case hr => first | (go_simp; done) | (go_simp; rfl)); (case hp => exact (Reps.one (show Kd.M (Kd.int .i64) _ _ _ (wrap64 (a1 + 1)) [.int .i64 (wrap64 (a1 + 1))] from rfl) (Reps.none _ _))); intro v161 w32 ho33 hb hg_ hnew_; clear hg_ hnew_; (first | rw [← Ny160.out] at ho33 | (simp only [Int.reduceToNat] at ho33; rw [← Ny160.out] at ho33)); have HO162 := Aside0.mk (Kd.R_lower ho33 (zZ (jH HB))); replace BK151 := Aside0.mk (jB BK151 hb); replace HB := Aside0.mk (zT (jH HB) hb); clear hb ho33))
    go_ret
    exact ⟨_, jE, by (with_reducible repeat (first | apply Kd.R_alloc | apply Kd.R_drewN | apply Kd.R_drew)); exact HO162.out, jH HB⟩
end Go.Proofs.YtahacmdhhfmhiaaDoor.M
