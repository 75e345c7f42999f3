/- What Go functions compute; their calls come to it. No condition. -/
import Derived.Test.YtahacmdhhfmhiaaDoorM0
import Derived.Test.YtahacmdhhfmhiaaDoorMA
namespace Go.Proofs.YtahacmdhhfmhiaaDoor.M
open Go.RowKit Go.Proofs.YtahacmdhhfmhiaaDoorW.PrintWords Go.Proofs.YtahacmdhhfmhiaaDoorW.PrintLast Go.Proofs.YtahacmdhhfmhiaaDoorW.PrintMore
attribute [local go_sem] max2_int min2_int max_two min_two max_three min_three max_four min_four   -- for this text's walks alone
set_option linter.unusedVariables false
set_option linter.unusedSimpArgs false
def table_Rule_bytes.f (k : Nat) (l0_0 : List (S59)) (l0_1 : List (S59)) (a0_2 : Int) : Option (ByteArray) := (some (([(a0_2) % 256, (a0_2 / 256) % 256, (a0_2 / 65536) % 256, (a0_2 / 16777216) % 256, ((l0_0.length : Int)) % 256, ((l0_1.length : Int)) % 256] : List Int) : List Int)).bind fun y126 => ((codec_Encode.f k l0_0).bind fun bt129 => (if y126.length + bt129.1.length < 140737488355328 then ((some (y126 ++ bt129.1 : List Int)).bind fun y133 => ((codec_Encode.f k l0_1).bind fun bt136 => (if y133.length + bt136.1.length < 140737488355328 then (some (strOfNums (y133 ++ bt136.1))) else (none)))) else (none)))
set_option maxHeartbeats 8000000 in
set_option maxRecDepth 100000 in
theorem table_Rule_bytes.calls (k : Nat) (A0_0 : Option Addr) (c0_0 : Nat) (l0_0 : List (S59)) (A0_1 : Option Addr) (c0_1 : Nat) (l0_1 : List (S59)) (a0_2 : Int) (r : ByteArray) (w : World) (hr0_0 : Kd.C k59 w A0_0 l0_0.length l0_0) (hc0_0 : l0_0.length ≤ c0_0) (hr0_1 : Kd.C k59 w A0_1 l0_1.length l0_1) (hc0_1 : l0_1.length ≤ c0_1) (hG : Glob w) (h : table_Rule_bytes.f k l0_0 l0_1 a0_2 = some r) :
  Calls Tryd.prog 28 #[.agg #[.slice A0_0 l0_0.length c0_0, .slice A0_1 l0_1.length c0_1, .int .u32 a0_2]] w fun e w' => e = .returned (.string r) ∧ Below w.heap.size w w' := by
 have hu42 := Tryd.underlying42
 have HG := Aside0.mk hG
 clear hG
 have HR0_0 := Aside0.mk hr0_0
 have HC0_0 := Aside0.mk hc0_0
 clear hr0_0 hc0_0
 have HR0_1 := Aside0.mk hr0_1
 have HC0_1 := Aside0.mk hc0_1
 clear hr0_1 hc0_1
 have HB := Aside0.mk (Below.refl w.heap.size w)
 have H : ((some (([(a0_2) % 256, (a0_2 / 256) % 256, (a0_2 / 65536) % 256, (a0_2 / 16777216) % 256, ((l0_0.length : Int)) % 256, ((l0_1.length : Int)) % 256] : List Int) : List Int)).bind fun y126 => ((codec_Encode.f k l0_0).bind fun bt129 => (if y126.length + bt129.1.length < 140737488355328 then ((some (y126 ++ bt129.1 : List Int)).bind fun y133 => ((codec_Encode.f k l0_1).bind fun bt136 => (if y133.length + bt136.1.length < 140737488355328 then (some (strOfNums (y133 ++ bt136.1))) else (none)))) else (none)))) = some r := h
 clear h
 obtain ⟨y126, hy126⟩ : ∃ y_ : List Int, y_ = (([(a0_2) % 256, (a0_2 / 256) % 256, (a0_2 / 65536) % 256, (a0_2 / 16777216) % 256, ((l0_0.length : Int)) % 256, ((l0_1.length : Int)) % 256] : List Int)) := ⟨_, rfl⟩
 simp only [Option.bind_some, ← hy126] at H
 have Ny126 := Aside0.mk hy126
 clear hy126
 replace H := Option.bind_eq_some_iff.mp H
 obtain ⟨⟨t129, t130⟩, A20, H⟩ := H
 try dsimp only at H
 have A2 := Aside0.mk A20
 clear A20
 by_cases c3 : y126.length + t129.length < 140737488355328
 ·rw [if_pos c3] at H
  have LMc3 := Aside0.mk c3
  clear c3
  obtain ⟨y133, hy133⟩ : ∃ y_ : List Int, y_ = (y126 ++ t129) := ⟨_, rfl⟩
  simp only [Option.bind_some, ← hy133] at H
  have Ny133 := Aside0.mk hy133
  clear hy133
  replace H := Option.bind_eq_some_iff.mp H
  obtain ⟨⟨t136, t137⟩, A40, H⟩ := H
  try dsimp only at H
  have A4 := Aside0.mk A40
  clear A40
  by_cases c5 : y133.length + t136.length < 140737488355328
  ·rw [if_pos c5] at H
   have LMc5 := Aside0.mk c5
   clear c5
   obtain ⟨y140, hy140⟩ : ∃ y_ : List Int, y_ = (y133 ++ t136) := ⟨_, rfl⟩
   simp only [Option.bind_some, ← hy140] at H
   have Ny140 := Aside0.mk hy140
   clear hy140
   obtain rfl := Option.some.inj H
   go_enter Tryd.func28, Tryd.ntmps28
   have hidx0 := fun W => (pair_index (P := Tryd.prog) W 75 39 59 (.slice A0_0 l0_0.length c0_0) (.slice A0_1 l0_1.length c0_1) Tryd.underlying75 Tryd.underlying39 (by kernel_rfl)).1
   have hidx1 := fun W => (pair_index (P := Tryd.prog) W 75 39 59 (.slice A0_0 l0_0.length c0_0) (.slice A0_1 l0_1.length c0_1) Tryd.underlying75 Tryd.underlying39 (by kernel_rfl)).2
   go_wp2_with (first | ((with_reducible refine gate_dst (N := 1) rfl ?_); refine box_event rfl (N := 1) rfl (cs := #[.slice A0_0 l0_0.length c0_0, .slice A0_1 l0_1.length c0_1, .int .u32 a0_2]) (t := 42) jW ?_; intro gb125 hg w6 hbox hb; have BK125 := Aside0.mk hbox; have GW125 := Aside0.mk (jG hg HB); have GE125 := Aside0.mk (jG hg HB); replace HB := Aside0.mk (zT (jH HB) hb); clear hb hbox hg; obtain ⟨hcz7_0, hcz7_1, hcz7_2, hfz7_0, hfz7_1, hfz7_2⟩ := kQ3 BK125.out) | ((with_reducible refine gate_dst (N := 31) rfl ?_); refine Kd.R_lit (Kd.int .u8) _ 5 ?hg (N := 31) ?hd (xs := ([(a0_2) % 256, (a0_2 / 256) % 256, (a0_2 / 65536) % 256, (a0_2 / 16777216) % 256, ((l0_0.length : Int)) % 256, ((l0_1.length : Int)) % 256] : List Int)) (inner := [.int .u8 ((a0_2) % 256), .int .u8 ((a0_2 / 256) % 256), .int .u8 ((a0_2 / 65536) % 256), .int .u8 ((a0_2 / 16777216) % 256), .int .u8 (((l0_0.length : Int)) % 256), .int .u8 (((l0_1.length : Int)) % 256)]) (ok := fun _ => True) (okp := fun _ => True) ?hr ?hp (fun _ hk => hk) trivial (Below.refl _ _) (Nat.le_refl _) (by simp) ?_; (case hd => rfl); (case hg => rfl); (case hr => first | (go_simp; done) | (go_simp; rfl)); (case hp => exact (Reps.one (show Kd.M (Kd.int .u8) _ _ _ ((a0_2) % 256) [.int .u8 ((a0_2) % 256)] from rfl) (Reps.one (show Kd.M (Kd.int .u8) _ _ _ ((a0_2 / 256) % 256) [.int .u8 ((a0_2 / 256) % 256)] from rfl) (Reps.one (show Kd.M (Kd.int .u8) _ _ _ ((a0_2 / 65536) % 256) [.int .u8 ((a0_2 / 65536) % 256)] from rfl) (Reps.one (show Kd.M (Kd.int .u8) _ _ _ ((a0_2 / 16777216) % 256) [.int .u8 ((a0_2 / 16777216) % 256)] from rfl) (Reps.one (show Kd.M (Kd.int .u8) _ _ _ (((l0_0.length : Int)) % 256) [.int .u8 (((l0_0.length : Int)) % 256)] from rfl) (Reps.one (show Kd.M (Kd.int .u8) _ _ _ (((l0_1.length : Int)) % 256) [.int .u8 (((l0_1.length : Int)) % 256)] from rfl) (Reps.none _ _)))))))); intro v127 w8 ho9 hb hg_ hnew_; clear hg_ hnew_; (first | rw [← Ny126.out] at ho9 | (simp only [Int.reduceToNat] at ho9; rw [← Ny126.out] at ho9)); have HO128 := Aside0.mk (Kd.R_lower ho9 (zZ (jH HB))); replace BK125 := Aside0.mk (jB BK125 hb); replace HB := Aside0.mk (zT (jH HB) hb); clear hb ho9; obtain ⟨hcz10_0, hcz10_1, hcz10_2, hfz10_0, hfz10_1, hfz10_2⟩ := kQ3 BK125.out))
   refine wp_loop_rounds 3 ?_
   rw [rounds_succ]
   go_wp2_with (first | ((with_reducible refine gate_callee (f := 41) rfl ?_); refine goesL_ (some 42) rfl rfl Tryd.func41 (by kernel_rfl) rfl #[.slice A0_0 l0_0.length c0_0] rfl jZ ?_; (with_reducible refine (codec_Encode.calls k _ _ l0_0 t129 t130 _ ?side1 ?side2 ?side3 A2.out).mono ?_); (case side1 => exact jC (Kd.C_below HR0_0.out HB.out)); (case side2 => exact HC0_0.out); (case side3 => exact Glob.below HG.out (jH HB)); rintro e w11 ⟨v131, rfl, ho0, hb⟩; refine ⟨_, rfl, ?_⟩; have HO132 := Aside0.mk (Kd.R_lower (Kd.R_new' ho0 (Kd.R_lt (jR HO128))) (zZ (jH HB))); replace HO128 := Aside0.mk (Kd.R_elder' (jR HO128) (Kd.R_base ho0) hb); replace BK125 := Aside0.mk (jB BK125 hb); replace HB := Aside0.mk (zT (jH HB) hb); (try clear hb); (try clear hb2); (try clear hk); (try clear hi); (try clear ho0); obtain ⟨Ao13, co13, eo13⟩ := Kd.R_slice HO132.out; subst eo13) | ((with_reducible refine gate_builtin (b := .append) (xs := #[.tmp 45, .tmp 46]) rfl ?_); at_builtin; refine Kd.R_append_rows (Kd.int .u8) (w0 := w) w.heap.size rfl (.tmp 45) (.tmp 46) 25 5 (.int .u8 0) 1 rfl Tryd.underlying25 info5 rfl (by decide) (by omega) v127 y126 t129 _ _ _ (fun k_ => some k_ ≠ (.slice Ao13 t129.length co13 : Value).ownBlock) (fun _ => False) rfl rfl ?aO ?aR (fun _ _ h => h) (fun _ h => h.elim) ?aF ?aB ?aS ?aL ?_; (case aR => repeat (first | exact (Kd.R_reads' HO132.out).2.2 | (with_reducible refine Kd.C_alloc ?_ _) | (with_reducible refine Kd.C_drewN ?_ _) | (with_reducible refine Kd.C_drew ?_))); (case aB => exact (jH HB)); (case aF => exact (fun k_ hk => Kd.fresh' (Kd.R_lt (jR HO132)) k_ hk)); (case aO => exact (by (with_reducible repeat (first | apply Kd.R_alloc | apply Kd.R_drewN | apply Kd.R_drew)); exact Kd.R_mono HO128.out (fun _ hk => hk.2))); (case aS => exact (zZ (jH HB))); (case aL => have := LMc3.out; omega); intro v134 w12 ho hb hg hat; rw [← Ny133.out] at ho; have HO135 := Aside0.mk (ho); replace BK125 := Aside0.mk (kG (g := gb125) (o := .cells #[.slice A0_0 l0_0.length c0_0, .slice A0_1 l0_1.length c0_1, .int .u32 a0_2] 42 (0, 0)) (jK BK125) hg (Kd.R_ne HO128.out BK125.out (by decide))); replace HO132 := Aside0.mk (Kd.R_after (ok := (fun _ => True)) (jR HO132) hg hat); replace HB := Aside0.mk (hb); clear HO128; clear ho hb hg hat))
   rw [rounds_succ]
   go_wp2_with (first | ((with_reducible refine gate_callee (f := 41) rfl ?_); refine goesL_ (some 42) rfl rfl Tryd.func41 (by kernel_rfl) rfl #[.slice A0_1 l0_1.length c0_1] rfl jZ ?_; (with_reducible refine (codec_Encode.calls k _ _ l0_1 t136 t137 _ ?side1 ?side2 ?side3 A4.out).mono ?_); (case side1 => exact jC (Kd.C_below HR0_1.out HB.out)); (case side2 => exact HC0_1.out); (case side3 => exact Glob.below HG.out (jH HB)); rintro e w14 ⟨v138, rfl, ho0, hb⟩; refine ⟨_, rfl, ?_⟩; have HO139 := Aside0.mk (Kd.R_lower (Kd.R_new' (Kd.R_new' ho0 (Kd.R_lt (jR HO132))) (Kd.R_lt (jR HO135))) (zZ (jH HB))); replace HO132 := Aside0.mk (Kd.R_elder' (jR HO132) (Kd.R_base ho0) hb); replace HO135 := Aside0.mk (Kd.R_elder' (jR HO135) (Kd.R_base ho0) hb); replace BK125 := Aside0.mk (jB BK125 hb); replace HB := Aside0.mk (zT (jH HB) hb); (try clear hb); (try clear hb2); (try clear hk); (try clear hi); (try clear ho0); obtain ⟨Ao16, co16, eo16⟩ := Kd.R_slice HO139.out; subst eo16) | ((with_reducible refine gate_builtin (b := .append) (xs := #[.tmp 45, .tmp 46]) rfl ?_); at_builtin; refine Kd.R_append_rows (Kd.int .u8) (w0 := w) w.heap.size rfl (.tmp 45) (.tmp 46) 25 5 (.int .u8 0) 1 rfl Tryd.underlying25 info5 rfl (by decide) (by omega) v134 y133 t136 _ _ _ (fun k_ => some k_ ≠ (.slice Ao13 t129.length co13 : Value).ownBlock ∧ some k_ ≠ (.slice Ao16 t136.length co16 : Value).ownBlock) (fun _ => False) rfl rfl ?aO ?aR (fun _ _ h => h) (fun _ h => h.elim) ?aF ?aB ?aS ?aL ?_; (case aR => repeat (first | exact (Kd.R_reads' HO139.out).2.2 | (with_reducible refine Kd.C_alloc ?_ _) | (with_reducible refine Kd.C_drewN ?_ _) | (with_reducible refine Kd.C_drew ?_))); (case aB => exact (jH HB)); (case aF => exact (fun k_ hk => ⟨Kd.fresh' (Kd.R_lt (jR HO132)) k_ hk, Kd.fresh' (Kd.R_lt (jR HO139)) k_ hk⟩)); (case aO => exact (jR HO135)); (case aS => exact (zZ (jH HB))); (case aL => have := LMc5.out; omega); intro v141 w15 ho hb hg hat; rw [← Ny140.out] at ho; have HO142 := Aside0.mk (ho); replace BK125 := Aside0.mk (kG (g := gb125) (o := .cells #[.slice A0_0 l0_0.length c0_0, .slice A0_1 l0_1.length c0_1, .int .u32 a0_2] 42 (0, 0)) (jK BK125) hg (Kd.R_ne HO135.out BK125.out (by decide))); replace HO132 := Aside0.mk (Kd.R_after (ok := (fun k_ => some k_ ≠ (.slice Ao16 t136.length co16 : Value).ownBlock)) (by (with_reducible repeat (first | apply Kd.R_alloc | apply Kd.R_drewN | apply Kd.R_drew)); exact Kd.R_mono HO132.out (fun _ hk => ⟨hk.2, hk.1.2⟩)) hg hat); replace HO139 := Aside0.mk (Kd.R_after (ok := (fun k_ => some k_ ≠ (.slice Ao13 t129.length co13 : Value).ownBlock)) (by (with_reducible repeat (first | apply Kd.R_alloc | apply Kd.R_drewN | apply Kd.R_drew)); exact Kd.R_mono HO139.out (fun _ hk => ⟨hk.1.2, hk.2⟩)) hg hat); replace HB := Aside0.mk (hb); clear HO135; clear ho hb hg hat; have hcv17 := own_string (P := Tryd.prog) Tryd.underlying25 Tryd.underlying5 Tryd.underlying9 (Kd.own_of_R HO142.out)))
   rw [rounds_succ]
   go_wp2_with (fail)
   go_ret
   exact ⟨jE, jH HB⟩
  ·rw [if_neg c5] at H
   exact absurd H (by simp)
 ·rw [if_neg c3] at H
  exact absurd H (by simp)
def ins_Branch.f (a0_0 : Int) (a0_1 : Int) (a0_2 : Int) (a0_3 : Int) : Option (Bool) := (ins_of.f a0_0).bind fun bt144 => (if bt144.2.2.2.2 = true then (if (Go.bits .and .i64 a0_0 7) = 5 then (some (a0_0 != 5)) else (some false)) else (some false))
set_option maxHeartbeats 8000000 in
set_option maxRecDepth 100000 in
theorem ins_Branch.calls (a0_0 : Int) (a0_1 : Int) (a0_2 : Int) (a0_3 : Int) (r : Bool) (w : World) (hG : Glob w) (h : ins_Branch.f a0_0 a0_1 a0_2 a0_3 = some r) :
  Calls Tryd.prog 53 #[.agg #[.int .i64 a0_0, .int .i64 a0_1, .int .i64 a0_2, .int .u32 a0_3]] w fun e w' => e = .returned (.bool r) ∧ Below w.heap.size w w' := by
 have hu59 := Tryd.underlying59
 have hu95 := Tryd.underlying95
 have HG := Aside0.mk hG
 clear hG
 have HB := Aside0.mk (Below.refl w.heap.size w)
 have H : ((ins_of.f a0_0).bind fun bt144 => (if bt144.2.2.2.2 = true then (if (Go.bits .and .i64 a0_0 7) = 5 then (some (a0_0 != 5)) else (some false)) else (some false))) = some r := h
 clear h
 replace H := Option.bind_eq_some_iff.mp H
 obtain ⟨⟨t144, t145, t146, t147, t148⟩, A20, H⟩ := H
 try dsimp only at H
 have A2 := Aside0.mk A20
 clear A20
 by_cases c3 : t148 = true
 ·subst c3
  rw [if_pos rfl] at H
  by_cases c4 : (Go.bits .and .i64 a0_0 7) = 5
  ·rw [if_pos c4] at H
   have c4b0 : ((Go.bits .and .i64 a0_0 7) == 5) = true := bI.mpr c4
   have c4b1 : ((Go.bits .and .i64 a0_0 7) != 5) = false := nF.mpr c4
   clear c4
   obtain rfl := Option.some.inj H
   go_enter Tryd.func53, Tryd.ntmps53
   go_wp2_with (first | ((with_reducible refine gate_dst (N := 1) rfl ?_); refine box_event rfl (N := 1) rfl (cs := #[.int .i64 a0_0, .int .i64 a0_1, .int .i64 a0_2, .int .u32 a0_3]) (t := 59) jW ?_; intro gb143 hg w5 hbox hb; have BK143 := Aside0.mk hbox; have GW143 := Aside0.mk (jG hg HB); have GE143 := Aside0.mk (jG hg HB); replace HB := Aside0.mk (zT (jH HB) hb); clear hb hbox hg; obtain ⟨hcz6_0, hcz6_1, hcz6_2, hcz6_3, hfz6_0, hfz6_1, hfz6_2, hfz6_3⟩ := kQ4 BK143.out) | ((with_reducible refine gate_callee (f := 63) rfl ?_); refine goesL_ (some 8) rfl rfl Tryd.func63 (by kernel_rfl) rfl #[.int .i64 a0_0] rfl jZ ?_; (with_reducible refine (ins_of.calls a0_0 t144 t145 t146 t147 true _ ?side1 A2.out).mono ?_); (case side1 => exact Glob.below HG.out (jH HB)); rintro e w7 ⟨rfl, hb⟩; refine ⟨_, rfl, ?_⟩; replace BK143 := Aside0.mk (jB BK143 hb); replace HB := Aside0.mk (zT (jH HB) hb); (try clear hb); (try clear hb2); (try clear hk); (try clear hi)) | ((with_reducible refine gate_dst (N := 3) rfl ?_); refine box_event rfl (N := 3) rfl (cs := #[.int .i64 0, .string (⟨#[]⟩ : ByteArray), .bool false, .bool false]) (t := 95) jW ?_; intro gb149 hg w8 hbox hb; have BK149 := Aside0.mk hbox; have GW149 := Aside0.mk (jG hg HB); have GE149 := Aside0.mk (jG hg HB); have NB143_149 := Aside0.mk (jN hg BK143); have NB149_143 := Aside0.mk (jM hg BK143); replace BK143 := Aside0.mk (jB BK143 hb); replace HB := Aside0.mk (zT (jH HB) hb); clear hb hbox hg; have hnb9 := NB149_143.out; have hnc9 := NB143_149.out; obtain ⟨hcz10_0, hcz10_1, hcz10_2, hcz10_3, hfz10_0, hfz10_1, hfz10_2, hfz10_3⟩ := kQ4 BK149.out; obtain ⟨hcz11_0, hcz11_1, hcz11_2, hcz11_3, hfz11_0, hfz11_1, hfz11_2, hfz11_3⟩ := kQ4 BK143.out))
   go_ret
   exact ⟨jE, jH HB⟩
  ·rw [if_neg c4] at H
   have c4b0 : ((Go.bits .and .i64 a0_0 7) == 5) = false := bF.mpr c4
   have c4b1 : ((Go.bits .and .i64 a0_0 7) != 5) = true := nI.mpr c4
   obtain rfl := Option.some.inj H
   go_enter Tryd.func53, Tryd.ntmps53
   go_wp2_with (first | ((with_reducible refine gate_dst (N := 1) rfl ?_); refine box_event rfl (N := 1) rfl (cs := #[.int .i64 a0_0, .int .i64 a0_1, .int .i64 a0_2, .int .u32 a0_3]) (t := 59) jW ?_; intro gb143 hg w12 hbox hb; have BK143 := Aside0.mk hbox; have GW143 := Aside0.mk (jG hg HB); have GE143 := Aside0.mk (jG hg HB); replace HB := Aside0.mk (zT (jH HB) hb); clear hb hbox hg; obtain ⟨hcz13_0, hcz13_1, hcz13_2, hcz13_3, hfz13_0, hfz13_1, hfz13_2, hfz13_3⟩ := kQ4 BK143.out) | ((with_reducible refine gate_callee (f := 63) rfl ?_); refine goesL_ (some 8) rfl rfl Tryd.func63 (by kernel_rfl) rfl #[.int .i64 a0_0] rfl jZ ?_; (with_reducible refine (ins_of.calls a0_0 t144 t145 t146 t147 true _ ?side1 A2.out).mono ?_); (case side1 => exact Glob.below HG.out (jH HB)); rintro e w14 ⟨rfl, hb⟩; refine ⟨_, rfl, ?_⟩; replace BK143 := Aside0.mk (jB BK143 hb); replace HB := Aside0.mk (zT (jH HB) hb); (try clear hb); (try clear hb2); (try clear hk); (try clear hi)) | ((with_reducible refine gate_dst (N := 3) rfl ?_); refine box_event rfl (N := 3) rfl (cs := #[.int .i64 0, .string (⟨#[]⟩ : ByteArray), .bool false, .bool false]) (t := 95) jW ?_; intro gb149 hg w15 hbox hb; have BK149 := Aside0.mk hbox; have GW149 := Aside0.mk (jG hg HB); have GE149 := Aside0.mk (jG hg HB); have NB143_149 := Aside0.mk (jN hg BK143); have NB149_143 := Aside0.mk (jM hg BK143); replace BK143 := Aside0.mk (jB BK143 hb); replace HB := Aside0.mk (zT (jH HB) hb); clear hb hbox hg; have hnb16 := NB149_143.out; have hnc16 := NB143_149.out; obtain ⟨hcz17_0, hcz17_1, hcz17_2, hcz17_3, hfz17_0, hfz17_1, hfz17_2, hfz17_3⟩ := kQ4 BK149.out; obtain ⟨hcz18_0, hcz18_1, hcz18_2, hcz18_3, hfz18_0, hfz18_1, hfz18_2, hfz18_3⟩ := kQ4 BK143.out))
   go_ret
   exact ⟨jE, jH HB⟩
 ·replace c3 := Bool.eq_false_iff.mpr c3
  subst c3
  rw [if_neg (show ¬ (false = true) by decide)] at H
  obtain rfl := Option.some.inj H
  go_enter Tryd.func53, Tryd.ntmps53
  go_wp2_with (first | ((with_reducible refine gate_dst (N := 1) rfl ?_); refine box_event rfl (N := 1) rfl (cs := #[.int .i64 a0_0, .int .i64 a0_1, .int .i64 a0_2, .int .u32 a0_3]) (t := 59) jW ?_; intro gb143 hg w19 hbox hb; have BK143 := Aside0.mk hbox; have GW143 := Aside0.mk (jG hg HB); have GE143 := Aside0.mk (jG hg HB); replace HB := Aside0.mk (zT (jH HB) hb); clear hb hbox hg; obtain ⟨hcz20_0, hcz20_1, hcz20_2, hcz20_3, hfz20_0, hfz20_1, hfz20_2, hfz20_3⟩ := kQ4 BK143.out) | ((with_reducible refine gate_callee (f := 63) rfl ?_); refine goesL_ (some 8) rfl rfl Tryd.func63 (by kernel_rfl) rfl #[.int .i64 a0_0] rfl jZ ?_; (with_reducible refine (ins_of.calls a0_0 t144 t145 t146 t147 false _ ?side1 A2.out).mono ?_); (case side1 => exact Glob.below HG.out (jH HB)); rintro e w21 ⟨rfl, hb⟩; refine ⟨_, rfl, ?_⟩; replace BK143 := Aside0.mk (jB BK143 hb); replace HB := Aside0.mk (zT (jH HB) hb); (try clear hb); (try clear hb2); (try clear hk); (try clear hi)) | ((with_reducible refine gate_dst (N := 3) rfl ?_); refine box_event rfl (N := 3) rfl (cs := #[.int .i64 0, .string (⟨#[]⟩ : ByteArray), .bool false, .bool false]) (t := 95) jW ?_; intro gb149 hg w22 hbox hb; have BK149 := Aside0.mk hbox; have GW149 := Aside0.mk (jG hg HB); have GE149 := Aside0.mk (jG hg HB); have NB143_149 := Aside0.mk (jN hg BK143); have NB149_143 := Aside0.mk (jM hg BK143); replace BK143 := Aside0.mk (jB BK143 hb); replace HB := Aside0.mk (zT (jH HB) hb); clear hb hbox hg; have hnb23 := NB149_143.out; have hnc23 := NB143_149.out; obtain ⟨hcz24_0, hcz24_1, hcz24_2, hcz24_3, hfz24_0, hfz24_1, hfz24_2, hfz24_3⟩ := kQ4 BK149.out))
  go_ret
  exact ⟨jE, jH HB⟩
def ins_Ends.f (a0_0 : Int) (a0_1 : Int) (a0_2 : Int) (a0_3 : Int) : Option (Bool) := if a0_0 = 6 then (some true) else (some (a0_0 == 22))
set_option maxHeartbeats 8000000 in
set_option maxRecDepth 100000 in
theorem ins_Ends.calls (a0_0 : Int) (a0_1 : Int) (a0_2 : Int) (a0_3 : Int) (r : Bool) (w : World) (h : ins_Ends.f a0_0 a0_1 a0_2 a0_3 = some r) :
  Calls Tryd.prog 54 #[.agg #[.int .i64 a0_0, .int .i64 a0_1, .int .i64 a0_2, .int .u32 a0_3]] w fun e w' => e = .returned (.bool r) ∧ Below w.heap.size w w' := by
 have hu59 := Tryd.underlying59
 have HB := Aside0.mk (Below.refl w.heap.size w)
 have H : (if a0_0 = 6 then (some true) else (some (a0_0 == 22))) = some r := h
 clear h
 by_cases c2 : a0_0 = 6
 ·rw [if_pos c2] at H
  have c2b0 : (a0_0 == 6) = true := bI.mpr c2
  have c2b1 : (a0_0 != 6) = false := nF.mpr c2
  clear c2
  obtain rfl := Option.some.inj H
  go_enter Tryd.func54, Tryd.ntmps54
  go_wp2_with (first | ((with_reducible refine gate_dst (N := 1) rfl ?_); refine box_event rfl (N := 1) rfl (cs := #[.int .i64 a0_0, .int .i64 a0_1, .int .i64 a0_2, .int .u32 a0_3]) (t := 59) jW ?_; intro gb150 hg w3 hbox hb; have BK150 := Aside0.mk hbox; have GW150 := Aside0.mk (jG hg HB); have GE150 := Aside0.mk (jG hg HB); replace HB := Aside0.mk (zT (jH HB) hb); clear hb hbox hg; obtain ⟨hcz4_0, hcz4_1, hcz4_2, hcz4_3, hfz4_0, hfz4_1, hfz4_2, hfz4_3⟩ := kQ4 BK150.out))
  go_ret
  exact ⟨jE, jH HB⟩
 ·rw [if_neg c2] at H
  have c2b0 : (a0_0 == 6) = false := bF.mpr c2
  have c2b1 : (a0_0 != 6) = true := nI.mpr c2
  obtain rfl := Option.some.inj H
  go_enter Tryd.func54, Tryd.ntmps54
  go_wp2_with (first | ((with_reducible refine gate_dst (N := 1) rfl ?_); refine box_event rfl (N := 1) rfl (cs := #[.int .i64 a0_0, .int .i64 a0_1, .int .i64 a0_2, .int .u32 a0_3]) (t := 59) jW ?_; intro gb150 hg w5 hbox hb; have BK150 := Aside0.mk hbox; have GW150 := Aside0.mk (jG hg HB); have GE150 := Aside0.mk (jG hg HB); replace HB := Aside0.mk (zT (jH HB) hb); clear hb hbox hg; obtain ⟨hcz6_0, hcz6_1, hcz6_2, hcz6_3, hfz6_0, hfz6_1, hfz6_2, hfz6_3⟩ := kQ4 BK150.out))
  go_ret
  exact ⟨jE, jH HB⟩
-- NOT PRINTED: function 67 (check_rules)
def check_ways.f (a0_0 : Int) (a0_1 : Int) (a0_2 : Int) (a0_3 : Int) (a1 : Int) : Option (List Int) := (ins_Ends.f a0_0 a0_1 a0_2 a0_3).bind fun t152 => (if t152 = true then (some ([] : List Int)) else (if a0_0 = 5 then (some (([wrap64 ((wrap64 (a1 + 1)) + (wrap64 (a0_3)))] : List Int))) else ((ins_Branch.f a0_0 a0_1 a0_2 a0_3).bind fun t156 => (if t156 = true then (some (([wrap64 ((wrap64 (a1 + 1)) + (mn a0_1 a0_2)), wrap64 ((wrap64 (a1 + 1)) + (mx a0_1 a0_2))] : List Int))) else (some (([wrap64 (a1 + 1)] : List Int)))))))
set_option maxHeartbeats 8000000 in
set_option maxRecDepth 100000 in
theorem check_ways.calls (a0_0 : Int) (a0_1 : Int) (a0_2 : Int) (a0_3 : Int) (a1 : Int) (r : List Int) (w : World) (hG : Glob w) (h : check_ways.f a0_0 a0_1 a0_2 a0_3 a1 = some r) :
  Calls Tryd.prog 68 #[.agg #[.int .i64 a0_0, .int .i64 a0_1, .int .i64 a0_2, .int .u32 a0_3], .int .i64 a1] w fun e w' => ∃ v0_ : Value, e = .returned (v0_) ∧ Kd.R (Kd.int .i64) 2 w' w.heap.size (fun _ => True) v0_ r ∧ Below w.heap.size w w' := by
 have hu59 := Tryd.underlying59
 have HG := Aside0.mk hG
 clear hG
 have HB := Aside0.mk (Below.refl w.heap.size w)
 have H : ((ins_Ends.f a0_0 a0_1 a0_2 a0_3).bind fun t152 => (if t152 = true then (some ([] : List Int)) else (if a0_0 = 5 then (some (([wrap64 ((wrap64 (a1 + 1)) + (wrap64 (a0_3)))] : List Int))) else ((ins_Branch.f a0_0 a0_1 a0_2 a0_3).bind fun t156 => (if t156 = true then (some (([wrap64 ((wrap64 (a1 + 1)) + (mn a0_1 a0_2)), wrap64 ((wrap64 (a1 + 1)) + (mx a0_1 a0_2))] : List Int))) else (some (([wrap64 (a1 + 1)] : List Int)))))))) = some r := h
 clear h
 replace H := Option.bind_eq_some_iff.mp H
 obtain ⟨t152, A30, H⟩ := H
 try dsimp only at H
 have A3 := Aside0.mk A30
 clear A30
 by_cases c4 : t152 = true
 ·subst c4
  rw [if_pos rfl] at H
  obtain rfl := Option.some.inj H
  go_enter Tryd.func68, Tryd.ntmps68
  go_wp2_with (first | ((with_reducible refine gate_dst (N := 2) rfl ?_); refine box_event rfl (N := 2) rfl (cs := #[.int .i64 a0_0, .int .i64 a0_1, .int .i64 a0_2, .int .u32 a0_3]) (t := 59) jW ?_; intro gb151 hg w5 hbox hb; have BK151 := Aside0.mk hbox; have GW151 := Aside0.mk (jG hg HB); have GE151 := Aside0.mk (jG hg HB); replace HB := Aside0.mk (zT (jH HB) hb); clear hb hbox hg; obtain ⟨hcz6_0, hcz6_1, hcz6_2, hcz6_3, hfz6_0, hfz6_1, hfz6_2, hfz6_3⟩ := kQ4 BK151.out) | ((with_reducible refine gate_callee (f := 54) rfl ?_); refine goesL_ (some 10) rfl rfl Tryd.func54 (by kernel_rfl) rfl #[.agg #[.int .i64 a0_0, .int .i64 a0_1, .int .i64 a0_2, .int .u32 a0_3]] rfl jZ ?_; (with_reducible refine (ins_Ends.calls a0_0 a0_1 a0_2 a0_3 true _ A3.out).mono ?_); rintro e w7 ⟨rfl, hb⟩; refine ⟨_, rfl, ?_⟩; replace BK151 := Aside0.mk (jB BK151 hb); replace HB := Aside0.mk (zT (jH HB) hb); (try clear hb); (try clear hb2); (try clear hk); (try clear hi)))
  go_ret
  exact ⟨_, jE, by first | exact Kd.R_nil _ _ _ _ _ | exact Kd.N_nil _ _ _ _ _ | exact Kd.V_nil _ _ _ _ _ | exact Kd.Q_nil _ _ _ _ _ | exact Kd.S_nil _ _ _ _ _, jH HB⟩
 ·replace c4 := Bool.eq_false_iff.mpr c4
  subst c4
  rw [if_neg (show ¬ (false = true) by decide)] at H
  by_cases c8 : a0_0 = 5
  ·rw [if_pos c8] at H
   have c8b0 : (a0_0 == 5) = true := bI.mpr c8
   have c8b1 : (a0_0 != 5) = false := nF.mpr c8
   clear c8
   obtain ⟨y153, hy153⟩ : ∃ y_ : List Int, y_ = (([wrap64 ((wrap64 (a1 + 1)) + (wrap64 (a0_3)))] : List Int)) := ⟨_, rfl⟩
   simp only [Option.bind_some, ← hy153] at H
   have Ny153 := Aside0.mk hy153
   clear hy153
   obtain rfl := Option.some.inj H
   go_enter Tryd.func68, Tryd.ntmps68
   go_wp2_with (first | ((with_reducible refine gate_dst (N := 2) rfl ?_); refine box_event rfl (N := 2) rfl (cs := #[.int .i64 a0_0, .int .i64 a0_1, .int .i64 a0_2, .int .u32 a0_3]) (t := 59) jW ?_; intro gb151 hg w9 hbox hb; have BK151 := Aside0.mk hbox; have GW151 := Aside0.mk (jG hg HB); have GE151 := Aside0.mk (jG hg HB); replace HB := Aside0.mk (zT (jH HB) hb); clear hb hbox hg; obtain ⟨hcz10_0, hcz10_1, hcz10_2, hcz10_3, hfz10_0, hfz10_1, hfz10_2, hfz10_3⟩ := kQ4 BK151.out) | ((with_reducible refine gate_callee (f := 54) rfl ?_); refine goesL_ (some 10) rfl rfl Tryd.func54 (by kernel_rfl) rfl #[.agg #[.int .i64 a0_0, .int .i64 a0_1, .int .i64 a0_2, .int .u32 a0_3]] rfl jZ ?_; (with_reducible refine (ins_Ends.calls a0_0 a0_1 a0_2 a0_3 false _ A3.out).mono ?_); rintro e w11 ⟨rfl, hb⟩; refine ⟨_, rfl, ?_⟩; replace BK151 := Aside0.mk (jB BK151 hb); replace HB := Aside0.mk (zT (jH HB) hb); (try clear hb); (try clear hb2); (try clear hk); (try clear hi); obtain ⟨hcz12_0, hcz12_1, hcz12_2, hcz12_3, hfz12_0, hfz12_1, hfz12_2, hfz12_3⟩ := kQ4 BK151.out) | ((with_reducible refine gate_dst (N := 20) rfl ?_); refine Kd.R_lit (Kd.int .i64) _ 2 ?hg (N := 20) ?hd (xs := ([wrap64 ((wrap64 (a1 + 1)) + (wrap64 (a0_3)))] : List Int)) (inner := [.int .i64 (wrap64 ((wrap64 (a1 + 1)) + (wrap64 (a0_3))))]) (ok := fun _ => True) (okp := fun _ => True) ?hr ?hp (fun _ hk => hk) trivial (Below.refl _ _) (Nat.le_refl _) (by simp) ?_; (case hd => rfl); (case hg => rfl); (case hr => first | (go_simp; done) | (go_simp; rfl)); (case hp => exact (Reps.one (show Kd.M (Kd.int .i64) _ _ _ (wrap64 ((wrap64 (a1 + 1)) + (wrap64 (a0_3)))) [.int .i64 (wrap64 ((wrap64 (a1 + 1)) + (wrap64 (a0_3))))] from rfl) (Reps.none _ _))); intro v154 w13 ho14 hb hg_ hnew_; clear hg_ hnew_; (first | rw [← Ny153.out] at ho14 | (simp only [Int.reduceToNat] at ho14; rw [← Ny153.out] at ho14)); have HO155 := Aside0.mk (Kd.R_lower ho14 (zZ (jH HB))); replace BK151 := Aside0.mk (jB BK151 hb); replace HB := Aside0.mk (zT (jH HB) hb); clear hb ho14))
   go_ret
   exact ⟨_, jE, by (with_reducible repeat (first | apply Kd.R_alloc | apply Kd.R_drewN | apply Kd.R_drew)); exact HO155.out, jH HB⟩
  ·rw [if_neg c8] at H
   have c8b0 : (a0_0 == 5) = false := bF.mpr c8
   have c8b1 : (a0_0 != 5) = true := nI.mpr c8
   replace H := Option.bind_eq_some_iff.mp H
   obtain ⟨t156, A150, H⟩ := H
   try dsimp only at H
   have A15 := Aside0.mk A150
   clear A150
   by_cases c16 : t156 = true
   ·subst c16
    rw [if_pos rfl] at H
    obtain ⟨ji17, hji17⟩ : ∃ j_ : Int, (mn a0_1 a0_2) = j_ := ⟨_, rfl⟩
    first | rw [hji17] at H | simp only [hji17] at H
    (try rw [hji17] at A3)
    (try rw [hji17] at A15)
    have hji17_ : (if a0_2 < a0_1 then a0_2 else a0_1) = ji17 := hji17
    obtain ⟨ji18, hji18⟩ : ∃ j_ : Int, (mx a0_1 a0_2) = j_ := ⟨_, rfl⟩
    first | rw [hji18] at H | simp only [hji18] at H
    (try rw [hji18] at A3)
    (try rw [hji18] at A15)
    have hji18_ : (if a0_1 < a0_2 then a0_2 else a0_1) = ji18 := hji18
    obtain ⟨y157, hy157⟩ : ∃ y_ : List Int, y_ = (([wrap64 ((wrap64 (a1 + 1)) + (ji17)), wrap64 ((wrap64 (a1 + 1)) + (ji18))] : List Int)) := ⟨_, rfl⟩
    simp only [Option.bind_some, ← hy157] at H
    have Ny157 := Aside0.mk hy157
    clear hy157
    obtain rfl := Option.some.inj H
    go_enter Tryd.func68, Tryd.ntmps68
    go_wp2_with (first | ((with_reducible refine gate_dst (N := 2) rfl ?_); refine box_event rfl (N := 2) rfl (cs := #[.int .i64 a0_0, .int .i64 a0_1, .int .i64 a0_2, .int .u32 a0_3]) (t := 59) jW ?_; intro gb151 hg w19 hbox hb; have BK151 := Aside0.mk hbox; have GW151 := Aside0.mk (jG hg HB); have GE151 := Aside0.mk (jG hg HB); replace HB := Aside0.mk (zT (jH HB) hb); clear hb hbox hg; obtain ⟨hcz20_0, hcz20_1, hcz20_2, hcz20_3, hfz20_0, hfz20_1, hfz20_2, hfz20_3⟩ := kQ4 BK151.out) | ((with_reducible refine gate_callee (f := 54) rfl ?_); refine goesL_ (some 10) rfl rfl Tryd.func54 (by kernel_rfl) rfl #[.agg #[.int .i64 a0_0, .int .i64 a0_1, .int .i64 a0_2, .int .u32 a0_3]] rfl jZ ?_; (with_reducible refine (ins_Ends.calls a0_0 a0_1 a0_2 a0_3 false _ A3.out).mono ?_); rintro e w21 ⟨rfl, hb⟩; refine ⟨_, rfl, ?_⟩; replace BK151 := Aside0.mk (jB BK151 hb); replace HB := Aside0.mk (zT (jH HB) hb); (try clear hb); (try clear hb2); (try clear hk); (try clear hi); obtain ⟨hcz22_0, hcz22_1, hcz22_2, hcz22_3, hfz22_0, hfz22_1, hfz22_2, hfz22_3⟩ := kQ4 BK151.out) | ((with_reducible refine gate_callee (f := 53) rfl ?_); refine goesL_ (some 23) rfl rfl Tryd.func53 (by kernel_rfl) rfl #[.agg #[.int .i64 a0_0, .int .i64 a0_1, .int .i64 a0_2, .int .u32 a0_3]] rfl jZ ?_; (with_reducible refine (ins_Branch.calls a0_0 a0_1 a0_2 a0_3 true _ ?side1 A15.out).mono ?_); (case side1 => exact Glob.below HG.out (jH HB)); rintro e w23 ⟨rfl, hb⟩; refine ⟨_, rfl, ?_⟩; replace BK151 := Aside0.mk (jB BK151 hb); replace HB := Aside0.mk (zT (jH HB) hb); (try clear hb); (try clear hb2); (try clear hk); (try clear hi); obtain ⟨hcz24_0, hcz24_1, hcz24_2, hcz24_3, hfz24_0, hfz24_1, hfz24_2, hfz24_3⟩ := kQ4 BK151.out) | ((with_reducible refine gate_dst (N := 38) rfl ?_); refine Kd.R_lit (Kd.int .i64) _ 2 ?hg (N := 38) ?hd (xs := ([wrap64 ((wrap64 (a1 + 1)) + (ji17)), wrap64 ((wrap64 (a1 + 1)) + (ji18))] : List Int)) (inner := [.int .i64 (wrap64 ((wrap64 (a1 + 1)) + (ji17))), .int .i64 (wrap64 ((wrap64 (a1 + 1)) + (ji18)))]) (ok := fun _ => True) (okp := fun _ => True) ?hr ?hp (fun _ hk => hk) trivial (Below.refl _ _) (Nat.le_refl _) (by simp) ?_; (case hd => rfl); (case hg => rfl); (case hr => first | (go_simp; done) | (go_simp; rfl)); (case hp => exact (Reps.one (show Kd.M (Kd.int .i64) _ _ _ (wrap64 ((wrap64 (a1 + 1)) + (ji17))) [.int .i64 (wrap64 ((wrap64 (a1 + 1)) + (ji17)))] from rfl) (Reps.one (show Kd.M (Kd.int .i64) _ _ _ (wrap64 ((wrap64 (a1 + 1)) + (ji18))) [.int .i64 (wrap64 ((wrap64 (a1 + 1)) + (ji18)))] from rfl) (Reps.none _ _)))); intro v158 w25 ho26 hb hg_ hnew_; clear hg_ hnew_; (first | rw [← Ny157.out] at ho26 | (simp only [Int.reduceToNat] at ho26; rw [← Ny157.out] at ho26)); have HO159 := Aside0.mk (Kd.R_lower ho26 (zZ (jH HB))); replace BK151 := Aside0.mk (jB BK151 hb); replace HB := Aside0.mk (zT (jH HB) hb); clear hb ho26))
    go_ret
    exact ⟨_, by first | rfl | (simp [errW_none, errW_some] <;> rfl) | (simp only [← hji17, ← hji18]; first | rfl | (simp [errW_none, errW_some] <;> rfl)) | (simp [*, errW_none, errW_some] <;> rfl), by (with_reducible repeat (first | apply Kd.R_alloc | apply Kd.R_drewN | apply Kd.R_drew)); exact HO159.out, jH HB⟩
   ·replace c16 := Bool.eq_false_iff.mpr c16
    subst c16
    rw [if_neg (show ¬ (false = true) by decide)] at H
    obtain ⟨y160, hy160⟩ : ∃ y_ : List Int, y_ = (([wrap64 (a1 + 1)] : List Int)) := ⟨_, rfl⟩
    simp only [Option.bind_some, ← hy160] at H
    have Ny160 := Aside0.mk hy160
    clear hy160
    obtain rfl := Option.some.inj H
    go_enter Tryd.func68, Tryd.ntmps68
    go_wp2_with (first | ((with_reducible refine gate_dst (N := 2) rfl ?_); refine box_event rfl (N := 2) rfl (cs := #[.int .i64 a0_0, .int .i64 a0_1, .int .i64 a0_2, .int .u32 a0_3]) (t := 59) jW ?_; intro gb151 hg w27 hbox hb; have BK151 := Aside0.mk hbox; have GW151 := Aside0.mk (jG hg HB); have GE151 := Aside0.mk (jG hg HB); replace HB := Aside0.mk (zT (jH HB) hb); clear hb hbox hg; obtain ⟨hcz28_0, hcz28_1, hcz28_2, hcz28_3, hfz28_0, hfz28_1, hfz28_2, hfz28_3⟩ := kQ4 BK151.out) | ((with_reducible refine gate_callee (f := 54) rfl ?_); refine goesL_ (some 10) rfl rfl Tryd.func54 (by kernel_rfl) rfl #[.agg #[.int .i64 a0_0, .int .i64 a0_1, .int .i64 a0_2, .int .u32 a0_3]] rfl jZ ?_; (with_reducible refine (ins_Ends.calls a0_0 a0_1 a0_2 a0_3 false _ A3.out).mono ?_); rintro e w29 ⟨rfl, hb⟩; refine ⟨_, rfl, ?_⟩; replace BK151 := Aside0.mk (jB BK151 hb); replace HB := Aside0.mk (zT (jH HB) hb); (try clear hb); (try clear hb2); (try clear hk); (try clear hi); obtain ⟨hcz30_0, hcz30_1, hcz30_2, hcz30_3, hfz30_0, hfz30_1, hfz30_2, hfz30_3⟩ := kQ4 BK151.out) | ((with_reducible refine gate_callee (f := 53) rfl ?_); refine goesL_ (some 23) rfl rfl Tryd.func53 (by kernel_rfl) rfl #[.agg #[.int .i64 a0_0, .int .i64 a0_1, .int .i64 a0_2, .int .u32 a0_3]] rfl jZ ?_; (with_reducible refine (ins_Branch.calls a0_0 a0_1 a0_2 a0_3 false _ ?side1 A15.out).mono ?_); (case side1 => exact Glob.below HG.out (jH HB)); rintro e w31 ⟨rfl, hb⟩; refine ⟨_, rfl, ?_⟩; replace BK151 := Aside0.mk (jB BK151 hb); replace HB := Aside0.mk (zT (jH HB) hb); (try clear hb); (try clear hb2); (try clear hk); (try clear hi)) | ((with_reducible refine gate_dst (N := 40) rfl ?_); refine Kd.R_lit (Kd.int .i64) _ 2 ?hg (N := 40) ?hd (xs := ([wrap64 (a1 + 1)] : List Int)) (inner := [.int .i64 (wrap64 (a1 + 1))]) (ok := fun _ => True) (okp := fun _ => True) ?hr ?hp (fun _ hk => hk) trivial (Below.refl _ _) (Nat.le_refl _) (by simp) ?_; (case hd => rfl); (case hg => rfl); (case hr => first | (go_simp; done) | (go_simp; rfl)); (case hp => exact (Reps.one (show Kd.M (Kd.int .i64) _ _ _ (wrap64 (a1 + 1)) [.int .i64 (wrap64 (a1 + 1))] from rfl) (Reps.none _ _))); intro v161 w32 ho33 hb hg_ hnew_; clear hg_ hnew_; (first | rw [← Ny160.out] at ho33 | (simp only [Int.reduceToNat] at ho33; rw [← Ny160.out] at ho33)); have HO162 := Aside0.mk (Kd.R_lower ho33 (zZ (jH HB))); replace BK151 := Aside0.mk (jB BK151 hb); replace HB := Aside0.mk (zT (jH HB) hb); clear hb ho33))
    go_ret
    exact ⟨_, jE, by (with_reducible repeat (first | apply Kd.R_alloc | apply Kd.R_drewN | apply Kd.R_drew)); exact HO162.out, jH HB⟩
set_option maxRecDepth 100000 in
theorem upd_new {w : World} {r : Nat} {es : Array MapEntry} {clock : Nat} {k : Int} {v : Value} (hb : w.heap[r]? = some (.map es clock)) (hf : Instr.findNow (.int .i64) (.int .i64 k) es.toList 0 = some none) :
  (Instr.mapUpdate 103 (.map (some r)) (.int .i64 k) v).run Tryd.prog w = .ok () { w with heap := w.heap.setIfInBounds r (.map (es.push { key := .int .i64 k, val := v, born := clock }) (clock + 1)) } := by
 have hm := Tryd.underlying103
 have hd := Tryd.underlying3
 have hk : MapKept.IsKey (.int .i64) (.int .i64 k) := by simp [MapKept.IsKey]
 simp [Instr.mapUpdate, run_underlying hm, MapKept.run_getObj_map hb, MapKept.run_checkKey hd hk, MapKept.run_findKey hd hf, MapKept.run_setObj_map _ hb, Result.andThen]
set_option maxRecDepth 100000 in
theorem upd_step {w0 w : World} {r : Nat} {es : Array MapEntry} {clock : Nat} {k : Int} {v : Value} (hb : w.heap[r]? = some (.map es clock)) (hf : Instr.findNow (.int .i64) (.int .i64 k) es.toList 0 = some none) (hB : Below w0.heap.size w0 w) (hr : w0.heap.size ≤ r) :
  ∃ w1, (Instr.mapUpdate 103 (.map (some r)) (.int .i64 k) v).run Tryd.prog w = .ok () w1 ∧ w1.heap[r]? = some (.map (es.push { key := .int .i64 k, val := v, born := clock }) (clock + 1)) ∧ (∀ i, i ≠ r → w1.heap[i]? = w.heap[i]?) ∧ Below w0.heap.size w0 w1 := by
 refine ⟨_, upd_new hb hf, (MapKept.heap_set hb).1, (MapKept.heap_set hb).2, ?_⟩
 refine ⟨hB.os, hB.tape, hB.output, by simpa using hB.size, fun i hi => ?_⟩
 rw [(MapKept.heap_set (o' := .map (es.push { key := .int .i64 k, val := v, born := clock }) (clock + 1)) hb).2 i (by omega)]
 exact hB.block i hi
def ruleF (n b : Nat) : Value := .func (.func n) #[] #[.pointer (some ⟨b, 0, none⟩)]
def rulesEs (b : Nat) : Array MapEntry := #[{ key := .int .i64 32, val := ruleF 72 b, born := 0 }, { key := .int .i64 52, val := ruleF 73 b, born := 1 }, { key := .int .i64 2, val := ruleF 70 b, born := 2 }, { key := .int .i64 3, val := ruleF 70 b, born := 3 },
 { key := .int .i64 96, val := ruleF 70 b, born := 4 }, { key := .int .i64 97, val := ruleF 70 b, born := 5 }, { key := .int .i64 100, val := ruleF 71 b, born := 6 }, { key := .int .i64 116, val := ruleF 71 b, born := 7 }]
def RulesAt (w : World) (m b : Nat) : Prop := w.heap[m]? = some (.map (rulesEs b) 8) ∧ w.heap[b]? = some (.cells #[.func (.func 69) #[] #[]] 108 (0, 0))
set_option maxHeartbeats 8000000 in
set_option maxRecDepth 100000 in
theorem check_rules.calls (w : World) :
  Calls Tryd.prog 67 #[] w fun e w' => ∃ m b, e = .returned (.map (some m)) ∧ w.heap.size ≤ m ∧ w.heap.size ≤ b ∧ RulesAt w' m b ∧ Below w.heap.size w w' := by
 have hst : ∀ (W : World) (a : Addr) (m : Mode), (store a (.func (.func 69) #[] #[]) m).run Tryd.prog W = stored Tryd.prog W a (.func (.func 69) #[] #[]) m := fun W a m => run_store _ W a _ m rfl
 have hmm := @run_makeMap Tryd.prog
 go_enter Tryd.func67, Tryd.ntmps67
 go_wp2
 obtain ⟨W0, hW0⟩ : ∃ W, W = (w.alloc (Obj.cells #[Value.func (Fn.func 69) #[] #[]] 108)).alloc (Obj.map #[] 0) := ⟨_, rfl⟩
 have B0 : Below w.heap.size w W0 := by rw [hW0]; exact zA (zA (Below.refl _ _) _) _
 have M0_ : W0.heap[w.heap.size + 1]? = some (.map #[] 0) := by
  rw [hW0]
  have := (MapKept.heap_alloc (w.alloc (Obj.cells #[Value.func (Fn.func 69) #[] #[]] 108)) (Obj.map #[] 0)).1
  simpa using this
 have C0 : W0.heap[w.heap.size]? = some (.cells #[.func (.func 69) #[] #[]] 108 (0, 0)) := by
  rw [hW0]
  have h1 := (MapKept.heap_alloc w (Obj.cells #[Value.func (Fn.func 69) #[] #[]] 108)).1
  have h2 := (MapKept.heap_alloc (w.alloc (Obj.cells #[Value.func (Fn.func 69) #[] #[]] 108)) (Obj.map #[] 0)).2 w.heap.size (by simp)
  rw [h2]
  exact h1
 rw [← hW0]
 clear hW0
 have hr : w.heap.size ≤ w.heap.size + 1 := by omega
 obtain ⟨W1, e1, M1_, O1, B1⟩ := upd_step (k := 32) M0_ (by rfl) B0 hr
 rw [e1]
 have C1 := (O1 w.heap.size (by omega)).trans C0
 go_wp2
 obtain ⟨W2, e2, M2_, O2, B2⟩ := upd_step (k := 52) M1_ (by rfl) B1 hr
 rw [e2]
 have C2 := (O2 w.heap.size (by omega)).trans C1
 go_wp2
 obtain ⟨W3, e3, M3_, O3, B3⟩ := upd_step (k := 2) M2_ (by rfl) B2 hr
 rw [e3]
 have C3 := (O3 w.heap.size (by omega)).trans C2
 go_wp2
 obtain ⟨W4, e4, M4_, O4, B4⟩ := upd_step (k := 3) M3_ (by rfl) B3 hr
 rw [e4]
 have C4 := (O4 w.heap.size (by omega)).trans C3
 go_wp2
 obtain ⟨W5, e5, M5_, O5, B5⟩ := upd_step (k := 96) M4_ (by rfl) B4 hr
 rw [e5]
 have C5 := (O5 w.heap.size (by omega)).trans C4
 go_wp2
 obtain ⟨W6, e6, M6_, O6, B6⟩ := upd_step (k := 97) M5_ (by rfl) B5 hr
 rw [e6]
 have C6 := (O6 w.heap.size (by omega)).trans C5
 go_wp2
 obtain ⟨W7, e7, M7_, O7, B7⟩ := upd_step (k := 100) M6_ (by rfl) B6 hr
 rw [e7]
 have C7 := (O7 w.heap.size (by omega)).trans C6
 go_wp2
 obtain ⟨W8, e8, M8_, O8, B8⟩ := upd_step (k := 116) M7_ (by rfl) B7 hr
 rw [e8]
 have C8 := (O8 w.heap.size (by omega)).trans C7
 go_wp2
 go_ret
 exact ⟨_, w.heap.size, rfl, by omega, Nat.le_refl _, ⟨M8_, C8⟩, B8⟩
set_option maxHeartbeats 8000000 in
set_option maxRecDepth 100000 in
theorem check_rule2.calls (a0 a1 a2 a3 : Int) (b : Nat) (w : World) (hc : w.heap[b]? = some (.cells #[.func (.func 69) #[] #[]] 108 (0, 0))) :
  Calls Tryd.prog 70 #[.agg #[.int .i64 a0, .int .i64 a1, .int .i64 a2, .int .u32 a3], .pointer (some ⟨b, 0, none⟩)] w fun e w' => e = .returned (.int .i64 (if a3 < 16 then 0 else 7)) ∧ Below w.heap.size w w' := by
 have hu36 := Tryd.underlying59
 have h1 : w.cell? ⟨b, 0, none⟩ = some (.func (.func 69) #[] #[]) := (kC hc 0).trans rfl
 have hlt : b < w.heap.size := (Array.getElem?_eq_some_iff.1 hc).1
 have h1a : ∀ o, (w.alloc o).cell? ⟨b, 0, none⟩ = some (.func (.func 69) #[] #[]) := fun o => (World.cell?_alloc_lt _ _ _ hlt).trans h1
 clear h1
 by_cases c : a3 < 16
 ·rw [if_pos c]
  have d : decide (a3 < 16) = true := dT c
  clear c
  go_enter Tryd.func70, Tryd.ntmps70
  go_wp2
  go_ret
  exact ⟨rfl, zA (Below.refl _ _) _⟩
 ·rw [if_neg c]
  have d : decide (a3 < 16) = false := dF c
  clear c
  go_enter Tryd.func70, Tryd.ntmps70
  go_wp2
  go_ret
  exact ⟨rfl, zA (Below.refl _ _) _⟩
set_option maxHeartbeats 8000000 in
set_option maxRecDepth 100000 in
theorem check_rule3.calls (a0 a1 a2 a3 : Int) (b : Nat) (w : World) (hc : w.heap[b]? = some (.cells #[.func (.func 69) #[] #[]] 108 (0, 0))) :
  Calls Tryd.prog 71 #[.agg #[.int .i64 a0, .int .i64 a1, .int .i64 a2, .int .u32 a3], .pointer (some ⟨b, 0, none⟩)] w fun e w' => e = .returned (.int .i64 (if a3 < 32 then 0 else 1)) ∧ Below w.heap.size w w' := by
 have hu36 := Tryd.underlying59
 have h1 : w.cell? ⟨b, 0, none⟩ = some (.func (.func 69) #[] #[]) := (kC hc 0).trans rfl
 have hlt : b < w.heap.size := (Array.getElem?_eq_some_iff.1 hc).1
 have h1a : ∀ o, (w.alloc o).cell? ⟨b, 0, none⟩ = some (.func (.func 69) #[] #[]) := fun o => (World.cell?_alloc_lt _ _ _ hlt).trans h1
 clear h1
 by_cases c : a3 < 32
 ·rw [if_pos c]
  have d : decide (a3 < 32) = true := dT c
  clear c
  go_enter Tryd.func71, Tryd.ntmps71
  go_wp2
  go_ret
  exact ⟨rfl, zA (Below.refl _ _) _⟩
 ·rw [if_neg c]
  have d : decide (a3 < 32) = false := dF c
  clear c
  go_enter Tryd.func71, Tryd.ntmps71
  go_wp2
  go_ret
  exact ⟨rfl, zA (Below.refl _ _) _⟩
set_option maxHeartbeats 8000000 in
set_option maxRecDepth 100000 in
theorem check_rule5.calls (a0 a1 a2 a3 : Int) (b : Nat) (w : World) (hc : w.heap[b]? = some (.cells #[.func (.func 69) #[] #[]] 108 (0, 0))) :
  Calls Tryd.prog 73 #[.agg #[.int .i64 a0, .int .i64 a1, .int .i64 a2, .int .u32 a3], .pointer (some ⟨b, 0, none⟩)] w fun e w' => e = .returned (.int .i64 (if a3 ≠ 0 then 0 else 8)) ∧ Below w.heap.size w w' := by
 have hu36 := Tryd.underlying59
 have h1 : w.cell? ⟨b, 0, none⟩ = some (.func (.func 69) #[] #[]) := (kC hc 0).trans rfl
 have hlt : b < w.heap.size := (Array.getElem?_eq_some_iff.1 hc).1
 have h1a : ∀ o, (w.alloc o).cell? ⟨b, 0, none⟩ = some (.func (.func 69) #[] #[]) := fun o => (World.cell?_alloc_lt _ _ _ hlt).trans h1
 clear h1
 by_cases c : a3 ≠ 0
 ·rw [if_pos c]
  have d : (a3 != 0) = true := nI.mpr c
  clear c
  go_enter Tryd.func73, Tryd.ntmps73
  go_wp2
  go_ret
  exact ⟨rfl, zA (Below.refl _ _) _⟩
 ·rw [if_neg c]
  have d : (a3 != 0) = false := nF.mpr (by omega)
  clear c
  go_enter Tryd.func73, Tryd.ntmps73
  go_wp2
  go_ret
  exact ⟨rfl, zA (Below.refl _ _) _⟩
set_option maxHeartbeats 8000000 in
set_option maxRecDepth 100000 in
theorem check_rule4.calls (a0 a1 a2 a3 : Int) (b : Nat) (w : World) (hc : w.heap[b]? = some (.cells #[.func (.func 69) #[] #[]] 108 (0, 0))) :
  Calls Tryd.prog 72 #[.agg #[.int .i64 a0, .int .i64 a1, .int .i64 a2, .int .u32 a3], .pointer (some ⟨b, 0, none⟩)] w fun e w' => e = .returned (.int .i64 (if Int.tmod a3 4 = 0 then (if a3 < 64 then 0 else 6) else 6)) ∧ Below w.heap.size w w' := by
 have hu36 := Tryd.underlying59
 have h1 : w.cell? ⟨b, 0, none⟩ = some (.func (.func 69) #[] #[]) := (kC hc 0).trans rfl
 have hlt : b < w.heap.size := (Array.getElem?_eq_some_iff.1 hc).1
 have h1a : ∀ o, (w.alloc o).cell? ⟨b, 0, none⟩ = some (.func (.func 69) #[] #[]) := fun o => (World.cell?_alloc_lt _ _ _ hlt).trans h1
 clear h1
 by_cases c1 : Int.tmod a3 4 = 0
 ·have d1 : (Int.tmod a3 4 == 0) = true := bI.mpr c1
  rw [if_pos c1]
  clear c1
  by_cases c : a3 < 64
  ·rw [if_pos c]
   have d : decide (a3 < 64) = true := dT c
   clear c
   go_enter Tryd.func72, Tryd.ntmps72
   go_wp2
   go_ret
   exact ⟨rfl, zA (Below.refl _ _) _⟩
  ·rw [if_neg c]
   have d : decide (a3 < 64) = false := dF c
   clear c
   go_enter Tryd.func72, Tryd.ntmps72
   go_wp2
   go_ret
   exact ⟨rfl, zA (Below.refl _ _) _⟩
 ·have d1 : (Int.tmod a3 4 == 0) = false := bF.mpr c1
  rw [if_neg c1]
  clear c1
  go_enter Tryd.func72, Tryd.ntmps72
  go_wp2
  go_ret
  exact ⟨rfl, zA (Below.refl _ _) _⟩
def ruleN (op : Int) : Option Nat := if op = 32 then some 72 else if op = 52 then some 73 else if op = 2 ∨ op = 3 ∨ op = 96 ∨ op = 97 then some 70 else if op = 100 ∨ op = 116 then some 71 else none
def check_ruleE (op k : Int) : Int := if op = 32 then (if Int.tmod k 4 = 0 then (if k < 64 then 0 else 6) else 6) else if op = 52 then (if k ≠ 0 then 0 else 8) else if op = 2 ∨ op = 3 ∨ op = 96 ∨ op = 97 then (if k < 16 then 0 else 7) else if op = 100 ∨ op = 116 then (if k < 32 then 0 else 1) else 0
set_option maxRecDepth 100000 in
theorem ruleE_none {op k : Int} (h : ruleN op = none) : check_ruleE op k = 0 := by
 unfold ruleN at h
 unfold check_ruleE
 split at h
 ·cases h
 rename_i h1
 rw [if_neg h1]
 split at h
 ·cases h
 rename_i h2
 rw [if_neg h2]
 split at h
 ·cases h
 rename_i h3
 rw [if_neg h3]
 split at h
 ·cases h
 rename_i h4
 rw [if_neg h4]
set_option maxRecDepth 100000 in
theorem ruleN_cases (op : Int) : ruleN op = none ∨ ruleN op = some 70 ∨ ruleN op = some 71 ∨ ruleN op = some 72 ∨ ruleN op = some 73 := by
 unfold ruleN
 split
 ·simp
 ·split
  ·simp
  ·split
   ·simp
   ·split <;> simp
set_option maxRecDepth 100000 in
theorem lookup_hit {w : World} {r : Nat} {es : Array MapEntry} {clock i : Nat} {k : Int} {v : Value} (hb : w.heap[r]? = some (.map es clock)) (hf : Instr.findNow (.int .i64) (.int .i64 k) es.toList 0 = some (some (i, v))) :
  (Instr.lookup 103 (.map (some r)) (.int .i64 k) false).run Tryd.prog w = .ok v w := by
 have hm := Tryd.underlying103
 have hd := Tryd.underlying3
 have hk : MapKept.IsKey (.int .i64) (.int .i64 k) := by simp [MapKept.IsKey]
 simp [Instr.lookup, run_underlying hm, MapKept.run_getObj_map hb, MapKept.run_checkKey hd hk, MapKept.run_findKey hd hf, Result.andThen]
set_option maxRecDepth 100000 in
theorem lookup_miss {w : World} {r : Nat} {es : Array MapEntry} {clock : Nat} {k : Int} (hb : w.heap[r]? = some (.map es clock)) (hf : Instr.findNow (.int .i64) (.int .i64 k) es.toList 0 = some none) :
  (Instr.lookup 103 (.map (some r)) (.int .i64 k) false).run Tryd.prog w = .ok .nilFunc w := by
 have hm := Tryd.underlying103
 have hd := Tryd.underlying3
 have hk : MapKept.IsKey (.int .i64) (.int .i64 k) := by simp [MapKept.IsKey]
 have hz : (zeroValue 105).run Tryd.prog w = .ok .nilFunc w := rfl
 simp [Instr.lookup, run_underlying hm, MapKept.run_getObj_map hb, MapKept.run_checkKey hd hk, MapKept.run_findKey hd hf, Result.andThen, hz]
set_option maxRecDepth 100000 in
theorem lookup_some {w : World} {m b n : Nat} {op : Int} (h : RulesAt w m b) (hn : ruleN op = some n) :
  (Instr.lookup 103 (.map (some m)) (.int .i64 op) false).run Tryd.prog w = .ok (.func (.func n) #[] #[.pointer (some ⟨b, 0, none⟩)]) w := by
 unfold ruleN at hn
 split at hn
 ·rename_i h1; subst h1; cases hn; exact lookup_hit (i := 0) h.1 (by rfl)
 split at hn
 ·rename_i h1; subst h1; cases hn; exact lookup_hit (i := 1) h.1 (by rfl)
 split at hn
 ·rename_i h1
  cases hn
  rcases h1 with h1 | h1 | h1 | h1 <;> subst h1
  ·exact lookup_hit (i := 2) h.1 (by rfl)
  ·exact lookup_hit (i := 3) h.1 (by rfl)
  ·exact lookup_hit (i := 4) h.1 (by rfl)
  ·exact lookup_hit (i := 5) h.1 (by rfl)
 split at hn
 ·rename_i h1
  cases hn
  rcases h1 with h1 | h1 <;> subst h1
  ·exact lookup_hit (i := 6) h.1 (by rfl)
  ·exact lookup_hit (i := 7) h.1 (by rfl)
 ·cases hn
set_option maxRecDepth 100000 in
theorem lookup_none {w : World} {m b : Nat} {op : Int} (h : RulesAt w m b) (hn : ruleN op = none) :
  (Instr.lookup 103 (.map (some m)) (.int .i64 op) false).run Tryd.prog w = .ok .nilFunc w := by
 refine lookup_miss h.1 ?_
 unfold ruleN at hn
 have h1 : ¬ op = 32 := fun e => by simp [e] at hn
 have h2 : ¬ op = 52 := fun e => by simp [e] at hn
 have h3 : ¬ op = 2 := fun e => by simp [e] at hn
 have h4 : ¬ op = 3 := fun e => by simp [e] at hn
 have h5 : ¬ op = 96 := fun e => by simp [e] at hn
 have h6 : ¬ op = 97 := fun e => by simp [e] at hn
 have h7 : ¬ op = 100 := fun e => by simp [e] at hn
 have h8 : ¬ op = 116 := fun e => by simp [e] at hn
 have q1 : (op == 32) = false := bF.mpr h1
 have q2 : (op == 52) = false := bF.mpr h2
 have q3 : (op == 2) = false := bF.mpr h3
 have q4 : (op == 3) = false := bF.mpr h4
 have q5 : (op == 96) = false := bF.mpr h5
 have q6 : (op == 97) = false := bF.mpr h6
 have q7 : (op == 100) = false := bF.mpr h7
 have q8 : (op == 116) = false := bF.mpr h8
 simp [rulesEs, Instr.findNow, Instr.sameNow, q1, q2, q3, q4, q5, q6, q7, q8]
set_option maxRecDepth 100000 in
theorem RulesAt.below {w w1 : World} {m b : Nat} (h : RulesAt w m b) (hb : Below w.heap.size w w1) : RulesAt w1 m b :=
 ⟨(hb.block m (Array.getElem?_eq_some_iff.1 h.1).1).trans h.1, (hb.block b (Array.getElem?_eq_some_iff.1 h.2).1).trans h.2⟩
set_option maxRecDepth 100000 in
theorem check_ruleAt.calls (n : Nat) (a0 a1 a2 a3 : Int) (m b : Nat) (w : World) (hn : ruleN a0 = some n) (h : RulesAt w m b) :
  Calls Tryd.prog n #[.agg #[.int .i64 a0, .int .i64 a1, .int .i64 a2, .int .u32 a3], .pointer (some ⟨b, 0, none⟩)] w fun e w' => e = .returned (.int .i64 (check_ruleE a0 a3)) ∧ Below w.heap.size w w' := by
 unfold ruleN at hn
 unfold check_ruleE
 split at hn
 ·rename_i h1; rw [if_pos h1]; cases hn; exact check_rule4.calls a0 a1 a2 a3 b w h.2
 rename_i h1
 rw [if_neg h1]
 split at hn
 ·rename_i h2; rw [if_pos h2]; cases hn; exact check_rule5.calls a0 a1 a2 a3 b w h.2
 rename_i h2
 rw [if_neg h2]
 split at hn
 ·rename_i h3; rw [if_pos h3]; cases hn; exact check_rule2.calls a0 a1 a2 a3 b w h.2
 rename_i h3
 rw [if_neg h3]
 split at hn
 ·rename_i h4; rw [if_pos h4]; cases hn; exact check_rule3.calls a0 a1 a2 a3 b w h.2
 ·cases hn
set_option maxRecDepth 100000 in
theorem func_ne (n b : Nat) (W : World) : Sem.run Tryd.prog (Go.binOp .neq 105 (.func (.func n) #[] #[.pointer (some ⟨b, 0, none⟩)]) .nilFunc) W = .ok (.bool true) W := by rfl
set_option maxRecDepth 100000 in
theorem func_guard (n b : Nat) (x y : Operand) (W : World) : Sem.run Tryd.prog (Go.eqGuard .neq 105 x y (.func (.func n) #[] #[.pointer (some ⟨b, 0, none⟩)]) .nilFunc) W = .ok () W := by rfl
theorem nil_guard (x y : Operand) (W : World) : Sem.run Tryd.prog (Go.eqGuard .neq 105 x y .nilFunc .nilFunc) W = .ok () W := by rfl
set_option maxRecDepth 100000 in
theorem nil_ne (W : World) : Sem.run Tryd.prog (Go.binOp .neq 105 .nilFunc .nilFunc) W = .ok (.bool false) W := by rfl
set_option maxRecDepth 100000 in
theorem rule_ways {w : World} {m b : Nat} (op : Int) (h : RulesAt w m b) : ∃ (V : Value) (B : Bool), (Instr.lookup 103 (.map (some m)) (.int .i64 op) false).run Tryd.prog w = .ok V w ∧
  (∀ (x y : Operand) (W : World), Sem.run Tryd.prog (Go.eqGuard .neq 105 x y V .nilFunc) W = .ok () W) ∧ (∀ W : World, Sem.run Tryd.prog (Go.binOp .neq 105 V .nilFunc) W = .ok (.bool B) W) ∧
  ((ruleN op = none ∧ V = .nilFunc ∧ B = false) ∨ ∃ n, ruleN op = some n ∧ V = .func (.func n) #[] #[.pointer (some ⟨b, 0, none⟩)] ∧ B = true) := by
 cases hn : ruleN op with
 | none => exact ⟨_, _, lookup_none h hn, nil_guard, nil_ne, .inl ⟨rfl, rfl, rfl⟩⟩
 | some n => exact ⟨_, _, lookup_some h hn, func_guard n b, func_ne n b, .inr ⟨n, rfl, rfl, rfl⟩⟩
mutual
def check_Check.l0 : Nat → List (S59) → List (S59) → Int → Int → Option (Int × Int)
 | 0, _, _, _, _ => none
 | k + 1, x0, x22, x23, x24 => if x24 < x23 then (if 0 ≤ x24 then (if x24 < (x22.length : Int) then ((ins_Right.f k ((rd_T59 x22 x24).f0) ((rd_T59 x22 x24).f1) ((rd_T59 x22 x24).f2) ((rd_T59 x22 x24).f3)).bind fun t132 => (if t132 = true then (if (check_ruleE ((rd_T59 x22 x24).f0) ((rd_T59 x22 x24).f3)) = 0 then (if ((rd_T59 x22 x24).f0) = 5 then (check_Check.j1 k x0 x24 true x22 x23 x24 ((rd_T59 x22 x24).f0) ((rd_T59 x22 x24).f1) ((rd_T59 x22 x24).f2) ((rd_T59 x22 x24).f3)) else ((ins_Branch.f ((rd_T59 x22 x24).f0) ((rd_T59 x22 x24).f1) ((rd_T59 x22 x24).f2) ((rd_T59 x22 x24).f3)).bind fun t133 => (check_Check.j1 k x0 x24 t133 x22 x23 x24 ((rd_T59 x22 x24).f0) ((rd_T59 x22 x24).f1) ((rd_T59 x22 x24).f2) ((rd_T59 x22 x24).f3)))) else (some (x24, check_ruleE ((rd_T59 x22 x24).f0) ((rd_T59 x22 x24).f3)))) else (some (x24, 1)))) else (none)) else (none)) else (if 0 ≤ (wrap64 ((x0.length : Int) - 1)) then (if (wrap64 ((x0.length : Int) - 1)) < (x0.length : Int) then ((ins_Ends.f ((rd_T59 x0 (wrap64 ((x0.length : Int) - 1))).f0) ((rd_T59 x0 (wrap64 ((x0.length : Int) - 1))).f1) ((rd_T59 x0 (wrap64 ((x0.length : Int) - 1))).f2) ((rd_T59 x0 (wrap64 ((x0.length : Int) - 1))).f3)).bind fun t129 => (if t129 = true then (some (0, 0)) else (some (wrap64 ((x0.length : Int) - 1), 5)))) else (none)) else (none))
def check_Check.j1 : Nat → List (S59) → Int → Bool → List (S59) → Int → Int → Int → Int → Int → Int → Option (Int × Int)
 | 0, _, _, _, _, _, _, _, _, _, _ => none
 | k + 1, x0, x5, x9, x22, x23, x24, x132000, x132001, x132002, x132003 => (check_ways.f x132000 x132001 x132002 x132003 x5).bind fun t134 => (check_Check.l1 k x0 x5 x9 x22 x23 x24 t134 (t134.length : Int) 0)
def check_Check.l1 : Nat → List (S59) → Int → Bool → List (S59) → Int → Int → List Int → Int → Int → Option (Int × Int)
 | 0, _, _, _, _, _, _, _, _, _ => none
 | k + 1, x0, x5, x9, x22, x23, x24, x55, x56, x57 => if x57 < x56 then (if 0 ≤ x57 then (if x57 < (x55.length : Int) then (if x9 = true then (if (rd x55 x57) ≥ (x0.length : Int) then (some (x5, 4)) else (check_Check.l1 k x0 x5 x9 x22 x23 x24 x55 x56 (wrap64 (x57 + 1)))) else (check_Check.l1 k x0 x5 x9 x22 x23 x24 x55 x56 (wrap64 (x57 + 1)))) else (none)) else (none)) else (check_Check.l0 k x0 x22 x23 (wrap64 (x24 + 1)))
end
def check_Check.f (k : Nat) (l0 : List (S59)) : Option (Int × Int) := if (l0.length : Int) = 0 then (some (0, 5)) else (if (l0.length : Int) > 4096 then (some (0, 3)) else (check_Check.l0 k l0 l0 (l0.length : Int) 0))
set_option maxHeartbeats 8000000 in
set_option maxRecDepth 100000 in
theorem check_Check.calls (k : Nat) (A0 : Option Addr) (c0 : Nat) (l0 : List (S59)) (r1 : Int) (r2 : Int) (w : World) (hr0 : Kd.C k59 w A0 l0.length l0) (hc0 : l0.length ≤ c0) (hG : Glob w) (h : check_Check.f k l0 = some (r1, r2)) :
  Calls Tryd.prog 64 #[.slice A0 l0.length c0] w fun e w' => e = .returned (.tuple #[.int .i64 r1, .int .i64 r2]) ∧ Below w.heap.size w w' := by
 have hu36 := Tryd.underlying59
 have HG := Aside0.mk hG
 clear hG
 have HR0 := Aside0.mk hr0
 have HC0 := Aside0.mk hc0
 clear hr0 hc0
 have HB := Aside0.mk (Below.refl w.heap.size w)
 have H : (if (l0.length : Int) = 0 then (some (0, 5)) else (if (l0.length : Int) > 4096 then (some (0, 3)) else (check_Check.l0 k l0 l0 (l0.length : Int) 0))) = some (r1, r2) := h
 clear h
 by_cases c2 : (l0.length : Int) = 0
 ·rw [if_pos c2] at H
  have c2b0 : ((l0.length : Int) == 0) = true := bI.mpr c2
  have c2b1 : ((l0.length : Int) != 0) = false := nF.mpr c2
  clear c2
  simp only [Option.some.injEq, Prod.mk.injEq] at H
  obtain ⟨rfl, rfl⟩ := H
  go_enter Tryd.func64, Tryd.ntmps64
  go_wp2
  go_ret2
  exact ⟨jE, jH HB⟩
 ·rw [if_neg c2] at H
  have c2b0 : ((l0.length : Int) == 0) = false := bF.mpr c2
  have c2b1 : ((l0.length : Int) != 0) = true := nI.mpr c2
  have c2b2 : ¬ (l0 = []) := fun h_ => c2 (by rw [h_]; rfl)
  by_cases c3 : (l0.length : Int) > 4096
  ·rw [if_pos c3] at H
   have c3b0 : decide (4096 < (l0.length : Int)) = true := dT c3
   have c3b1 : decide (4096 < l0.length) = true := dT (by omega)
   clear c3
   simp only [Option.some.injEq, Prod.mk.injEq] at H
   obtain ⟨rfl, rfl⟩ := H
   go_enter Tryd.func64, Tryd.ntmps64
   go_wp2
   go_ret2
   exact ⟨jE, jH HB⟩
  ·rw [if_neg c3] at H
   have c3b0 : decide (4096 < (l0.length : Int)) = false := dF c3
   have c3b1 : decide (4096 < l0.length) = false := dF (by omega)
   clear c3
   have H' := Aside0.mk H
   clear H
   go_enter Tryd.func64, Tryd.ntmps64
   go_wp2_with (first | (go_at_call 67; (with_reducible refine (check_rules.calls _).mono ?_); rintro e wz ⟨mR, bR, rfl, hmR, hbR, hRL, hbw⟩; have HRL := Aside0.mk hRL; have HW0 := Aside0.mk hbw; clear hRL hmR hbR; have n0_ := Aside0.mk (Glob.below HG.out hbw); have n1_ := Aside0.mk (Kd.C_below HR0.out hbw); clear HG HR0 HB; have HG := n0_; have HR0 := n1_; have HB := Aside0.mk (Below.refl wz.heap.size wz); clear n0_ n1_; (try clear hb); clear hbw))
   go_loopg [24] k (fun kq v24 w' => ∃ (x24_1 : Int), v24 = .int .i64 x24_1 ∧ Aside0 (check_Check.l0 kq l0 l0 (l0.length : Int) x24_1 = some (r1, r2)) ∧ Aside0 (kq ≤ k) ∧ Aside0 (Below wz.heap.size wz w'))
   case atStart => exact ⟨(0), jS, H', ⟨Nat.le_refl _⟩, ⟨jH HB⟩⟩
   case round =>
    clear H'
    obtain ⟨x24_1, rfl, HA, HK1, HB⟩ := hrel
    cases gk with
    | zero => exact absurd HA.out (by simp [check_Check.l0])
    | succ k1 =>
     have H := HA.out
     clear HA
     simp only [check_Check.l0] at H
     by_cases c4 : x24_1 < (l0.length : Int)
     ·rw [if_pos c4] at H
      have c4b0 := dT c4
      clear c4
      by_cases c5 : 0 ≤ x24_1
      ·rw [if_pos c5] at H
       have c5b0 := dT c5
       clear c5
       by_cases c6 : x24_1 < (l0.length : Int)
       ·rw [if_pos c6] at H
        have c6b0 := dT c6
        clear c6
        replace H := Option.bind_eq_some_iff.mp H
        obtain ⟨t132, A70, H⟩ := H
        try dsimp only at H
        have A7 := Aside0.mk A70
        clear A70
        by_cases c8 : t132 = true
        ·subst c8
         rw [if_pos rfl] at H
         by_cases c9 : (check_ruleE ((rd_T59 l0 x24_1).f0) ((rd_T59 l0 x24_1).f3)) = 0
         ·rw [if_pos c9] at H
          have c9b0 : ((check_ruleE ((rd_T59 l0 x24_1).f0) ((rd_T59 l0 x24_1).f3)) == 0) = true := bI.mpr c9
          have c9b1 : ((check_ruleE ((rd_T59 l0 x24_1).f0) ((rd_T59 l0 x24_1).f3)) != 0) = false := nF.mpr c9
          clear c9
          have HC10 := Aside0.mk H
          clear H
          have p130 : 0 ≤ (x24_1 : Int) := oD (jA)
          have q130 : x24_1 < (l0.length : Int) := oD (jA)
          obtain ⟨ad130, e130, hx130_0, hx130_1, hx130_2, hx130_3⟩ := at_T59 HR0.out x24_1 p130 q130
          cases e130
          replace hx130_0 := (HB.out.cell (bL wz _ hx130_0)).trans hx130_0
          replace hx130_1 := (HB.out.cell (bL wz _ hx130_1)).trans hx130_1
          replace hx130_2 := (HB.out.cell (bL wz _ hx130_2)).trans hx130_2
          replace hx130_3 := (HB.out.cell (bL wz _ hx130_3)).trans hx130_3
          replace p130 := eq_true p130
          replace q130 := eq_true q130
          go_upto_region 11 with (first | ((with_reducible refine gate_dst (N := 6) rfl ?_); (try (refine gate_guard (by rfl) ?_; dsimp only)); refine box_event rfl (N := 6) rfl (cs := #[.int .i64 0, .int .i64 0, .int .i64 0, .int .u32 0]) (t := 59) jW ?_; intro gb131 hg w11 hbox hb; have BK131 := Aside0.mk hbox; have GW131 := Aside0.mk ((by rw [hg]; exact (zZ (jH HB)) : wz.heap.size ≤ gb131)); have GE131 := Aside0.mk ((by rw [hg]; exact (zZ (jH HB)) : wz.heap.size ≤ gb131)); replace HB := Aside0.mk (zT (jH HB) hb); clear hb hbox hg; obtain ⟨hcz12_0, hcz12_1, hcz12_2, hcz12_3, hfz12_0, hfz12_1, hfz12_2, hfz12_3⟩ := kQ4 BK131.out) | ((with_reducible refine gate_callee (f := 59) rfl ?_); refine goesL_ (some 30) rfl rfl Tryd.func59 (by kernel_rfl) rfl #[.agg #[.int .i64 ((rd_T59 l0 x24_1).f0), .int .i64 ((rd_T59 l0 x24_1).f1), .int .i64 ((rd_T59 l0 x24_1).f2), .int .u32 ((rd_T59 l0 x24_1).f3)]] rfl jZ ?_; (with_reducible refine (ins_Right.calls k1 ((rd_T59 l0 x24_1).f0) ((rd_T59 l0 x24_1).f1) ((rd_T59 l0 x24_1).f2) ((rd_T59 l0 x24_1).f3) true _ ?side1 A7.out).mono ?_); (case side1 => exact Glob.below HG.out (jH HB)); rintro e w13 ⟨rfl, hb⟩; refine ⟨_, rfl, ?_⟩; replace BK131 := Aside0.mk (kB (g := gb131) (o := .cells #[.int .i64 ((rd_T59 l0 x24_1).f0), .int .i64 ((rd_T59 l0 x24_1).f1), .int .i64 ((rd_T59 l0 x24_1).f2), .int .u32 ((rd_T59 l0 x24_1).f3)] 59 (0, 0)) (by (with_reducible repeat (first | refine kN ?_ _ | refine kD ?_ | refine kA ?_ _)); refine kP (cs := #[.int .i64 ((rd_T59 l0 x24_1).f0), .int .i64 ((rd_T59 l0 x24_1).f1), .int .i64 ((rd_T59 l0 x24_1).f2), .int .u32 0]) ?_ 3 _ rfl; (with_reducible repeat (first | refine kN ?_ _ | refine kD ?_ | refine kA ?_ _)); refine kP (cs := #[.int .i64 ((rd_T59 l0 x24_1).f0), .int .i64 ((rd_T59 l0 x24_1).f1), .int .i64 0, .int .u32 0]) ?_ 2 _ rfl; (with_reducible repeat (first | refine kN ?_ _ | refine kD ?_ | refine kA ?_ _)); refine kP (cs := #[.int .i64 ((rd_T59 l0 x24_1).f0), .int .i64 0, .int .i64 0, .int .u32 0]) ?_ 1 _ rfl; (with_reducible repeat (first | refine kN ?_ _ | refine kD ?_ | refine kA ?_ _)); refine kP (cs := #[.int .i64 0, .int .i64 0, .int .i64 0, .int .u32 0]) ?_ 0 _ rfl; (with_reducible repeat (first | refine kN ?_ _ | refine kD ?_ | refine kA ?_ _)); exact BK131.out) hb); replace HB := Aside0.mk (zT (jH HB) hb); (try clear hb); (try clear hb2); (try clear hk); (try clear hi); obtain ⟨hcz14_0, hcz14_1, hcz14_2, hcz14_3, hfz14_0, hfz14_1, hfz14_2, hfz14_3⟩ := kQ4 BK131.out))
          (try simp only [Act.put, List.setIfInBounds_toArray, List.set_cons_zero, List.set_cons_succ])
          obtain ⟨V, B, hlk, heg, hne, hcase⟩ := rule_ways ((rd_T59 l0 x24_1).f0) (RulesAt.below HRL.out (show Below wz.heap.size wz w13 from HB.out))
          have hcase := Aside0.mk hcase
          have hcq_0 : w13.cell? ⟨gb131, 0, none⟩ = some (.int .i64 ((rd_T59 l0 x24_1).f0)) := (kC BK131.out 0).trans rfl
          have hcq_1 : w13.cell? ⟨gb131, 1, none⟩ = some (.int .i64 ((rd_T59 l0 x24_1).f1)) := (kC BK131.out 1).trans rfl
          have hcq_2 : w13.cell? ⟨gb131, 2, none⟩ = some (.int .i64 ((rd_T59 l0 x24_1).f2)) := (kC BK131.out 2).trans rfl
          have hcq_3 : w13.cell? ⟨gb131, 3, none⟩ = some (.int .u32 ((rd_T59 l0 x24_1).f3)) := (kC BK131.out 3).trans rfl
          have hfq_0 := kF BK131.out 0
          have hfq_1 := kF BK131.out 1
          have hfq_2 := kF BK131.out 2
          have hfq_3 := kF BK131.out 3
          go_upto_if 38 with (fail)
          (try simp only [Act.put, List.setIfInBounds_toArray, List.set_cons_zero, List.set_cons_succ])
          go_cut [8] (fun v8 wc => Aside0 (wc.heap[gb131]? = some (.cells #[.int .i64 ((rd_T59 l0 x24_1).f0), .int .i64 ((rd_T59 l0 x24_1).f1), .int .i64 ((rd_T59 l0 x24_1).f2), .int .u32 ((rd_T59 l0 x24_1).f3)] 59 (0, 0))) ∧ Aside0 (Below wz.heap.size wz wc))
          case first =>
           rcases hcase.out with ⟨hrn, rfl, rfl⟩ | ⟨n, hrn, rfl, rfl⟩
           ·skip
            go_wp2
            go_meet
            case rel => exact ⟨⟨jK BK131⟩, ⟨jH HB⟩⟩
           ·rcases ruleN_cases ((rd_T59 l0 x24_1).f0) with hq | hq | hq | hq | hq
            ·rw [hq] at hrn; cases hrn
            ·obtain rfl : n = 70 := (Option.some.inj (hq.symm.trans hrn)).symm
             clear hq
             go_wp2_with (first | (go_at_call 70; (with_reducible refine (check_ruleAt.calls 70 ((rd_T59 l0 x24_1).f0) ((rd_T59 l0 x24_1).f1) ((rd_T59 l0 x24_1).f2) ((rd_T59 l0 x24_1).f3) mR bR _ hrn ?side1).mono ?_); (case side1 => exact RulesAt.below HRL.out (jH HB)); rintro e wq ⟨rfl, hb⟩; replace BK131 := Aside0.mk (jB BK131 hb); replace HB := Aside0.mk (zT (jH HB) hb); (try clear hb)))
             go_meet
             case rel => exact ⟨⟨jK BK131⟩, ⟨jH HB⟩⟩
            ·obtain rfl : n = 71 := (Option.some.inj (hq.symm.trans hrn)).symm
             clear hq
             go_wp2_with (first | (go_at_call 71; (with_reducible refine (check_ruleAt.calls 71 ((rd_T59 l0 x24_1).f0) ((rd_T59 l0 x24_1).f1) ((rd_T59 l0 x24_1).f2) ((rd_T59 l0 x24_1).f3) mR bR _ hrn ?side1).mono ?_); (case side1 => exact RulesAt.below HRL.out (jH HB)); rintro e wq ⟨rfl, hb⟩; replace BK131 := Aside0.mk (jB BK131 hb); replace HB := Aside0.mk (zT (jH HB) hb); (try clear hb)))
             go_meet
             case rel => exact ⟨⟨jK BK131⟩, ⟨jH HB⟩⟩
            ·obtain rfl : n = 72 := (Option.some.inj (hq.symm.trans hrn)).symm
             clear hq
             go_wp2_with (first | (go_at_call 72; (with_reducible refine (check_ruleAt.calls 72 ((rd_T59 l0 x24_1).f0) ((rd_T59 l0 x24_1).f1) ((rd_T59 l0 x24_1).f2) ((rd_T59 l0 x24_1).f3) mR bR _ hrn ?side1).mono ?_); (case side1 => exact RulesAt.below HRL.out (jH HB)); rintro e wq ⟨rfl, hb⟩; replace BK131 := Aside0.mk (jB BK131 hb); replace HB := Aside0.mk (zT (jH HB) hb); (try clear hb)))
             go_meet
             case rel => exact ⟨⟨jK BK131⟩, ⟨jH HB⟩⟩
            ·obtain rfl : n = 73 := (Option.some.inj (hq.symm.trans hrn)).symm
             clear hq
             go_wp2_with (first | (go_at_call 73; (with_reducible refine (check_ruleAt.calls 73 ((rd_T59 l0 x24_1).f0) ((rd_T59 l0 x24_1).f1) ((rd_T59 l0 x24_1).f2) ((rd_T59 l0 x24_1).f3) mR bR _ hrn ?side1).mono ?_); (case side1 => exact RulesAt.below HRL.out (jH HB)); rintro e wq ⟨rfl, hb⟩; replace BK131 := Aside0.mk (jB BK131 hb); replace HB := Aside0.mk (zT (jH HB) hb); (try clear hb)))
             go_meet
             case rel => exact ⟨⟨jK BK131⟩, ⟨jH HB⟩⟩
          case rest =>
           obtain ⟨BK131, HB⟩ := hcut
           clear hcase heg hne
           go_upto_region 16 with (fail)
           (try simp only [Act.put, List.setIfInBounds_toArray, List.set_cons_zero, List.set_cons_succ])
           go_cut [9] (fun v9 wc => ∃ (kq : Nat) (x9_9 : Bool), v9 = .bool x9_9 ∧ Aside0 (check_Check.j1 kq l0 x24_1 x9_9 l0 (l0.length : Int) x24_1 ((rd_T59 l0 x24_1).f0) ((rd_T59 l0 x24_1).f1) ((rd_T59 l0 x24_1).f2) ((rd_T59 l0 x24_1).f3) = some (r1, r2)) ∧ Aside0 (kq ≤ k1) ∧ Aside0 (wc.heap[gb131]? = some (.cells #[.int .i64 ((rd_T59 l0 x24_1).f0), .int .i64 ((rd_T59 l0 x24_1).f1), .int .i64 ((rd_T59 l0 x24_1).f2), .int .u32 ((rd_T59 l0 x24_1).f3)] 59 (0, 0))) ∧ Aside0 (Below wz.heap.size wz wc))
           case first =>
            have H := HC10.out
            clear HC10
            by_cases c15 : ((rd_T59 l0 x24_1).f0) = 5
            ·rw [if_pos c15] at H
             have c15b0 : (((rd_T59 l0 x24_1).f0) == 5) = true := bI.mpr c15
             have c15b1 : (((rd_T59 l0 x24_1).f0) != 5) = false := nF.mpr c15
             clear c15
             (first | rw [c15b0] | (simp only [i64_w, i32_w]; rw [c15b0]) | skip)
             have H' := Aside0.mk H
             clear H
             obtain ⟨hcz16_0, hcz16_1, hcz16_2, hcz16_3, hfz16_0, hfz16_1, hfz16_2, hfz16_3⟩ := kQ4 BK131.out
             go_wp2
             go_meet
             case rel => exact ⟨_, (true), jS, H', ⟨by have := HK1.out; first | omega | exact Nat.le_refl _⟩, ⟨jK BK131⟩, ⟨jH HB⟩⟩
            ·rw [if_neg c15] at H
             have c15b0 : (((rd_T59 l0 x24_1).f0) == 5) = false := bF.mpr c15
             have c15b1 : (((rd_T59 l0 x24_1).f0) != 5) = true := nI.mpr c15
             (first | rw [c15b0] | (simp only [i64_w, i32_w]; rw [c15b0]) | skip)
             replace H := Option.bind_eq_some_iff.mp H
             obtain ⟨t133, A170, H⟩ := H
             try dsimp only at H
             have A17 := Aside0.mk A170
             clear A170
             have H' := Aside0.mk H
             clear H
             obtain ⟨hcz18_0, hcz18_1, hcz18_2, hcz18_3, hfz18_0, hfz18_1, hfz18_2, hfz18_3⟩ := kQ4 BK131.out
             go_wp2_with (first | (go_at_call 53; (with_reducible refine (ins_Branch.calls ((rd_T59 l0 x24_1).f0) ((rd_T59 l0 x24_1).f1) ((rd_T59 l0 x24_1).f2) ((rd_T59 l0 x24_1).f3) t133 _ ?side1 A17.out).mono ?_); (case side1 => exact Glob.below HG.out (jH HB)); rintro e w19 ⟨rfl, hb⟩; replace BK131 := Aside0.mk (jB BK131 hb); replace HB := Aside0.mk (zT (jH HB) hb); (try clear hb); (try clear hb2); (try clear hk); (try clear hi)))
             go_meet
             case rel => exact ⟨_, (t133), jS, H', ⟨by have := HK1.out; first | omega | exact Nat.le_refl _⟩, ⟨jK BK131⟩, ⟨jH HB⟩⟩
           case rest =>
            clear HC10
            obtain ⟨kq, x9_9, rfl, HA, HJ9, BK131, HB⟩ := hcut
            cases kq with
            | zero => exact absurd HA.out (by simp [check_Check.j1])
            | succ kj9 =>
             have H := HA.out
             clear HA
             simp only [check_Check.j1] at H
             replace H := Option.bind_eq_some_iff.mp H
             obtain ⟨t134, A200, H⟩ := H
             try dsimp only at H
             have A20 := Aside0.mk A200
             clear A200
             have H' := Aside0.mk H
             clear H
             obtain ⟨hcz21_0, hcz21_1, hcz21_2, hcz21_3, hfz21_0, hfz21_1, hfz21_2, hfz21_3⟩ := kQ4 BK131.out
             go_wp2_with (first | ((with_reducible refine gate_callee (f := 68) rfl ?_); refine goesL_ (some 55) rfl rfl Tryd.func68 (by kernel_rfl) rfl #[.agg #[.int .i64 ((rd_T59 l0 x24_1).f0), .int .i64 ((rd_T59 l0 x24_1).f1), .int .i64 ((rd_T59 l0 x24_1).f2), .int .u32 ((rd_T59 l0 x24_1).f3)], .int .i64 x24_1] rfl jZ ?_; (with_reducible refine (check_ways.calls ((rd_T59 l0 x24_1).f0) ((rd_T59 l0 x24_1).f1) ((rd_T59 l0 x24_1).f2) ((rd_T59 l0 x24_1).f3) x24_1 t134 _ ?side1 A20.out).mono ?_); (case side1 => exact Glob.below HG.out (jH HB)); rintro e w22 ⟨v135, rfl, ho0, hb⟩; refine ⟨_, rfl, ?_⟩; have HO136 := Aside0.mk (Kd.R_lower ho0 (zZ (jH HB))); replace BK131 := Aside0.mk (jB BK131 hb); replace HB := Aside0.mk (zT (jH HB) hb); (try clear hb); (try clear hb2); (try clear hk); (try clear hi); (try clear ho0); obtain ⟨Ao23, co23, eo23⟩ := Kd.R_slice HO136.out; subst eo23))
             go_loopg [57] kj9 (fun kq v57 w' => ∃ (x57_3 : Int), v57 = .int .i64 x57_3 ∧ Aside0 (check_Check.l1 kq l0 x24_1 x9_9 l0 (l0.length : Int) x24_1 t134 (t134.length : Int) x57_3 = some (r1, r2)) ∧ Aside0 (kq ≤ kj9) ∧ Aside0 (Kd.R (Kd.int .i64) 2 w' wz.heap.size (fun _ => True) (.slice Ao23 t134.length co23) t134) ∧ Aside0 (w'.heap[gb131]? = some (.cells #[.int .i64 ((rd_T59 l0 x24_1).f0), .int .i64 ((rd_T59 l0 x24_1).f1), .int .i64 ((rd_T59 l0 x24_1).f2), .int .u32 ((rd_T59 l0 x24_1).f3)] 59 (0, 0))) ∧ Aside0 (Below wz.heap.size wz w'))
             case atStart => exact ⟨(0), jS, H', ⟨Nat.le_refl _⟩, ⟨jR HO136⟩, ⟨jK BK131⟩, ⟨jH HB⟩⟩
             case round =>
              clear H'
              obtain ⟨x57_3, rfl, HA, HK3, HO_55, BK131, HB⟩ := hrel
              cases gk with
              | zero => exact absurd HA.out (by simp [check_Check.l1])
              | succ k3 =>
               have H := HA.out
               clear HA
               simp only [check_Check.l1] at H
               by_cases c24 : x57_3 < (t134.length : Int)
               ·rw [if_pos c24] at H
                have c24b0 := dT c24
                clear c24
                by_cases c25 : 0 ≤ x57_3
                ·rw [if_pos c25] at H
                 have c25b0 := dT c25
                 clear c25
                 by_cases c26 : x57_3 < (t134.length : Int)
                 ·rw [if_pos c26] at H
                  have c26b0 := dT c26
                  clear c26
                  by_cases c27 : x9_9 = true
                  ·subst c27
                   rw [if_pos rfl] at H
                   by_cases c28 : (rd t134 x57_3) ≥ (l0.length : Int)
                   ·rw [if_pos c28] at H
                    have c28b0 : decide ((l0.length : Int) ≤ (rd t134 x57_3)) = true := dT c28
                    clear c28
                    simp only [Option.some.injEq, Prod.mk.injEq] at H
                    obtain ⟨rfl, rfl⟩ := H
                    have p137 : 0 ≤ (x57_3 : Int) := oD (jA)
                    have q137 : x57_3 < (t134.length : Int) := oD (jA)
                    obtain ⟨ad137, e137, hx137_0⟩ := Kd.at_int (Kd.R_reads' HO_55.out).2.2 x57_3 p137 q137
                    cases e137
                    replace p137 := eq_true p137
                    replace q137 := eq_true q137
                    go_wp2
                    go_ret2
                    exact ⟨jE, zT HW0.out (jH HB)⟩
                   ·rw [if_neg c28] at H
                    have c28b0 : decide ((l0.length : Int) ≤ (rd t134 x57_3)) = false := dF c28
                    clear c28
                    have H' := Aside0.mk H
                    clear H
                    have p137 : 0 ≤ (x57_3 : Int) := oD (jA)
                    have q137 : x57_3 < (t134.length : Int) := oD (jA)
                    obtain ⟨ad137, e137, hx137_0⟩ := Kd.at_int (Kd.R_reads' HO_55.out).2.2 x57_3 p137 q137
                    cases e137
                    replace p137 := eq_true p137
                    replace q137 := eq_true q137
                    go_wp2
                    go_roundg k3
                    case measure => have := HK1.out; have := HJ9.out; have := HK3.out; omega
                    case rel => exact ⟨(wrap64 (x57_3 + 1)), jS, H', ⟨by have := HK1.out; have := HJ9.out; have := HK3.out; omega⟩, ⟨jR HO_55⟩, ⟨jK BK131⟩, ⟨jH HB⟩⟩
                  ·replace c27 := Bool.eq_false_iff.mpr c27
                   subst c27
                   rw [if_neg (show ¬ (false = true) by decide)] at H
                   have H' := Aside0.mk H
                   clear H
                   have p137 : 0 ≤ (x57_3 : Int) := oD (jA)
                   have q137 : x57_3 < (t134.length : Int) := oD (jA)
                   obtain ⟨ad137, e137, hx137_0⟩ := Kd.at_int (Kd.R_reads' HO_55.out).2.2 x57_3 p137 q137
                   cases e137
                   replace p137 := eq_true p137
                   replace q137 := eq_true q137
                   go_wp2
                   go_roundg k3
                   case measure => have := HK1.out; have := HJ9.out; have := HK3.out; omega
                   case rel => exact ⟨(wrap64 (x57_3 + 1)), jS, H', ⟨by have := HK1.out; have := HJ9.out; have := HK3.out; omega⟩, ⟨jR HO_55⟩, ⟨jK BK131⟩, ⟨jH HB⟩⟩
                 ·rw [if_neg c26] at H
                  exact absurd H (by simp)
                ·rw [if_neg c25] at H
                 exact absurd H (by simp)
               ·rw [if_neg c24] at H
                have c24b0 := dF c24
                clear c24
                have H' := Aside0.mk H
                clear H
                go_wp2
                go_roundg k3
                case measure => have := HK1.out; have := HJ9.out; have := HK3.out; omega
                case rel => exact ⟨(wrap64 (x24_1 + 1)), jS, H', ⟨by have := HK1.out; have := HJ9.out; have := HK3.out; omega⟩, ⟨jH HB⟩⟩
         ·rw [if_neg c9] at H
          have c9b0 : ((check_ruleE ((rd_T59 l0 x24_1).f0) ((rd_T59 l0 x24_1).f3)) == 0) = false := bF.mpr c9
          have c9b1 : ((check_ruleE ((rd_T59 l0 x24_1).f0) ((rd_T59 l0 x24_1).f3)) != 0) = true := nI.mpr c9
          simp only [Option.some.injEq, Prod.mk.injEq] at H
          obtain ⟨rfl, rfl⟩ := H
          have p130 : 0 ≤ (x24_1 : Int) := oD (jA)
          have q130 : x24_1 < (l0.length : Int) := oD (jA)
          obtain ⟨ad130, e130, hx130_0, hx130_1, hx130_2, hx130_3⟩ := at_T59 HR0.out x24_1 p130 q130
          cases e130
          replace hx130_0 := (HB.out.cell (bL wz _ hx130_0)).trans hx130_0
          replace hx130_1 := (HB.out.cell (bL wz _ hx130_1)).trans hx130_1
          replace hx130_2 := (HB.out.cell (bL wz _ hx130_2)).trans hx130_2
          replace hx130_3 := (HB.out.cell (bL wz _ hx130_3)).trans hx130_3
          replace p130 := eq_true p130
          replace q130 := eq_true q130
          go_upto_region 11 with (first | ((with_reducible refine gate_dst (N := 6) rfl ?_); (try (refine gate_guard (by rfl) ?_; dsimp only)); refine box_event rfl (N := 6) rfl (cs := #[.int .i64 0, .int .i64 0, .int .i64 0, .int .u32 0]) (t := 59) jW ?_; intro gb131 hg w29 hbox hb; have BK131 := Aside0.mk hbox; have GW131 := Aside0.mk ((by rw [hg]; exact (zZ (jH HB)) : wz.heap.size ≤ gb131)); have GE131 := Aside0.mk ((by rw [hg]; exact (zZ (jH HB)) : wz.heap.size ≤ gb131)); replace HB := Aside0.mk (zT (jH HB) hb); clear hb hbox hg; obtain ⟨hcz30_0, hcz30_1, hcz30_2, hcz30_3, hfz30_0, hfz30_1, hfz30_2, hfz30_3⟩ := kQ4 BK131.out) | ((with_reducible refine gate_callee (f := 59) rfl ?_); refine goesL_ (some 30) rfl rfl Tryd.func59 (by kernel_rfl) rfl #[.agg #[.int .i64 ((rd_T59 l0 x24_1).f0), .int .i64 ((rd_T59 l0 x24_1).f1), .int .i64 ((rd_T59 l0 x24_1).f2), .int .u32 ((rd_T59 l0 x24_1).f3)]] rfl jZ ?_; (with_reducible refine (ins_Right.calls k1 ((rd_T59 l0 x24_1).f0) ((rd_T59 l0 x24_1).f1) ((rd_T59 l0 x24_1).f2) ((rd_T59 l0 x24_1).f3) true _ ?side1 A7.out).mono ?_); (case side1 => exact Glob.below HG.out (jH HB)); rintro e w31 ⟨rfl, hb⟩; refine ⟨_, rfl, ?_⟩; replace BK131 := Aside0.mk (kB (g := gb131) (o := .cells #[.int .i64 ((rd_T59 l0 x24_1).f0), .int .i64 ((rd_T59 l0 x24_1).f1), .int .i64 ((rd_T59 l0 x24_1).f2), .int .u32 ((rd_T59 l0 x24_1).f3)] 59 (0, 0)) (by (with_reducible repeat (first | refine kN ?_ _ | refine kD ?_ | refine kA ?_ _)); refine kP (cs := #[.int .i64 ((rd_T59 l0 x24_1).f0), .int .i64 ((rd_T59 l0 x24_1).f1), .int .i64 ((rd_T59 l0 x24_1).f2), .int .u32 0]) ?_ 3 _ rfl; (with_reducible repeat (first | refine kN ?_ _ | refine kD ?_ | refine kA ?_ _)); refine kP (cs := #[.int .i64 ((rd_T59 l0 x24_1).f0), .int .i64 ((rd_T59 l0 x24_1).f1), .int .i64 0, .int .u32 0]) ?_ 2 _ rfl; (with_reducible repeat (first | refine kN ?_ _ | refine kD ?_ | refine kA ?_ _)); refine kP (cs := #[.int .i64 ((rd_T59 l0 x24_1).f0), .int .i64 0, .int .i64 0, .int .u32 0]) ?_ 1 _ rfl; (with_reducible repeat (first | refine kN ?_ _ | refine kD ?_ | refine kA ?_ _)); refine kP (cs := #[.int .i64 0, .int .i64 0, .int .i64 0, .int .u32 0]) ?_ 0 _ rfl; (with_reducible repeat (first | refine kN ?_ _ | refine kD ?_ | refine kA ?_ _)); exact BK131.out) hb); replace HB := Aside0.mk (zT (jH HB) hb); (try clear hb); (try clear hb2); (try clear hk); (try clear hi); obtain ⟨hcz32_0, hcz32_1, hcz32_2, hcz32_3, hfz32_0, hfz32_1, hfz32_2, hfz32_3⟩ := kQ4 BK131.out))
          (try simp only [Act.put, List.setIfInBounds_toArray, List.set_cons_zero, List.set_cons_succ])
          obtain ⟨V, B, hlk, heg, hne, hcase⟩ := rule_ways ((rd_T59 l0 x24_1).f0) (RulesAt.below HRL.out (show Below wz.heap.size wz w31 from HB.out))
          have hcase := Aside0.mk hcase
          have hcq_0 : w31.cell? ⟨gb131, 0, none⟩ = some (.int .i64 ((rd_T59 l0 x24_1).f0)) := (kC BK131.out 0).trans rfl
          have hcq_1 : w31.cell? ⟨gb131, 1, none⟩ = some (.int .i64 ((rd_T59 l0 x24_1).f1)) := (kC BK131.out 1).trans rfl
          have hcq_2 : w31.cell? ⟨gb131, 2, none⟩ = some (.int .i64 ((rd_T59 l0 x24_1).f2)) := (kC BK131.out 2).trans rfl
          have hcq_3 : w31.cell? ⟨gb131, 3, none⟩ = some (.int .u32 ((rd_T59 l0 x24_1).f3)) := (kC BK131.out 3).trans rfl
          have hfq_0 := kF BK131.out 0
          have hfq_1 := kF BK131.out 1
          have hfq_2 := kF BK131.out 2
          have hfq_3 := kF BK131.out 3
          go_upto_if 38 with (fail)
          rcases hcase.out with ⟨hrn, rfl, rfl⟩ | ⟨n, hrn, rfl, rfl⟩
          ·skip
           exact absurd (ruleE_none hrn) c9
          ·rcases ruleN_cases ((rd_T59 l0 x24_1).f0) with hq | hq | hq | hq | hq
           ·rw [hq] at hrn; cases hrn
           ·obtain rfl : n = 70 := (Option.some.inj (hq.symm.trans hrn)).symm
            clear hq
            go_wp2_with (first | (go_at_call 70; (with_reducible refine (check_ruleAt.calls 70 ((rd_T59 l0 x24_1).f0) ((rd_T59 l0 x24_1).f1) ((rd_T59 l0 x24_1).f2) ((rd_T59 l0 x24_1).f3) mR bR _ hrn ?side1).mono ?_); (case side1 => exact RulesAt.below HRL.out (jH HB)); rintro e wq ⟨rfl, hb⟩; replace BK131 := Aside0.mk (jB BK131 hb); replace HB := Aside0.mk (zT (jH HB) hb); (try clear hb)))
            go_ret2
            exact ⟨jE, zT HW0.out (jH HB)⟩
           ·obtain rfl : n = 71 := (Option.some.inj (hq.symm.trans hrn)).symm
            clear hq
            go_wp2_with (first | (go_at_call 71; (with_reducible refine (check_ruleAt.calls 71 ((rd_T59 l0 x24_1).f0) ((rd_T59 l0 x24_1).f1) ((rd_T59 l0 x24_1).f2) ((rd_T59 l0 x24_1).f3) mR bR _ hrn ?side1).mono ?_); (case side1 => exact RulesAt.below HRL.out (jH HB)); rintro e wq ⟨rfl, hb⟩; replace BK131 := Aside0.mk (jB BK131 hb); replace HB := Aside0.mk (zT (jH HB) hb); (try clear hb)))
            go_ret2
            exact ⟨jE, zT HW0.out (jH HB)⟩
           ·obtain rfl : n = 72 := (Option.some.inj (hq.symm.trans hrn)).symm
            clear hq
            go_wp2_with (first | (go_at_call 72; (with_reducible refine (check_ruleAt.calls 72 ((rd_T59 l0 x24_1).f0) ((rd_T59 l0 x24_1).f1) ((rd_T59 l0 x24_1).f2) ((rd_T59 l0 x24_1).f3) mR bR _ hrn ?side1).mono ?_); (case side1 => exact RulesAt.below HRL.out (jH HB)); rintro e wq ⟨rfl, hb⟩; replace BK131 := Aside0.mk (jB BK131 hb); replace HB := Aside0.mk (zT (jH HB) hb); (try clear hb)))
            go_ret2
            exact ⟨jE, zT HW0.out (jH HB)⟩
           ·obtain rfl : n = 73 := (Option.some.inj (hq.symm.trans hrn)).symm
            clear hq
            go_wp2_with (first | (go_at_call 73; (with_reducible refine (check_ruleAt.calls 73 ((rd_T59 l0 x24_1).f0) ((rd_T59 l0 x24_1).f1) ((rd_T59 l0 x24_1).f2) ((rd_T59 l0 x24_1).f3) mR bR _ hrn ?side1).mono ?_); (case side1 => exact RulesAt.below HRL.out (jH HB)); rintro e wq ⟨rfl, hb⟩; replace BK131 := Aside0.mk (jB BK131 hb); replace HB := Aside0.mk (zT (jH HB) hb); (try clear hb)))
            go_ret2
            exact ⟨jE, zT HW0.out (jH HB)⟩
        ·replace c8 := Bool.eq_false_iff.mpr c8
         subst c8
         rw [if_neg (show ¬ (false = true) by decide)] at H
         simp only [Option.some.injEq, Prod.mk.injEq] at H
         obtain ⟨rfl, rfl⟩ := H
         have p130 : 0 ≤ (x24_1 : Int) := oD (jA)
         have q130 : x24_1 < (l0.length : Int) := oD (jA)
         obtain ⟨ad130, e130, hx130_0, hx130_1, hx130_2, hx130_3⟩ := at_T59 HR0.out x24_1 p130 q130
         cases e130
         replace hx130_0 := (HB.out.cell (bL wz _ hx130_0)).trans hx130_0
         replace hx130_1 := (HB.out.cell (bL wz _ hx130_1)).trans hx130_1
         replace hx130_2 := (HB.out.cell (bL wz _ hx130_2)).trans hx130_2
         replace hx130_3 := (HB.out.cell (bL wz _ hx130_3)).trans hx130_3
         replace p130 := eq_true p130
         replace q130 := eq_true q130
         go_wp2_with (first | ((with_reducible refine gate_dst (N := 6) rfl ?_); (try (refine gate_guard (by rfl) ?_; dsimp only)); refine box_event rfl (N := 6) rfl (cs := #[.int .i64 0, .int .i64 0, .int .i64 0, .int .u32 0]) (t := 59) jW ?_; intro gb131 hg w33 hbox hb; have BK131 := Aside0.mk hbox; have GW131 := Aside0.mk ((by rw [hg]; exact (zZ (jH HB)) : wz.heap.size ≤ gb131)); have GE131 := Aside0.mk ((by rw [hg]; exact (zZ (jH HB)) : wz.heap.size ≤ gb131)); replace HB := Aside0.mk (zT (jH HB) hb); clear hb hbox hg; obtain ⟨hcz34_0, hcz34_1, hcz34_2, hcz34_3, hfz34_0, hfz34_1, hfz34_2, hfz34_3⟩ := kQ4 BK131.out) | ((with_reducible refine gate_callee (f := 59) rfl ?_); refine goesL_ (some 30) rfl rfl Tryd.func59 (by kernel_rfl) rfl #[.agg #[.int .i64 ((rd_T59 l0 x24_1).f0), .int .i64 ((rd_T59 l0 x24_1).f1), .int .i64 ((rd_T59 l0 x24_1).f2), .int .u32 ((rd_T59 l0 x24_1).f3)]] rfl jZ ?_; (with_reducible refine (ins_Right.calls k1 ((rd_T59 l0 x24_1).f0) ((rd_T59 l0 x24_1).f1) ((rd_T59 l0 x24_1).f2) ((rd_T59 l0 x24_1).f3) false _ ?side1 A7.out).mono ?_); (case side1 => exact Glob.below HG.out (jH HB)); rintro e w35 ⟨rfl, hb⟩; refine ⟨_, rfl, ?_⟩; replace BK131 := Aside0.mk (kB (g := gb131) (o := .cells #[.int .i64 ((rd_T59 l0 x24_1).f0), .int .i64 ((rd_T59 l0 x24_1).f1), .int .i64 ((rd_T59 l0 x24_1).f2), .int .u32 ((rd_T59 l0 x24_1).f3)] 59 (0, 0)) (by (with_reducible repeat (first | refine kN ?_ _ | refine kD ?_ | refine kA ?_ _)); refine kP (cs := #[.int .i64 ((rd_T59 l0 x24_1).f0), .int .i64 ((rd_T59 l0 x24_1).f1), .int .i64 ((rd_T59 l0 x24_1).f2), .int .u32 0]) ?_ 3 _ rfl; (with_reducible repeat (first | refine kN ?_ _ | refine kD ?_ | refine kA ?_ _)); refine kP (cs := #[.int .i64 ((rd_T59 l0 x24_1).f0), .int .i64 ((rd_T59 l0 x24_1).f1), .int .i64 0, .int .u32 0]) ?_ 2 _ rfl; (with_reducible repeat (first | refine kN ?_ _ | refine kD ?_ | refine kA ?_ _)); refine kP (cs := #[.int .i64 ((rd_T59 l0 x24_1).f0), .int .i64 0, .int .i64 0, .int .u32 0]) ?_ 1 _ rfl; (with_reducible repeat (first | refine kN ?_ _ | refine kD ?_ | refine kA ?_ _)); refine kP (cs := #[.int .i64 0, .int .i64 0, .int .i64 0, .int .u32 0]) ?_ 0 _ rfl; (with_reducible repeat (first | refine kN ?_ _ | refine kD ?_ | refine kA ?_ _)); exact BK131.out) hb); replace HB := Aside0.mk (zT (jH HB) hb); (try clear hb); (try clear hb2); (try clear hk); (try clear hi)))
         go_ret2
         exact ⟨jE, zT HW0.out (jH HB)⟩
       ·rw [if_neg c6] at H
        exact absurd H (by simp)
      ·rw [if_neg c5] at H
       exact absurd H (by simp)
     ·rw [if_neg c4] at H
      have c4b0 := dF c4
      clear c4
      obtain ⟨ji36, hji36⟩ : ∃ j_ : Int, (wrap64 ((l0.length : Int) - 1)) = j_ := ⟨_, rfl⟩
      first | rw [hji36] at H | simp only [hji36] at H
      have hji36w : (IntKind.i64.wrap ((l0.length : Int) - 1)) = ji36 := (i64_w _).trans hji36
      by_cases c37 : 0 ≤ (ji36)
      ·rw [if_pos c37] at H
       have c37b0 := dT c37
       clear c37
       by_cases c38 : (ji36) < (l0.length : Int)
       ·rw [if_pos c38] at H
        have c38b0 := dT c38
        clear c38
        replace H := Option.bind_eq_some_iff.mp H
        obtain ⟨t129, A390, H⟩ := H
        try dsimp only at H
        have A39 := Aside0.mk A390
        clear A390
        by_cases c40 : t129 = true
        ·subst c40
         rw [if_pos rfl] at H
         simp only [Option.some.injEq, Prod.mk.injEq] at H
         obtain ⟨rfl, rfl⟩ := H
         have p128 : 0 ≤ ((ji36) : Int) := oD (jA)
         have q128 : (ji36) < (l0.length : Int) := oD (jA)
         obtain ⟨ad128, e128, hx128_0, hx128_1, hx128_2, hx128_3⟩ := at_T59 HR0.out (ji36) p128 q128
         cases e128
         replace hx128_0 := (HB.out.cell (bL wz _ hx128_0)).trans hx128_0
         replace hx128_1 := (HB.out.cell (bL wz _ hx128_1)).trans hx128_1
         replace hx128_2 := (HB.out.cell (bL wz _ hx128_2)).trans hx128_2
         replace hx128_3 := (HB.out.cell (bL wz _ hx128_3)).trans hx128_3
         replace p128 := eq_true p128
         replace q128 := eq_true q128
         go_wp2_with (first | ((with_reducible refine gate_callee (f := 54) rfl ?_); refine goesL_ (some 78) rfl rfl Tryd.func54 (by kernel_rfl) rfl #[.agg #[.int .i64 ((rd_T59 l0 (ji36)).f0), .int .i64 ((rd_T59 l0 (ji36)).f1), .int .i64 ((rd_T59 l0 (ji36)).f2), .int .u32 ((rd_T59 l0 (ji36)).f3)]] rfl (by (try simp only [List.map_toArray, List.map_cons, List.map_nil]); first | done | (simp only [hji36]; rfl) | rfl | (simp only [List.length_drop, List.length_take]; rfl)) ?_; (with_reducible refine (ins_Ends.calls ((rd_T59 l0 (ji36)).f0) ((rd_T59 l0 (ji36)).f1) ((rd_T59 l0 (ji36)).f2) ((rd_T59 l0 (ji36)).f3) true _ A39.out).mono ?_); rintro e w41 ⟨rfl, hb⟩; refine ⟨_, rfl, ?_⟩; replace HB := Aside0.mk (zT (jH HB) hb); (try clear hb); (try clear hb2); (try clear hk); (try clear hi)))
         go_ret2
         exact ⟨by first | rfl | (simp [errW_none, errW_some] <;> rfl) | (simp only [← hji36]; first | rfl | (simp [errW_none, errW_some] <;> rfl)) | (simp [*, errW_none, errW_some] <;> rfl), zT HW0.out (jH HB)⟩
        ·replace c40 := Bool.eq_false_iff.mpr c40
         subst c40
         rw [if_neg (show ¬ (false = true) by decide)] at H
         simp only [Option.some.injEq, Prod.mk.injEq] at H
         obtain ⟨rfl, rfl⟩ := H
         have p128 : 0 ≤ ((ji36) : Int) := oD (jA)
         have q128 : (ji36) < (l0.length : Int) := oD (jA)
         obtain ⟨ad128, e128, hx128_0, hx128_1, hx128_2, hx128_3⟩ := at_T59 HR0.out (ji36) p128 q128
         cases e128
         replace hx128_0 := (HB.out.cell (bL wz _ hx128_0)).trans hx128_0
         replace hx128_1 := (HB.out.cell (bL wz _ hx128_1)).trans hx128_1
         replace hx128_2 := (HB.out.cell (bL wz _ hx128_2)).trans hx128_2
         replace hx128_3 := (HB.out.cell (bL wz _ hx128_3)).trans hx128_3
         replace p128 := eq_true p128
         replace q128 := eq_true q128
         go_wp2_with (first | ((with_reducible refine gate_callee (f := 54) rfl ?_); refine goesL_ (some 78) rfl rfl Tryd.func54 (by kernel_rfl) rfl #[.agg #[.int .i64 ((rd_T59 l0 (ji36)).f0), .int .i64 ((rd_T59 l0 (ji36)).f1), .int .i64 ((rd_T59 l0 (ji36)).f2), .int .u32 ((rd_T59 l0 (ji36)).f3)]] rfl (by (try simp only [List.map_toArray, List.map_cons, List.map_nil]); first | done | (simp only [hji36]; rfl) | rfl | (simp only [List.length_drop, List.length_take]; rfl)) ?_; (with_reducible refine (ins_Ends.calls ((rd_T59 l0 (ji36)).f0) ((rd_T59 l0 (ji36)).f1) ((rd_T59 l0 (ji36)).f2) ((rd_T59 l0 (ji36)).f3) false _ A39.out).mono ?_); rintro e w42 ⟨rfl, hb⟩; refine ⟨_, rfl, ?_⟩; replace HB := Aside0.mk (zT (jH HB) hb); (try clear hb); (try clear hb2); (try clear hk); (try clear hi)))
         go_ret2
         exact ⟨by first | rfl | (simp [errW_none, errW_some] <;> rfl) | (simp only [← hji36]; first | rfl | (simp [errW_none, errW_some] <;> rfl)) | (simp [*, errW_none, errW_some] <;> rfl), zT HW0.out (jH HB)⟩
       ·rw [if_neg c38] at H
        exact absurd H (by simp)
      ·rw [if_neg c37] at H
       exact absurd H (by simp)
def check_Sound.f (k : Nat) (l0 : List (S59)) : Option (Bool) := (check_Check.f k l0).bind fun bt163 => (some (bt163.2 == 0))
set_option maxHeartbeats 8000000 in
set_option maxRecDepth 100000 in
theorem check_Sound.calls (k : Nat) (A0 : Option Addr) (c0 : Nat) (l0 : List (S59)) (r : Bool) (w : World) (hr0 : Kd.C k59 w A0 l0.length l0) (hc0 : l0.length ≤ c0) (hG : Glob w) (h : check_Sound.f k l0 = some r) :
  Calls Tryd.prog 55 #[.slice A0 l0.length c0] w fun e w' => e = .returned (.bool r) ∧ Below w.heap.size w w' := by
 have HG := Aside0.mk hG
 clear hG
 have HR0 := Aside0.mk hr0
 have HC0 := Aside0.mk hc0
 clear hr0 hc0
 have HB := Aside0.mk (Below.refl w.heap.size w)
 have H : ((check_Check.f k l0).bind fun bt163 => (some (bt163.2 == 0))) = some r := h
 clear h
 replace H := Option.bind_eq_some_iff.mp H
 obtain ⟨⟨t163, t164⟩, A20, H⟩ := H
 try dsimp only at H
 have A2 := Aside0.mk A20
 clear A20
 obtain rfl := Option.some.inj H
 go_enter Tryd.func55, Tryd.ntmps55
 go_wp2_with (first | ((with_reducible refine gate_callee (f := 64) rfl ?_); refine goesL_ (some 7) rfl rfl Tryd.func64 (by kernel_rfl) rfl #[.slice A0 l0.length c0] rfl jZ ?_; (with_reducible refine (check_Check.calls k _ _ l0 t163 t164 _ ?side1 ?side2 ?side3 A2.out).mono ?_); (case side1 => repeat (first | exact HR0.out | (with_reducible refine Kd.C_alloc ?_ _) | (with_reducible refine Kd.C_drewN ?_ _) | (with_reducible refine Kd.C_drew ?_))); (case side2 => exact HC0.out); (case side3 => exact Glob.below HG.out (jH HB)); rintro e w3 ⟨rfl, hb⟩; refine ⟨_, rfl, ?_⟩; replace HB := Aside0.mk (zT (jH HB) hb); (try clear hb); (try clear hb2); (try clear hk); (try clear hi)))
 go_ret
 exact ⟨jE, jH HB⟩
def window_Right.l0 : Nat → List (S59) → List (S59) → Int → Int → Option (Bool)
 | 0, _, _, _, _ => none
 | k + 1, x0, x8, x9, x10 => if x10 < x9 then (if 0 ≤ x10 then (if x10 < (x8.length : Int) then (if ((rd_T59 x8 x10).f0) = 5 then (some false) else ((ins_Branch.f ((rd_T59 x8 x10).f0) ((rd_T59 x8 x10).f1) ((rd_T59 x8 x10).f2) ((rd_T59 x8 x10).f3)).bind fun t177 => (if t177 = true then (some false) else ((ins_Ends.f ((rd_T59 x8 x10).f0) ((rd_T59 x8 x10).f1) ((rd_T59 x8 x10).f2) ((rd_T59 x8 x10).f3)).bind fun t178 => (if t178 = true then (some false) else (window_Right.l0 k x0 x8 x9 (wrap64 (x10 + 1)))))))) else (none)) else (none)) else ((some (([] : List (S59)) : List (S59))).bind fun y165 => (if y165.length + x0.length < 4398046511104 then ((some (y165 ++ x0 : List (S59))).bind fun y168 => (if y168.length < 4398046511104 then ((check_Sound.f k (y168 ++ [(⟨22, 0, 0, 0⟩ : S59)])).bind fun t174 => (some t174)) else (none))) else (none)))
def window_Right.f (k : Nat) (l0 : List (S59)) : Option (Bool) := if (l0.length : Int) > 32 then (some false) else (window_Right.l0 k l0 l0 (l0.length : Int) 0)
set_option maxHeartbeats 8000000 in
set_option maxRecDepth 100000 in
theorem window_Right.calls (k : Nat) (A0 : Option Addr) (c0 : Nat) (l0 : List (S59)) (r : Bool) (w : World) (hr0 : Kd.C k59 w A0 l0.length l0) (hc0 : l0.length ≤ c0) (hG : Glob w) (h : window_Right.f k l0 = some r) :
  Calls Tryd.prog 44 #[.slice A0 l0.length c0] w fun e w' => e = .returned (.bool r) ∧ Below w.heap.size w w' := by
 have hu59 := Tryd.underlying59
 have HG := Aside0.mk hG
 clear hG
 have HR0 := Aside0.mk hr0
 have HC0 := Aside0.mk hc0
 clear hr0 hc0
 have HB := Aside0.mk (Below.refl w.heap.size w)
 have H : (if (l0.length : Int) > 32 then (some false) else (window_Right.l0 k l0 l0 (l0.length : Int) 0)) = some r := h
 clear h
 by_cases c2 : (l0.length : Int) > 32
 ·rw [if_pos c2] at H
  have c2b0 : decide (32 < (l0.length : Int)) = true := dT c2
  have c2b1 : decide (32 < l0.length) = true := dT (by omega)
  clear c2
  obtain rfl := Option.some.inj H
  go_enter Tryd.func44, Tryd.ntmps44
  go_wp2
  go_ret
  exact ⟨jE, jH HB⟩
 ·rw [if_neg c2] at H
  have c2b0 : decide (32 < (l0.length : Int)) = false := dF c2
  have c2b1 : decide (32 < l0.length) = false := dF (by omega)
  clear c2
  have H' := Aside0.mk H
  clear H
  go_enter Tryd.func44, Tryd.ntmps44
  go_wp2
  go_loopg [10] k (fun kq v10 w' => ∃ (x10_1 : Int), v10 = .int .i64 x10_1 ∧ Aside0 (window_Right.l0 kq l0 l0 (l0.length : Int) x10_1 = some r) ∧ Aside0 (kq ≤ k) ∧ Aside0 (Below w.heap.size w w'))
  case atStart => exact ⟨(0), jS, H', ⟨Nat.le_refl _⟩, ⟨jH HB⟩⟩
  case round =>
   clear H'
   obtain ⟨x10_1, rfl, HA, HK1, HB⟩ := hrel
   cases gk with
   | zero => exact absurd HA.out (by simp [window_Right.l0])
   | succ k1 =>
    have H := HA.out
    clear HA
    simp only [window_Right.l0] at H
    by_cases c3 : x10_1 < (l0.length : Int)
    ·rw [if_pos c3] at H
     have c3b0 := dT c3
     clear c3
     by_cases c4 : 0 ≤ x10_1
     ·rw [if_pos c4] at H
      have c4b0 := dT c4
      clear c4
      by_cases c5 : x10_1 < (l0.length : Int)
      ·rw [if_pos c5] at H
       have c5b0 := dT c5
       clear c5
       by_cases c6 : ((rd_T59 l0 x10_1).f0) = 5
       ·rw [if_pos c6] at H
        have c6b0 : (((rd_T59 l0 x10_1).f0) == 5) = true := bI.mpr c6
        have c6b1 : (((rd_T59 l0 x10_1).f0) != 5) = false := nF.mpr c6
        clear c6
        obtain rfl := Option.some.inj H
        have p175 : 0 ≤ (x10_1 : Int) := oD (jA)
        have q175 : x10_1 < (l0.length : Int) := oD (jA)
        obtain ⟨ad175, e175, hx175_0, hx175_1, hx175_2, hx175_3⟩ := at_T59 HR0.out x10_1 p175 q175
        cases e175
        replace hx175_0 := (HB.out.cell (bL w _ hx175_0)).trans hx175_0
        replace hx175_1 := (HB.out.cell (bL w _ hx175_1)).trans hx175_1
        replace hx175_2 := (HB.out.cell (bL w _ hx175_2)).trans hx175_2
        replace hx175_3 := (HB.out.cell (bL w _ hx175_3)).trans hx175_3
        replace p175 := eq_true p175
        replace q175 := eq_true q175
        go_wp2_with (first | ((with_reducible refine gate_dst (N := 4) rfl ?_); refine box_event ?hg (N := 4) ?hd (cs := #[.int .i64 0, .int .i64 0, .int .i64 0, .int .u32 0]) (t := 59) ?hr ?_; (case hd => rfl); (case hg => rfl); (case hr => first | (go_simp; done) | (go_simp; rfl)); intro gb176 hg w7 hbox hb; have BK176 := Aside0.mk (hbox); have GW176 := Aside0.mk ((by rw [hg]; exact (zZ (jH HB)) : w.heap.size ≤ gb176)); have GE176 := Aside0.mk ((by rw [hg]; exact (zZ (jH HB)) : w.heap.size ≤ gb176)); replace HB := Aside0.mk (zT (jH HB) hb); clear hb hbox hg; obtain ⟨hcz8_0, hcz8_1, hcz8_2, hcz8_3, hfz8_0, hfz8_1, hfz8_2, hfz8_3⟩ := kQ4 BK176.out))
        go_ret
        exact ⟨jE, jH HB⟩
       ·rw [if_neg c6] at H
        have c6b0 : (((rd_T59 l0 x10_1).f0) == 5) = false := bF.mpr c6
        have c6b1 : (((rd_T59 l0 x10_1).f0) != 5) = true := nI.mpr c6
        replace H := Option.bind_eq_some_iff.mp H
        obtain ⟨t177, A90, H⟩ := H
        replace H : (if t177 = true then (some false) else ((ins_Ends.f ((rd_T59 l0 x10_1).f0) ((rd_T59 l0 x10_1).f1) ((rd_T59 l0 x10_1).f2) ((rd_T59 l0 x10_1).f3)).bind fun t178 => (if t178 = true then (some false) else (window_Right.l0 k1 l0 l0 (l0.length : Int) (wrap64 (x10_1 + 1)))))) = some r := H
        have A9 := Aside0.mk A90
        clear A90
        by_cases c10 : t177 = true
        ·subst c10
         rw [if_pos rfl] at H
         obtain rfl := Option.some.inj H
         have p175 : 0 ≤ (x10_1 : Int) := oD (jA)
         have q175 : x10_1 < (l0.length : Int) := oD (jA)
         obtain ⟨ad175, e175, hx175_0, hx175_1, hx175_2, hx175_3⟩ := at_T59 HR0.out x10_1 p175 q175
         cases e175
         replace hx175_0 := (HB.out.cell (bL w _ hx175_0)).trans hx175_0
         replace hx175_1 := (HB.out.cell (bL w _ hx175_1)).trans hx175_1
         replace hx175_2 := (HB.out.cell (bL w _ hx175_2)).trans hx175_2
         replace hx175_3 := (HB.out.cell (bL w _ hx175_3)).trans hx175_3
         replace p175 := eq_true p175
         replace q175 := eq_true q175
         go_wp2_with (first | ((with_reducible refine gate_dst (N := 4) rfl ?_); refine box_event ?hg (N := 4) ?hd (cs := #[.int .i64 0, .int .i64 0, .int .i64 0, .int .u32 0]) (t := 59) ?hr ?_; (case hd => rfl); (case hg => rfl); (case hr => first | (go_simp; done) | (go_simp; rfl)); intro gb176 hg w11 hbox hb; have BK176 := Aside0.mk (hbox); have GW176 := Aside0.mk ((by rw [hg]; exact (zZ (jH HB)) : w.heap.size ≤ gb176)); have GE176 := Aside0.mk ((by rw [hg]; exact (zZ (jH HB)) : w.heap.size ≤ gb176)); replace HB := Aside0.mk (zT (jH HB) hb); clear hb hbox hg; obtain ⟨hcz12_0, hcz12_1, hcz12_2, hcz12_3, hfz12_0, hfz12_1, hfz12_2, hfz12_3⟩ := kQ4 BK176.out) | (go_at_call 53; (with_reducible refine (ins_Branch.calls ((rd_T59 l0 x10_1).f0) ((rd_T59 l0 x10_1).f1) ((rd_T59 l0 x10_1).f2) ((rd_T59 l0 x10_1).f3) true _ ?side1 A9.out).mono ?_); (case side1 => exact Glob.below HG.out (jH HB)); rintro e w13 ⟨rfl, hb⟩; replace BK176 := Aside0.mk (kB (g := gb176) (o := .cells #[.int .i64 ((rd_T59 l0 x10_1).f0), .int .i64 ((rd_T59 l0 x10_1).f1), .int .i64 ((rd_T59 l0 x10_1).f2), .int .u32 ((rd_T59 l0 x10_1).f3)] 59 (0, 0)) (by (with_reducible repeat (first | refine kN ?_ _ | refine kD ?_ | refine kA ?_ _)); refine kP (cs := #[.int .i64 ((rd_T59 l0 x10_1).f0), .int .i64 ((rd_T59 l0 x10_1).f1), .int .i64 ((rd_T59 l0 x10_1).f2), .int .u32 0]) ?_ 3 _ rfl; (with_reducible repeat (first | refine kN ?_ _ | refine kD ?_ | refine kA ?_ _)); refine kP (cs := #[.int .i64 ((rd_T59 l0 x10_1).f0), .int .i64 ((rd_T59 l0 x10_1).f1), .int .i64 0, .int .u32 0]) ?_ 2 _ rfl; (with_reducible repeat (first | refine kN ?_ _ | refine kD ?_ | refine kA ?_ _)); refine kP (cs := #[.int .i64 ((rd_T59 l0 x10_1).f0), .int .i64 0, .int .i64 0, .int .u32 0]) ?_ 1 _ rfl; (with_reducible repeat (first | refine kN ?_ _ | refine kD ?_ | refine kA ?_ _)); refine kP (cs := #[.int .i64 0, .int .i64 0, .int .i64 0, .int .u32 0]) ?_ 0 _ rfl; (with_reducible repeat (first | refine kN ?_ _ | refine kD ?_ | refine kA ?_ _)); exact BK176.out) hb); replace HB := Aside0.mk (zT (jH HB) hb); (try clear hb); (try clear hb2); (try clear hk); (try clear hi)))
         go_ret
         exact ⟨jE, jH HB⟩
        ·replace c10 := Bool.eq_false_iff.mpr c10
         subst c10
         rw [if_neg (show ¬ (false = true) by decide)] at H
         replace H := Option.bind_eq_some_iff.mp H
         obtain ⟨t178, A140, H⟩ := H
         replace H : (if t178 = true then (some false) else (window_Right.l0 k1 l0 l0 (l0.length : Int) (wrap64 (x10_1 + 1)))) = some r := H
         have A14 := Aside0.mk A140
         clear A140
         by_cases c15 : t178 = true
         ·subst c15
          rw [if_pos rfl] at H
          obtain rfl := Option.some.inj H
          have p175 : 0 ≤ (x10_1 : Int) := oD (jA)
          have q175 : x10_1 < (l0.length : Int) := oD (jA)
          obtain ⟨ad175, e175, hx175_0, hx175_1, hx175_2, hx175_3⟩ := at_T59 HR0.out x10_1 p175 q175
          cases e175
          replace hx175_0 := (HB.out.cell (bL w _ hx175_0)).trans hx175_0
          replace hx175_1 := (HB.out.cell (bL w _ hx175_1)).trans hx175_1
          replace hx175_2 := (HB.out.cell (bL w _ hx175_2)).trans hx175_2
          replace hx175_3 := (HB.out.cell (bL w _ hx175_3)).trans hx175_3
          replace p175 := eq_true p175
          replace q175 := eq_true q175
          go_wp2_with (first | ((with_reducible refine gate_dst (N := 4) rfl ?_); refine box_event ?hg (N := 4) ?hd (cs := #[.int .i64 0, .int .i64 0, .int .i64 0, .int .u32 0]) (t := 59) ?hr ?_; (case hd => rfl); (case hg => rfl); (case hr => first | (go_simp; done) | (go_simp; rfl)); intro gb176 hg w16 hbox hb; have BK176 := Aside0.mk (hbox); have GW176 := Aside0.mk ((by rw [hg]; exact (zZ (jH HB)) : w.heap.size ≤ gb176)); have GE176 := Aside0.mk ((by rw [hg]; exact (zZ (jH HB)) : w.heap.size ≤ gb176)); replace HB := Aside0.mk (zT (jH HB) hb); clear hb hbox hg; obtain ⟨hcz17_0, hcz17_1, hcz17_2, hcz17_3, hfz17_0, hfz17_1, hfz17_2, hfz17_3⟩ := kQ4 BK176.out) | (go_at_call 53; (with_reducible refine (ins_Branch.calls ((rd_T59 l0 x10_1).f0) ((rd_T59 l0 x10_1).f1) ((rd_T59 l0 x10_1).f2) ((rd_T59 l0 x10_1).f3) false _ ?side1 A9.out).mono ?_); (case side1 => exact Glob.below HG.out (jH HB)); rintro e w18 ⟨rfl, hb⟩; replace BK176 := Aside0.mk (kB (g := gb176) (o := .cells #[.int .i64 ((rd_T59 l0 x10_1).f0), .int .i64 ((rd_T59 l0 x10_1).f1), .int .i64 ((rd_T59 l0 x10_1).f2), .int .u32 ((rd_T59 l0 x10_1).f3)] 59 (0, 0)) (by (with_reducible repeat (first | refine kN ?_ _ | refine kD ?_ | refine kA ?_ _)); refine kP (cs := #[.int .i64 ((rd_T59 l0 x10_1).f0), .int .i64 ((rd_T59 l0 x10_1).f1), .int .i64 ((rd_T59 l0 x10_1).f2), .int .u32 0]) ?_ 3 _ rfl; (with_reducible repeat (first | refine kN ?_ _ | refine kD ?_ | refine kA ?_ _)); refine kP (cs := #[.int .i64 ((rd_T59 l0 x10_1).f0), .int .i64 ((rd_T59 l0 x10_1).f1), .int .i64 0, .int .u32 0]) ?_ 2 _ rfl; (with_reducible repeat (first | refine kN ?_ _ | refine kD ?_ | refine kA ?_ _)); refine kP (cs := #[.int .i64 ((rd_T59 l0 x10_1).f0), .int .i64 0, .int .i64 0, .int .u32 0]) ?_ 1 _ rfl; (with_reducible repeat (first | refine kN ?_ _ | refine kD ?_ | refine kA ?_ _)); refine kP (cs := #[.int .i64 0, .int .i64 0, .int .i64 0, .int .u32 0]) ?_ 0 _ rfl; (with_reducible repeat (first | refine kN ?_ _ | refine kD ?_ | refine kA ?_ _)); exact BK176.out) hb); replace HB := Aside0.mk (zT (jH HB) hb); (try clear hb); (try clear hb2); (try clear hk); (try clear hi); obtain ⟨hcz19_0, hcz19_1, hcz19_2, hcz19_3, hfz19_0, hfz19_1, hfz19_2, hfz19_3⟩ := kQ4 BK176.out) | (go_at_call 54; (with_reducible refine (ins_Ends.calls ((rd_T59 l0 x10_1).f0) ((rd_T59 l0 x10_1).f1) ((rd_T59 l0 x10_1).f2) ((rd_T59 l0 x10_1).f3) true _ A14.out).mono ?_); rintro e w20 ⟨rfl, hb⟩; replace BK176 := Aside0.mk (jB BK176 hb); replace HB := Aside0.mk (zT (jH HB) hb); (try clear hb); (try clear hb2); (try clear hk); (try clear hi)))
          go_ret
          exact ⟨jE, jH HB⟩
         ·replace c15 := Bool.eq_false_iff.mpr c15
          subst c15
          rw [if_neg (show ¬ (false = true) by decide)] at H
          have H' := Aside0.mk H
          clear H
          have p175 : 0 ≤ (x10_1 : Int) := oD (jA)
          have q175 : x10_1 < (l0.length : Int) := oD (jA)
          obtain ⟨ad175, e175, hx175_0, hx175_1, hx175_2, hx175_3⟩ := at_T59 HR0.out x10_1 p175 q175
          cases e175
          replace hx175_0 := (HB.out.cell (bL w _ hx175_0)).trans hx175_0
          replace hx175_1 := (HB.out.cell (bL w _ hx175_1)).trans hx175_1
          replace hx175_2 := (HB.out.cell (bL w _ hx175_2)).trans hx175_2
          replace hx175_3 := (HB.out.cell (bL w _ hx175_3)).trans hx175_3
          replace p175 := eq_true p175
          replace q175 := eq_true q175
          go_wp2_with (first | ((with_reducible refine gate_dst (N := 4) rfl ?_); refine box_event ?hg (N := 4) ?hd (cs := #[.int .i64 0, .int .i64 0, .int .i64 0, .int .u32 0]) (t := 59) ?hr ?_; (case hd => rfl); (case hg => rfl); (case hr => first | (go_simp; done) | (go_simp; rfl)); intro gb176 hg w21 hbox hb; have BK176 := Aside0.mk (hbox); have GW176 := Aside0.mk ((by rw [hg]; exact (zZ (jH HB)) : w.heap.size ≤ gb176)); have GE176 := Aside0.mk ((by rw [hg]; exact (zZ (jH HB)) : w.heap.size ≤ gb176)); replace HB := Aside0.mk (zT (jH HB) hb); clear hb hbox hg; obtain ⟨hcz22_0, hcz22_1, hcz22_2, hcz22_3, hfz22_0, hfz22_1, hfz22_2, hfz22_3⟩ := kQ4 BK176.out) | (go_at_call 53; (with_reducible refine (ins_Branch.calls ((rd_T59 l0 x10_1).f0) ((rd_T59 l0 x10_1).f1) ((rd_T59 l0 x10_1).f2) ((rd_T59 l0 x10_1).f3) false _ ?side1 A9.out).mono ?_); (case side1 => exact Glob.below HG.out (jH HB)); rintro e w23 ⟨rfl, hb⟩; replace BK176 := Aside0.mk (kB (g := gb176) (o := .cells #[.int .i64 ((rd_T59 l0 x10_1).f0), .int .i64 ((rd_T59 l0 x10_1).f1), .int .i64 ((rd_T59 l0 x10_1).f2), .int .u32 ((rd_T59 l0 x10_1).f3)] 59 (0, 0)) (by (with_reducible repeat (first | refine kN ?_ _ | refine kD ?_ | refine kA ?_ _)); refine kP (cs := #[.int .i64 ((rd_T59 l0 x10_1).f0), .int .i64 ((rd_T59 l0 x10_1).f1), .int .i64 ((rd_T59 l0 x10_1).f2), .int .u32 0]) ?_ 3 _ rfl; (with_reducible repeat (first | refine kN ?_ _ | refine kD ?_ | refine kA ?_ _)); refine kP (cs := #[.int .i64 ((rd_T59 l0 x10_1).f0), .int .i64 ((rd_T59 l0 x10_1).f1), .int .i64 0, .int .u32 0]) ?_ 2 _ rfl; (with_reducible repeat (first | refine kN ?_ _ | refine kD ?_ | refine kA ?_ _)); refine kP (cs := #[.int .i64 ((rd_T59 l0 x10_1).f0), .int .i64 0, .int .i64 0, .int .u32 0]) ?_ 1 _ rfl; (with_reducible repeat (first | refine kN ?_ _ | refine kD ?_ | refine kA ?_ _)); refine kP (cs := #[.int .i64 0, .int .i64 0, .int .i64 0, .int .u32 0]) ?_ 0 _ rfl; (with_reducible repeat (first | refine kN ?_ _ | refine kD ?_ | refine kA ?_ _)); exact BK176.out) hb); replace HB := Aside0.mk (zT (jH HB) hb); (try clear hb); (try clear hb2); (try clear hk); (try clear hi); obtain ⟨hcz24_0, hcz24_1, hcz24_2, hcz24_3, hfz24_0, hfz24_1, hfz24_2, hfz24_3⟩ := kQ4 BK176.out) | (go_at_call 54; (with_reducible refine (ins_Ends.calls ((rd_T59 l0 x10_1).f0) ((rd_T59 l0 x10_1).f1) ((rd_T59 l0 x10_1).f2) ((rd_T59 l0 x10_1).f3) false _ A14.out).mono ?_); rintro e w25 ⟨rfl, hb⟩; replace BK176 := Aside0.mk (jB BK176 hb); replace HB := Aside0.mk (zT (jH HB) hb); (try clear hb); (try clear hb2); (try clear hk); (try clear hi)))
          go_roundg k1
          case measure => have := HK1.out; omega
          case rel => exact ⟨(wrap64 (x10_1 + 1)), jS, H', ⟨by have := HK1.out; omega⟩, ⟨jH HB⟩⟩
      ·rw [if_neg c5] at H
       exact absurd H (by simp)
     ·rw [if_neg c4] at H
      exact absurd H (by simp)
    ·rw [if_neg c3] at H
     have c3b0 := dF c3
     clear c3
     obtain ⟨y165, hy165⟩ : ∃ y_ : List (S59), y_ = (([] : List (S59))) := ⟨_, rfl⟩
     replace H : (if y165.length + l0.length < 4398046511104 then ((some (y165 ++ l0 : List (S59))).bind fun y168 => (if y168.length < 4398046511104 then ((check_Sound.f k1 (y168 ++ [(⟨22, 0, 0, 0⟩ : S59)])).bind fun t174 => (some t174)) else (none))) else (none)) = some r := by first | (rw [hy165]; with_reducible exact H) | (have H2_ := (Option.bind_some _ _).symm.trans H; rw [hy165]; with_reducible exact H2_) | (have H2_ := (Option.bind_some _ _).symm.trans H; with_reducible exact H2_) | with_reducible exact H | (rw [hy165]; exact H) | exact H
     have Ny165 := Aside0.mk hy165
     clear hy165
     by_cases c26 : y165.length + l0.length < 4398046511104
     ·rw [if_pos c26] at H
      have LMc26 := Aside0.mk c26
      clear c26
      obtain ⟨y168, hy168⟩ : ∃ y_ : List (S59), y_ = (y165 ++ l0) := ⟨_, rfl⟩
      replace H : (if y168.length < 4398046511104 then ((check_Sound.f k1 (y168 ++ [(⟨22, 0, 0, 0⟩ : S59)])).bind fun t174 => (some t174)) else (none)) = some r := by first | (rw [hy168]; with_reducible exact H) | (have H2_ := (Option.bind_some _ _).symm.trans H; rw [hy168]; with_reducible exact H2_) | (have H2_ := (Option.bind_some _ _).symm.trans H; with_reducible exact H2_) | with_reducible exact H | (rw [hy168]; exact H) | exact H
      have Ny168 := Aside0.mk hy168
      clear hy168
      by_cases c27 : y168.length < 4398046511104
      ·rw [if_pos c27] at H
       have LMc27 := Aside0.mk c27
       clear c27
       obtain ⟨y171, hy171⟩ : ∃ y_ : List (S59), y_ = (y168 ++ [(⟨22, 0, 0, 0⟩ : S59)]) := ⟨_, rfl⟩
       replace H : ((check_Sound.f k1 y171).bind fun t174 => (some t174)) = some r := by first | (rw [hy171]; with_reducible exact H) | (have H2_ := (Option.bind_some _ _).symm.trans H; rw [hy171]; with_reducible exact H2_) | (have H2_ := (Option.bind_some _ _).symm.trans H; with_reducible exact H2_) | with_reducible exact H | (rw [hy171]; exact H) | exact H
       have Ny171 := Aside0.mk hy171
       clear hy171
       replace H := Option.bind_eq_some_iff.mp H
       obtain ⟨t174, A280, H⟩ := H
       replace H : (some t174) = some r := H
       have A28 := Aside0.mk A280
       clear A280
       obtain rfl := Option.some.inj H
       go_wp2_with (first | ((with_reducible refine gate_dst (N := 26) rfl ?_); refine Kd.R_lit k59 _ 59 ?hg (N := 26) ?hd (xs := ([] : List (S59))) (inner := []) (ok := fun _ => True) (okp := fun _ => True) ?hr ?hp (fun _ hk => hk) trivial (Below.refl _ _) (Nat.le_refl _) (by simp) ?_; (case hd => rfl); (case hg => rfl); (case hr => first | (go_simp; done) | (go_simp; rfl)); (case hp => exact (Reps.none _ _)); intro v166 w29 ho30 hb hg_ hnew_; clear hg_ hnew_; (first | rw [← Ny165.out] at ho30 | (simp only [Int.reduceToNat] at ho30; rw [← Ny165.out] at ho30)); have HO167 := Aside0.mk (Kd.R_lower ho30 (zZ (jH HB))); replace HB := Aside0.mk (zT (jH HB) hb); clear hb ho30) | ((with_reducible refine gate_builtin (b := .append) (xs := #[.tmp 26, .tmp 27]) rfl ?_); at_builtin; refine Kd.R_append_rows k59 (w0 := w) w.heap.size rfl (.tmp 26) (.tmp 27) 39 59 (.agg #[(.int .i64 0), (.int .i64 0), (.int .i64 0), (.int .u32 0)]) 32 rfl Tryd.underlying39 info59 rfl (by decide) (by omega) v166 y165 l0 _ _ _ (fun _ => True) (fun _ => False) rfl rfl ?aO ?aR (fun _ _ h => h) (fun _ h => h.elim) ?aF ?aB ?aS ?aL ?_; (case aR => repeat (first | exact (Kd.C_below HR0.out HB.out) | (with_reducible refine Kd.C_alloc ?_ _) | (with_reducible refine Kd.C_drewN ?_ _) | (with_reducible refine Kd.C_drew ?_))); (case aB => exact (jH HB)); (case aF => exact (fun _ _ => trivial)); (case aO => exact (jR HO167)); (case aS => exact (zZ (jH HB))); (case aL => have := LMc26.out; omega); intro v169 w31 ho hb hg hat; rw [← Ny168.out] at ho; have HO170 := Aside0.mk (ho); replace HB := Aside0.mk (hb); clear HO167; clear ho hb hg hat) | ((with_reducible refine gate_builtin (b := .append) (xs := #[.tmp 28, .tmp 30]) rfl ?_); at_builtin; refine Kd.R_append k59 (w0 := w) w.heap.size rfl (.tmp 28) (.tmp 30) 39 59 (.agg #[(.int .i64 0), (.int .i64 0), (.int .i64 0), (.int .u32 0)]) 32 rfl Tryd.underlying39 info59 rfl (by decide) (by omega) v169 y168 (⟨22, 0, 0, 0⟩ : S59) [.int .i64 22, .int .i64 0, .int .i64 0, .int .u32 0] (fun _ => True) (fun _ => False) rfl rfl ?aP (fun _ hk => hk.elim) ?aF ?aO ?aB ?aS ?aL ?_; (case aP => exact k59_mkM _ _ _ (⟨22, 0, 0, 0⟩ : S59)); (case aB => exact (jH HB)); (case aF => exact (fun _ _ => trivial)); (case aO => exact (jR HO170)); (case aS => exact (zZ (jH HB))); (case aL => have := LMc27.out; omega); intro v172 w32 ho hb hg hat; rw [← Ny171.out] at ho; have HO173 := Aside0.mk (ho); replace HB := Aside0.mk (hb); clear HO170; clear ho hb hg hat; obtain ⟨Ao33, co33, eo33⟩ := Kd.R_slice HO173.out; subst eo33) | ((with_reducible refine gate_callee (f := 55) rfl ?_); refine goesL_ (some 32) rfl rfl Tryd.func55 (by kernel_rfl) rfl #[.slice Ao33 y171.length co33] rfl jZ ?_; (with_reducible refine (check_Sound.calls k1 _ _ y171 t174 _ ?side1 ?side2 ?side3 A28.out).mono ?_); (case side1 => exact jC (Kd.R_reads' HO173.out).2.2); (case side2 => exact (Kd.R_reads' HO173.out).2.1); (case side3 => exact Glob.below HG.out (jH HB)); rintro e w34 ⟨rfl, hb⟩; refine ⟨_, rfl, ?_⟩; replace HO173 := Aside0.mk (Kd.R_below (jR HO173) hb); replace HB := Aside0.mk (zT (jH HB) hb); (try clear hb); (try clear hb2); (try clear hk); (try clear hi)))
       go_ret
       exact ⟨jE, jH HB⟩
      ·rw [if_neg c27] at H
       exact absurd H (by simp)
     ·rw [if_neg c26] at H
      exact absurd H (by simp)
def table_Rule_right.f (k : Nat) (l0_0 : List (S59)) (l0_1 : List (S59)) (a0_2 : Int) : Option (Bool) := (window_Right.f k l0_0).bind fun t180 => (if t180 = true then ((window_Right.f k l0_1).bind fun t181 => (if t181 = true then (if (l0_1.length : Int) < (l0_0.length : Int) then (some (decide (a0_2 < 262144))) else (some false)) else (some false))) else (some false))
set_option maxHeartbeats 8000000 in
set_option maxRecDepth 100000 in
theorem table_Rule_right.calls (k : Nat) (A0_0 : Option Addr) (c0_0 : Nat) (l0_0 : List (S59)) (A0_1 : Option Addr) (c0_1 : Nat) (l0_1 : List (S59)) (a0_2 : Int) (r : Bool) (w : World) (hr0_0 : Kd.C k59 w A0_0 l0_0.length l0_0) (hc0_0 : l0_0.length ≤ c0_0) (hr0_1 : Kd.C k59 w A0_1 l0_1.length l0_1) (hc0_1 : l0_1.length ≤ c0_1) (hG : Glob w) (h : table_Rule_right.f k l0_0 l0_1 a0_2 = some r) :
  Calls Tryd.prog 32 #[.agg #[.slice A0_0 l0_0.length c0_0, .slice A0_1 l0_1.length c0_1, .int .u32 a0_2]] w fun e w' => e = .returned (.bool r) ∧ Below w.heap.size w w' := by
 have hu42 := Tryd.underlying42
 have HG := Aside0.mk hG
 clear hG
 have HR0_0 := Aside0.mk hr0_0
 have HC0_0 := Aside0.mk hc0_0
 clear hr0_0 hc0_0
 have HR0_1 := Aside0.mk hr0_1
 have HC0_1 := Aside0.mk hc0_1
 clear hr0_1 hc0_1
 have HB := Aside0.mk (Below.refl w.heap.size w)
 have H : ((window_Right.f k l0_0).bind fun t180 => (if t180 = true then ((window_Right.f k l0_1).bind fun t181 => (if t181 = true then (if (l0_1.length : Int) < (l0_0.length : Int) then (some (decide (a0_2 < 262144))) else (some false)) else (some false))) else (some false))) = some r := h
 clear h
 replace H := Option.bind_eq_some_iff.mp H
 obtain ⟨t180, A20, H⟩ := H
 try dsimp only at H
 have A2 := Aside0.mk A20
 clear A20
 by_cases c3 : t180 = true
 ·subst c3
  rw [if_pos rfl] at H
  replace H := Option.bind_eq_some_iff.mp H
  obtain ⟨t181, A40, H⟩ := H
  try dsimp only at H
  have A4 := Aside0.mk A40
  clear A40
  by_cases c5 : t181 = true
  ·subst c5
   rw [if_pos rfl] at H
   by_cases c6 : (l0_1.length : Int) < (l0_0.length : Int)
   ·rw [if_pos c6] at H
    have c6b0 := dT c6
    have c6b1 : decide (l0_1.length < l0_0.length) = true := dT (Int.ofNat_lt.mp c6)
    clear c6
    obtain rfl := Option.some.inj H
    go_enter Tryd.func32, Tryd.ntmps32
    go_wp2_with (first | ((with_reducible refine gate_dst (N := 1) rfl ?_); (try (refine gate_guard (by rfl) ?_; dsimp only)); refine box_event rfl (N := 1) rfl (cs := #[.slice A0_0 l0_0.length c0_0, .slice A0_1 l0_1.length c0_1, .int .u32 a0_2]) (t := 42) jW ?_; intro gb179 hg w7 hbox hb; have BK179 := Aside0.mk hbox; have GW179 := Aside0.mk (jG hg HB); have GE179 := Aside0.mk (jG hg HB); replace HB := Aside0.mk (zT (jH HB) hb); clear hb hbox hg; obtain ⟨hcz8_0, hcz8_1, hcz8_2, hfz8_0, hfz8_1, hfz8_2⟩ := kQ3 BK179.out) | ((with_reducible refine gate_callee (f := 44) rfl ?_); refine goesL_ (some 5) rfl rfl Tryd.func44 (by kernel_rfl) rfl #[.slice A0_0 l0_0.length c0_0] rfl jZ ?_; (with_reducible refine (window_Right.calls k _ _ l0_0 true _ ?side1 ?side2 ?side3 A2.out).mono ?_); (case side1 => exact jC (Kd.C_below HR0_0.out HB.out)); (case side2 => exact HC0_0.out); (case side3 => exact Glob.below HG.out (jH HB)); rintro e w9 ⟨rfl, hb⟩; refine ⟨_, rfl, ?_⟩; replace BK179 := Aside0.mk (jB BK179 hb); replace HB := Aside0.mk (zT (jH HB) hb); (try clear hb); (try clear hb2); (try clear hk); (try clear hi); obtain ⟨hcz10_0, hcz10_1, hcz10_2, hfz10_0, hfz10_1, hfz10_2⟩ := kQ3 BK179.out) | (go_at_call 44; (with_reducible refine (window_Right.calls k _ _ l0_1 true _ ?side1 ?side2 ?side3 A4.out).mono ?_); (case side1 => exact jC (Kd.C_below HR0_1.out HB.out)); (case side2 => exact HC0_1.out); (case side3 => exact Glob.below HG.out (jH HB)); rintro e w11 ⟨rfl, hb⟩; replace BK179 := Aside0.mk (jB BK179 hb); replace HB := Aside0.mk (zT (jH HB) hb); (try clear hb); (try clear hb2); (try clear hk); (try clear hi); obtain ⟨hcz12_0, hcz12_1, hcz12_2, hfz12_0, hfz12_1, hfz12_2⟩ := kQ3 BK179.out))
    go_ret
    exact ⟨jE, jH HB⟩
   ·rw [if_neg c6] at H
    have c6b0 := dF c6
    have c6b1 : decide (l0_1.length < l0_0.length) = false := dF (fun h => c6 (Int.ofNat_lt.mpr h))
    clear c6
    obtain rfl := Option.some.inj H
    go_enter Tryd.func32, Tryd.ntmps32
    go_wp2_with (first | ((with_reducible refine gate_dst (N := 1) rfl ?_); (try (refine gate_guard (by rfl) ?_; dsimp only)); refine box_event rfl (N := 1) rfl (cs := #[.slice A0_0 l0_0.length c0_0, .slice A0_1 l0_1.length c0_1, .int .u32 a0_2]) (t := 42) jW ?_; intro gb179 hg w13 hbox hb; have BK179 := Aside0.mk hbox; have GW179 := Aside0.mk (jG hg HB); have GE179 := Aside0.mk (jG hg HB); replace HB := Aside0.mk (zT (jH HB) hb); clear hb hbox hg; obtain ⟨hcz14_0, hcz14_1, hcz14_2, hfz14_0, hfz14_1, hfz14_2⟩ := kQ3 BK179.out) | ((with_reducible refine gate_callee (f := 44) rfl ?_); refine goesL_ (some 5) rfl rfl Tryd.func44 (by kernel_rfl) rfl #[.slice A0_0 l0_0.length c0_0] rfl jZ ?_; (with_reducible refine (window_Right.calls k _ _ l0_0 true _ ?side1 ?side2 ?side3 A2.out).mono ?_); (case side1 => exact jC (Kd.C_below HR0_0.out HB.out)); (case side2 => exact HC0_0.out); (case side3 => exact Glob.below HG.out (jH HB)); rintro e w15 ⟨rfl, hb⟩; refine ⟨_, rfl, ?_⟩; replace BK179 := Aside0.mk (jB BK179 hb); replace HB := Aside0.mk (zT (jH HB) hb); (try clear hb); (try clear hb2); (try clear hk); (try clear hi); obtain ⟨hcz16_0, hcz16_1, hcz16_2, hfz16_0, hfz16_1, hfz16_2⟩ := kQ3 BK179.out) | (go_at_call 44; (with_reducible refine (window_Right.calls k _ _ l0_1 true _ ?side1 ?side2 ?side3 A4.out).mono ?_); (case side1 => exact jC (Kd.C_below HR0_1.out HB.out)); (case side2 => exact HC0_1.out); (case side3 => exact Glob.below HG.out (jH HB)); rintro e w17 ⟨rfl, hb⟩; replace BK179 := Aside0.mk (jB BK179 hb); replace HB := Aside0.mk (zT (jH HB) hb); (try clear hb); (try clear hb2); (try clear hk); (try clear hi); obtain ⟨hcz18_0, hcz18_1, hcz18_2, hfz18_0, hfz18_1, hfz18_2⟩ := kQ3 BK179.out))
    go_ret
    exact ⟨jE, jH HB⟩
  ·replace c5 := Bool.eq_false_iff.mpr c5
   subst c5
   rw [if_neg (show ¬ (false = true) by decide)] at H
   obtain rfl := Option.some.inj H
   go_enter Tryd.func32, Tryd.ntmps32
   go_wp2_with (first | ((with_reducible refine gate_dst (N := 1) rfl ?_); (try (refine gate_guard (by rfl) ?_; dsimp only)); refine box_event rfl (N := 1) rfl (cs := #[.slice A0_0 l0_0.length c0_0, .slice A0_1 l0_1.length c0_1, .int .u32 a0_2]) (t := 42) jW ?_; intro gb179 hg w19 hbox hb; have BK179 := Aside0.mk hbox; have GW179 := Aside0.mk (jG hg HB); have GE179 := Aside0.mk (jG hg HB); replace HB := Aside0.mk (zT (jH HB) hb); clear hb hbox hg; obtain ⟨hcz20_0, hcz20_1, hcz20_2, hfz20_0, hfz20_1, hfz20_2⟩ := kQ3 BK179.out) | ((with_reducible refine gate_callee (f := 44) rfl ?_); refine goesL_ (some 5) rfl rfl Tryd.func44 (by kernel_rfl) rfl #[.slice A0_0 l0_0.length c0_0] rfl jZ ?_; (with_reducible refine (window_Right.calls k _ _ l0_0 true _ ?side1 ?side2 ?side3 A2.out).mono ?_); (case side1 => exact jC (Kd.C_below HR0_0.out HB.out)); (case side2 => exact HC0_0.out); (case side3 => exact Glob.below HG.out (jH HB)); rintro e w21 ⟨rfl, hb⟩; refine ⟨_, rfl, ?_⟩; replace BK179 := Aside0.mk (jB BK179 hb); replace HB := Aside0.mk (zT (jH HB) hb); (try clear hb); (try clear hb2); (try clear hk); (try clear hi); obtain ⟨hcz22_0, hcz22_1, hcz22_2, hfz22_0, hfz22_1, hfz22_2⟩ := kQ3 BK179.out) | (go_at_call 44; (with_reducible refine (window_Right.calls k _ _ l0_1 false _ ?side1 ?side2 ?side3 A4.out).mono ?_); (case side1 => exact jC (Kd.C_below HR0_1.out HB.out)); (case side2 => exact HC0_1.out); (case side3 => exact Glob.below HG.out (jH HB)); rintro e w23 ⟨rfl, hb⟩; replace BK179 := Aside0.mk (jB BK179 hb); replace HB := Aside0.mk (zT (jH HB) hb); (try clear hb); (try clear hb2); (try clear hk); (try clear hi)))
   go_ret
   exact ⟨jE, jH HB⟩
 ·replace c3 := Bool.eq_false_iff.mpr c3
  subst c3
  rw [if_neg (show ¬ (false = true) by decide)] at H
  obtain rfl := Option.some.inj H
  go_enter Tryd.func32, Tryd.ntmps32
  go_wp2_with (first | ((with_reducible refine gate_dst (N := 1) rfl ?_); (try (refine gate_guard (by rfl) ?_; dsimp only)); refine box_event rfl (N := 1) rfl (cs := #[.slice A0_0 l0_0.length c0_0, .slice A0_1 l0_1.length c0_1, .int .u32 a0_2]) (t := 42) jW ?_; intro gb179 hg w24 hbox hb; have BK179 := Aside0.mk hbox; have GW179 := Aside0.mk (jG hg HB); have GE179 := Aside0.mk (jG hg HB); replace HB := Aside0.mk (zT (jH HB) hb); clear hb hbox hg; obtain ⟨hcz25_0, hcz25_1, hcz25_2, hfz25_0, hfz25_1, hfz25_2⟩ := kQ3 BK179.out) | ((with_reducible refine gate_callee (f := 44) rfl ?_); refine goesL_ (some 5) rfl rfl Tryd.func44 (by kernel_rfl) rfl #[.slice A0_0 l0_0.length c0_0] rfl jZ ?_; (with_reducible refine (window_Right.calls k _ _ l0_0 false _ ?side1 ?side2 ?side3 A2.out).mono ?_); (case side1 => exact jC (Kd.C_below HR0_0.out HB.out)); (case side2 => exact HC0_0.out); (case side3 => exact Glob.below HG.out (jH HB)); rintro e w26 ⟨rfl, hb⟩; refine ⟨_, rfl, ?_⟩; replace BK179 := Aside0.mk (jB BK179 hb); replace HB := Aside0.mk (zT (jH HB) hb); (try clear hb); (try clear hb2); (try clear hk); (try clear hi)))
  go_ret
  exact ⟨jE, jH HB⟩
end Go.Proofs.YtahacmdhhfmhiaaDoor.M
