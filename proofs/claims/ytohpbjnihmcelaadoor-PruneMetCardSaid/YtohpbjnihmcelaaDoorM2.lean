/- What Go functions compute; their calls come to it. No condition. -/
import Derived.Test.YtohpbjnihmcelaaDoorM0
namespace Go.Proofs.YtohpbjnihmcelaaDoor.M
open Go.RowKit Go.Proofs.YtohpbjnihmcelaaDoorW.PrintWords Go.Proofs.YtohpbjnihmcelaaDoorW.PrintLast Go.Proofs.YtohpbjnihmcelaaDoorW.PrintMore
attribute [local go_sem] max2_int min2_int max_two min_two max_three min_three max_four min_four   -- for this text's walks alone
set_option linter.unusedVariables false
set_option linter.unusedSimpArgs false
def ins_Ends.f (a0_0 : Int) (a0_1 : Int) (a0_2 : Int) (a0_3 : Int) : Option (Bool) := if a0_0 = 6 then (some true) else (some (a0_0 == 22))
set_option maxHeartbeats 8000000 in
set_option maxRecDepth 100000 in
theorem ins_Ends.calls (a0_0 : Int) (a0_1 : Int) (a0_2 : Int) (a0_3 : Int) (r : Bool) (w : World) (h : ins_Ends.f a0_0 a0_1 a0_2 a0_3 = some r) :
  Calls Tryd.prog 19 #[.agg #[.int .i64 a0_0, .int .i64 a0_1, .int .i64 a0_2, .int .u32 a0_3]] w fun e w' => e = .returned (.bool r) ∧ Below w.heap.size w w' := by
 have hu45 := Tryd.underlying45
 have HB := Aside0.mk (Below.refl w.heap.size w)
 have H : (if a0_0 = 6 then (some true) else (some (a0_0 == 22))) = some r := h
 clear h
 by_cases c2 : a0_0 = 6
 ·rw [if_pos c2] at H
  have c2b0 : (a0_0 == 6) = true := bI.mpr c2
  have c2b1 : (a0_0 != 6) = false := nF.mpr c2
  clear c2
  obtain rfl := Option.some.inj H
  go_enter Tryd.func19, Tryd.ntmps19
  go_wp2_with (first | ((with_reducible refine gate_dst (N := 1) rfl ?_); refine box_event rfl (N := 1) rfl (cs := #[.int .i64 a0_0, .int .i64 a0_1, .int .i64 a0_2, .int .u32 a0_3]) (t := 45) jW ?_; intro gb101 hg w3 hbox hb; have n0_ := Aside0.mk (zT (jH HB) hb); have n1_ := Aside0.mk hbox; have n2_ := Aside0.mk (jG hg HB); have n3_ := Aside0.mk (jG hg HB); clear HB; have HB := n0_; have BK101 := n1_; have GW101 := n2_; have GE101 := n3_; clear n0_ n1_ n2_ n3_; clear hb hbox hg; have hcz4_0 : w3.cell? ⟨gb101, 0, none⟩ = some (.int .i64 a0_0) := (kC BK101.out 0).trans rfl; have hcz4_1 : w3.cell? ⟨gb101, 1, none⟩ = some (.int .i64 a0_1) := (kC BK101.out 1).trans rfl; have hcz4_2 : w3.cell? ⟨gb101, 2, none⟩ = some (.int .i64 a0_2) := (kC BK101.out 2).trans rfl; have hcz4_3 : w3.cell? ⟨gb101, 3, none⟩ = some (.int .u32 a0_3) := (kC BK101.out 3).trans rfl; have hfz4_0 := kF BK101.out 0; have hfz4_1 := kF BK101.out 1; have hfz4_2 := kF BK101.out 2; have hfz4_3 := kF BK101.out 3))
  go_ret
  exact ⟨jE, jH HB⟩
 ·rw [if_neg c2] at H
  have c2b0 : (a0_0 == 6) = false := bF.mpr c2
  have c2b1 : (a0_0 != 6) = true := nI.mpr c2
  obtain rfl := Option.some.inj H
  go_enter Tryd.func19, Tryd.ntmps19
  go_wp2_with (first | ((with_reducible refine gate_dst (N := 1) rfl ?_); refine box_event rfl (N := 1) rfl (cs := #[.int .i64 a0_0, .int .i64 a0_1, .int .i64 a0_2, .int .u32 a0_3]) (t := 45) jW ?_; intro gb101 hg w5 hbox hb; have n0_ := Aside0.mk (zT (jH HB) hb); have n1_ := Aside0.mk hbox; have n2_ := Aside0.mk (jG hg HB); have n3_ := Aside0.mk (jG hg HB); clear HB; have HB := n0_; have BK101 := n1_; have GW101 := n2_; have GE101 := n3_; clear n0_ n1_ n2_ n3_; clear hb hbox hg; have hcz6_0 : w5.cell? ⟨gb101, 0, none⟩ = some (.int .i64 a0_0) := (kC BK101.out 0).trans rfl; have hcz6_1 : w5.cell? ⟨gb101, 1, none⟩ = some (.int .i64 a0_1) := (kC BK101.out 1).trans rfl; have hcz6_2 : w5.cell? ⟨gb101, 2, none⟩ = some (.int .i64 a0_2) := (kC BK101.out 2).trans rfl; have hcz6_3 : w5.cell? ⟨gb101, 3, none⟩ = some (.int .u32 a0_3) := (kC BK101.out 3).trans rfl; have hfz6_0 := kF BK101.out 0; have hfz6_1 := kF BK101.out 1; have hfz6_2 := kF BK101.out 2; have hfz6_3 := kF BK101.out 3))
  go_ret
  exact ⟨jE, jH HB⟩
def ins_of.f (a0 : Int) : Option (Int × ByteArray × Bool × Bool × Bool) := ofRest shapeT a0
set_option maxHeartbeats 8000000 in
set_option maxRecDepth 100000 in
theorem ins_of.calls (a0 : Int) (r1 : Int) (r2 : ByteArray) (r3 : Bool) (r4 : Bool) (r5 : Bool) (w : World) (hG : Glob w) (h : ins_of.f a0 = some (r1, r2, r3, r4, r5)) :
  Calls Tryd.prog 29 #[.int .i64 a0] w fun e w' => e = .returned (.tuple #[.agg #[.int .i64 r1, .string r2, .bool r3, .bool r4], .bool r5]) ∧ Below w.heap.size w w' := by
 have HG := Aside0.mk hG
 have HH : Aside0 (ofRest (shapeT.drop 0) a0 = some (r1, r2, r3, r4, r5)) := ⟨h⟩
 clear hG h
 go_enter Tryd.func29, Tryd.ntmps29
 go_wp2_with ((with_reducible refine gate_dst (N := 6) rfl ?_); refine wpList_shape_load 79 rfl rfl (HG.out.alloc _) Tryd.underlying79 (by kernel_rfl) ?_)
 have HB := Aside0.mk (Below.refl (w.heap.size + 1) (w.alloc (.cells #[.int .i64 0, .string ⟨#[]⟩, .bool false, .bool false] 63)))
 go_loopw [7] (fun v7 wr => ∃ i : Nat, i ≤ 39 ∧ v7 = .int .i64 (i : Int) ∧ Aside0 (ofRest (shapeT.drop i) a0 = some (r1, r2, r3, r4, r5)) ∧ Aside0 (Below (w.heap.size + 1) (w.alloc (.cells #[.int .i64 0, .string ⟨#[]⟩, .bool false, .bool false] 63)) wr)) (fun v7 _ => 39 - (intOf v7).toNat)
 case atStart => exact ⟨0, by omega, rfl, HH, HB⟩
 case round =>
  clear HB HH
  obtain ⟨i, hi, rfl, HH, HB⟩ := hrel
  by_cases hlt : i < 39
  ·have hidx := fun W => shape_index (P := Tryd.prog) W 79 63 i hlt Tryd.underlying79 Tryd.underlying63 (by kernel_rfl)
   obtain ⟨s, hs⟩ : ∃ s, s = shapeT.getD i shapeZ := ⟨_, rfl⟩
   rw [← hs] at hidx
   have hd := shape_snoc i hlt
   rw [← hs] at hd
   have HD := Aside0.mk hd
   clear hs hd
   obtain ⟨s1, s2, s3, s4⟩ := s
   simp only [shapeRow] at hidx
   by_cases he : s1 = a0
   ·subst he
    have HR : Aside0 (some (s1, s2, s3, s4, true) = some (r1, r2, r3, r4, r5)) := by
     constructor
     rw [← HH.out, HD.out]
     simp [ofRest]
    have hr := HR.out
    simp only [Option.some.injEq, Prod.mk.injEq] at hr
    obtain ⟨rfl, rfl, rfl, rfl, rfl⟩ := hr
    clear HH HD HR
    have hbk : wr.heap[w.heap.size]? = some (.cells #[.int .i64 0, .string ⟨#[]⟩, .bool false, .bool false] 63 (0, 0)) := (HB.out.block _ (Nat.lt_succ_self _)).trans (heap_alloc_new w _)
    have hsz : w.heap.size < wr.heap.size := by have := HB.out.size; simp at this; omega
    have hc0 : wr.cell? ⟨w.heap.size, 0, none⟩ = some (.int .i64 0) := by simp [World.cell?, hbk]
    have hc1 : wr.cell? ⟨w.heap.size, 1, none⟩ = some (.string ⟨#[]⟩) := by simp [World.cell?, hbk]
    have hc2 : wr.cell? ⟨w.heap.size, 2, none⟩ = some (.bool false) := by simp [World.cell?, hbk]
    have hc3 : wr.cell? ⟨w.heap.size, 3, none⟩ = some (.bool false) := by simp [World.cell?, hbk]
    have hf0 : wr.frozen? ⟨w.heap.size, 0, none⟩ = false := by simp [World.frozen?, hbk]
    have hf1 : wr.frozen? ⟨w.heap.size, 1, none⟩ = false := by simp [World.frozen?, hbk]
    have hf2 : wr.frozen? ⟨w.heap.size, 2, none⟩ = false := by simp [World.frozen?, hbk]
    have hf3 : wr.frozen? ⟨w.heap.size, 3, none⟩ = false := by simp [World.frozen?, hbk]
    clear hbk
    go_wp2
    refine bodyPost_ret (v := .tuple #[.agg #[.int .i64 s1, .string s2, .bool s3, .bool s4], .bool true]) (by simp [results, Tryd.results29, go_sem, hc0, hc1, hc2, hc3, hsz]) rfl ⟨rfl, ?_⟩
    have HBw : Below w.heap.size w wr := ((Below.refl w.heap.size w).alloc (Nat.le_refl _) _).trans (HB.out.mono (Nat.le_succ _))
    exact ((((HBw.setCell (Nat.le_refl _) _).setCell (Nat.le_refl _) _).setCell (Nat.le_refl _) _).setCell (Nat.le_refl _) _).alloc (by simp; omega) _
   ·have heb : (s1 == a0) = false := bF.mpr he
    have HH2 : Aside0 (ofRest (shapeT.drop (i + 1)) a0 = some (r1, r2, r3, r4, r5)) := by
     constructor
     rw [← HH.out, HD.out]
     simp [ofRest, heb]
    clear HH HD he
    go_wp2
    go_roundw
    case rel => exact ⟨i + 1, by omega, by go_num, HH2, ⟨HB.out.alloc (by have := HB.out.size; simp at this; omega) _⟩⟩
    case measure => simp [intOf]; omega
  ·obtain rfl : i = 39 := by omega
   have HR : Aside0 (some (0, ⟨#[]⟩, false, false, false) = some (r1, r2, r3, r4, r5)) := by
    constructor
    rw [← HH.out]
    rfl
   have hr := HR.out
   simp only [Option.some.injEq, Prod.mk.injEq] at hr
   obtain ⟨rfl, rfl, rfl, rfl, rfl⟩ := hr
   clear HH HR
   have hbk : wr.heap[w.heap.size]? = some (.cells #[.int .i64 0, .string ⟨#[]⟩, .bool false, .bool false] 63 (0, 0)) := (HB.out.block _ (Nat.lt_succ_self _)).trans (heap_alloc_new w _)
   have hsz : w.heap.size < wr.heap.size := by have := HB.out.size; simp at this; omega
   have hc0 : wr.cell? ⟨w.heap.size, 0, none⟩ = some (.int .i64 0) := by simp [World.cell?, hbk]
   have hc1 : wr.cell? ⟨w.heap.size, 1, none⟩ = some (.string ⟨#[]⟩) := by simp [World.cell?, hbk]
   have hc2 : wr.cell? ⟨w.heap.size, 2, none⟩ = some (.bool false) := by simp [World.cell?, hbk]
   have hc3 : wr.cell? ⟨w.heap.size, 3, none⟩ = some (.bool false) := by simp [World.cell?, hbk]
   have hf0 : wr.frozen? ⟨w.heap.size, 0, none⟩ = false := by simp [World.frozen?, hbk]
   have hf1 : wr.frozen? ⟨w.heap.size, 1, none⟩ = false := by simp [World.frozen?, hbk]
   have hf2 : wr.frozen? ⟨w.heap.size, 2, none⟩ = false := by simp [World.frozen?, hbk]
   have hf3 : wr.frozen? ⟨w.heap.size, 3, none⟩ = false := by simp [World.frozen?, hbk]
   clear hbk
   go_wp2
   refine bodyPost_ret (v := .tuple #[.agg #[.int .i64 0, .string ⟨#[]⟩, .bool false, .bool false], .bool false]) (by simp [results, Tryd.results29, go_sem, hc0, hc1, hc2, hc3, hsz]) rfl ⟨rfl, ?_⟩
   have HBw : Below w.heap.size w wr := ((Below.refl w.heap.size w).alloc (Nat.le_refl _) _).trans (HB.out.mono (Nat.le_succ _))
   exact (((HBw.setCell (Nat.le_refl _) _).setCell (Nat.le_refl _) _).setCell (Nat.le_refl _) _).setCell (Nat.le_refl _) _
def ins_Branch.f (a0_0 : Int) (a0_1 : Int) (a0_2 : Int) (a0_3 : Int) : Option (Bool) := (ins_of.f a0_0).bind fun bt103 => (if bt103.2.2.2.2 = true then (if (Go.bits .and .i64 a0_0 7) = 5 then (some (a0_0 != 5)) else (some false)) else (some false))
set_option maxHeartbeats 8000000 in
set_option maxRecDepth 100000 in
theorem ins_Branch.calls (a0_0 : Int) (a0_1 : Int) (a0_2 : Int) (a0_3 : Int) (r : Bool) (w : World) (hG : Glob w) (h : ins_Branch.f a0_0 a0_1 a0_2 a0_3 = some r) :
  Calls Tryd.prog 20 #[.agg #[.int .i64 a0_0, .int .i64 a0_1, .int .i64 a0_2, .int .u32 a0_3]] w fun e w' => e = .returned (.bool r) ∧ Below w.heap.size w w' := by
 have hu45 := Tryd.underlying45
 have hu63 := Tryd.underlying63
 have HG := Aside0.mk hG
 clear hG
 have HB := Aside0.mk (Below.refl w.heap.size w)
 have H : ((ins_of.f a0_0).bind fun bt103 => (if bt103.2.2.2.2 = true then (if (Go.bits .and .i64 a0_0 7) = 5 then (some (a0_0 != 5)) else (some false)) else (some false))) = some r := h
 clear h
 replace H := Option.bind_eq_some_iff.mp H
 obtain ⟨⟨t103, t104, t105, t106, t107⟩, A20, H⟩ := H
 try dsimp only at H
 have A2 := Aside0.mk A20
 clear A20
 by_cases c3 : t107 = true
 ·subst c3
  rw [if_pos rfl] at H
  by_cases c4 : (Go.bits .and .i64 a0_0 7) = 5
  ·rw [if_pos c4] at H
   have c4b0 : ((Go.bits .and .i64 a0_0 7) == 5) = true := bI.mpr c4
   have c4b1 : ((Go.bits .and .i64 a0_0 7) != 5) = false := nF.mpr c4
   clear c4
   obtain rfl := Option.some.inj H
   go_enter Tryd.func20, Tryd.ntmps20
   go_wp2_with (first | ((with_reducible refine gate_dst (N := 1) rfl ?_); refine box_event rfl (N := 1) rfl (cs := #[.int .i64 a0_0, .int .i64 a0_1, .int .i64 a0_2, .int .u32 a0_3]) (t := 45) jW ?_; intro gb102 hg w5 hbox hb; have n0_ := Aside0.mk (zT (jH HB) hb); have n1_ := Aside0.mk hbox; have n2_ := Aside0.mk (jG hg HB); have n3_ := Aside0.mk (jG hg HB); clear HB; have HB := n0_; have BK102 := n1_; have GW102 := n2_; have GE102 := n3_; clear n0_ n1_ n2_ n3_; clear hb hbox hg; have hcz6_0 : w5.cell? ⟨gb102, 0, none⟩ = some (.int .i64 a0_0) := (kC BK102.out 0).trans rfl; have hcz6_1 : w5.cell? ⟨gb102, 1, none⟩ = some (.int .i64 a0_1) := (kC BK102.out 1).trans rfl; have hcz6_2 : w5.cell? ⟨gb102, 2, none⟩ = some (.int .i64 a0_2) := (kC BK102.out 2).trans rfl; have hcz6_3 : w5.cell? ⟨gb102, 3, none⟩ = some (.int .u32 a0_3) := (kC BK102.out 3).trans rfl; have hfz6_0 := kF BK102.out 0; have hfz6_1 := kF BK102.out 1; have hfz6_2 := kF BK102.out 2; have hfz6_3 := kF BK102.out 3) | ((with_reducible refine gate_callee (f := 29) rfl ?_); refine goesL_ (some 8) rfl rfl Tryd.func29 (by kernel_rfl) rfl #[.int .i64 a0_0] rfl jZ ?_; (with_reducible refine (ins_of.calls a0_0 t103 t104 t105 t106 true _ ?side1 A2.out).mono ?_); (case side1 => exact Glob.below HG.out (jH HB)); rintro e w7 ⟨rfl, hb⟩; refine ⟨_, rfl, ?_⟩; have n0_ := Aside0.mk (jB BK102 hb); have n1_ := Aside0.mk (zT (jH HB) hb); clear BK102; clear HB; have BK102 := n0_; have HB := n1_; clear n0_ n1_; (try clear hb); (try clear hb2); (try clear hk); (try clear hi)) | ((with_reducible refine gate_dst (N := 3) rfl ?_); refine box_event rfl (N := 3) rfl (cs := #[.int .i64 0, .string (⟨#[]⟩ : ByteArray), .bool false, .bool false]) (t := 63) jW ?_; intro gb108 hg w8 hbox hb; have n0_ := Aside0.mk (jB BK102 hb); have n1_ := Aside0.mk (zT (jH HB) hb); have n2_ := Aside0.mk hbox; have n3_ := Aside0.mk (jG hg HB); have n4_ := Aside0.mk (jG hg HB); have n5_ := Aside0.mk (jN hg BK102); have n6_ := Aside0.mk (jM hg BK102); clear BK102; clear HB; have BK102 := n0_; have HB := n1_; have BK108 := n2_; have GW108 := n3_; have GE108 := n4_; have NB102_108 := n5_; have NB108_102 := n6_; clear n0_ n1_ n2_ n3_ n4_ n5_ n6_; clear hb hbox hg; have hnb9 := NB108_102.out; have hnc9 := NB102_108.out; have hcz10_0 : w8.cell? ⟨gb108, 0, none⟩ = some (.int .i64 0) := (kC BK108.out 0).trans rfl; have hcz10_1 : w8.cell? ⟨gb108, 1, none⟩ = some (.string (⟨#[]⟩ : ByteArray)) := (kC BK108.out 1).trans rfl; have hcz10_2 : w8.cell? ⟨gb108, 2, none⟩ = some (.bool false) := (kC BK108.out 2).trans rfl; have hcz10_3 : w8.cell? ⟨gb108, 3, none⟩ = some (.bool false) := (kC BK108.out 3).trans rfl; have hfz10_0 := kF BK108.out 0; have hfz10_1 := kF BK108.out 1; have hfz10_2 := kF BK108.out 2; have hfz10_3 := kF BK108.out 3; have hcz11_0 : w8.cell? ⟨gb102, 0, none⟩ = some (.int .i64 a0_0) := (kC BK102.out 0).trans rfl; have hcz11_1 : w8.cell? ⟨gb102, 1, none⟩ = some (.int .i64 a0_1) := (kC BK102.out 1).trans rfl; have hcz11_2 : w8.cell? ⟨gb102, 2, none⟩ = some (.int .i64 a0_2) := (kC BK102.out 2).trans rfl; have hcz11_3 : w8.cell? ⟨gb102, 3, none⟩ = some (.int .u32 a0_3) := (kC BK102.out 3).trans rfl; have hfz11_0 := kF BK102.out 0; have hfz11_1 := kF BK102.out 1; have hfz11_2 := kF BK102.out 2; have hfz11_3 := kF BK102.out 3))
   go_ret
   exact ⟨jE, jH HB⟩
  ·rw [if_neg c4] at H
   have c4b0 : ((Go.bits .and .i64 a0_0 7) == 5) = false := bF.mpr c4
   have c4b1 : ((Go.bits .and .i64 a0_0 7) != 5) = true := nI.mpr c4
   obtain rfl := Option.some.inj H
   go_enter Tryd.func20, Tryd.ntmps20
   go_wp2_with (first | ((with_reducible refine gate_dst (N := 1) rfl ?_); refine box_event rfl (N := 1) rfl (cs := #[.int .i64 a0_0, .int .i64 a0_1, .int .i64 a0_2, .int .u32 a0_3]) (t := 45) jW ?_; intro gb102 hg w12 hbox hb; have n0_ := Aside0.mk (zT (jH HB) hb); have n1_ := Aside0.mk hbox; have n2_ := Aside0.mk (jG hg HB); have n3_ := Aside0.mk (jG hg HB); clear HB; have HB := n0_; have BK102 := n1_; have GW102 := n2_; have GE102 := n3_; clear n0_ n1_ n2_ n3_; clear hb hbox hg; have hcz13_0 : w12.cell? ⟨gb102, 0, none⟩ = some (.int .i64 a0_0) := (kC BK102.out 0).trans rfl; have hcz13_1 : w12.cell? ⟨gb102, 1, none⟩ = some (.int .i64 a0_1) := (kC BK102.out 1).trans rfl; have hcz13_2 : w12.cell? ⟨gb102, 2, none⟩ = some (.int .i64 a0_2) := (kC BK102.out 2).trans rfl; have hcz13_3 : w12.cell? ⟨gb102, 3, none⟩ = some (.int .u32 a0_3) := (kC BK102.out 3).trans rfl; have hfz13_0 := kF BK102.out 0; have hfz13_1 := kF BK102.out 1; have hfz13_2 := kF BK102.out 2; have hfz13_3 := kF BK102.out 3) | ((with_reducible refine gate_callee (f := 29) rfl ?_); refine goesL_ (some 8) rfl rfl Tryd.func29 (by kernel_rfl) rfl #[.int .i64 a0_0] rfl jZ ?_; (with_reducible refine (ins_of.calls a0_0 t103 t104 t105 t106 true _ ?side1 A2.out).mono ?_); (case side1 => exact Glob.below HG.out (jH HB)); rintro e w14 ⟨rfl, hb⟩; refine ⟨_, rfl, ?_⟩; have n0_ := Aside0.mk (jB BK102 hb); have n1_ := Aside0.mk (zT (jH HB) hb); clear BK102; clear HB; have BK102 := n0_; have HB := n1_; clear n0_ n1_; (try clear hb); (try clear hb2); (try clear hk); (try clear hi)) | ((with_reducible refine gate_dst (N := 3) rfl ?_); refine box_event rfl (N := 3) rfl (cs := #[.int .i64 0, .string (⟨#[]⟩ : ByteArray), .bool false, .bool false]) (t := 63) jW ?_; intro gb108 hg w15 hbox hb; have n0_ := Aside0.mk (jB BK102 hb); have n1_ := Aside0.mk (zT (jH HB) hb); have n2_ := Aside0.mk hbox; have n3_ := Aside0.mk (jG hg HB); have n4_ := Aside0.mk (jG hg HB); have n5_ := Aside0.mk (jN hg BK102); have n6_ := Aside0.mk (jM hg BK102); clear BK102; clear HB; have BK102 := n0_; have HB := n1_; have BK108 := n2_; have GW108 := n3_; have GE108 := n4_; have NB102_108 := n5_; have NB108_102 := n6_; clear n0_ n1_ n2_ n3_ n4_ n5_ n6_; clear hb hbox hg; have hnb16 := NB108_102.out; have hnc16 := NB102_108.out; have hcz17_0 : w15.cell? ⟨gb108, 0, none⟩ = some (.int .i64 0) := (kC BK108.out 0).trans rfl; have hcz17_1 : w15.cell? ⟨gb108, 1, none⟩ = some (.string (⟨#[]⟩ : ByteArray)) := (kC BK108.out 1).trans rfl; have hcz17_2 : w15.cell? ⟨gb108, 2, none⟩ = some (.bool false) := (kC BK108.out 2).trans rfl; have hcz17_3 : w15.cell? ⟨gb108, 3, none⟩ = some (.bool false) := (kC BK108.out 3).trans rfl; have hfz17_0 := kF BK108.out 0; have hfz17_1 := kF BK108.out 1; have hfz17_2 := kF BK108.out 2; have hfz17_3 := kF BK108.out 3; have hcz18_0 : w15.cell? ⟨gb102, 0, none⟩ = some (.int .i64 a0_0) := (kC BK102.out 0).trans rfl; have hcz18_1 : w15.cell? ⟨gb102, 1, none⟩ = some (.int .i64 a0_1) := (kC BK102.out 1).trans rfl; have hcz18_2 : w15.cell? ⟨gb102, 2, none⟩ = some (.int .i64 a0_2) := (kC BK102.out 2).trans rfl; have hcz18_3 : w15.cell? ⟨gb102, 3, none⟩ = some (.int .u32 a0_3) := (kC BK102.out 3).trans rfl; have hfz18_0 := kF BK102.out 0; have hfz18_1 := kF BK102.out 1; have hfz18_2 := kF BK102.out 2; have hfz18_3 := kF BK102.out 3))
   go_ret
   exact ⟨jE, jH HB⟩
 ·replace c3 := Bool.eq_false_iff.mpr c3
  subst c3
  rw [if_neg (show ¬ (false = true) by decide)] at H
  obtain rfl := Option.some.inj H
  go_enter Tryd.func20, Tryd.ntmps20
  go_wp2_with (first | ((with_reducible refine gate_dst (N := 1) rfl ?_); refine box_event rfl (N := 1) rfl (cs := #[.int .i64 a0_0, .int .i64 a0_1, .int .i64 a0_2, .int .u32 a0_3]) (t := 45) jW ?_; intro gb102 hg w19 hbox hb; have n0_ := Aside0.mk (zT (jH HB) hb); have n1_ := Aside0.mk hbox; have n2_ := Aside0.mk (jG hg HB); have n3_ := Aside0.mk (jG hg HB); clear HB; have HB := n0_; have BK102 := n1_; have GW102 := n2_; have GE102 := n3_; clear n0_ n1_ n2_ n3_; clear hb hbox hg; have hcz20_0 : w19.cell? ⟨gb102, 0, none⟩ = some (.int .i64 a0_0) := (kC BK102.out 0).trans rfl; have hcz20_1 : w19.cell? ⟨gb102, 1, none⟩ = some (.int .i64 a0_1) := (kC BK102.out 1).trans rfl; have hcz20_2 : w19.cell? ⟨gb102, 2, none⟩ = some (.int .i64 a0_2) := (kC BK102.out 2).trans rfl; have hcz20_3 : w19.cell? ⟨gb102, 3, none⟩ = some (.int .u32 a0_3) := (kC BK102.out 3).trans rfl; have hfz20_0 := kF BK102.out 0; have hfz20_1 := kF BK102.out 1; have hfz20_2 := kF BK102.out 2; have hfz20_3 := kF BK102.out 3) | ((with_reducible refine gate_callee (f := 29) rfl ?_); refine goesL_ (some 8) rfl rfl Tryd.func29 (by kernel_rfl) rfl #[.int .i64 a0_0] rfl jZ ?_; (with_reducible refine (ins_of.calls a0_0 t103 t104 t105 t106 false _ ?side1 A2.out).mono ?_); (case side1 => exact Glob.below HG.out (jH HB)); rintro e w21 ⟨rfl, hb⟩; refine ⟨_, rfl, ?_⟩; have n0_ := Aside0.mk (jB BK102 hb); have n1_ := Aside0.mk (zT (jH HB) hb); clear BK102; clear HB; have BK102 := n0_; have HB := n1_; clear n0_ n1_; (try clear hb); (try clear hb2); (try clear hk); (try clear hi)) | ((with_reducible refine gate_dst (N := 3) rfl ?_); refine box_event rfl (N := 3) rfl (cs := #[.int .i64 0, .string (⟨#[]⟩ : ByteArray), .bool false, .bool false]) (t := 63) jW ?_; intro gb108 hg w22 hbox hb; have n0_ := Aside0.mk (jB BK102 hb); have n1_ := Aside0.mk (zT (jH HB) hb); have n2_ := Aside0.mk hbox; have n3_ := Aside0.mk (jG hg HB); have n4_ := Aside0.mk (jG hg HB); have n5_ := Aside0.mk (jN hg BK102); have n6_ := Aside0.mk (jM hg BK102); clear BK102; clear HB; have BK102 := n0_; have HB := n1_; have BK108 := n2_; have GW108 := n3_; have GE108 := n4_; have NB102_108 := n5_; have NB108_102 := n6_; clear n0_ n1_ n2_ n3_ n4_ n5_ n6_; clear hb hbox hg; have hnb23 := NB108_102.out; have hnc23 := NB102_108.out; have hcz24_0 : w22.cell? ⟨gb108, 0, none⟩ = some (.int .i64 0) := (kC BK108.out 0).trans rfl; have hcz24_1 : w22.cell? ⟨gb108, 1, none⟩ = some (.string (⟨#[]⟩ : ByteArray)) := (kC BK108.out 1).trans rfl; have hcz24_2 : w22.cell? ⟨gb108, 2, none⟩ = some (.bool false) := (kC BK108.out 2).trans rfl; have hcz24_3 : w22.cell? ⟨gb108, 3, none⟩ = some (.bool false) := (kC BK108.out 3).trans rfl; have hfz24_0 := kF BK108.out 0; have hfz24_1 := kF BK108.out 1; have hfz24_2 := kF BK108.out 2; have hfz24_3 := kF BK108.out 3))
  go_ret
  exact ⟨jE, jH HB⟩
-- NOT PRINTED: function 34 (check_rules)
end Go.Proofs.YtohpbjnihmcelaaDoor.M
