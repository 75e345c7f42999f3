/- What Go functions compute; their calls come to it. No condition. -/
import Derived.Test.YtahacmdhhfmhiaaDoorM0
namespace Go.Proofs.YtahacmdhhfmhiaaDoor.M
open Go.RowKit Go.Proofs.YtahacmdhhfmhiaaDoorW.PrintWords Go.Proofs.YtahacmdhhfmhiaaDoorW.PrintLast Go.Proofs.YtahacmdhhfmhiaaDoorW.PrintMore
attribute [local go_sem] max2_int min2_int max_two min_two max_three min_three max_four min_four   -- for this text's walks alone
set_option linter.unusedVariables false
set_option linter.unusedSimpArgs false
theorem eqA59 (d : Nat) (w : World) (x0 y0 : Int) (x1 y1 : Int) (x2 y2 : Int) (x3 y3 : Int) :
  (Op.equalIn (d + 2) 59 (.agg #[.int .i64 x0, .int .i64 x1, .int .i64 x2, .int .u32 x3]) (.agg #[.int .i64 y0, .int .i64 y1, .int .i64 y2, .int .u32 y3])).run Tryd.prog w = .ok (x0 == y0 && (x1 == y1 && (x2 == y2 && (x3 == y3)))) w := by
 refine eqA_of Tryd.underlying59 (by kernel_rfl) ?_
 refine eqf_cons (by rfl) (by go_simp; rfl) (by go_simp; rfl) (by go_simp) ?_
 refine eqf_cons (by rfl) (by go_simp; rfl) (by go_simp; rfl) (by go_simp) ?_
 refine eqf_cons (by rfl) (by go_simp; rfl) (by go_simp; rfl) (by go_simp) ?_
 exact eqf_last (by rfl) (by go_simp; rfl) (by go_simp; rfl) (by go_simp)
def l21_Great.l0 : Nat → List (S42) → Int → Option (Bool)
 | 0, _, _ => none
 | k + 1, x0, x3 => if x3 < (x0.length : Int) then (if 0 ≤ x3 then (if (((rd_T42 x0 x3).f0).length : Int) > 100 then (some true) else (if (((rd_T42 x0 x3).f1).length : Int) > 100 then (some true) else (l21_Great.l0 k x0 (wrap64 (x3 + 1))))) else (none)) else (some (decide ((x0.length : Int) > 100)))
def l21_Great.f (k : Nat) (l0 : List (S42)) : Option (Bool) := l21_Great.l0 k l0 0
set_option maxHeartbeats 8000000 in
set_option maxRecDepth 100000 in
theorem l21_Great.calls (k : Nat) (A0 : Option Addr) (c0 : Nat) (l0 : List (S42)) (r : Bool) (w : World) (hr0 : Kd.C k42 w A0 l0.length l0) (hc0 : l0.length ≤ c0) (h : l21_Great.f k l0 = some r) :
  Calls Tryd.prog 10 #[.slice A0 l0.length c0] w fun e w' => e = .returned (.bool r) ∧ Drawn0 w w' := by
 have HR0 := Aside0.mk hr0
 have HC0 := Aside0.mk hc0
 clear hr0 hc0
 have H : (l21_Great.l0 k l0 0) = some r := h
 clear h
 have H' := Aside0.mk H
 clear H
 go_enter Tryd.func10, Tryd.ntmps10
 go_wp2
 go_loopg [3] k (fun kq v3 w' => ∃ (x3_1 : Int), v3 = .int .i64 x3_1 ∧ Aside0 (l21_Great.l0 kq l0 x3_1 = some r) ∧ Aside0 (kq ≤ k) ∧ Drawn0 w w')
 case atStart => exact ⟨(0), jS, H', ⟨Nat.le_refl _⟩, by repeat (first | exact Drawn0.refl _ | apply Drawn0.step)⟩
 case round =>
  clear H'
  obtain ⟨x3_1, rfl, HA, HK1, ⟨m1, rfl⟩⟩ := hrel
  cases gk with
  | zero => exact absurd HA.out (by simp [l21_Great.l0])
  | succ k1 =>
   have H := HA.out
   clear HA
   simp only [l21_Great.l0] at H
   by_cases c2 : x3_1 < (l0.length : Int)
   ·rw [if_pos c2] at H
    have c2b0 := dT c2
    clear c2
    by_cases c3 : 0 ≤ x3_1
    ·rw [if_pos c3] at H
     have c3b0 := dT c3
     clear c3
     by_cases c4 : (((rd_T42 l0 x3_1).f0).length : Int) > 100
     ·rw [if_pos c4] at H
      have c4b0 : decide (100 < (((rd_T42 l0 x3_1).f0).length : Int)) = true := dT c4
      have c4b1 : decide (100 < ((rd_T42 l0 x3_1).f0).length) = true := dT (by omega)
      clear c4
      obtain rfl := Option.some.inj H
      have p101 : 0 ≤ (x3_1 : Int) := oD (jA)
      have q101 : x3_1 < (l0.length : Int) := oD (jA)
      obtain ⟨ad101, A101_0, c101_0, A101_1, c101_1, e101, hx101_0, hx101_1, hx101_2, hl101_0, hi101_0, hl101_1, hi101_1⟩ := at_T42 HR0.out x3_1 p101 q101
      cases e101
      have HR101_0 := Aside0.mk hi101_0
      have HC101_0 := Aside0.mk hl101_0
      clear hi101_0 hl101_0
      have HR101_1 := Aside0.mk hi101_1
      have HC101_1 := Aside0.mk hl101_1
      clear hi101_1 hl101_1
      replace p101 := eq_true p101
      replace q101 := eq_true q101
      go_wp2
      go_ret
      exact ⟨by first | rfl | (simp; done) | (simp [*]; done), by repeat (first | exact Drawn0.refl _ | apply Drawn0.step)⟩
     ·rw [if_neg c4] at H
      have c4b0 : decide (100 < (((rd_T42 l0 x3_1).f0).length : Int)) = false := dF c4
      have c4b1 : decide (100 < ((rd_T42 l0 x3_1).f0).length) = false := dF (by omega)
      clear c4
      by_cases c5 : (((rd_T42 l0 x3_1).f1).length : Int) > 100
      ·rw [if_pos c5] at H
       have c5b0 : decide (100 < (((rd_T42 l0 x3_1).f1).length : Int)) = true := dT c5
       have c5b1 : decide (100 < ((rd_T42 l0 x3_1).f1).length) = true := dT (by omega)
       clear c5
       obtain rfl := Option.some.inj H
       have p101 : 0 ≤ (x3_1 : Int) := oD (jA)
       have q101 : x3_1 < (l0.length : Int) := oD (jA)
       obtain ⟨ad101, A101_0, c101_0, A101_1, c101_1, e101, hx101_0, hx101_1, hx101_2, hl101_0, hi101_0, hl101_1, hi101_1⟩ := at_T42 HR0.out x3_1 p101 q101
       cases e101
       have HR101_0 := Aside0.mk hi101_0
       have HC101_0 := Aside0.mk hl101_0
       clear hi101_0 hl101_0
       have HR101_1 := Aside0.mk hi101_1
       have HC101_1 := Aside0.mk hl101_1
       clear hi101_1 hl101_1
       replace p101 := eq_true p101
       replace q101 := eq_true q101
       have p102 : 0 ≤ (x3_1 : Int) := oD (jA)
       have q102 : x3_1 < (l0.length : Int) := oD (jA)
       obtain ⟨ad102, A102_0, c102_0, A102_1, c102_1, e102, hx102_0, hx102_1, hx102_2, hl102_0, hi102_0, hl102_1, hi102_1⟩ := at_T42 HR0.out x3_1 p102 q102
       obtain rfl : ad101 = ad102 := (by injection e102)
       have HR102_0 := Aside0.mk hi102_0
       have HC102_0 := Aside0.mk hl102_0
       clear hi102_0 hl102_0
       have HR102_1 := Aside0.mk hi102_1
       have HC102_1 := Aside0.mk hl102_1
       clear hi102_1 hl102_1
       replace p102 := eq_true p102
       replace q102 := eq_true q102
       have ea_ := Option.some.inj (hx101_0.symm.trans hx102_0)
       injection ea_ with ea_ en_ ec_
       subst ea_
       subst ec_
       clear en_
       have ea_ := Option.some.inj (hx101_1.symm.trans hx102_1)
       injection ea_ with ea_ en_ ec_
       subst ea_
       subst ec_
       clear en_
       go_wp2
       go_ret
       exact ⟨by first | rfl | (simp; done) | (simp [*]; done), by repeat (first | exact Drawn0.refl _ | apply Drawn0.step)⟩
      ·rw [if_neg c5] at H
       have c5b0 : decide (100 < (((rd_T42 l0 x3_1).f1).length : Int)) = false := dF c5
       have c5b1 : decide (100 < ((rd_T42 l0 x3_1).f1).length) = false := dF (by omega)
       clear c5
       have H' := Aside0.mk H
       clear H
       have p101 : 0 ≤ (x3_1 : Int) := oD (jA)
       have q101 : x3_1 < (l0.length : Int) := oD (jA)
       obtain ⟨ad101, A101_0, c101_0, A101_1, c101_1, e101, hx101_0, hx101_1, hx101_2, hl101_0, hi101_0, hl101_1, hi101_1⟩ := at_T42 HR0.out x3_1 p101 q101
       cases e101
       have HR101_0 := Aside0.mk hi101_0
       have HC101_0 := Aside0.mk hl101_0
       clear hi101_0 hl101_0
       have HR101_1 := Aside0.mk hi101_1
       have HC101_1 := Aside0.mk hl101_1
       clear hi101_1 hl101_1
       replace p101 := eq_true p101
       replace q101 := eq_true q101
       have p102 : 0 ≤ (x3_1 : Int) := oD (jA)
       have q102 : x3_1 < (l0.length : Int) := oD (jA)
       obtain ⟨ad102, A102_0, c102_0, A102_1, c102_1, e102, hx102_0, hx102_1, hx102_2, hl102_0, hi102_0, hl102_1, hi102_1⟩ := at_T42 HR0.out x3_1 p102 q102
       obtain rfl : ad101 = ad102 := (by injection e102)
       have HR102_0 := Aside0.mk hi102_0
       have HC102_0 := Aside0.mk hl102_0
       clear hi102_0 hl102_0
       have HR102_1 := Aside0.mk hi102_1
       have HC102_1 := Aside0.mk hl102_1
       clear hi102_1 hl102_1
       replace p102 := eq_true p102
       replace q102 := eq_true q102
       have ea_ := Option.some.inj (hx101_0.symm.trans hx102_0)
       injection ea_ with ea_ en_ ec_
       subst ea_
       subst ec_
       clear en_
       have ea_ := Option.some.inj (hx101_1.symm.trans hx102_1)
       injection ea_ with ea_ en_ ec_
       subst ea_
       subst ec_
       clear en_
       go_wp2
       go_roundg k1
       case measure => have := HK1.out; omega
       case rel => exact ⟨(wrap64 (x3_1 + 1)), jS, H', ⟨by have := HK1.out; omega⟩, by repeat (first | exact Drawn0.refl _ | apply Drawn0.step)⟩
    ·rw [if_neg c3] at H
     exact absurd H (by simp)
   ·rw [if_neg c2] at H
    have c2b0 := dF c2
    clear c2
    obtain rfl := Option.some.inj H
    go_wp2
    go_ret
    exact ⟨by first | rfl | (simp; done) | (simp [*]; done), by repeat (first | exact Drawn0.refl _ | apply Drawn0.step)⟩
def ins_of.f (a0 : Int) : Option (Int × ByteArray × Bool × Bool × Bool) := ofRest shapeT a0
set_option maxHeartbeats 8000000 in
set_option maxRecDepth 100000 in
theorem ins_of.calls (a0 : Int) (r1 : Int) (r2 : ByteArray) (r3 : Bool) (r4 : Bool) (r5 : Bool) (w : World) (hG : Glob w) (h : ins_of.f a0 = some (r1, r2, r3, r4, r5)) :
  Calls Tryd.prog 63 #[.int .i64 a0] w fun e w' => e = .returned (.tuple #[.agg #[.int .i64 r1, .string r2, .bool r3, .bool r4], .bool r5]) ∧ Below w.heap.size w w' := by
 have HG := Aside0.mk hG
 have HH : Aside0 (ofRest (shapeT.drop 0) a0 = some (r1, r2, r3, r4, r5)) := ⟨h⟩
 clear hG h
 go_enter Tryd.func63, Tryd.ntmps63
 go_wp2_with ((with_reducible refine gate_dst (N := 6) rfl ?_); refine wpList_shape_load 102 rfl rfl (HG.out.alloc _) Tryd.underlying102 (by kernel_rfl) ?_)
 have HB := Aside0.mk (Below.refl (w.heap.size + 1) (w.alloc (.cells #[.int .i64 0, .string ⟨#[]⟩, .bool false, .bool false] 95)))
 go_loopw [7] (fun v7 wr => ∃ i : Nat, i ≤ 39 ∧ v7 = .int .i64 (i : Int) ∧ Aside0 (ofRest (shapeT.drop i) a0 = some (r1, r2, r3, r4, r5)) ∧ Aside0 (Below (w.heap.size + 1) (w.alloc (.cells #[.int .i64 0, .string ⟨#[]⟩, .bool false, .bool false] 95)) wr)) (fun v7 _ => 39 - (intOf v7).toNat)
 case atStart => exact ⟨0, by omega, rfl, HH, HB⟩
 case round =>
  clear HB HH
  obtain ⟨i, hi, rfl, HH, HB⟩ := hrel
  by_cases hlt : i < 39
  ·have hidx := fun W => shape_index (P := Tryd.prog) W 102 95 i hlt Tryd.underlying102 Tryd.underlying95 (by kernel_rfl)
   obtain ⟨s, hs⟩ : ∃ s, s = shapeT.getD i shapeZ := ⟨_, rfl⟩
   rw [← hs] at hidx
   have hd := shape_snoc i hlt
   rw [← hs] at hd
   have HD := Aside0.mk hd
   clear hs hd
   obtain ⟨s1, s2, s3, s4⟩ := s
   simp only [shapeRow] at hidx
   by_cases he : s1 = a0
   ·subst he
    have HR : Aside0 (some (s1, s2, s3, s4, true) = some (r1, r2, r3, r4, r5)) := by
     constructor
     rw [← HH.out, HD.out]
     simp [ofRest]
    have hr := HR.out
    simp only [Option.some.injEq, Prod.mk.injEq] at hr
    obtain ⟨rfl, rfl, rfl, rfl, rfl⟩ := hr
    clear HH HD HR
    have hbk : wr.heap[w.heap.size]? = some (.cells #[.int .i64 0, .string ⟨#[]⟩, .bool false, .bool false] 95 (0, 0)) := (HB.out.block _ (Nat.lt_succ_self _)).trans (heap_alloc_new w _)
    have hsz : w.heap.size < wr.heap.size := by have := HB.out.size; simp at this; omega
    have hc0 : wr.cell? ⟨w.heap.size, 0, none⟩ = some (.int .i64 0) := by simp [World.cell?, hbk]
    have hc1 : wr.cell? ⟨w.heap.size, 1, none⟩ = some (.string ⟨#[]⟩) := by simp [World.cell?, hbk]
    have hc2 : wr.cell? ⟨w.heap.size, 2, none⟩ = some (.bool false) := by simp [World.cell?, hbk]
    have hc3 : wr.cell? ⟨w.heap.size, 3, none⟩ = some (.bool false) := by simp [World.cell?, hbk]
    have hf0 : wr.frozen? ⟨w.heap.size, 0, none⟩ = false := by simp [World.frozen?, hbk]
    have hf1 : wr.frozen? ⟨w.heap.size, 1, none⟩ = false := by simp [World.frozen?, hbk]
    have hf2 : wr.frozen? ⟨w.heap.size, 2, none⟩ = false := by simp [World.frozen?, hbk]
    have hf3 : wr.frozen? ⟨w.heap.size, 3, none⟩ = false := by simp [World.frozen?, hbk]
    clear hbk
    go_wp2
    refine bodyPost_ret (v := .tuple #[.agg #[.int .i64 s1, .string s2, .bool s3, .bool s4], .bool true]) (by simp [results, Tryd.results63, go_sem, hc0, hc1, hc2, hc3, hsz]) rfl ⟨rfl, ?_⟩
    have HBw : Below w.heap.size w wr := ((Below.refl w.heap.size w).alloc (Nat.le_refl _) _).trans (HB.out.mono (Nat.le_succ _))
    exact ((((HBw.setCell (Nat.le_refl _) _).setCell (Nat.le_refl _) _).setCell (Nat.le_refl _) _).setCell (Nat.le_refl _) _).alloc (by simp; omega) _
   ·have heb : (s1 == a0) = false := bF.mpr he
    have HH2 : Aside0 (ofRest (shapeT.drop (i + 1)) a0 = some (r1, r2, r3, r4, r5)) := by
     constructor
     rw [← HH.out, HD.out]
     simp [ofRest, heb]
    clear HH HD he
    go_wp2
    go_roundw
    case rel => exact ⟨i + 1, by omega, by go_num, HH2, ⟨HB.out.alloc (by have := HB.out.size; simp at this; omega) _⟩⟩
    case measure => simp [intOf]; omega
  ·obtain rfl : i = 39 := by omega
   have HR : Aside0 (some (0, ⟨#[]⟩, false, false, false) = some (r1, r2, r3, r4, r5)) := by
    constructor
    rw [← HH.out]
    rfl
   have hr := HR.out
   simp only [Option.some.injEq, Prod.mk.injEq] at hr
   obtain ⟨rfl, rfl, rfl, rfl, rfl⟩ := hr
   clear HH HR
   have hbk : wr.heap[w.heap.size]? = some (.cells #[.int .i64 0, .string ⟨#[]⟩, .bool false, .bool false] 95 (0, 0)) := (HB.out.block _ (Nat.lt_succ_self _)).trans (heap_alloc_new w _)
   have hsz : w.heap.size < wr.heap.size := by have := HB.out.size; simp at this; omega
   have hc0 : wr.cell? ⟨w.heap.size, 0, none⟩ = some (.int .i64 0) := by simp [World.cell?, hbk]
   have hc1 : wr.cell? ⟨w.heap.size, 1, none⟩ = some (.string ⟨#[]⟩) := by simp [World.cell?, hbk]
   have hc2 : wr.cell? ⟨w.heap.size, 2, none⟩ = some (.bool false) := by simp [World.cell?, hbk]
   have hc3 : wr.cell? ⟨w.heap.size, 3, none⟩ = some (.bool false) := by simp [World.cell?, hbk]
   have hf0 : wr.frozen? ⟨w.heap.size, 0, none⟩ = false := by simp [World.frozen?, hbk]
   have hf1 : wr.frozen? ⟨w.heap.size, 1, none⟩ = false := by simp [World.frozen?, hbk]
   have hf2 : wr.frozen? ⟨w.heap.size, 2, none⟩ = false := by simp [World.frozen?, hbk]
   have hf3 : wr.frozen? ⟨w.heap.size, 3, none⟩ = false := by simp [World.frozen?, hbk]
   clear hbk
   go_wp2
   refine bodyPost_ret (v := .tuple #[.agg #[.int .i64 0, .string ⟨#[]⟩, .bool false, .bool false], .bool false]) (by simp [results, Tryd.results63, go_sem, hc0, hc1, hc2, hc3, hsz]) rfl ⟨rfl, ?_⟩
   have HBw : Below w.heap.size w wr := ((Below.refl w.heap.size w).alloc (Nat.le_refl _) _).trans (HB.out.mono (Nat.le_succ _))
   exact (((HBw.setCell (Nat.le_refl _) _).setCell (Nat.le_refl _) _).setCell (Nat.le_refl _) _).setCell (Nat.le_refl _) _
def ins_Right.j0 : Nat → Bool → Int → Int → Int → Int → Int → ByteArray → Bool → Bool → Option (Bool)
 | 0, _, _, _, _, _, _, _, _, _ => none
 | k + 1, x22, x104000, x104001, x104002, x104003, x110000, x110001, x110002, x110003 => if x22 = true then (some false) else (if x110003 = true then (if x104001 ≥ 0 then (if x104001 ≤ 255 then (if x104002 ≥ 0 then (some (decide (x104002 ≤ 255))) else (some false)) else (some false)) else (some false)) else (if x104001 = 0 then (some (x104002 == 0)) else (some false)))
def ins_Right.f (k : Nat) (a0_0 : Int) (a0_1 : Int) (a0_2 : Int) (a0_3 : Int) : Option (Bool) := (ins_of.f a0_0).bind fun bt104 => (if bt104.2.2.2.2 = true then (if bt104.2.2.1 = true then (ins_Right.j0 k false a0_0 a0_1 a0_2 a0_3 bt104.1 bt104.2.1 bt104.2.2.1 bt104.2.2.2.1) else (ins_Right.j0 k (a0_3 != 0) a0_0 a0_1 a0_2 a0_3 bt104.1 bt104.2.1 bt104.2.2.1 bt104.2.2.2.1)) else (ins_Right.j0 k true a0_0 a0_1 a0_2 a0_3 bt104.1 bt104.2.1 bt104.2.2.1 bt104.2.2.2.1))
set_option maxHeartbeats 8000000 in
set_option maxRecDepth 100000 in
theorem ins_Right.calls (k : Nat) (a0_0 : Int) (a0_1 : Int) (a0_2 : Int) (a0_3 : Int) (r : Bool) (w : World) (hG : Glob w) (h : ins_Right.f k a0_0 a0_1 a0_2 a0_3 = some r) :
  Calls Tryd.prog 59 #[.agg #[.int .i64 a0_0, .int .i64 a0_1, .int .i64 a0_2, .int .u32 a0_3]] w fun e w' => e = .returned (.bool r) ∧ Below w.heap.size w w' := by
 have hu59 := Tryd.underlying59
 have hu95 := Tryd.underlying95
 have HG := Aside0.mk hG
 clear hG
 have HB := Aside0.mk (Below.refl w.heap.size w)
 have H : ((ins_of.f a0_0).bind fun bt104 => (if bt104.2.2.2.2 = true then (if bt104.2.2.1 = true then (ins_Right.j0 k false a0_0 a0_1 a0_2 a0_3 bt104.1 bt104.2.1 bt104.2.2.1 bt104.2.2.2.1) else (ins_Right.j0 k (a0_3 != 0) a0_0 a0_1 a0_2 a0_3 bt104.1 bt104.2.1 bt104.2.2.1 bt104.2.2.2.1)) else (ins_Right.j0 k true a0_0 a0_1 a0_2 a0_3 bt104.1 bt104.2.1 bt104.2.2.1 bt104.2.2.2.1))) = some r := h
 clear h
 replace H := Option.bind_eq_some_iff.mp H
 obtain ⟨⟨t104, t105, t106, t107, t108⟩, A20, H⟩ := H
 try dsimp only at H
 have A2 := Aside0.mk A20
 clear A20
 have HC3 := Aside0.mk H
 clear H
 go_enter Tryd.func59, Tryd.ntmps59
 go_upto_region 2 with (first | ((with_reducible refine gate_dst (N := 1) rfl ?_); refine box_event rfl (N := 1) rfl (cs := #[.int .i64 a0_0, .int .i64 a0_1, .int .i64 a0_2, .int .u32 a0_3]) (t := 59) jW ?_; intro gb103 hg w4 hbox hb; have BK103 := Aside0.mk hbox; have GW103 := Aside0.mk (jG hg HB); have GE103 := Aside0.mk (jG hg HB); replace HB := Aside0.mk (zT (jH HB) hb); clear hb hbox hg; obtain ⟨hcz5_0, hcz5_1, hcz5_2, hcz5_3, hfz5_0, hfz5_1, hfz5_2, hfz5_3⟩ := kQ4 BK103.out) | ((with_reducible refine gate_callee (f := 63) rfl ?_); refine goesL_ (some 8) rfl rfl Tryd.func63 (by kernel_rfl) rfl #[.int .i64 a0_0] rfl jZ ?_; (with_reducible refine (ins_of.calls a0_0 t104 t105 t106 t107 t108 _ ?side1 A2.out).mono ?_); (case side1 => exact Glob.below HG.out (jH HB)); rintro e w6 ⟨rfl, hb⟩; refine ⟨_, rfl, ?_⟩; replace BK103 := Aside0.mk (jB BK103 hb); replace HB := Aside0.mk (zT (jH HB) hb); (try clear hb); (try clear hb2); (try clear hk); (try clear hi)) | ((with_reducible refine gate_dst (N := 3) rfl ?_); refine box_event rfl (N := 3) rfl (cs := #[.int .i64 0, .string (⟨#[]⟩ : ByteArray), .bool false, .bool false]) (t := 95) jW ?_; intro gb109 hg w7 hbox hb; have BK109 := Aside0.mk hbox; have GW109 := Aside0.mk (jG hg HB); have GE109 := Aside0.mk (jG hg HB); have NB103_109 := Aside0.mk (jN hg BK103); have NB109_103 := Aside0.mk (jM hg BK103); replace BK103 := Aside0.mk (jB BK103 hb); replace HB := Aside0.mk (zT (jH HB) hb); clear hb hbox hg; have hnb8 := NB109_103.out; have hnc8 := NB103_109.out; obtain ⟨hcz9_0, hcz9_1, hcz9_2, hcz9_3, hfz9_0, hfz9_1, hfz9_2, hfz9_3⟩ := kQ4 BK109.out))
 (try simp only [Act.put, List.setIfInBounds_toArray, List.set_cons_zero, List.set_cons_succ])
 go_cut [22] (fun v22 wc => ∃ (kq : Nat) (x22_2 : Bool), v22 = .bool x22_2 ∧ Aside0 (ins_Right.j0 kq x22_2 a0_0 a0_1 a0_2 a0_3 t104 t105 t106 t107 = some r) ∧ Aside0 (kq ≤ k) ∧ Aside0 (wc.heap[gb103]? = some (.cells #[.int .i64 a0_0, .int .i64 a0_1, .int .i64 a0_2, .int .u32 a0_3] 59 (0, 0))) ∧ Aside0 (wc.heap[gb109]? = some (.cells #[.int .i64 t104, .string t105, .bool t106, .bool t107] 95 (0, 0))) ∧ Aside0 (Below w.heap.size w wc))
 case first =>
  have H := HC3.out
  clear HC3
  by_cases c10 : t108 = true
  ·subst c10
   rw [if_pos rfl] at H
   by_cases c11 : t106 = true
   ·subst c11
    rw [if_pos rfl] at H
    have H' := Aside0.mk H
    clear H
    have hnb12 := NB109_103.out
    have hnc12 := NB103_109.out
    obtain ⟨hcz13_0, hcz13_1, hcz13_2, hcz13_3, hfz13_0, hfz13_1, hfz13_2, hfz13_3⟩ := kQ4 BK109.out
    go_wp2
    go_meet
    case rel => exact ⟨_, (false), jS, H', ⟨jO⟩, ⟨by (with_reducible repeat (first | refine kN ?_ _ | refine kD ?_ | refine kA ?_ _)); refine kR ?_ NB103_109.out _; (with_reducible repeat (first | refine kN ?_ _ | refine kD ?_ | refine kA ?_ _)); refine kR ?_ NB103_109.out _; (with_reducible repeat (first | refine kN ?_ _ | refine kD ?_ | refine kA ?_ _)); refine kR ?_ NB103_109.out _; (with_reducible repeat (first | refine kN ?_ _ | refine kD ?_ | refine kA ?_ _)); refine kR ?_ NB103_109.out _; (with_reducible repeat (first | refine kN ?_ _ | refine kD ?_ | refine kA ?_ _)); exact BK103.out⟩, ⟨by (with_reducible repeat (first | refine kN ?_ _ | refine kD ?_ | refine kA ?_ _)); refine kP (cs := #[.int .i64 t104, .string t105, .bool true, .bool false]) ?_ 3 _ rfl; (with_reducible repeat (first | refine kN ?_ _ | refine kD ?_ | refine kA ?_ _)); refine kP (cs := #[.int .i64 t104, .string t105, .bool false, .bool false]) ?_ 2 _ rfl; (with_reducible repeat (first | refine kN ?_ _ | refine kD ?_ | refine kA ?_ _)); refine kP (cs := #[.int .i64 t104, .string (⟨#[]⟩ : ByteArray), .bool false, .bool false]) ?_ 1 _ rfl; (with_reducible repeat (first | refine kN ?_ _ | refine kD ?_ | refine kA ?_ _)); refine kP (cs := #[.int .i64 0, .string (⟨#[]⟩ : ByteArray), .bool false, .bool false]) ?_ 0 _ rfl; (with_reducible repeat (first | refine kN ?_ _ | refine kD ?_ | refine kA ?_ _)); exact BK109.out⟩, ⟨jH HB⟩⟩
   ·replace c11 := Bool.eq_false_iff.mpr c11
    subst c11
    rw [if_neg (show ¬ (false = true) by decide)] at H
    have H' := Aside0.mk H
    clear H
    have hnb14 := NB109_103.out
    have hnc14 := NB103_109.out
    obtain ⟨hcz15_0, hcz15_1, hcz15_2, hcz15_3, hfz15_0, hfz15_1, hfz15_2, hfz15_3⟩ := kQ4 BK109.out
    obtain ⟨hcz16_0, hcz16_1, hcz16_2, hcz16_3, hfz16_0, hfz16_1, hfz16_2, hfz16_3⟩ := kQ4 BK103.out
    go_wp2
    go_meet
    case rel => exact ⟨_, ((a0_3 != 0)), jS, H', ⟨jO⟩, ⟨by (with_reducible repeat (first | refine kN ?_ _ | refine kD ?_ | refine kA ?_ _)); refine kR ?_ NB103_109.out _; (with_reducible repeat (first | refine kN ?_ _ | refine kD ?_ | refine kA ?_ _)); refine kR ?_ NB103_109.out _; (with_reducible repeat (first | refine kN ?_ _ | refine kD ?_ | refine kA ?_ _)); refine kR ?_ NB103_109.out _; (with_reducible repeat (first | refine kN ?_ _ | refine kD ?_ | refine kA ?_ _)); refine kR ?_ NB103_109.out _; (with_reducible repeat (first | refine kN ?_ _ | refine kD ?_ | refine kA ?_ _)); exact BK103.out⟩, ⟨by (with_reducible repeat (first | refine kN ?_ _ | refine kD ?_ | refine kA ?_ _)); refine kP (cs := #[.int .i64 t104, .string t105, .bool false, .bool false]) ?_ 3 _ rfl; (with_reducible repeat (first | refine kN ?_ _ | refine kD ?_ | refine kA ?_ _)); refine kP (cs := #[.int .i64 t104, .string t105, .bool false, .bool false]) ?_ 2 _ rfl; (with_reducible repeat (first | refine kN ?_ _ | refine kD ?_ | refine kA ?_ _)); refine kP (cs := #[.int .i64 t104, .string (⟨#[]⟩ : ByteArray), .bool false, .bool false]) ?_ 1 _ rfl; (with_reducible repeat (first | refine kN ?_ _ | refine kD ?_ | refine kA ?_ _)); refine kP (cs := #[.int .i64 0, .string (⟨#[]⟩ : ByteArray), .bool false, .bool false]) ?_ 0 _ rfl; (with_reducible repeat (first | refine kN ?_ _ | refine kD ?_ | refine kA ?_ _)); exact BK109.out⟩, ⟨jH HB⟩⟩
  ·replace c10 := Bool.eq_false_iff.mpr c10
   subst c10
   rw [if_neg (show ¬ (false = true) by decide)] at H
   have H' := Aside0.mk H
   clear H
   go_wp2
   go_meet
   case rel => exact ⟨_, (true), jS, H', ⟨jO⟩, ⟨by (with_reducible repeat (first | refine kN ?_ _ | refine kD ?_ | refine kA ?_ _)); refine kR ?_ NB103_109.out _; (with_reducible repeat (first | refine kN ?_ _ | refine kD ?_ | refine kA ?_ _)); refine kR ?_ NB103_109.out _; (with_reducible repeat (first | refine kN ?_ _ | refine kD ?_ | refine kA ?_ _)); refine kR ?_ NB103_109.out _; (with_reducible repeat (first | refine kN ?_ _ | refine kD ?_ | refine kA ?_ _)); refine kR ?_ NB103_109.out _; (with_reducible repeat (first | refine kN ?_ _ | refine kD ?_ | refine kA ?_ _)); exact BK103.out⟩, ⟨by (with_reducible repeat (first | refine kN ?_ _ | refine kD ?_ | refine kA ?_ _)); refine kP (cs := #[.int .i64 t104, .string t105, .bool t106, .bool false]) ?_ 3 _ rfl; (with_reducible repeat (first | refine kN ?_ _ | refine kD ?_ | refine kA ?_ _)); refine kP (cs := #[.int .i64 t104, .string t105, .bool false, .bool false]) ?_ 2 _ rfl; (with_reducible repeat (first | refine kN ?_ _ | refine kD ?_ | refine kA ?_ _)); refine kP (cs := #[.int .i64 t104, .string (⟨#[]⟩ : ByteArray), .bool false, .bool false]) ?_ 1 _ rfl; (with_reducible repeat (first | refine kN ?_ _ | refine kD ?_ | refine kA ?_ _)); refine kP (cs := #[.int .i64 0, .string (⟨#[]⟩ : ByteArray), .bool false, .bool false]) ?_ 0 _ rfl; (with_reducible repeat (first | refine kN ?_ _ | refine kD ?_ | refine kA ?_ _)); exact BK109.out⟩, ⟨jH HB⟩⟩
 case rest =>
  clear HC3
  obtain ⟨kq, x22_2, rfl, HA, HJ2, BK103, BK109, HB⟩ := hcut
  cases kq with
  | zero => exact absurd HA.out (by simp [ins_Right.j0])
  | succ kj2 =>
   have H := HA.out
   clear HA
   simp only [ins_Right.j0] at H
   by_cases c17 : x22_2 = true
   ·subst c17
    rw [if_pos rfl] at H
    obtain rfl := Option.some.inj H
    go_wp2
    go_ret
    exact ⟨jE, jH HB⟩
   ·replace c17 := Bool.eq_false_iff.mpr c17
    subst c17
    rw [if_neg (show ¬ (false = true) by decide)] at H
    by_cases c18 : t107 = true
    ·subst c18
     rw [if_pos rfl] at H
     by_cases c19 : a0_1 ≥ 0
     ·rw [if_pos c19] at H
      have c19b0 : decide (0 ≤ a0_1) = true := dT c19
      clear c19
      by_cases c20 : a0_1 ≤ 255
      ·rw [if_pos c20] at H
       have c20b0 := dT c20
       clear c20
       by_cases c21 : a0_2 ≥ 0
       ·rw [if_pos c21] at H
        have c21b0 : decide (0 ≤ a0_2) = true := dT c21
        clear c21
        obtain rfl := Option.some.inj H
        have hnb22 := NB109_103.out
        have hnc22 := NB103_109.out
        obtain ⟨hcz23_0, hcz23_1, hcz23_2, hcz23_3, hfz23_0, hfz23_1, hfz23_2, hfz23_3⟩ := kQ4 BK109.out
        obtain ⟨hcz24_0, hcz24_1, hcz24_2, hcz24_3, hfz24_0, hfz24_1, hfz24_2, hfz24_3⟩ := kQ4 BK103.out
        go_wp2
        go_ret
        exact ⟨jE, jH HB⟩
       ·rw [if_neg c21] at H
        have c21b0 : decide (0 ≤ a0_2) = false := dF c21
        clear c21
        obtain rfl := Option.some.inj H
        have hnb25 := NB109_103.out
        have hnc25 := NB103_109.out
        obtain ⟨hcz26_0, hcz26_1, hcz26_2, hcz26_3, hfz26_0, hfz26_1, hfz26_2, hfz26_3⟩ := kQ4 BK109.out
        obtain ⟨hcz27_0, hcz27_1, hcz27_2, hcz27_3, hfz27_0, hfz27_1, hfz27_2, hfz27_3⟩ := kQ4 BK103.out
        go_wp2
        go_ret
        exact ⟨jE, jH HB⟩
      ·rw [if_neg c20] at H
       have c20b0 := dF c20
       clear c20
       obtain rfl := Option.some.inj H
       have hnb28 := NB109_103.out
       have hnc28 := NB103_109.out
       obtain ⟨hcz29_0, hcz29_1, hcz29_2, hcz29_3, hfz29_0, hfz29_1, hfz29_2, hfz29_3⟩ := kQ4 BK109.out
       obtain ⟨hcz30_0, hcz30_1, hcz30_2, hcz30_3, hfz30_0, hfz30_1, hfz30_2, hfz30_3⟩ := kQ4 BK103.out
       go_wp2
       go_ret
       exact ⟨jE, jH HB⟩
     ·rw [if_neg c19] at H
      have c19b0 : decide (0 ≤ a0_1) = false := dF c19
      clear c19
      obtain rfl := Option.some.inj H
      have hnb31 := NB109_103.out
      have hnc31 := NB103_109.out
      obtain ⟨hcz32_0, hcz32_1, hcz32_2, hcz32_3, hfz32_0, hfz32_1, hfz32_2, hfz32_3⟩ := kQ4 BK109.out
      obtain ⟨hcz33_0, hcz33_1, hcz33_2, hcz33_3, hfz33_0, hfz33_1, hfz33_2, hfz33_3⟩ := kQ4 BK103.out
      go_wp2
      go_ret
      exact ⟨jE, jH HB⟩
    ·replace c18 := Bool.eq_false_iff.mpr c18
     subst c18
     rw [if_neg (show ¬ (false = true) by decide)] at H
     by_cases c34 : a0_1 = 0
     ·rw [if_pos c34] at H
      have c34b0 : (a0_1 == 0) = true := bI.mpr c34
      have c34b1 : (a0_1 != 0) = false := nF.mpr c34
      clear c34
      obtain rfl := Option.some.inj H
      have hnb35 := NB109_103.out
      have hnc35 := NB103_109.out
      obtain ⟨hcz36_0, hcz36_1, hcz36_2, hcz36_3, hfz36_0, hfz36_1, hfz36_2, hfz36_3⟩ := kQ4 BK109.out
      obtain ⟨hcz37_0, hcz37_1, hcz37_2, hcz37_3, hfz37_0, hfz37_1, hfz37_2, hfz37_3⟩ := kQ4 BK103.out
      go_wp2
      go_ret
      exact ⟨jE, jH HB⟩
     ·rw [if_neg c34] at H
      have c34b0 : (a0_1 == 0) = false := bF.mpr c34
      have c34b1 : (a0_1 != 0) = true := nI.mpr c34
      obtain rfl := Option.some.inj H
      have hnb38 := NB109_103.out
      have hnc38 := NB103_109.out
      obtain ⟨hcz39_0, hcz39_1, hcz39_2, hcz39_3, hfz39_0, hfz39_1, hfz39_2, hfz39_3⟩ := kQ4 BK109.out
      obtain ⟨hcz40_0, hcz40_1, hcz40_2, hcz40_3, hfz40_0, hfz40_1, hfz40_2, hfz40_3⟩ := kQ4 BK103.out
      go_wp2
      go_ret
      exact ⟨jE, jH HB⟩
def codec_check.l0 : Nat → List (S59) → Int → Int → Option (Int)
 | 0, _, _, _ => none
 | k + 1, x8, x9, x10 => if x10 < x9 then (if 0 ≤ x10 then (if x10 < (x8.length : Int) then ((ins_Right.f k ((rd_T59 x8 x10).f0) ((rd_T59 x8 x10).f1) ((rd_T59 x8 x10).f2) ((rd_T59 x8 x10).f3)).bind fun t112 => (if t112 = true then (codec_check.l0 k x8 x9 (wrap64 (x10 + 1))) else (some 1))) else (none)) else (none)) else (some 0)
def codec_check.f (k : Nat) (l0 : List (S59)) : Option (Int) := if (l0.length : Int) > 4096 then (some 3) else (codec_check.l0 k l0 (l0.length : Int) 0)
set_option maxHeartbeats 8000000 in
set_option maxRecDepth 100000 in
theorem codec_check.calls (k : Nat) (A0 : Option Addr) (c0 : Nat) (l0 : List (S59)) (r : Int) (w : World) (hr0 : Kd.C k59 w A0 l0.length l0) (hc0 : l0.length ≤ c0) (hG : Glob w) (h : codec_check.f k l0 = some r) :
  Calls Tryd.prog 51 #[.slice A0 l0.length c0] w fun e w' => e = .returned (.int .i64 r) ∧ Below w.heap.size w w' := by
 have hu59 := Tryd.underlying59
 have HG := Aside0.mk hG
 clear hG
 have HR0 := Aside0.mk hr0
 have HC0 := Aside0.mk hc0
 clear hr0 hc0
 have HB := Aside0.mk (Below.refl w.heap.size w)
 have H : (if (l0.length : Int) > 4096 then (some 3) else (codec_check.l0 k l0 (l0.length : Int) 0)) = some r := h
 clear h
 by_cases c2 : (l0.length : Int) > 4096
 ·rw [if_pos c2] at H
  have c2b0 : decide (4096 < (l0.length : Int)) = true := dT c2
  have c2b1 : decide (4096 < l0.length) = true := dT (by omega)
  clear c2
  obtain rfl := Option.some.inj H
  go_enter Tryd.func51, Tryd.ntmps51
  go_wp2
  go_ret
  exact ⟨jE, jH HB⟩
 ·rw [if_neg c2] at H
  have c2b0 : decide (4096 < (l0.length : Int)) = false := dF c2
  have c2b1 : decide (4096 < l0.length) = false := dF (by omega)
  clear c2
  have H' := Aside0.mk H
  clear H
  go_enter Tryd.func51, Tryd.ntmps51
  go_wp2
  go_loopg [10] k (fun kq v10 w' => ∃ (x10_1 : Int), v10 = .int .i64 x10_1 ∧ Aside0 (codec_check.l0 kq l0 (l0.length : Int) x10_1 = some r) ∧ Aside0 (kq ≤ k) ∧ Aside0 (Below w.heap.size w w'))
  case atStart => exact ⟨(0), jS, H', ⟨Nat.le_refl _⟩, ⟨jH HB⟩⟩
  case round =>
   clear H'
   obtain ⟨x10_1, rfl, HA, HK1, HB⟩ := hrel
   cases gk with
   | zero => exact absurd HA.out (by simp [codec_check.l0])
   | succ k1 =>
    have H := HA.out
    clear HA
    simp only [codec_check.l0] at H
    by_cases c3 : x10_1 < (l0.length : Int)
    ·rw [if_pos c3] at H
     have c3b0 := dT c3
     clear c3
     by_cases c4 : 0 ≤ x10_1
     ·rw [if_pos c4] at H
      have c4b0 := dT c4
      clear c4
      by_cases c5 : x10_1 < (l0.length : Int)
      ·rw [if_pos c5] at H
       have c5b0 := dT c5
       clear c5
       replace H := Option.bind_eq_some_iff.mp H
       obtain ⟨t112, A60, H⟩ := H
       try dsimp only at H
       have A6 := Aside0.mk A60
       clear A60
       by_cases c7 : t112 = true
       ·subst c7
        rw [if_pos rfl] at H
        have H' := Aside0.mk H
        clear H
        have p110 : 0 ≤ (x10_1 : Int) := oD (jA)
        have q110 : x10_1 < (l0.length : Int) := oD (jA)
        obtain ⟨ad110, e110, hx110_0, hx110_1, hx110_2, hx110_3⟩ := at_T59 HR0.out x10_1 p110 q110
        cases e110
        replace hx110_0 := (HB.out.cell (bL w _ hx110_0)).trans hx110_0
        replace hx110_1 := (HB.out.cell (bL w _ hx110_1)).trans hx110_1
        replace hx110_2 := (HB.out.cell (bL w _ hx110_2)).trans hx110_2
        replace hx110_3 := (HB.out.cell (bL w _ hx110_3)).trans hx110_3
        replace p110 := eq_true p110
        replace q110 := eq_true q110
        go_wp2_with (first | ((with_reducible refine gate_dst (N := 4) rfl ?_); refine box_event rfl (N := 4) rfl (cs := #[.int .i64 0, .int .i64 0, .int .i64 0, .int .u32 0]) (t := 59) jW ?_; intro gb111 hg w8 hbox hb; have BK111 := Aside0.mk hbox; have GW111 := Aside0.mk (jG hg HB); have GE111 := Aside0.mk (jG hg HB); replace HB := Aside0.mk (zT (jH HB) hb); clear hb hbox hg; obtain ⟨hcz9_0, hcz9_1, hcz9_2, hcz9_3, hfz9_0, hfz9_1, hfz9_2, hfz9_3⟩ := kQ4 BK111.out) | ((with_reducible refine gate_callee (f := 59) rfl ?_); refine goesL_ (some 15) rfl rfl Tryd.func59 (by kernel_rfl) rfl #[.agg #[.int .i64 ((rd_T59 l0 x10_1).f0), .int .i64 ((rd_T59 l0 x10_1).f1), .int .i64 ((rd_T59 l0 x10_1).f2), .int .u32 ((rd_T59 l0 x10_1).f3)]] rfl jZ ?_; (with_reducible refine (ins_Right.calls k1 ((rd_T59 l0 x10_1).f0) ((rd_T59 l0 x10_1).f1) ((rd_T59 l0 x10_1).f2) ((rd_T59 l0 x10_1).f3) true _ ?side1 A6.out).mono ?_); (case side1 => exact Glob.below HG.out (jH HB)); rintro e w10 ⟨rfl, hb⟩; refine ⟨_, rfl, ?_⟩; replace BK111 := Aside0.mk (kB (g := gb111) (o := .cells #[.int .i64 ((rd_T59 l0 x10_1).f0), .int .i64 ((rd_T59 l0 x10_1).f1), .int .i64 ((rd_T59 l0 x10_1).f2), .int .u32 ((rd_T59 l0 x10_1).f3)] 59 (0, 0)) (by (with_reducible repeat (first | refine kN ?_ _ | refine kD ?_ | refine kA ?_ _)); refine kP (cs := #[.int .i64 ((rd_T59 l0 x10_1).f0), .int .i64 ((rd_T59 l0 x10_1).f1), .int .i64 ((rd_T59 l0 x10_1).f2), .int .u32 0]) ?_ 3 _ rfl; (with_reducible repeat (first | refine kN ?_ _ | refine kD ?_ | refine kA ?_ _)); refine kP (cs := #[.int .i64 ((rd_T59 l0 x10_1).f0), .int .i64 ((rd_T59 l0 x10_1).f1), .int .i64 0, .int .u32 0]) ?_ 2 _ rfl; (with_reducible repeat (first | refine kN ?_ _ | refine kD ?_ | refine kA ?_ _)); refine kP (cs := #[.int .i64 ((rd_T59 l0 x10_1).f0), .int .i64 0, .int .i64 0, .int .u32 0]) ?_ 1 _ rfl; (with_reducible repeat (first | refine kN ?_ _ | refine kD ?_ | refine kA ?_ _)); refine kP (cs := #[.int .i64 0, .int .i64 0, .int .i64 0, .int .u32 0]) ?_ 0 _ rfl; (with_reducible repeat (first | refine kN ?_ _ | refine kD ?_ | refine kA ?_ _)); exact BK111.out) hb); replace HB := Aside0.mk (zT (jH HB) hb); (try clear hb); (try clear hb2); (try clear hk); (try clear hi)))
        go_roundg k1
        case measure => have := HK1.out; omega
        case rel => exact ⟨(wrap64 (x10_1 + 1)), jS, H', ⟨by have := HK1.out; omega⟩, ⟨jH HB⟩⟩
       ·replace c7 := Bool.eq_false_iff.mpr c7
        subst c7
        rw [if_neg (show ¬ (false = true) by decide)] at H
        obtain rfl := Option.some.inj H
        have p110 : 0 ≤ (x10_1 : Int) := oD (jA)
        have q110 : x10_1 < (l0.length : Int) := oD (jA)
        obtain ⟨ad110, e110, hx110_0, hx110_1, hx110_2, hx110_3⟩ := at_T59 HR0.out x10_1 p110 q110
        cases e110
        replace hx110_0 := (HB.out.cell (bL w _ hx110_0)).trans hx110_0
        replace hx110_1 := (HB.out.cell (bL w _ hx110_1)).trans hx110_1
        replace hx110_2 := (HB.out.cell (bL w _ hx110_2)).trans hx110_2
        replace hx110_3 := (HB.out.cell (bL w _ hx110_3)).trans hx110_3
        replace p110 := eq_true p110
        replace q110 := eq_true q110
        go_wp2_with (first | ((with_reducible refine gate_dst (N := 4) rfl ?_); refine box_event rfl (N := 4) rfl (cs := #[.int .i64 0, .int .i64 0, .int .i64 0, .int .u32 0]) (t := 59) jW ?_; intro gb111 hg w11 hbox hb; have BK111 := Aside0.mk hbox; have GW111 := Aside0.mk (jG hg HB); have GE111 := Aside0.mk (jG hg HB); replace HB := Aside0.mk (zT (jH HB) hb); clear hb hbox hg; obtain ⟨hcz12_0, hcz12_1, hcz12_2, hcz12_3, hfz12_0, hfz12_1, hfz12_2, hfz12_3⟩ := kQ4 BK111.out) | ((with_reducible refine gate_callee (f := 59) rfl ?_); refine goesL_ (some 15) rfl rfl Tryd.func59 (by kernel_rfl) rfl #[.agg #[.int .i64 ((rd_T59 l0 x10_1).f0), .int .i64 ((rd_T59 l0 x10_1).f1), .int .i64 ((rd_T59 l0 x10_1).f2), .int .u32 ((rd_T59 l0 x10_1).f3)]] rfl jZ ?_; (with_reducible refine (ins_Right.calls k1 ((rd_T59 l0 x10_1).f0) ((rd_T59 l0 x10_1).f1) ((rd_T59 l0 x10_1).f2) ((rd_T59 l0 x10_1).f3) false _ ?side1 A6.out).mono ?_); (case side1 => exact Glob.below HG.out (jH HB)); rintro e w13 ⟨rfl, hb⟩; refine ⟨_, rfl, ?_⟩; replace BK111 := Aside0.mk (kB (g := gb111) (o := .cells #[.int .i64 ((rd_T59 l0 x10_1).f0), .int .i64 ((rd_T59 l0 x10_1).f1), .int .i64 ((rd_T59 l0 x10_1).f2), .int .u32 ((rd_T59 l0 x10_1).f3)] 59 (0, 0)) (by (with_reducible repeat (first | refine kN ?_ _ | refine kD ?_ | refine kA ?_ _)); refine kP (cs := #[.int .i64 ((rd_T59 l0 x10_1).f0), .int .i64 ((rd_T59 l0 x10_1).f1), .int .i64 ((rd_T59 l0 x10_1).f2), .int .u32 0]) ?_ 3 _ rfl; (with_reducible repeat (first | refine kN ?_ _ | refine kD ?_ | refine kA ?_ _)); refine kP (cs := #[.int .i64 ((rd_T59 l0 x10_1).f0), .int .i64 ((rd_T59 l0 x10_1).f1), .int .i64 0, .int .u32 0]) ?_ 2 _ rfl; (with_reducible repeat (first | refine kN ?_ _ | refine kD ?_ | refine kA ?_ _)); refine kP (cs := #[.int .i64 ((rd_T59 l0 x10_1).f0), .int .i64 0, .int .i64 0, .int .u32 0]) ?_ 1 _ rfl; (with_reducible repeat (first | refine kN ?_ _ | refine kD ?_ | refine kA ?_ _)); refine kP (cs := #[.int .i64 0, .int .i64 0, .int .i64 0, .int .u32 0]) ?_ 0 _ rfl; (with_reducible repeat (first | refine kN ?_ _ | refine kD ?_ | refine kA ?_ _)); exact BK111.out) hb); replace HB := Aside0.mk (zT (jH HB) hb); (try clear hb); (try clear hb2); (try clear hk); (try clear hi)))
        go_ret
        exact ⟨jE, jH HB⟩
      ·rw [if_neg c5] at H
       exact absurd H (by simp)
     ·rw [if_neg c4] at H
      exact absurd H (by simp)
    ·rw [if_neg c3] at H
     have c3b0 := dF c3
     clear c3
     obtain rfl := Option.some.inj H
     go_wp2
     go_ret
     exact ⟨jE, jH HB⟩
mutual
def codec_Encode.l0 : Nat → List Int → List (S59) → Int → Int → Option (List Int × Int)
 | 0, _, _, _, _ => none
 | k + 1, x5, x14, x15, x16 => if x16 < x15 then (if 0 ≤ x16 then (if x16 < (x14.length : Int) then ((some (([((rd_T59 x14 x16).f0) % 256, (((rd_T59 x14 x16).f0) / 256) % 256, ((rd_T59 x14 x16).f1) % 256, ((rd_T59 x14 x16).f2) % 256] : List Int) : List Int)).bind fun y116 => (if x5.length + y116.length < 140737488355328 then (codec_Encode.l1 k (x5 ++ y116) x14 x15 x16 0 ((rd_T59 x14 x16).f0) ((rd_T59 x14 x16).f1) ((rd_T59 x14 x16).f2) ((rd_T59 x14 x16).f3)) else (none))) else (none)) else (none)) else (some (x5, 0))
def codec_Encode.l1 : Nat → List Int → List (S59) → Int → Int → Int → Int → Int → Int → Int → Option (List Int × Int)
 | 0, _, _, _, _, _, _, _, _, _ => none
 | k + 1, x5, x14, x15, x16, x36, x116000, x116001, x116002, x116003 => if x36 < 4 then (if 0 ≤ (wrap64 (8 * x36)) then (if x5.length < 140737488355328 then (codec_Encode.l1 k (x5 ++ [(shr .u32 x116003 (wrap64 (8 * x36))) % 256]) x14 x15 x16 (wrap64 (x36 + 1)) x116000 x116001 x116002 x116003) else (none)) else (none)) else (codec_Encode.l0 k x5 x14 x15 (wrap64 (x16 + 1)))
end
def codec_Encode.f (k : Nat) (l0 : List (S59)) : Option (List Int × Int) := (codec_check.f k l0).bind fun t113 => (if t113 = 0 then (codec_Encode.l0 k ([] : List Int) l0 (l0.length : Int) 0) else (some (([] : List Int), t113)))
set_option maxHeartbeats 8000000 in
set_option maxRecDepth 100000 in
theorem codec_Encode.calls (k : Nat) (A0 : Option Addr) (c0 : Nat) (l0 : List (S59)) (r1 : List Int) (r2 : Int) (w : World) (hr0 : Kd.C k59 w A0 l0.length l0) (hc0 : l0.length ≤ c0) (hG : Glob w) (h : codec_Encode.f k l0 = some (r1, r2)) :
  Calls Tryd.prog 41 #[.slice A0 l0.length c0] w fun e w' => ∃ v0_ : Value, e = .returned (.tuple #[v0_, .int .i64 r2]) ∧ Kd.R (Kd.int .u8) 5 w' w.heap.size (fun _ => True) v0_ r1 ∧ Below w.heap.size w w' := by
 have hu59 := Tryd.underlying59
 have HG := Aside0.mk hG
 clear hG
 have HR0 := Aside0.mk hr0
 have HC0 := Aside0.mk hc0
 clear hr0 hc0
 have HB := Aside0.mk (Below.refl w.heap.size w)
 have H : ((codec_check.f k l0).bind fun t113 => (if t113 = 0 then (codec_Encode.l0 k ([] : List Int) l0 (l0.length : Int) 0) else (some (([] : List Int), t113)))) = some (r1, r2) := h
 clear h
 replace H := Option.bind_eq_some_iff.mp H
 obtain ⟨t113, A20, H⟩ := H
 try dsimp only at H
 have A2 := Aside0.mk A20
 clear A20
 by_cases c3 : t113 = 0
 ·rw [if_pos c3] at H
  have c3b0 : (t113 == 0) = true := bI.mpr c3
  have c3b1 : (t113 != 0) = false := nF.mpr c3
  clear c3
  have H' := Aside0.mk H
  clear H
  go_enter Tryd.func41, Tryd.ntmps41
  go_wp2_with (first | ((with_reducible refine gate_callee (f := 51) rfl ?_); refine goesL_ (some 10) rfl rfl Tryd.func51 (by kernel_rfl) rfl #[.slice A0 l0.length c0] rfl jZ ?_; (with_reducible refine (codec_check.calls k _ _ l0 t113 _ ?side1 ?side2 ?side3 A2.out).mono ?_); (case side1 => repeat (first | exact HR0.out | (with_reducible refine Kd.C_alloc ?_ _) | (with_reducible refine Kd.C_drewN ?_ _) | (with_reducible refine Kd.C_drew ?_))); (case side2 => exact HC0.out); (case side3 => exact Glob.below HG.out (jH HB)); rintro e w4 ⟨rfl, hb⟩; refine ⟨_, rfl, ?_⟩; replace HB := Aside0.mk (zT (jH HB) hb); (try clear hb); (try clear hb2); (try clear hk); (try clear hi)))
  go_loopg [5, 16] k (fun kq v5 v16 w' => ∃ (x5_1 : List Int) (x16_1 : Int), v16 = .int .i64 x16_1 ∧ Aside0 (codec_Encode.l0 kq x5_1 l0 (l0.length : Int) x16_1 = some (r1, r2)) ∧ Aside0 (kq ≤ k) ∧ Aside0 (Kd.R (Kd.int .u8) 5 w' w.heap.size (fun _ => True) v5 x5_1) ∧ Aside0 (Below w.heap.size w w'))
  case atStart => exact ⟨(([] : List Int)), (0), jS, H', ⟨Nat.le_refl _⟩, ⟨by first | exact Kd.R_nil _ _ _ _ _ | exact Kd.N_nil _ _ _ _ _ | exact Kd.V_nil _ _ _ _ _ | exact Kd.Q_nil _ _ _ _ _ | exact Kd.S_nil _ _ _ _ _⟩, ⟨jH HB⟩⟩
  case round =>
   clear H'
   obtain ⟨x5_1, x16_1, rfl, HA, HK1, HO_5, HB⟩ := hrel
   cases gk with
   | zero => exact absurd HA.out (by simp [codec_Encode.l0])
   | succ k1 =>
    have H := HA.out
    clear HA
    simp only [codec_Encode.l0] at H
    by_cases c5 : x16_1 < (l0.length : Int)
    ·rw [if_pos c5] at H
     have c5b0 := dT c5
     clear c5
     by_cases c6 : 0 ≤ x16_1
     ·rw [if_pos c6] at H
      have c6b0 := dT c6
      clear c6
      by_cases c7 : x16_1 < (l0.length : Int)
      ·rw [if_pos c7] at H
       have c7b0 := dT c7
       clear c7
       obtain ⟨y116, hy116⟩ : ∃ y_ : List Int, y_ = (([((rd_T59 l0 x16_1).f0) % 256, (((rd_T59 l0 x16_1).f0) / 256) % 256, ((rd_T59 l0 x16_1).f1) % 256, ((rd_T59 l0 x16_1).f2) % 256] : List Int)) := ⟨_, rfl⟩
       simp only [Option.bind_some, ← hy116] at H
       have Ny116 := Aside0.mk hy116
       clear hy116
       by_cases c8 : x5_1.length + y116.length < 140737488355328
       ·rw [if_pos c8] at H
        have LMc8 := Aside0.mk c8
        clear c8
        obtain ⟨y119, hy119⟩ : ∃ y_ : List Int, y_ = (x5_1 ++ y116) := ⟨_, rfl⟩
        simp only [Option.bind_some, ← hy119] at H
        have Ny119 := Aside0.mk hy119
        clear hy119
        have H' := Aside0.mk H
        clear H
        have p114 : 0 ≤ (x16_1 : Int) := oD (jA)
        have q114 : x16_1 < (l0.length : Int) := oD (jA)
        obtain ⟨ad114, e114, hx114_0, hx114_1, hx114_2, hx114_3⟩ := at_T59 HR0.out x16_1 p114 q114
        cases e114
        replace hx114_0 := (HB.out.cell (bL w _ hx114_0)).trans hx114_0
        replace hx114_1 := (HB.out.cell (bL w _ hx114_1)).trans hx114_1
        replace hx114_2 := (HB.out.cell (bL w _ hx114_2)).trans hx114_2
        replace hx114_3 := (HB.out.cell (bL w _ hx114_3)).trans hx114_3
        replace p114 := eq_true p114
        replace q114 := eq_true q114
        go_wp2_with (first | ((with_reducible refine gate_dst (N := 7) rfl ?_); refine box_event rfl (N := 7) rfl (cs := #[.int .i64 0, .int .i64 0, .int .i64 0, .int .u32 0]) (t := 59) jW ?_; intro gb115 hg w9 hbox hb; have BK115 := Aside0.mk hbox; have GW115 := Aside0.mk (jG hg HB); have GE115 := Aside0.mk (jG hg HB); replace HO_5 := Aside0.mk (Kd.R_below (jR HO_5) hb); replace HB := Aside0.mk (zT (jH HB) hb); clear hb hbox hg; obtain ⟨hcz10_0, hcz10_1, hcz10_2, hcz10_3, hfz10_0, hfz10_1, hfz10_2, hfz10_3⟩ := kQ4 BK115.out) | ((with_reducible refine gate_dst (N := 34) rfl ?_); refine Kd.R_lit (Kd.int .u8) _ 5 ?hg (N := 34) ?hd (xs := ([((rd_T59 l0 x16_1).f0) % 256, (((rd_T59 l0 x16_1).f0) / 256) % 256, ((rd_T59 l0 x16_1).f1) % 256, ((rd_T59 l0 x16_1).f2) % 256] : List Int)) (inner := [.int .u8 (((rd_T59 l0 x16_1).f0) % 256), .int .u8 ((((rd_T59 l0 x16_1).f0) / 256) % 256), .int .u8 (((rd_T59 l0 x16_1).f1) % 256), .int .u8 (((rd_T59 l0 x16_1).f2) % 256)]) (ok := fun _ => True) (okp := fun _ => True) ?hr ?hp (fun _ hk => hk) trivial (Below.refl _ _) (Nat.le_refl _) (by simp) ?_; (case hd => rfl); (case hg => rfl); (case hr => first | (go_simp; done) | (go_simp; rfl)); (case hp => exact (Reps.one (show Kd.M (Kd.int .u8) _ _ _ (((rd_T59 l0 x16_1).f0) % 256) [.int .u8 (((rd_T59 l0 x16_1).f0) % 256)] from rfl) (Reps.one (show Kd.M (Kd.int .u8) _ _ _ ((((rd_T59 l0 x16_1).f0) / 256) % 256) [.int .u8 ((((rd_T59 l0 x16_1).f0) / 256) % 256)] from rfl) (Reps.one (show Kd.M (Kd.int .u8) _ _ _ (((rd_T59 l0 x16_1).f1) % 256) [.int .u8 (((rd_T59 l0 x16_1).f1) % 256)] from rfl) (Reps.one (show Kd.M (Kd.int .u8) _ _ _ (((rd_T59 l0 x16_1).f2) % 256) [.int .u8 (((rd_T59 l0 x16_1).f2) % 256)] from rfl) (Reps.none _ _)))))); intro v117 w11 ho12 hb hg_ hnew_; clear hg_ hnew_; (first | rw [← Ny116.out] at ho12 | (simp only [Int.reduceToNat] at ho12; rw [← Ny116.out] at ho12)); have HO118 := Aside0.mk (Kd.R_lower (Kd.R_new' ho12 (Kd.R_lt (by (with_reducible repeat (first | apply Kd.R_alloc | apply Kd.R_drewN | apply Kd.R_drew)); exact (Kd.R_mono (Kd.R_far (p := ⟨gb115, 3, none⟩) (Kd.R_far (p := ⟨gb115, 2, none⟩) (Kd.R_far (p := ⟨gb115, 1, none⟩) (Kd.R_far (p := ⟨gb115, 0, none⟩) (Kd.R_types HO_5.out BK115.out (by decide)) (fun _ hk => hk.2) (.int .i64 ((rd_T59 l0 x16_1).f0))) (fun _ hk => hk.2) (.int .i64 ((rd_T59 l0 x16_1).f1))) (fun _ hk => hk.2) (.int .i64 ((rd_T59 l0 x16_1).f2))) (fun _ hk => hk.2) (.int .u32 ((rd_T59 l0 x16_1).f3))) (fun _ h_ => h_.1))))) (zZ (jH HB))); replace HO_5 := Aside0.mk (Kd.R_elder' (by (with_reducible repeat (first | apply Kd.R_alloc | apply Kd.R_drewN | apply Kd.R_drew)); exact (Kd.R_mono (Kd.R_far (p := ⟨gb115, 3, none⟩) (Kd.R_far (p := ⟨gb115, 2, none⟩) (Kd.R_far (p := ⟨gb115, 1, none⟩) (Kd.R_far (p := ⟨gb115, 0, none⟩) (Kd.R_types HO_5.out BK115.out (by decide)) (fun _ hk => hk.2) (.int .i64 ((rd_T59 l0 x16_1).f0))) (fun _ hk => hk.2) (.int .i64 ((rd_T59 l0 x16_1).f1))) (fun _ hk => hk.2) (.int .i64 ((rd_T59 l0 x16_1).f2))) (fun _ hk => hk.2) (.int .u32 ((rd_T59 l0 x16_1).f3))) (fun _ h_ => h_.1))) (Kd.R_base ho12) hb); replace BK115 := Aside0.mk (kB (g := gb115) (o := .cells #[.int .i64 ((rd_T59 l0 x16_1).f0), .int .i64 ((rd_T59 l0 x16_1).f1), .int .i64 ((rd_T59 l0 x16_1).f2), .int .u32 ((rd_T59 l0 x16_1).f3)] 59 (0, 0)) (by (with_reducible repeat (first | refine kN ?_ _ | refine kD ?_ | refine kA ?_ _)); refine kP (cs := #[.int .i64 ((rd_T59 l0 x16_1).f0), .int .i64 ((rd_T59 l0 x16_1).f1), .int .i64 ((rd_T59 l0 x16_1).f2), .int .u32 0]) ?_ 3 _ rfl; (with_reducible repeat (first | refine kN ?_ _ | refine kD ?_ | refine kA ?_ _)); refine kP (cs := #[.int .i64 ((rd_T59 l0 x16_1).f0), .int .i64 ((rd_T59 l0 x16_1).f1), .int .i64 0, .int .u32 0]) ?_ 2 _ rfl; (with_reducible repeat (first | refine kN ?_ _ | refine kD ?_ | refine kA ?_ _)); refine kP (cs := #[.int .i64 ((rd_T59 l0 x16_1).f0), .int .i64 0, .int .i64 0, .int .u32 0]) ?_ 1 _ rfl; (with_reducible repeat (first | refine kN ?_ _ | refine kD ?_ | refine kA ?_ _)); refine kP (cs := #[.int .i64 0, .int .i64 0, .int .i64 0, .int .u32 0]) ?_ 0 _ rfl; (with_reducible repeat (first | refine kN ?_ _ | refine kD ?_ | refine kA ?_ _)); exact BK115.out) hb); replace HB := Aside0.mk (zT (jH HB) hb); clear hb ho12; obtain ⟨Ao14, co14, eo14⟩ := Kd.R_slice HO118.out; subst eo14) | ((with_reducible refine gate_builtin (b := .append) (xs := #[.tmp 20, .tmp 34]) rfl ?_); at_builtin; refine Kd.R_append_rows (Kd.int .u8) (w0 := w) w.heap.size rfl (.tmp 20) (.tmp 34) 25 5 (.int .u8 0) 1 rfl Tryd.underlying25 info5 rfl (by decide) (by omega) u5 x5_1 y116 _ _ _ (fun k_ => some k_ ≠ (.slice Ao14 y116.length co14 : Value).ownBlock) (fun _ => False) rfl rfl ?aO ?aR (fun _ _ h => h) (fun _ h => h.elim) ?aF ?aB ?aS ?aL ?_; (case aR => repeat (first | exact (Kd.R_reads' HO118.out).2.2 | (with_reducible refine Kd.C_alloc ?_ _) | (with_reducible refine Kd.C_drewN ?_ _) | (with_reducible refine Kd.C_drew ?_))); (case aB => exact (jH HB)); (case aF => exact (fun k_ hk => Kd.fresh' (Kd.R_lt (jR HO118)) k_ hk)); (case aO => exact (by (with_reducible repeat (first | apply Kd.R_alloc | apply Kd.R_drewN | apply Kd.R_drew)); exact Kd.R_mono HO_5.out (fun _ hk => hk.2))); (case aS => exact (zZ (jH HB))); (case aL => have := LMc8.out; omega); intro v120 w13 ho hb hg hat; rw [← Ny119.out] at ho; have HO121 := Aside0.mk (ho); replace BK115 := Aside0.mk (kG (g := gb115) (o := .cells #[.int .i64 ((rd_T59 l0 x16_1).f0), .int .i64 ((rd_T59 l0 x16_1).f1), .int .i64 ((rd_T59 l0 x16_1).f2), .int .u32 ((rd_T59 l0 x16_1).f3)] 59 (0, 0)) (jK BK115) hg (Kd.R_ne HO_5.out BK115.out (by decide))); replace HO118 := Aside0.mk (Kd.R_after (ok := (fun _ => True)) (jR HO118) hg hat); replace HB := Aside0.mk (hb); clear HO_5; clear ho hb hg hat))
        go_loopg [5, 36] k1 (fun kq v5 v36 w' => ∃ (x5_2 : List Int) (x36_2 : Int), v36 = .int .i64 x36_2 ∧ Aside0 (codec_Encode.l1 kq x5_2 l0 (l0.length : Int) x16_1 x36_2 ((rd_T59 l0 x16_1).f0) ((rd_T59 l0 x16_1).f1) ((rd_T59 l0 x16_1).f2) ((rd_T59 l0 x16_1).f3) = some (r1, r2)) ∧ Aside0 (kq ≤ k1) ∧ Aside0 (Kd.R (Kd.int .u8) 5 w' w.heap.size (fun _ => True) v5 x5_2) ∧ Aside0 (w'.heap[gb115]? = some (.cells #[.int .i64 ((rd_T59 l0 x16_1).f0), .int .i64 ((rd_T59 l0 x16_1).f1), .int .i64 ((rd_T59 l0 x16_1).f2), .int .u32 ((rd_T59 l0 x16_1).f3)] 59 (0, 0))) ∧ Aside0 (Below w.heap.size w w'))
        case atStart => exact ⟨(y119), (0), jS, H', ⟨Nat.le_refl _⟩, ⟨by (with_reducible repeat (first | apply Kd.R_alloc | apply Kd.R_drewN | apply Kd.R_drew)); exact Kd.R_mono HO121.out (fun _ hk => trivial)⟩, ⟨jK BK115⟩, ⟨jH HB⟩⟩
        case round =>
         clear H'
         obtain ⟨x5_2, x36_2, rfl, HA, HK2, HO_5, BK115, HB⟩ := hrel
         cases gk with
         | zero => exact absurd HA.out (by simp [codec_Encode.l1])
         | succ k2 =>
          have H := HA.out
          clear HA
          simp only [codec_Encode.l1] at H
          by_cases c15 : x36_2 < 4
          ·rw [if_pos c15] at H
           have c15b0 := dT c15
           clear c15
           obtain ⟨ji16, hji16⟩ : ∃ j_ : Int, (wrap64 (8 * x36_2)) = j_ := ⟨_, rfl⟩
           first | rw [hji16] at H | simp only [hji16] at H
           have hji16w : (IntKind.i64.wrap (8 * x36_2)) = ji16 := (i64_w _).trans hji16
           by_cases c17 : 0 ≤ (ji16)
           ·rw [if_pos c17] at H
            have c17b0 := eq_true c17
            have c17b1 := dT c17
            clear c17
            obtain ⟨ji18, hji18⟩ : ∃ j_ : Int, (shr .u32 ((rd_T59 l0 x16_1).f3) (ji16)) = j_ := ⟨_, rfl⟩
            first | rw [hji18] at H | simp only [hji18] at H
            have hji18_ : (((rd_T59 l0 x16_1).f3) / 2 ^ min (ji16).toNat 32) = ji18 := hji18
            have hji18z : (ji16) ≤ 32 → (((rd_T59 l0 x16_1).f3) / 2 ^ (ji16).toNat) = ji18 := shr_small hji18
            by_cases c19 : x5_2.length < 140737488355328
            ·rw [if_pos c19] at H
             have LMc19 := Aside0.mk c19
             clear c19
             obtain ⟨y122, hy122⟩ : ∃ y_ : List Int, y_ = (x5_2 ++ [(ji18) % 256]) := ⟨_, rfl⟩
             simp only [Option.bind_some, ← hy122] at H
             have Ny122 := Aside0.mk hy122
             clear hy122
             have H' := Aside0.mk H
             clear H
             obtain ⟨hcz20_0, hcz20_1, hcz20_2, hcz20_3, hfz20_0, hfz20_1, hfz20_2, hfz20_3⟩ := kQ4 BK115.out
             go_wp2_with (first | ((with_reducible refine gate_builtin (b := .append) (xs := #[.tmp 39, .tmp 46]) rfl ?_); at_builtin; refine Kd.R_append (Kd.int .u8) (w0 := w) w.heap.size rfl (.tmp 39) (.tmp 46) 25 5 (.int .u8 0) 1 rfl Tryd.underlying25 info5 rfl (by decide) (by omega) u5 x5_2 ((ji18) % 256) [.int .u8 ((ji18) % 256)] (fun _ => True) (fun _ => False) rfl rfl ?aP (fun _ hk => hk.elim) ?aF ?aO ?aB ?aS ?aL ?_; (case aP => exact rfl); (case aB => exact (jH HB)); (case aF => exact (fun _ _ => trivial)); (case aO => exact (jR HO_5)); (case aS => exact (zZ (jH HB))); (case aL => have := LMc19.out; omega); intro v123 w21 ho hb hg hat; rw [← Ny122.out] at ho; have HO124 := Aside0.mk (ho); replace BK115 := Aside0.mk (kG (g := gb115) (o := .cells #[.int .i64 ((rd_T59 l0 x16_1).f0), .int .i64 ((rd_T59 l0 x16_1).f1), .int .i64 ((rd_T59 l0 x16_1).f2), .int .u32 ((rd_T59 l0 x16_1).f3)] 59 (0, 0)) (jK BK115) hg (Kd.R_ne HO_5.out BK115.out (by decide))); replace HB := Aside0.mk (hb); clear HO_5; clear ho hb hg hat))
             go_roundg k2
             case measure => have := HK1.out; have := HK2.out; omega
             case rel => exact ⟨(y122), (wrap64 (x36_2 + 1)), jS, H', ⟨by have := HK1.out; have := HK2.out; omega⟩, ⟨jR HO124⟩, ⟨jK BK115⟩, ⟨jH HB⟩⟩
            ·rw [if_neg c19] at H
             exact absurd H (by simp)
           ·rw [if_neg c17] at H
            exact absurd H (by simp)
          ·rw [if_neg c15] at H
           have c15b0 := dF c15
           clear c15
           have H' := Aside0.mk H
           clear H
           go_wp2
           go_roundg k2
           case measure => have := HK1.out; have := HK2.out; omega
           case rel => exact ⟨(x5_2), (wrap64 (x16_1 + 1)), jS, H', ⟨by have := HK1.out; have := HK2.out; omega⟩, ⟨jR HO_5⟩, ⟨jH HB⟩⟩
       ·rw [if_neg c8] at H
        exact absurd H (by simp)
      ·rw [if_neg c7] at H
       exact absurd H (by simp)
     ·rw [if_neg c6] at H
      exact absurd H (by simp)
    ·rw [if_neg c5] at H
     have c5b0 := dF c5
     clear c5
     simp only [Option.some.injEq, Prod.mk.injEq] at H
     obtain ⟨rfl, rfl⟩ := H
     go_wp2
     go_ret2
     exact ⟨_, jE, by (with_reducible repeat (first | apply Kd.R_alloc | apply Kd.R_drewN | apply Kd.R_drew)); exact HO_5.out, jH HB⟩
 ·rw [if_neg c3] at H
  have c3b0 : (t113 == 0) = false := bF.mpr c3
  have c3b1 : (t113 != 0) = true := nI.mpr c3
  simp only [Option.some.injEq, Prod.mk.injEq] at H
  obtain ⟨rfl, rfl⟩ := H
  go_enter Tryd.func41, Tryd.ntmps41
  go_wp2_with (first | ((with_reducible refine gate_callee (f := 51) rfl ?_); refine goesL_ (some 10) rfl rfl Tryd.func51 (by kernel_rfl) rfl #[.slice A0 l0.length c0] rfl jZ ?_; (with_reducible refine (codec_check.calls k _ _ l0 t113 _ ?side1 ?side2 ?side3 A2.out).mono ?_); (case side1 => repeat (first | exact HR0.out | (with_reducible refine Kd.C_alloc ?_ _) | (with_reducible refine Kd.C_drewN ?_ _) | (with_reducible refine Kd.C_drew ?_))); (case side2 => exact HC0.out); (case side3 => exact Glob.below HG.out (jH HB)); rintro e w22 ⟨rfl, hb⟩; refine ⟨_, rfl, ?_⟩; replace HB := Aside0.mk (zT (jH HB) hb); (try clear hb); (try clear hb2); (try clear hk); (try clear hi)))
  go_ret2
  exact ⟨_, jE, by first | exact Kd.R_nil _ _ _ _ _ | exact Kd.N_nil _ _ _ _ _ | exact Kd.V_nil _ _ _ _ _ | exact Kd.Q_nil _ _ _ _ _ | exact Kd.S_nil _ _ _ _ _, jH HB⟩
end Go.Proofs.YtahacmdhhfmhiaaDoor.M
