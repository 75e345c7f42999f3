/- What Go functions compute; their calls come to it. No condition. -/
import Derived.Test.YtohpbjnihmcelaaDoorM0
import Derived.Test.YtohpbjnihmcelaaDoorM9
namespace Go.Proofs.YtohpbjnihmcelaaDoor.M
open Go.RowKit Go.Proofs.YtohpbjnihmcelaaDoorW.PrintWords Go.Proofs.YtohpbjnihmcelaaDoorW.PrintLast Go.Proofs.YtohpbjnihmcelaaDoorW.PrintMore
attribute [local go_sem] max2_int min2_int max_two min_two max_three min_three max_four min_four   -- for this text's walks alone
set_option linter.unusedVariables false
set_option linter.unusedSimpArgs false
def hexV (c : Nat) : Option Nat := if 48 ≤ c ∧ c ≤ 57 then some (c - 48) else if 97 ≤ c ∧ c ≤ 102 then some (c - 87) else none
def hexGo (t : ByteArray) : Nat → Int → Int × Int
 | 0, n => (n, 0)
 | d + 1, n => match hexV (t.get! (t.size - (d + 1))).toNat with
  | some v => hexGo t d (Go.bits .or .u64 (IntKind.u64.wrap (n * 16)) (v : Int))
  | none => (0, 2)
def word_Parse.f (s : ByteArray) : Option (Int × Int) :=
 some (if s.size < 3 then (0, 2) else if s.size > 18 then (0, 2) else if (s.extract 0 2).toList ≠ [48, 120] then (0, 2) else if bt s 2 = 48 ∧ s.size > 3 then (0, 2) else hexGo (s.extract 2 s.size) (s.size - 2) 0)
theorem hexGo_step (t : ByteArray) (pos : Nat) (n : Int) (h : pos < t.size) : hexGo t (t.size - pos) n = match hexV (t[pos]'h).toNat with
  | some v => hexGo t (t.size - (pos + 1)) (Go.bits .or .u64 (IntKind.u64.wrap (n * 16)) (v : Int))
  | none => (0, 2) := by
 obtain ⟨d, hd⟩ : ∃ d, t.size - pos = d + 1 := ⟨t.size - pos - 1, by omega⟩
 rw [hd, hexGo, show t.size - (d + 1) = pos by omega, show t.get! pos = t[pos]'h from get_at t pos h, show d = t.size - (pos + 1) by omega]
set_option maxHeartbeats 8000000 in
set_option maxRecDepth 100000 in
theorem word_Parse.loop (s : ByteArray) (r1 r2 : Int) (w : World) (h0 : 3 ≤ s.size) (h1 : s.size ≤ 18) (h2 : (s.extract 0 2).toList = [48, 120]) (h3 : ¬ (bt s 2 = 48 ∧ s.size > 3)) (hr : hexGo (s.extract 2 s.size) (s.size - 2) 0 = (r1, r2)) :
  Calls Tryd.prog 41 #[.string s] w fun e w' => e = .returned (.tuple #[.int .u64 r1, .int .i64 r2]) ∧ Below w.heap.size w w' := by
 have hts : (s.extract 2 s.size).size = s.size - 2 := by simp
 obtain ⟨t, ht⟩ : ∃ t, t = s.extract 2 s.size := ⟨_, rfl⟩
 rw [← ht] at hts hr
 have HR := Aside0.mk hr
 have c2a : ((s.extract 0 2).toList == [48, 120]) = true := bI.mpr h2
 have c2b : ((s.extract 0 2).toList != [48, 120]) = false := nF.mpr h2
 have HT := Aside0.mk ht
 have HTS := Aside0.mk hts
 have d1 : decide ((s.size : Int) < 3) = false := dF (by omega)
 have d2 : decide (18 < (s.size : Int)) = false := dF (by omega)
 have e1 : (2 : Int) ≤ (s.size : Int) := by omega
 have e2 : (2 : Int) < (s.size : Int) := by omega
 have hb := bt_at s 2
 clear hr h2 ht hts
 have hlt2 : 2 < s.size := by omega
 have key : Calls Tryd.prog 41 #[.string s] w fun e w' => e = .returned (.tuple #[.int .u64 r1, .int .i64 r2]) ∧ Below w.heap.size w w' := by
  have hb2 : (((s[2]'hlt2).toNat : Nat) : Int) = bt s 2 := hb hlt2
  clear hb
  by_cases hq : bt s 2 = 48
  ·have c3 : ((((s[2]'hlt2).toNat : Nat) : Int) == 48) = true := bI.mpr (by rw [hb2]; exact hq)
   have d3 : decide (3 < (s.size : Int)) = false := dF (by omega)
   clear h3 hq hb2
   go_enter Tryd.func41, Tryd.ntmps41
   go_wp2
   rw [← HT.out]
   have HI : Aside0 ((w.iter t 0).heap[w.heap.size]? = some (.stringIter t 0)) := ⟨World.iter_heap w t 0⟩
   have HB : Aside0 (Below w.heap.size w (w.iter t 0)) := ⟨zA (Below.refl _ _) _⟩
   have HR0 : Aside0 (hexGo t (t.size - 0) 0 = (r1, r2)) := ⟨by rw [Nat.sub_zero, HTS.out]; exact HR.out⟩
   go_loopw [4] (fun v4 wr => ∃ (n : Int) (pos : Nat), v4 = .int .u64 n ∧ pos ≤ t.size ∧ Aside0 (hexGo t (t.size - pos) n = (r1, r2)) ∧ Aside0 (wr.heap[w.heap.size]? = some (.stringIter t pos)) ∧ Aside0 (Below w.heap.size w wr)) (fun _ wr => t.size - wr.iterPos w.heap.size)
   case atStart => exact ⟨0, 0, rfl, Nat.zero_le _, HR0, HI, HB⟩
   case round =>
    clear HI HB HR0
    obtain ⟨n, pos, rfl, hps, HH, HI, HB⟩ := hrel
    have hip : wr.iterPos w.heap.size = pos := by simp [World.iterPos, HI.out]
    have HP := Aside0.mk hip
    clear hip
    by_cases hlt : pos < t.size
    ·have HS := Aside0.mk (hexGo_step t pos n hlt)
     have hle := decode_le t pos
     by_cases ha : (t[pos]'hlt).toNat < 128
     ·have hd := decode_ascii t pos hlt ha
      obtain ⟨c, hc⟩ : ∃ c, c = (t[pos]'hlt).toNat := ⟨_, rfl⟩
      rw [← hc] at hd ha
      have HS2 : Aside0 ((match hexV c with | some v => hexGo t (t.size - (pos + 1)) (Go.bits .or .u64 (IntKind.u64.wrap (n * 16)) (v : Int)) | none => (0, 2)) = (r1, r2)) := ⟨by rw [hc, ← HS.out]; exact HH.out⟩
      have HD := Aside0.mk hd
      clear hd hc HS HH
      by_cases hdig : 48 ≤ c ∧ c ≤ 57
      ·have hv : hexV c = some (c - 48) := by unfold hexV; rw [if_pos hdig]
       have HS3 : Aside0 (hexGo t (t.size - (pos + 1)) (Go.bits .or .u64 (IntKind.u64.wrap (n * 16)) ((c : Int) - 48)) = (r1, r2)) := ⟨by have := HS2.out; rw [hv] at this; rw [show (c : Int) - 48 = ((c - 48 : Nat) : Int) by omega]; exact this⟩
       clear hv HS2
       have t1 : decide (48 ≤ (c : Int)) = true := dT (by omega)
       have t2 : decide ((c : Int) ≤ 57) = true := dT (by omega)
       have t3 : (0 : Int) ≤ (c : Int) - 48 := by omega
       have t4 : (c : Int) - 48 ≤ 9 := by omega
       go_wp2_with ((with_reducible refine gate_dst (N := 33) rfl ?_); refine wpList_next_iter rfl (.tmp 32) rfl rfl HI.out hlt ?_; intro w1 hto; rw [HD.out] at hto; rw [HD.out]; have HI1 := Aside0.mk (IterTo.at_ hto HI.out); have HB1 := Aside0.mk (IterTo.below hto HB.out (Nat.le_refl _)); clear hto HB HI)
       refine ⟨⟨_, pos + 1, rfl, by omega, HS3, HI1, HB1⟩, ?_⟩
       have e : w1.iterPos w.heap.size = pos + 1 := by simp [World.iterPos, HI1.out]
       have := HP.out
       rw [HP.out, e]
       omega
      ·by_cases hlet : 97 ≤ c ∧ c ≤ 102
       ·have hv : hexV c = some (c - 87) := by unfold hexV; rw [if_neg hdig, if_pos hlet]
        have HS3 : Aside0 (hexGo t (t.size - (pos + 1)) (Go.bits .or .u64 (IntKind.u64.wrap (n * 16)) ((c : Int) - 97 + 10)) = (r1, r2)) := ⟨by have := HS2.out; rw [hv] at this; rw [show (c : Int) - 97 + 10 = ((c - 87 : Nat) : Int) by omega]; exact this⟩
        clear hv HS2 hdig
        have t1 : decide (48 ≤ (c : Int)) = true := dT (by omega)
        have t2 : decide ((c : Int) ≤ 57) = false := dF (by omega)
        have t3 : decide (97 ≤ (c : Int)) = true := dT (by omega)
        have t4 : decide ((c : Int) ≤ 102) = true := dT (by omega)
        have t5 : (0 : Int) ≤ (c : Int) - 97 := by omega
        have t6 : (c : Int) - 97 ≤ 5 := by omega
        go_wp2_with ((with_reducible refine gate_dst (N := 33) rfl ?_); refine wpList_next_iter rfl (.tmp 32) rfl rfl HI.out hlt ?_; intro w1 hto; rw [HD.out] at hto; rw [HD.out]; have HI1 := Aside0.mk (IterTo.at_ hto HI.out); have HB1 := Aside0.mk (IterTo.below hto HB.out (Nat.le_refl _)); clear hto HB HI)
        refine ⟨⟨_, pos + 1, rfl, by omega, HS3, HI1, HB1⟩, ?_⟩
        have e : w1.iterPos w.heap.size = pos + 1 := by simp [World.iterPos, HI1.out]
        have := HP.out
        rw [HP.out, e]
        omega
       ·have hv : hexV c = none := by unfold hexV; rw [if_neg hdig, if_neg hlet]
        have HS3 : ((0, 2) : Int × Int) = (r1, r2) := by have := HS2.out; rw [hv] at this; exact this
        clear hv HS2
        obtain ⟨rfl, rfl⟩ := Prod.mk.inj HS3
        clear HS3 HR
        by_cases hc48 : 48 ≤ c
        ·have t1 : decide (48 ≤ (c : Int)) = true := dT (by omega)
         have t2 : decide ((c : Int) ≤ 57) = false := dF (by omega)
         by_cases hc97 : 97 ≤ c
         ·have t3 : decide (97 ≤ (c : Int)) = true := dT (by omega)
          have t4 : decide ((c : Int) ≤ 102) = false := dF (by omega)
          clear hdig hlet hc48 hc97
          go_wp2_with ((with_reducible refine gate_dst (N := 33) rfl ?_); refine wpList_next_iter rfl (.tmp 32) rfl rfl HI.out hlt ?_; intro w1 hto; rw [HD.out] at hto; rw [HD.out]; have HI1 := Aside0.mk (IterTo.at_ hto HI.out); have HB1 := Aside0.mk (IterTo.below hto HB.out (Nat.le_refl _)); clear hto HB HI)
          go_ret2
          exact ⟨rfl, HB1.out⟩
         ·have t3 : decide (97 ≤ (c : Int)) = false := dF (by omega)
          clear hdig hlet hc48 hc97
          go_wp2_with ((with_reducible refine gate_dst (N := 33) rfl ?_); refine wpList_next_iter rfl (.tmp 32) rfl rfl HI.out hlt ?_; intro w1 hto; rw [HD.out] at hto; rw [HD.out]; have HI1 := Aside0.mk (IterTo.at_ hto HI.out); have HB1 := Aside0.mk (IterTo.below hto HB.out (Nat.le_refl _)); clear hto HB HI)
          go_ret2
          exact ⟨rfl, HB1.out⟩
        ·have t1 : decide (48 ≤ (c : Int)) = false := dF (by omega)
         have t3 : decide (97 ≤ (c : Int)) = false := dF (by omega)
         clear hdig hlet hc48
         go_wp2_with ((with_reducible refine gate_dst (N := 33) rfl ?_); refine wpList_next_iter rfl (.tmp 32) rfl rfl HI.out hlt ?_; intro w1 hto; rw [HD.out] at hto; rw [HD.out]; have HI1 := Aside0.mk (IterTo.at_ hto HI.out); have HB1 := Aside0.mk (IterTo.below hto HB.out (Nat.le_refl _)); clear hto HB HI)
         go_ret2
         exact ⟨rfl, HB1.out⟩
     ·have hh := (decode_high t pos hlt (by omega)).1
      have hv : hexV (t[pos]'hlt).toNat = none := by unfold hexV; rw [if_neg (by omega), if_neg (by omega)]
      have HS3 : ((0, 2) : Int × Int) = (r1, r2) := by have := HH.out; rw [HS.out, hv] at this; exact this
      clear hv HS HH
      obtain ⟨rfl, rfl⟩ := Prod.mk.inj HS3
      clear HS3 HR
      obtain ⟨c, hc⟩ : ∃ c, c = (Utf8.decode t pos).1 := ⟨_, rfl⟩
      rw [← hc] at hh hle
      have HC := Aside0.mk hc
      clear hc ha
      have t1 : decide (48 ≤ (c : Int)) = true := dT (by omega)
      have t2 : decide ((c : Int) ≤ 57) = false := dF (by omega)
      have t3 : decide (97 ≤ (c : Int)) = true := dT (by omega)
      have t4 : decide ((c : Int) ≤ 102) = false := dF (by omega)
      go_wp2_with ((with_reducible refine gate_dst (N := 33) rfl ?_); refine wpList_next_iter rfl (.tmp 32) rfl rfl HI.out hlt ?_; intro w1 hto; rw [← HC.out]; have HI1 := Aside0.mk (IterTo.at_ hto HI.out); have HB1 := Aside0.mk (IterTo.below hto HB.out (Nat.le_refl _)); clear hto HB HI)
      go_ret2
      exact ⟨rfl, HB1.out⟩
    ·have HS3 : ((n, 0) : Int × Int) = (r1, r2) := by have := HH.out; rw [show t.size - pos = 0 by omega] at this; exact this
     obtain ⟨rfl, rfl⟩ := Prod.mk.inj HS3
     clear HS3 HR HH
     go_wp2_with ((with_reducible refine gate_dst (N := 33) rfl ?_); refine wpList_next_done rfl (.tmp 32) rfl rfl HI.out hlt ?_)
     go_ret2
     exact ⟨rfl, HB.out⟩
  ·have c3 : ((((s[2]'hlt2).toNat : Nat) : Int) == 48) = false := bF.mpr (by rw [hb2]; exact hq)
   clear h3 hq hb2
   go_enter Tryd.func41, Tryd.ntmps41
   go_wp2
   rw [← HT.out]
   have HI : Aside0 ((w.iter t 0).heap[w.heap.size]? = some (.stringIter t 0)) := ⟨World.iter_heap w t 0⟩
   have HB : Aside0 (Below w.heap.size w (w.iter t 0)) := ⟨zA (Below.refl _ _) _⟩
   have HR0 : Aside0 (hexGo t (t.size - 0) 0 = (r1, r2)) := ⟨by rw [Nat.sub_zero, HTS.out]; exact HR.out⟩
   go_loopw [4] (fun v4 wr => ∃ (n : Int) (pos : Nat), v4 = .int .u64 n ∧ pos ≤ t.size ∧ Aside0 (hexGo t (t.size - pos) n = (r1, r2)) ∧ Aside0 (wr.heap[w.heap.size]? = some (.stringIter t pos)) ∧ Aside0 (Below w.heap.size w wr)) (fun _ wr => t.size - wr.iterPos w.heap.size)
   case atStart => exact ⟨0, 0, rfl, Nat.zero_le _, HR0, HI, HB⟩
   case round =>
    clear HI HB HR0
    obtain ⟨n, pos, rfl, hps, HH, HI, HB⟩ := hrel
    have hip : wr.iterPos w.heap.size = pos := by simp [World.iterPos, HI.out]
    have HP := Aside0.mk hip
    clear hip
    by_cases hlt : pos < t.size
    ·have HS := Aside0.mk (hexGo_step t pos n hlt)
     have hle := decode_le t pos
     by_cases ha : (t[pos]'hlt).toNat < 128
     ·have hd := decode_ascii t pos hlt ha
      obtain ⟨c, hc⟩ : ∃ c, c = (t[pos]'hlt).toNat := ⟨_, rfl⟩
      rw [← hc] at hd ha
      have HS2 : Aside0 ((match hexV c with | some v => hexGo t (t.size - (pos + 1)) (Go.bits .or .u64 (IntKind.u64.wrap (n * 16)) (v : Int)) | none => (0, 2)) = (r1, r2)) := ⟨by rw [hc, ← HS.out]; exact HH.out⟩
      have HD := Aside0.mk hd
      clear hd hc HS HH
      by_cases hdig : 48 ≤ c ∧ c ≤ 57
      ·have hv : hexV c = some (c - 48) := by unfold hexV; rw [if_pos hdig]
       have HS3 : Aside0 (hexGo t (t.size - (pos + 1)) (Go.bits .or .u64 (IntKind.u64.wrap (n * 16)) ((c : Int) - 48)) = (r1, r2)) := ⟨by have := HS2.out; rw [hv] at this; rw [show (c : Int) - 48 = ((c - 48 : Nat) : Int) by omega]; exact this⟩
       clear hv HS2
       have t1 : decide (48 ≤ (c : Int)) = true := dT (by omega)
       have t2 : decide ((c : Int) ≤ 57) = true := dT (by omega)
       have t3 : (0 : Int) ≤ (c : Int) - 48 := by omega
       have t4 : (c : Int) - 48 ≤ 9 := by omega
       go_wp2_with ((with_reducible refine gate_dst (N := 33) rfl ?_); refine wpList_next_iter rfl (.tmp 32) rfl rfl HI.out hlt ?_; intro w1 hto; rw [HD.out] at hto; rw [HD.out]; have HI1 := Aside0.mk (IterTo.at_ hto HI.out); have HB1 := Aside0.mk (IterTo.below hto HB.out (Nat.le_refl _)); clear hto HB HI)
       refine ⟨⟨_, pos + 1, rfl, by omega, HS3, HI1, HB1⟩, ?_⟩
       have e : w1.iterPos w.heap.size = pos + 1 := by simp [World.iterPos, HI1.out]
       have := HP.out
       rw [HP.out, e]
       omega
      ·by_cases hlet : 97 ≤ c ∧ c ≤ 102
       ·have hv : hexV c = some (c - 87) := by unfold hexV; rw [if_neg hdig, if_pos hlet]
        have HS3 : Aside0 (hexGo t (t.size - (pos + 1)) (Go.bits .or .u64 (IntKind.u64.wrap (n * 16)) ((c : Int) - 97 + 10)) = (r1, r2)) := ⟨by have := HS2.out; rw [hv] at this; rw [show (c : Int) - 97 + 10 = ((c - 87 : Nat) : Int) by omega]; exact this⟩
        clear hv HS2 hdig
        have t1 : decide (48 ≤ (c : Int)) = true := dT (by omega)
        have t2 : decide ((c : Int) ≤ 57) = false := dF (by omega)
        have t3 : decide (97 ≤ (c : Int)) = true := dT (by omega)
        have t4 : decide ((c : Int) ≤ 102) = true := dT (by omega)
        have t5 : (0 : Int) ≤ (c : Int) - 97 := by omega
        have t6 : (c : Int) - 97 ≤ 5 := by omega
        go_wp2_with ((with_reducible refine gate_dst (N := 33) rfl ?_); refine wpList_next_iter rfl (.tmp 32) rfl rfl HI.out hlt ?_; intro w1 hto; rw [HD.out] at hto; rw [HD.out]; have HI1 := Aside0.mk (IterTo.at_ hto HI.out); have HB1 := Aside0.mk (IterTo.below hto HB.out (Nat.le_refl _)); clear hto HB HI)
        refine ⟨⟨_, pos + 1, rfl, by omega, HS3, HI1, HB1⟩, ?_⟩
        have e : w1.iterPos w.heap.size = pos + 1 := by simp [World.iterPos, HI1.out]
        have := HP.out
        rw [HP.out, e]
        omega
       ·have hv : hexV c = none := by unfold hexV; rw [if_neg hdig, if_neg hlet]
        have HS3 : ((0, 2) : Int × Int) = (r1, r2) := by have := HS2.out; rw [hv] at this; exact this
        clear hv HS2
        obtain ⟨rfl, rfl⟩ := Prod.mk.inj HS3
        clear HS3 HR
        by_cases hc48 : 48 ≤ c
        ·have t1 : decide (48 ≤ (c : Int)) = true := dT (by omega)
         have t2 : decide ((c : Int) ≤ 57) = false := dF (by omega)
         by_cases hc97 : 97 ≤ c
         ·have t3 : decide (97 ≤ (c : Int)) = true := dT (by omega)
          have t4 : decide ((c : Int) ≤ 102) = false := dF (by omega)
          clear hdig hlet hc48 hc97
          go_wp2_with ((with_reducible refine gate_dst (N := 33) rfl ?_); refine wpList_next_iter rfl (.tmp 32) rfl rfl HI.out hlt ?_; intro w1 hto; rw [HD.out] at hto; rw [HD.out]; have HI1 := Aside0.mk (IterTo.at_ hto HI.out); have HB1 := Aside0.mk (IterTo.below hto HB.out (Nat.le_refl _)); clear hto HB HI)
          go_ret2
          exact ⟨rfl, HB1.out⟩
         ·have t3 : decide (97 ≤ (c : Int)) = false := dF (by omega)
          clear hdig hlet hc48 hc97
          go_wp2_with ((with_reducible refine gate_dst (N := 33) rfl ?_); refine wpList_next_iter rfl (.tmp 32) rfl rfl HI.out hlt ?_; intro w1 hto; rw [HD.out] at hto; rw [HD.out]; have HI1 := Aside0.mk (IterTo.at_ hto HI.out); have HB1 := Aside0.mk (IterTo.below hto HB.out (Nat.le_refl _)); clear hto HB HI)
          go_ret2
          exact ⟨rfl, HB1.out⟩
        ·have t1 : decide (48 ≤ (c : Int)) = false := dF (by omega)
         have t3 : decide (97 ≤ (c : Int)) = false := dF (by omega)
         clear hdig hlet hc48
         go_wp2_with ((with_reducible refine gate_dst (N := 33) rfl ?_); refine wpList_next_iter rfl (.tmp 32) rfl rfl HI.out hlt ?_; intro w1 hto; rw [HD.out] at hto; rw [HD.out]; have HI1 := Aside0.mk (IterTo.at_ hto HI.out); have HB1 := Aside0.mk (IterTo.below hto HB.out (Nat.le_refl _)); clear hto HB HI)
         go_ret2
         exact ⟨rfl, HB1.out⟩
     ·have hh := (decode_high t pos hlt (by omega)).1
      have hv : hexV (t[pos]'hlt).toNat = none := by unfold hexV; rw [if_neg (by omega), if_neg (by omega)]
      have HS3 : ((0, 2) : Int × Int) = (r1, r2) := by have := HH.out; rw [HS.out, hv] at this; exact this
      clear hv HS HH
      obtain ⟨rfl, rfl⟩ := Prod.mk.inj HS3
      clear HS3 HR
      obtain ⟨c, hc⟩ : ∃ c, c = (Utf8.decode t pos).1 := ⟨_, rfl⟩
      rw [← hc] at hh hle
      have HC := Aside0.mk hc
      clear hc ha
      have t1 : decide (48 ≤ (c : Int)) = true := dT (by omega)
      have t2 : decide ((c : Int) ≤ 57) = false := dF (by omega)
      have t3 : decide (97 ≤ (c : Int)) = true := dT (by omega)
      have t4 : decide ((c : Int) ≤ 102) = false := dF (by omega)
      go_wp2_with ((with_reducible refine gate_dst (N := 33) rfl ?_); refine wpList_next_iter rfl (.tmp 32) rfl rfl HI.out hlt ?_; intro w1 hto; rw [← HC.out]; have HI1 := Aside0.mk (IterTo.at_ hto HI.out); have HB1 := Aside0.mk (IterTo.below hto HB.out (Nat.le_refl _)); clear hto HB HI)
      go_ret2
      exact ⟨rfl, HB1.out⟩
    ·have HS3 : ((n, 0) : Int × Int) = (r1, r2) := by have := HH.out; rw [show t.size - pos = 0 by omega] at this; exact this
     obtain ⟨rfl, rfl⟩ := Prod.mk.inj HS3
     clear HS3 HR HH
     go_wp2_with ((with_reducible refine gate_dst (N := 33) rfl ?_); refine wpList_next_done rfl (.tmp 32) rfl rfl HI.out hlt ?_)
     go_ret2
     exact ⟨rfl, HB.out⟩
 exact key
theorem word_Parse.calls (s : ByteArray) (r1 r2 : Int) (w : World) (h : word_Parse.f s = some (r1, r2)) :
  Calls Tryd.prog 41 #[.string s] w fun e w' => e = .returned (.tuple #[.int .u64 r1, .int .i64 r2]) ∧ Below w.heap.size w w' := by
 unfold word_Parse.f at h
 have h := Option.some.inj h
 by_cases h0 : s.size < 3
 ·rw [if_pos h0] at h
  obtain ⟨rfl, rfl⟩ := Prod.mk.inj h
  have d1 : decide ((s.size : Int) < 3) = true := dT (by omega)
  clear h
  go_enter Tryd.func41, Tryd.ntmps41
  go_wp2
  go_ret2
  exact ⟨rfl, Below.refl _ _⟩
 rw [if_neg h0] at h
 by_cases h1 : s.size > 18
 ·rw [if_pos h1] at h
  obtain ⟨rfl, rfl⟩ := Prod.mk.inj h
  have d1 : decide ((s.size : Int) < 3) = false := dF (by omega)
  have d2 : decide (18 < (s.size : Int)) = true := dT (by omega)
  clear h
  go_enter Tryd.func41, Tryd.ntmps41
  go_wp2
  go_ret2
  exact ⟨rfl, Below.refl _ _⟩
 rw [if_neg h1] at h
 by_cases h2 : (s.extract 0 2).toList = [48, 120]
 ·rw [if_neg (by simpa using h2)] at h
  by_cases h3 : bt s 2 = 48 ∧ s.size > 3
  ·rw [if_pos h3] at h
   obtain ⟨rfl, rfl⟩ := Prod.mk.inj h
   have d1 : decide ((s.size : Int) < 3) = false := dF (by omega)
   have d2 : decide (18 < (s.size : Int)) = false := dF (by omega)
   have d3 : decide (3 < (s.size : Int)) = true := dT (by omega)
   have e1 : (2 : Int) ≤ (s.size : Int) := by omega
   have e2 : (2 : Int) < (s.size : Int) := by omega
   have hlt2 : 2 < s.size := by omega
   have hb := bt_at s 2
   have hb2 : (((s[2]'hlt2).toNat : Nat) : Int) = bt s 2 := hb hlt2
   have c3 : ((((s[2]'hlt2).toNat : Nat) : Int) == 48) = true := bI.mpr (by rw [hb2]; exact h3.1)
   have c2a : ((s.extract 0 2).toList == [48, 120]) = true := bI.mpr h2
   have c2b : ((s.extract 0 2).toList != [48, 120]) = false := nF.mpr h2
   clear h hb hb2 h2 h3
   go_enter Tryd.func41, Tryd.ntmps41
   go_wp2
   go_ret2
   exact ⟨rfl, Below.refl _ _⟩
  ·rw [if_neg h3] at h
   exact word_Parse.loop s r1 r2 w (by omega) (by omega) h2 h3 h
 ·rw [if_pos (by simpa using h2)] at h
  obtain ⟨rfl, rfl⟩ := Prod.mk.inj h
  have d1 : decide ((s.size : Int) < 3) = false := dF (by omega)
  have d2 : decide (18 < (s.size : Int)) = false := dF (by omega)
  have e1 : (2 : Int) ≤ (s.size : Int) := by omega
  have c2a : ((s.extract 0 2).toList == [48, 120]) = false := bF.mpr h2
  have c2b : ((s.extract 0 2).toList != [48, 120]) = true := nI.mpr h2
  clear h h2
  go_enter Tryd.func41, Tryd.ntmps41
  go_wp2
  go_ret2
  exact ⟨rfl, Below.refl _ _⟩
structure Kept2 (rb xb : Nat) (w w' : World) : Prop where
 os : w'.os = w.os
 tape : w'.tape = w.tape
 output : w'.output = w.output
 size : w.heap.size ≤ w'.heap.size
 block : ∀ k, k < w.heap.size → k ≠ rb → k ≠ xb → w'.heap[k]? = w.heap[k]?
theorem Kept2.below {B rb xb : Nat} {w0 w w' : World} (hB : Below B w0 w) (h : Kept2 rb xb w w') (h1 : B ≤ rb) (h2 : B ≤ xb) (h3 : B ≤ w.heap.size) : Below B w0 w' :=
 hB.trans ⟨h.os, h.tape, h.output, h.size, fun k hk => h.block k (by omega) (by omega) (by omega)⟩
theorem Kept2.of_below {rb xb : Nat} {w w' : World} (h : Below w.heap.size w w') : Kept2 rb xb w w' := ⟨h.os, h.tape, h.output, h.size, fun k hk _ _ => h.block k hk⟩
theorem Kept2.trans {rb xb : Nat} {a b c : World} (h : Kept2 rb xb a b) (k : Kept2 rb xb b c) : Kept2 rb xb a c :=
 ⟨k.os.trans h.os, k.tape.trans h.tape, k.output.trans h.output, Nat.le_trans h.size k.size, fun i hi h1 h2 => (k.block i (Nat.lt_of_lt_of_le hi h.size) h1 h2).trans (h.block i hi h1 h2)⟩
theorem Kept2.setR {rb xb : Nat} {a b : World} (h : Kept2 rb xb a b) (i : Nat) (u : Value) : Kept2 rb xb a (b.setCell ⟨rb, i, none⟩ u) :=
 h.trans ⟨rfl, rfl, rfl, by simp [World.setCell], fun k hk h1 _ => Below.heap_setCell _ _ _ _ h1⟩
theorem Kept2.setX {rb xb : Nat} {a b : World} (h : Kept2 rb xb a b) (i : Nat) (u : Value) : Kept2 rb xb a (b.setCell ⟨xb, i, none⟩ u) :=
 h.trans ⟨rfl, rfl, rfl, by simp [World.setCell], fun k hk _ h2 => Below.heap_setCell _ _ _ _ h2⟩
def nP (r : ByteArray) : Int × Int := (word_Parse.f r).getD (0, 2)
theorem nP_is (r : ByteArray) : word_Parse.f r = some ((nP r).1, (nP r).2) := rfl
def numStep (m : Int) (rest : List ByteArray) (op : Int) : Int × List ByteArray × Int :=
 match rest with
 | [] => (0, [], -1)
 | r :: rs => ((nP r).1, rs, if (nP r).2 ≠ 0 ∨ (nP r).1 > m then -1 else op)
def P1Post (rb xb : Nat) (w : World) (n : Int) (rest : List ByteArray) (op jt jf k : Int) (e : Ending) (w' : World) : Prop :=
 ∃ (A : Option Addr) (c : Nat), e = .returned (.int .u64 n) ∧ w'.heap[rb]? = some (.cells #[.slice A rest.length c] 77 (0, 0)) ∧ w'.heap[xb]? = some (.cells #[.int .i64 op, .int .i64 jt, .int .i64 jf, .int .u32 k] 45 (0, 0)) ∧
  Kd.C Kd.string w' A rest.length rest ∧ rest.length ≤ c ∧ Kept2 rb xb w w'
set_option maxHeartbeats 8000000 in
set_option maxRecDepth 100000 in
theorem parse1_nil (m : Int) (rb xb : Nat) (A : Option Addr) (c : Nat) (op jt jf k : Int) (w : World) (hne : rb ≠ xb)
  (hr : w.heap[rb]? = some (.cells #[.slice A 0 c] 77 (0, 0))) (hx : w.heap[xb]? = some (.cells #[.int .i64 op, .int .i64 jt, .int .i64 jf, .int .u32 k] 45 (0, 0))) :
  Calls Tryd.prog 40 #[.int .u64 m, .pointer (some ⟨rb, 0, none⟩), .pointer (some ⟨xb, 0, none⟩)] w (P1Post rb xb w 0 [] (-1) jt jf k) := by
 have h1 : w.cell? ⟨rb, 0, none⟩ = some (.slice A 0 c) := by simp [World.cell?, hr]
 have h2 : w.cell? ⟨xb, 0, none⟩ = some (.int .i64 op) := by simp [World.cell?, hx]
 have h3 : w.frozen? ⟨xb, 0, none⟩ = false := by simp [World.frozen?, hx]
 have HR := Aside0.mk hr
 have HX := Aside0.mk hx
 have HN := Aside0.mk hne
 clear hr hx hne
 go_enter Tryd.func40, Tryd.ntmps40
 go_wp2
 go_ret
 refine ⟨A, c, rfl, kR HR.out HN.out _, by simpa using blk_set HX.out 0 (.int .i64 (-1)), ⟨rfl, by simp, fun h => absurd h (Nat.lt_irrefl 0)⟩, Nat.zero_le _, (Kept2.of_below (Below.refl _ _)).setX _ _⟩
theorem C_str_ne {w : World} {ad : Addr} {n g t : Nat} {fr : Nat × Nat} {xs : List ByteArray} {cs : Array Value} (h : Kd.C Kd.string w (some ad) n xs) (hn : 0 < n) (hb : w.heap[g]? = some (.cells cs t fr)) (hcs : ∀ (i : Nat) (s : ByteArray), cs[i]? ≠ some (.string s)) : ad.block ≠ g := by
 intro he
 obtain ⟨ad2, e, hcell⟩ := h.2.2 hn
 obtain rfl := Option.some.inj e
 have hl : 0 < xs.length := by rw [h.1]; exact hn
 obtain ⟨c0, hl0, hr0, hc0⟩ := hcell 0 xs[0] (List.getElem?_eq_getElem hl)
 have hr0' : c0 = [.string xs[0]] := hr0
 subst hr0'
 have h1 := hc0 0 _ rfl
 have h2 : (ad.add (0 * Kd.string.sz + 0)) = ad := by simp [Addr.add]
 rw [h2] at h1
 unfold World.cell? at h1
 rw [he, hb] at h1
 simp only at h1
 split at h1
 ·cases h1
 ·exact hcs _ _ h1
theorem C_kept2 {w w' : World} {A : Option Addr} {n rb xb : Nat} {xs : List ByteArray} (h : Kd.C Kd.string w A n xs) (hk : Kept2 rb xb w w') (hA : 0 < n → ∀ ad, A = some ad → ad.block ≠ rb ∧ ad.block ≠ xb) : Kd.C Kd.string w' A n xs := by
 refine ⟨h.1, h.2.1, fun hn => ?_⟩
 obtain ⟨ad, e, hcell⟩ := h.2.2 hn
 refine ⟨ad, e, fun j p hp => ?_⟩
 obtain ⟨c0, hl0, hr0, hc0⟩ := hcell j p hp
 refine ⟨c0, hl0, hr0, fun i u hu => ?_⟩
 have h1 := hc0 i u hu
 have hlt := bL w _ h1
 have hb : (ad.add (j * Kd.string.sz + i)).block = ad.block := by unfold Addr.add; split <;> rfl
 rw [hb] at hlt
 obtain ⟨h2, h3⟩ := hA hn ad e
 rw [← h1]
 exact World.cell?_of_block (by rw [hb]; exact hk.block _ hlt h2 h3)
theorem no_str1 (A : Option Addr) (n c : Nat) : ∀ (i : Nat) (s : ByteArray), (#[Value.slice A n c] : Array Value)[i]? ≠ some (.string s) := by
 intro i s h
 rcases i with _ | i <;> simp at h
theorem no_str4 (a b c d : Int) : ∀ (i : Nat) (s : ByteArray), (#[Value.int .i64 a, .int .i64 b, .int .i64 c, .int .u32 d] : Array Value)[i]? ≠ some (.string s) := by
 intro i s h
 rcases i with _ | _ | _ | _ | i <;> simp at h
set_option maxHeartbeats 8000000 in
set_option maxRecDepth 100000 in
theorem parse1_cons (m : Int) (rb xb : Nat) (A : Option Addr) (c : Nat) (r : ByteArray) (rs : List ByteArray) (op jt jf k : Int) (w : World) (hne : rb ≠ xb)
  (hr : w.heap[rb]? = some (.cells #[.slice A (r :: rs).length c] 77 (0, 0))) (hx : w.heap[xb]? = some (.cells #[.int .i64 op, .int .i64 jt, .int .i64 jf, .int .u32 k] 45 (0, 0)))
  (hC : Kd.C Kd.string w A (r :: rs).length (r :: rs)) (hc : (r :: rs).length ≤ c) :
  Calls Tryd.prog 40 #[.int .u64 m, .pointer (some ⟨rb, 0, none⟩), .pointer (some ⟨xb, 0, none⟩)] w (P1Post rb xb w (nP r).1 rs (if (nP r).2 ≠ 0 ∨ (nP r).1 > m then -1 else op) jt jf k) := by
 obtain ⟨i0, hi, _, hsz, _⟩ := info_parts info9
 obtain ⟨A2, hcut, hA2, hC2⟩ := print_drop_of (P := Tryd.prog) Value.string ByteArray.empty 77 9 .i64 Tryd.underlying77 hi hsz A c (r :: rs) 1 (by decide) (by simp; omega) hc
 have hd : (r :: rs).drop (Int.toNat 1) = rs := rfl
 rw [hd] at hcut hA2 hC2
 have HC2 : Aside0 (Kd.C Kd.string w A2 rs.length rs) := ⟨Kd.C_of_reads (h1 := fun _ => rfl) (hA2 _ (Kd.reads_of_C hC))⟩
 have hC3 : rs.length ≤ c - 1 := hC2
 have HL := Aside0.mk hC3
 have hcut : ∀ W, (Instr.slice 77 (.slice A (rs.length + 1) c) (some (.int .i64 1)) none none).run Tryd.prog W = .ok (.slice A2 rs.length (c - 1)) W := hcut
 clear hA2 hC2 hC3
 obtain ⟨ad, hA1, hcell⟩ := hC.2.2 (by simp)
 obtain ⟨c0, hl0, hr0, hcell0⟩ := hcell 0 r rfl
 have hr0' : c0 = [.string r] := hr0
 subst hr0'
 have hc0 := hcell0 0 _ rfl
 have h2 : (ad.add (0 * Kd.string.sz + 0)) = ad := by simp [Addr.add]
 rw [h2] at hc0
 clear hcell hcell0 h2 hd hi hsz
 subst hA1
 have hcl : 0 < (r :: rs).length := by simp
 have hnr := C_str_ne hC hcl hr (no_str1 _ _ _)
 have hnx := C_str_ne hC hcl hx (no_str4 _ _ _ _)
 have hA2ne : ∀ ad2, 0 < rs.length → A2 = some ad2 → ad2.block ≠ rb ∧ ad2.block ≠ xb := fun ad2 hp e => by
  subst e
  exact ⟨C_str_ne HC2.out hp hr (no_str1 _ _ _), C_str_ne HC2.out hp hx (no_str4 _ _ _ _)⟩
 have HA2 := Aside0.mk hA2ne
 have h1 : w.cell? ⟨rb, 0, none⟩ = some (.slice (some ad) (rs.length + 1) c) := by simp [World.cell?, hr]
 have HN := Aside0.mk hne
 have HRr := Aside0.mk hr
 have HXx := Aside0.mk hx
 have hz1 : (((rs.length : Int) + 1) == 0) = false := bF.mpr (by omega)
 have hz2 : (0 : Int) < (rs.length : Int) + 1 := by omega
 clear hr hx hne hC hc hnr hnx hA2ne hcl
 obtain ⟨n, e, hne2⟩ : ∃ n e, nP r = (n, e) := ⟨_, _, rfl⟩
 have hwp : word_Parse.f r = some (n, e) := by rw [nP_is, hne2]
 rw [hne2]
 have HW := Aside0.mk hwp
 clear hwp hne2
 by_cases he : e = 0
 ·have t1 : (e == 0) = true := bI.mpr he
  have t2 : (e != 0) = false := nF.mpr he
  by_cases hm : n > m
  ·have hif : (if (n, e).2 ≠ 0 ∨ (n, e).1 > m then (-1 : Int) else op) = -1 := if_pos (.inr hm)
   rw [hif]
   have t3 : decide (m < n) = true := dT hm
   clear hif he hm
   go_enter Tryd.func40, Tryd.ntmps40
   go_wp2_with fail
   (with_reducible refine (word_Parse.calls r n e _ HW.out).mono ?_)
   rintro e1 w1 ⟨rfl, hb⟩
   have hr1 : w1.heap[rb]? = some (.cells #[.slice (some ad) (rs.length + 1) c] 77 (0, 0)) := (hb.block rb (kL HRr.out)).trans HRr.out
   have hx1 : w1.heap[xb]? = some (.cells #[.int .i64 op, .int .i64 jt, .int .i64 jf, .int .u32 k] 45 (0, 0)) := (hb.block xb (kL HXx.out)).trans HXx.out
   have f1 : w1.cell? ⟨rb, 0, none⟩ = some (.slice (some ad) (rs.length + 1) c) := by simp [World.cell?, hr1]
   have f2 : w1.cell? ⟨xb, 0, none⟩ = some (.int .i64 op) := by simp [World.cell?, hx1]
   have f3 : w1.frozen? ⟨xb, 0, none⟩ = false := by simp [World.frozen?, hx1]
   have f4 : w1.frozen? ⟨rb, 0, none⟩ = false := by simp [World.frozen?, hr1]
   have f5 : (rb = xb) = False := eq_false HN.out
   have f6 : (xb = rb) = False := eq_false (Ne.symm HN.out)
   have HR1 := Aside0.mk hr1
   have HX1 := Aside0.mk hx1
   have HB1 := Aside0.mk hb
   clear hr1 hx1 hb
   go_wp2
   go_ret
   have hk : Kept2 rb xb w ((w1.setCell ⟨xb, 0, none⟩ (.int .i64 (-1))).setCell ⟨rb, 0, none⟩ (.slice A2 rs.length (c - 1))) := ((Kept2.of_below HB1.out).setX 0 _).setR 0 _
   exact ⟨A2, c - 1, rfl, by simpa using blk_set (kR HR1.out HN.out (.int .i64 (-1))) 0 (.slice A2 rs.length (c - 1)), kR (by simpa using blk_set HX1.out 0 (.int .i64 (-1))) (Ne.symm HN.out) _, C_kept2 HC2.out hk (fun hp ad2 e2 => HA2.out ad2 hp e2), HL.out, hk⟩
  ·have hif : (if (n, e).2 ≠ 0 ∨ (n, e).1 > m then (-1 : Int) else op) = op := if_neg (by simp [he]; omega)
   rw [hif]
   have t3 : decide (m < n) = false := dF hm
   clear hif he hm
   go_enter Tryd.func40, Tryd.ntmps40
   go_wp2_with fail
   (with_reducible refine (word_Parse.calls r n e _ HW.out).mono ?_)
   rintro e1 w1 ⟨rfl, hb⟩
   have hr1 : w1.heap[rb]? = some (.cells #[.slice (some ad) (rs.length + 1) c] 77 (0, 0)) := (hb.block rb (kL HRr.out)).trans HRr.out
   have hx1 : w1.heap[xb]? = some (.cells #[.int .i64 op, .int .i64 jt, .int .i64 jf, .int .u32 k] 45 (0, 0)) := (hb.block xb (kL HXx.out)).trans HXx.out
   have f1 : w1.cell? ⟨rb, 0, none⟩ = some (.slice (some ad) (rs.length + 1) c) := by simp [World.cell?, hr1]
   have f2 : w1.cell? ⟨xb, 0, none⟩ = some (.int .i64 op) := by simp [World.cell?, hx1]
   have f3 : w1.frozen? ⟨xb, 0, none⟩ = false := by simp [World.frozen?, hx1]
   have f4 : w1.frozen? ⟨rb, 0, none⟩ = false := by simp [World.frozen?, hr1]
   have f5 : (rb = xb) = False := eq_false HN.out
   have f6 : (xb = rb) = False := eq_false (Ne.symm HN.out)
   have HR1 := Aside0.mk hr1
   have HX1 := Aside0.mk hx1
   have HB1 := Aside0.mk hb
   clear hr1 hx1 hb
   go_wp2
   go_ret
   have hk : Kept2 rb xb w (w1.setCell ⟨rb, 0, none⟩ (.slice A2 rs.length (c - 1))) := (Kept2.of_below HB1.out).setR 0 _
   exact ⟨A2, c - 1, rfl, by simpa using blk_set HR1.out 0 (.slice A2 rs.length (c - 1)), kR HX1.out (Ne.symm HN.out) _, C_kept2 HC2.out hk (fun hp ad2 e2 => HA2.out ad2 hp e2), HL.out, hk⟩
 ·have hif : (if (n, e).2 ≠ 0 ∨ (n, e).1 > m then (-1 : Int) else op) = -1 := if_pos (.inl he)
  rw [hif]
  have t1 : (e == 0) = false := bF.mpr he
  have t2 : (e != 0) = true := nI.mpr he
  clear hif he
  go_enter Tryd.func40, Tryd.ntmps40
  go_wp2_with fail
  (with_reducible refine (word_Parse.calls r n e _ HW.out).mono ?_)
  rintro e1 w1 ⟨rfl, hb⟩
  have hr1 : w1.heap[rb]? = some (.cells #[.slice (some ad) (rs.length + 1) c] 77 (0, 0)) := (hb.block rb (kL HRr.out)).trans HRr.out
  have hx1 : w1.heap[xb]? = some (.cells #[.int .i64 op, .int .i64 jt, .int .i64 jf, .int .u32 k] 45 (0, 0)) := (hb.block xb (kL HXx.out)).trans HXx.out
  have f1 : w1.cell? ⟨rb, 0, none⟩ = some (.slice (some ad) (rs.length + 1) c) := by simp [World.cell?, hr1]
  have f2 : w1.cell? ⟨xb, 0, none⟩ = some (.int .i64 op) := by simp [World.cell?, hx1]
  have f3 : w1.frozen? ⟨xb, 0, none⟩ = false := by simp [World.frozen?, hx1]
  have f4 : w1.frozen? ⟨rb, 0, none⟩ = false := by simp [World.frozen?, hr1]
  have f5 : (rb = xb) = False := eq_false HN.out
  have f6 : (xb = rb) = False := eq_false (Ne.symm HN.out)
  have HR1 := Aside0.mk hr1
  have HX1 := Aside0.mk hx1
  have HB1 := Aside0.mk hb
  clear hr1 hx1 hb
  go_wp2
  go_ret
  have hk : Kept2 rb xb w ((w1.setCell ⟨xb, 0, none⟩ (.int .i64 (-1))).setCell ⟨rb, 0, none⟩ (.slice A2 rs.length (c - 1))) := ((Kept2.of_below HB1.out).setX 0 _).setR 0 _
  exact ⟨A2, c - 1, rfl, by simpa using blk_set (kR HR1.out HN.out (.int .i64 (-1))) 0 (.slice A2 rs.length (c - 1)), kR (by simpa using blk_set HX1.out 0 (.int .i64 (-1))) (Ne.symm HN.out) _, C_kept2 HC2.out hk (fun hp ad2 e2 => HA2.out ad2 hp e2), HL.out, hk⟩
theorem parse1.calls (m : Int) (rb xb : Nat) (A : Option Addr) (c : Nat) (rest : List ByteArray) (op jt jf k : Int) (w : World) (hne : rb ≠ xb)
  (hr : w.heap[rb]? = some (.cells #[.slice A rest.length c] 77 (0, 0))) (hx : w.heap[xb]? = some (.cells #[.int .i64 op, .int .i64 jt, .int .i64 jf, .int .u32 k] 45 (0, 0)))
  (hC : Kd.C Kd.string w A rest.length rest) (hc : rest.length ≤ c) :
  Calls Tryd.prog 40 #[.int .u64 m, .pointer (some ⟨rb, 0, none⟩), .pointer (some ⟨xb, 0, none⟩)] w (P1Post rb xb w (numStep m rest op).1 (numStep m rest op).2.1 (numStep m rest op).2.2 jt jf k) := by
 cases rest with
 | nil => exact parse1_nil m rb xb A c op jt jf k w hne hr hx
 | cons r rs => exact parse1_cons m rb xb A c r rs op jt jf k w hne hr hx hC hc
structure PS (w : World) (ob hb xb rb : Nat) (s1 : Int) (s2 : ByteArray) (s3 s4 : Bool) (A : Option Addr) (c : Nat) (rest : List ByteArray) (op jt jf k : Int) (W : World) : Prop where
 hr : W.heap[rb]? = some (.cells #[.slice A rest.length c] 77 (0, 0))
 hx : W.heap[xb]? = some (.cells #[.int .i64 op, .int .i64 jt, .int .i64 jf, .int .u32 k] 45 (0, 0))
 hh : W.heap[hb]? = some (.cells #[.int .i64 s1, .string s2, .bool s3, .bool s4] 63 (0, 0))
 ho : W.heap[ob]? = some (.cells #[.int .i64 0, .int .i64 0, .int .i64 0, .int .u32 0] 45 (0, 0))
 hC : Kd.C Kd.string W A rest.length rest
 hc : rest.length ≤ c
 bel : Below ob w W
 n1 : ob < hb
 n2 : hb < xb
 n3 : xb < rb
section
variable {w W : World} {ob hb xb rb : Nat} {s1 : Int} {s2 : ByteArray} {s3 s4 : Bool} {A : Option Addr} {c : Nat} {rest : List ByteArray} {op jt jf k : Int}
theorem PS.call (p : PS w ob hb xb rb s1 s2 s3 s4 A c rest op jt jf k W) (m : Int) : Calls Tryd.prog 40 #[.int .u64 m, .pointer (some ⟨rb, 0, none⟩), .pointer (some ⟨xb, 0, none⟩)] W
  (fun e W' => e = .returned (.int .u64 (numStep m rest op).1) ∧ ∃ A' c', PS w ob hb xb rb s1 s2 s3 s4 A' c' (numStep m rest op).2.1 (numStep m rest op).2.2 jt jf k W') := by
 refine (parse1.calls m rb xb A c rest op jt jf k W (by have := p.n3; omega) p.hr p.hx p.hC p.hc).mono ?_
 rintro e W' ⟨A', c', rfl, h1, h2, h3, h4, h5⟩
 have l1 := p.n1
 have l2 := p.n2
 have l3 := p.n3
 refine ⟨rfl, A', c', h1, h2, (h5.block _ (kL p.hh) (by omega) (by omega)).trans p.hh, (h5.block _ (kL p.ho) (by omega) (by omega)).trans p.ho, h3, h4, ?_, l1, l2, l3⟩
 exact h5.below p.bel (by omega) (by omega) (by have := kL p.ho; omega)
theorem PS.set (p : PS w ob hb xb rb s1 s2 s3 s4 A c rest op jt jf k W) (i : Nat) (u : Value) {op' jt' jf' k' : Int} (hs : (#[.int .i64 op, .int .i64 jt, .int .i64 jf, .int .u32 k] : Array Value).setIfInBounds i u = #[.int .i64 op', .int .i64 jt', .int .i64 jf', .int .u32 k']) :
  PS w ob hb xb rb s1 s2 s3 s4 A c rest op' jt' jf' k' (W.setCell ⟨xb, i, none⟩ u) := by
 have l1 := p.n1
 have l2 := p.n2
 have l3 := p.n3
 have hk : Kept2 rb xb W (W.setCell ⟨xb, i, none⟩ u) := (Kept2.of_below (Below.refl _ _)).setX i u
 refine ⟨kR p.hr (by show rb ≠ xb; omega) _, by rw [← hs]; exact blk_set p.hx i u, kR p.hh (by show hb ≠ xb; omega) _, kR p.ho (by show ob ≠ xb; omega) _, C_kept2 p.hC hk (fun hp ad e => ?_), p.hc, hk.below p.bel (by omega) (by omega) (by have := kL p.ho; omega), l1, l2, l3⟩
 subst e
 exact ⟨C_str_ne p.hC hp p.hr (no_str1 _ _ _), C_str_ne p.hC hp p.hx (no_str4 _ _ _ _)⟩
theorem PS.facts (p : PS w ob hb xb rb s1 s2 s3 s4 A c rest op jt jf k W) :
  (W.cell? ⟨rb, 0, none⟩ = some (.slice A rest.length c)) ∧ (W.cell? ⟨xb, 0, none⟩ = some (.int .i64 op)) ∧ (W.cell? ⟨xb, 1, none⟩ = some (.int .i64 jt)) ∧ (W.cell? ⟨xb, 2, none⟩ = some (.int .i64 jf)) ∧ (W.cell? ⟨xb, 3, none⟩ = some (.int .u32 k)) ∧
  (W.frozen? ⟨xb, 1, none⟩ = false) ∧ (W.frozen? ⟨xb, 2, none⟩ = false) ∧ (W.frozen? ⟨xb, 3, none⟩ = false) ∧ (W.cell? ⟨hb, 2, none⟩ = some (.bool s3)) ∧ (W.cell? ⟨hb, 3, none⟩ = some (.bool s4)) ∧
  (W.cell? ⟨ob, 0, none⟩ = some (.int .i64 0)) ∧ (W.cell? ⟨ob, 1, none⟩ = some (.int .i64 0)) ∧ (W.cell? ⟨ob, 2, none⟩ = some (.int .i64 0)) ∧ (W.cell? ⟨ob, 3, none⟩ = some (.int .u32 0)) ∧
  (W.frozen? ⟨ob, 0, none⟩ = false) ∧ (W.frozen? ⟨ob, 1, none⟩ = false) ∧ (W.frozen? ⟨ob, 2, none⟩ = false) ∧ (W.frozen? ⟨ob, 3, none⟩ = false) := by
 have h1 := p.hr
 have h2 := p.hx
 have h3 := p.hh
 have h4 := p.ho
 refine ⟨?_, ?_, ?_, ?_, ?_, ?_, ?_, ?_, ?_, ?_, ?_, ?_, ?_, ?_, ?_, ?_, ?_, ?_⟩ <;> simp [World.cell?, World.frozen?, h1, h2, h3, h4]
end
theorem heap_old1 (w : World) (o : Obj) (i : Nat) (h : i < w.heap.size) : (w.alloc o).heap[i]? = w.heap[i]? := (zA (Below.refl _ _) o).block i h
theorem PS.start {w wr : World} {ob : Nat} {A : Option Addr} {c : Nat} {ws : List ByteArray} (s1 : Int) (s2 : ByteArray) (s3 s4 : Bool) (n : Nat) (hlo : ob < wr.heap.size) (bel : Below ob w wr) (box : wr.heap[ob]? = some (.cells #[.int .i64 0, .int .i64 0, .int .i64 0, .int .u32 0] 45 (0, 0)))
  (hC : Kd.C Kd.string wr A ws.length ws) (hc : ws.length ≤ c) :
  PS w ob wr.heap.size (wr.heap.size + 1) (wr.heap.size + 1 + 1) s1 s2 s3 s4 A c ws s1 0 0 0 ((((wr.alloc (.cells #[.int .i64 s1, .string s2, .bool s3, .bool s4] 63)).drewN n).alloc (.cells #[.int .i64 s1, .int .i64 0, .int .i64 0, .int .u32 0] 45)).alloc (.cells #[.slice A ws.length c] 77)) := by
 have b0 : Below wr.heap.size wr ((wr.alloc (.cells #[.int .i64 s1, .string s2, .bool s3, .bool s4] 63)).drewN n) := zN (zA (Below.refl _ _) _) n
 have h0 : ((wr.alloc (.cells #[.int .i64 s1, .string s2, .bool s3, .bool s4] 63)).drewN n).heap[wr.heap.size]? = some (.cells #[.int .i64 s1, .string s2, .bool s3, .bool s4] 63 (0, 0)) := heap_alloc_new wr _
 have z0 : ((wr.alloc (.cells #[.int .i64 s1, .string s2, .bool s3, .bool s4] 63)).drewN n).heap.size = wr.heap.size + 1 := by simp
 generalize ((wr.alloc (.cells #[.int .i64 s1, .string s2, .bool s3, .bool s4] 63)).drewN n) = W1 at b0 h0 z0 ⊢
 have b1 := zA b0 (.cells #[.int .i64 s1, .int .i64 0, .int .i64 0, .int .u32 0] 45)
 have h1 := (heap_old1 W1 (.cells #[.int .i64 s1, .int .i64 0, .int .i64 0, .int .u32 0] 45) wr.heap.size (by omega)).trans h0
 have g1 := heap_alloc_new W1 (.cells #[.int .i64 s1, .int .i64 0, .int .i64 0, .int .u32 0] 45)
 rw [z0] at g1
 have z1 : (W1.alloc (.cells #[.int .i64 s1, .int .i64 0, .int .i64 0, .int .u32 0] 45)).heap.size = wr.heap.size + 1 + 1 := by simp [z0]
 generalize (W1.alloc (.cells #[.int .i64 s1, .int .i64 0, .int .i64 0, .int .u32 0] 45)) = W2 at b1 h1 g1 z1 ⊢
 have b2 := zA b1 (.cells #[.slice A ws.length c] 77)
 have h2 := (heap_old1 W2 (.cells #[.slice A ws.length c] 77) wr.heap.size (by omega)).trans h1
 have g2 := (heap_old1 W2 (.cells #[.slice A ws.length c] 77) (wr.heap.size + 1) (by omega)).trans g1
 have f2 := heap_alloc_new W2 (.cells #[.slice A ws.length c] 77)
 rw [z1] at f2
 exact ⟨f2, g2, h2, (b2.block _ hlo).trans box, Kd.C_below hC b2, hc, bel.trans (b2.mono (Nat.le_of_lt hlo)), hlo, Nat.lt_succ_self _, Nat.lt_succ_self _⟩
theorem wordsOf_cons (s : ByteArray) : ∃ w0 ws, wordsOf s = w0 :: ws := by
 unfold wordsOf
 generalize s.size = d
 generalize hf : 0 = frm
 clear hf
 induction d generalizing frm with
 | zero => exact ⟨_, _, rfl⟩
 | succ d ih =>
  unfold wordsGo
  split
  ·exact ⟨_, _, rfl⟩
  ·exact ih frm
def parseRest (op : Int) (has ways : Bool) (rest : List ByteArray) : Option (Int × Int × Int × Int) :=
 let a := if has then numStep 4294967295 rest op else (0, rest, op)
 let k := if has then a.1 % 4294967296 else 0
 let b := if ways then numStep 255 a.2.1 a.2.2 else (0, a.2.1, a.2.2)
 let c := if ways then numStep 255 b.2.1 b.2.2 else (0, b.2.1, b.2.2)
 let jt := if ways then wrap64 b.1 else 0
 let jf := if ways then wrap64 c.1 else 0
 if c.2.2 < 0 then none else if c.2.1.length > 0 then none else some (c.2.2, jt, jf, k)
def parseIn (l : List (Int × ByteArray × Bool × Bool)) (w0 : ByteArray) (ws : List ByteArray) : Int × Int × Int × Int × Int :=
 match l.find? (fun h => h.2.1.toList == w0.toList) with
 | none => (0, 0, 0, 0, 2)
 | some h => match parseRest h.1 h.2.2.1 h.2.2.2 ws with
  | none => (0, 0, 0, 0, 2)
  | some x => (x.1, x.2.1, x.2.2.1, x.2.2.2, 0)
def ins_Parse.f (s : ByteArray) : Option (Int × Int × Int × Int × Int) :=
 if s.size < 8796093022000 then some (parseIn shapeT ((wordsOf s).headD ⟨#[]⟩) ((wordsOf s).drop 1)) else none
set_option maxHeartbeats 40000000 in
set_option maxRecDepth 100000 in
theorem ins_Parse.walk (s w0 : ByteArray) (ws : List ByteArray) (r1 r2 r3 r4 r5 : Int) (w : World) (hG : Glob w) (hs : s.size < 8796093022000) (hw : wordsOf s = w0 :: ws) (h : parseIn shapeT w0 ws = (r1, r2, r3, r4, r5)) :
  Calls Tryd.prog 28 #[.string s] w fun e w' => e = .returned (.tuple #[.agg #[.int .i64 r1, .int .i64 r2, .int .i64 r3, .int .u32 r4], .int .i64 r5]) ∧ Below w.heap.size w w' := by
 have HG := Aside0.mk hG
 have HH : Aside0 (parseIn (shapeT.drop 0) w0 ws = (r1, r2, r3, r4, r5)) := ⟨h⟩
 have HWS := Aside0.mk hw
 have HS := Aside0.mk hs
 clear hG h hw hs
 go_enter Tryd.func28, Tryd.ntmps28
 go_wp2_with fail
 (with_reducible refine (ins_words.calls s _ HS.out).mono ?_)
 rintro e1 w1 ⟨v1, rfl, ho1, hb1⟩
 rw [HWS.out] at ho1
 obtain ⟨A, c, hv⟩ := Kd.R_slice ho1
 subst hv
 have HC := Aside0.mk (Kd.R_reads' ho1).2
 have HB1 : Aside0 (Below (w.heap.size + 1) (w.alloc (.cells #[.int .i64 0, .int .i64 0, .int .i64 0, .int .u32 0] 45)) w1) := ⟨hb1.mono (by simp)⟩
 have HG1 : Aside0 (Glob w1) := ⟨(HG.out.alloc _).below hb1⟩
 clear ho1 hb1
 go_wp2_with ((with_reducible refine gate_dst (N := 12) rfl ?_); refine wpList_shape_load 79 rfl rfl HG1.out Tryd.underlying79 (by kernel_rfl) ?_)
 go_loopw [13] (fun v13 wr => ∃ i : Nat, i ≤ 39 ∧ v13 = .int .i64 (i : Int) ∧ Aside0 (parseIn (shapeT.drop i) w0 ws = (r1, r2, r3, r4, r5)) ∧ Aside0 (Below w1.heap.size w1 wr)) (fun v13 _ => 39 - (intOf v13).toNat)
 case atStart => exact ⟨0, by omega, rfl, HH, ⟨Below.refl _ _⟩⟩
 case round =>
  clear HH
  obtain ⟨i, hi, rfl, HH, HBr⟩ := hrel
  by_cases hlt : i < 39
  ·have hidx := fun W => shape_index (P := Tryd.prog) W 79 63 i hlt Tryd.underlying79 Tryd.underlying63 (by kernel_rfl)
   obtain ⟨sh, hsh⟩ : ∃ sh, sh = shapeT.getD i shapeZ := ⟨_, rfl⟩
   rw [← hsh] at hidx
   have hd := shape_snoc i hlt
   rw [← hsh] at hd
   have HD := Aside0.mk hd
   clear hsh hd
   obtain ⟨s1, s2, s3, s4⟩ := sh
   simp only [shapeRow] at hidx
   have hCr := Kd.C_below HC.out.2 HBr.out
   obtain ⟨ad, hA1, hcell⟩ := hCr.2.2 (by simp)
   subst hA1
   obtain ⟨c0, hl0, hr0, hcell0⟩ := hcell 0 w0 rfl
   have hr0' : c0 = [.string w0] := hr0
   subst hr0'
   have hc0 := hcell0 0 _ rfl
   have h2 : (ad.add (0 * Kd.string.sz + 0)) = ad := by simp [Addr.add]
   rw [h2] at hc0
   have hc0a : ∀ o, (wr.alloc o).cell? ad = some (.string w0) := fun o => ((zA (Below.refl wr.heap.size wr) o).cell (bL wr _ hc0)).trans hc0
   have hCR := Aside0.mk hCr
   clear hcell hcell0 h2 hr0 hl0 hCr
   have hz2 : (0 : Int) < (ws.length : Int) + 1 := by omega
   by_cases he : s2.toList = w0.toList
   ·have t1 : (s2.toList == w0.toList) = true := bI.mpr he
    have t2 : (s2.toList != w0.toList) = false := nF.mpr he
    have HP : Aside0 ((match parseRest s1 s3 s4 ws with | none => (0, 0, 0, 0, 2) | some x => (x.1, x.2.1, x.2.2.1, x.2.2.2, 0)) = (r1, r2, r3, r4, r5)) := ⟨by rw [← HH.out, HD.out]; unfold parseIn; rw [List.find?_cons, t1]⟩
    clear he HH HD
    obtain ⟨i0, hi0, _, hsz0, _⟩ := info_parts info9
    obtain ⟨A2, hcut, hA2, hC2⟩ := print_drop_of (P := Tryd.prog) Value.string ByteArray.empty 77 9 .i64 Tryd.underlying77 hi0 hsz0 (some ad) c (w0 :: ws) 1 (by decide) (by simp; omega) HC.out.1
    have hd0 : (w0 :: ws).drop (Int.toNat 1) = ws := rfl
    rw [hd0] at hcut hA2 hC2
    have HC2 : Aside0 (Kd.C Kd.string wr A2 ws.length ws) := ⟨Kd.C_of_reads (h1 := fun _ => rfl) (hA2 _ (Kd.reads_of_C hCR.out))⟩
    have hC3 : ws.length ≤ c - 1 := hC2
    have HL := Aside0.mk hC3
    have hcut : ∀ W, (Instr.slice 77 (.slice (some ad) (ws.length + 1) c) (some (.int .i64 1)) none none).run Tryd.prog W = .ok (.slice A2 ws.length (c - 1)) W := hcut
    clear hA2 hC2 hC3 hd0 hsz0 hi0
    have BOX0 : wr.heap[w.heap.size]? = some (.cells #[.int .i64 0, .int .i64 0, .int .i64 0, .int .u32 0] 45 (0, 0)) := (HBr.out.block _ (by have := HB1.out.size; simp at this; omega)).trans ((HB1.out.block _ (Nat.lt_succ_self _)).trans (heap_alloc_new w _))
    have BOX := Aside0.mk BOX0
    have hlo : w.heap.size < wr.heap.size := kL BOX0
    have BEL : Aside0 (Below w.heap.size w wr) := ⟨(((Below.refl w.heap.size w).alloc (Nat.le_refl _) _).trans (HB1.out.mono (Nat.le_succ _))).trans (HBr.out.mono (by have := HB1.out.size; simp at this; omega))⟩
    clear BOX0
    have o1 : (w.heap.size = wr.heap.size) = False := eq_false (by omega)
    have o2 : (w.heap.size = wr.heap.size + 1) = False := eq_false (by omega)
    have o3 : (w.heap.size = wr.heap.size + 1 + 1) = False := eq_false (by omega)
    have o4 : (wr.heap.size + 1 = w.heap.size) = False := eq_false (by omega)
    have o5 : (wr.heap.size = w.heap.size) = False := eq_false (by omega)
    have o6 : (wr.heap.size + 1 + 1 = w.heap.size) = False := eq_false (by omega)
    have o7 : w.heap.size < wr.heap.size + 1 := by omega
    have o8 : w.heap.size < wr.heap.size + 1 + 1 := by omega
    have HLO := Aside0.mk hlo
    cases s3 <;> cases s4
    ·-- has false, ways false
     have hpr : parseRest s1 false false ws = if s1 < 0 then none else if ws.length > 0 then none else some (s1, 0, 0, 0) := by unfold parseRest; simp
     have HP2 := HP.out
     rw [hpr] at HP2
     have HQ := Aside0.mk HP2
     clear hpr HP2 HP
     by_cases h0 : s1 < 0
     ·have t3 : decide (s1 < 0) = true := dT h0
      have HZ := HQ.out
      rw [if_pos h0] at HZ
      simp only [Prod.mk.injEq] at HZ
      obtain ⟨rfl, rfl, rfl, rfl, rfl⟩ := HZ
      clear HQ h0
      go_wp2
      go_quiet (fail)
      go_upto_region 9 with fail
      obtain ⟨W0, hW0⟩ : ∃ W0, W0 = ((((wr.alloc (.cells #[.int .i64 s1, .string s2, .bool false, .bool false] 63)).drewN nq).alloc (.cells #[.int .i64 s1, .int .i64 0, .int .i64 0, .int .u32 0] 45)).alloc (.cells #[.slice A2 ws.length (c - 1)] 77)) := ⟨_, rfl⟩
      rw [← hW0]
      have PS0 : Aside0 (PS w w.heap.size wr.heap.size (wr.heap.size + 1) (wr.heap.size + 1 + 1) s1 s2 false false A2 (c - 1) ws s1 0 0 0 W0) := ⟨by rw [hW0]; exact PS.start s1 s2 false false nq HLO.out BEL.out BOX.out HC2.out HL.out⟩
      clear hW0
      obtain ⟨fa1, fa2, fa3, fa4, fa5, fa6, fa7, fa8, fa9, fb1, fb2, fb3, fb4, fb5, fb6, fb7, fb8, fb9⟩ := PS0.out.facts
      go_wp2
      refine bodyPost_ret (v := .tuple #[.agg #[.int .i64 0, .int .i64 0, .int .i64 0, .int .u32 0], .int .i64 2]) (by simp [results, Tryd.results28, go_sem, fa1, fa2, fa3, fa4, fa5, fa6, fa7, fa8, fa9, fb1, fb2, fb3, fb4, fb5, fb6, fb7, fb8, fb9, o1, o2, o3, o4, o5, o6]) rfl ⟨rfl, ?_⟩
      exact (((PS0.out.bel.setCell (Nat.le_refl _) _).setCell (Nat.le_refl _) _).setCell (Nat.le_refl _) _).setCell (Nat.le_refl _) _
     ·have t3 : decide (s1 < 0) = false := dF h0
      by_cases h1 : ws.length > 0
      ·have t4 : decide (0 < (ws.length : Int)) = true := dT (by omega)
       have t5 : (0 < ws.length) = True := eq_true h1
       have t6 : decide (0 < ws.length) = true := dT h1
       have HZ := HQ.out
       rw [if_neg h0, if_pos h1] at HZ
       simp only [Prod.mk.injEq] at HZ
       obtain ⟨rfl, rfl, rfl, rfl, rfl⟩ := HZ
       clear HQ h0 h1
       go_wp2
       go_quiet (fail)
       go_upto_region 9 with fail
       obtain ⟨W0, hW0⟩ : ∃ W0, W0 = ((((wr.alloc (.cells #[.int .i64 s1, .string s2, .bool false, .bool false] 63)).drewN nq).alloc (.cells #[.int .i64 s1, .int .i64 0, .int .i64 0, .int .u32 0] 45)).alloc (.cells #[.slice A2 ws.length (c - 1)] 77)) := ⟨_, rfl⟩
       rw [← hW0]
       have PS0 : Aside0 (PS w w.heap.size wr.heap.size (wr.heap.size + 1) (wr.heap.size + 1 + 1) s1 s2 false false A2 (c - 1) ws s1 0 0 0 W0) := ⟨by rw [hW0]; exact PS.start s1 s2 false false nq HLO.out BEL.out BOX.out HC2.out HL.out⟩
       clear hW0
       obtain ⟨fa1, fa2, fa3, fa4, fa5, fa6, fa7, fa8, fa9, fb1, fb2, fb3, fb4, fb5, fb6, fb7, fb8, fb9⟩ := PS0.out.facts
       go_wp2
       refine bodyPost_ret (v := .tuple #[.agg #[.int .i64 0, .int .i64 0, .int .i64 0, .int .u32 0], .int .i64 2]) (by simp [results, Tryd.results28, go_sem, fa1, fa2, fa3, fa4, fa5, fa6, fa7, fa8, fa9, fb1, fb2, fb3, fb4, fb5, fb6, fb7, fb8, fb9, o1, o2, o3, o4, o5, o6]) rfl ⟨rfl, ?_⟩
       exact (((PS0.out.bel.setCell (Nat.le_refl _) _).setCell (Nat.le_refl _) _).setCell (Nat.le_refl _) _).setCell (Nat.le_refl _) _
      ·have t4 : decide (0 < (ws.length : Int)) = false := dF (by omega)
       have t5 : (0 < ws.length) = False := eq_false h1
       have t6 : decide (0 < ws.length) = false := dF h1
       have HZ := HQ.out
       rw [if_neg h0, if_neg h1] at HZ
       simp only [Prod.mk.injEq] at HZ
       obtain ⟨rfl, rfl, rfl, rfl, rfl⟩ := HZ
       clear HQ h0 h1
       go_wp2
       go_quiet (fail)
       go_upto_region 9 with fail
       obtain ⟨W0, hW0⟩ : ∃ W0, W0 = ((((wr.alloc (.cells #[.int .i64 s1, .string s2, .bool false, .bool false] 63)).drewN nq).alloc (.cells #[.int .i64 s1, .int .i64 0, .int .i64 0, .int .u32 0] 45)).alloc (.cells #[.slice A2 ws.length (c - 1)] 77)) := ⟨_, rfl⟩
       rw [← hW0]
       have PS0 : Aside0 (PS w w.heap.size wr.heap.size (wr.heap.size + 1) (wr.heap.size + 1 + 1) s1 s2 false false A2 (c - 1) ws s1 0 0 0 W0) := ⟨by rw [hW0]; exact PS.start s1 s2 false false nq HLO.out BEL.out BOX.out HC2.out HL.out⟩
       clear hW0
       obtain ⟨fa1, fa2, fa3, fa4, fa5, fa6, fa7, fa8, fa9, fb1, fb2, fb3, fb4, fb5, fb6, fb7, fb8, fb9⟩ := PS0.out.facts
       go_wp2
       refine bodyPost_ret (v := .tuple #[.agg #[.int .i64 s1, .int .i64 0, .int .i64 0, .int .u32 0], .int .i64 0]) (by simp [results, Tryd.results28, go_sem, fa1, fa2, fa3, fa4, fa5, fa6, fa7, fa8, fa9, fb1, fb2, fb3, fb4, fb5, fb6, fb7, fb8, fb9, o1, o2, o3, o4, o5, o6]) rfl ⟨rfl, ?_⟩
       exact (((PS0.out.bel.setCell (Nat.le_refl _) _).setCell (Nat.le_refl _) _).setCell (Nat.le_refl _) _).setCell (Nat.le_refl _) _
    ·-- has false, ways true
     obtain ⟨b1, b2, b3, eb⟩ : ∃ x1 x2 x3, numStep 255 ws s1 = (x1, x2, x3) := ⟨_, _, _, rfl⟩
     obtain ⟨c1, c2, c3, ec⟩ : ∃ x1 x2 x3, numStep 255 b2 b3 = (x1, x2, x3) := ⟨_, _, _, rfl⟩
     have hpr : parseRest s1 false true ws = if c3 < 0 then none else if c2.length > 0 then none else some (c3, wrap64 b1, wrap64 c1, 0) := by unfold parseRest; simp [eb, ec]
     have HP2 := HP.out
     rw [hpr] at HP2
     have HQ := Aside0.mk HP2
     clear hpr HP2 HP
     have Eb := Aside0.mk eb
     clear eb
     have Ec := Aside0.mk ec
     clear ec
     by_cases h0 : c3 < 0
     ·have t3 : decide (c3 < 0) = true := dT h0
      have HZ := HQ.out
      rw [if_pos h0] at HZ
      simp only [Prod.mk.injEq] at HZ
      obtain ⟨rfl, rfl, rfl, rfl, rfl⟩ := HZ
      clear HQ h0
      go_wp2
      go_quiet (fail)
      go_upto_region 9 with fail
      obtain ⟨W0, hW0⟩ : ∃ W0, W0 = ((((wr.alloc (.cells #[.int .i64 s1, .string s2, .bool false, .bool true] 63)).drewN nq).alloc (.cells #[.int .i64 s1, .int .i64 0, .int .i64 0, .int .u32 0] 45)).alloc (.cells #[.slice A2 ws.length (c - 1)] 77)) := ⟨_, rfl⟩
      rw [← hW0]
      have PS0 : Aside0 (PS w w.heap.size wr.heap.size (wr.heap.size + 1) (wr.heap.size + 1 + 1) s1 s2 false true A2 (c - 1) ws s1 0 0 0 W0) := ⟨by rw [hW0]; exact PS.start s1 s2 false true nq HLO.out BEL.out BOX.out HC2.out HL.out⟩
      clear hW0
      obtain ⟨fa1, fa2, fa3, fa4, fa5, fa6, fa7, fa8, fa9, fb1, fb2, fb3, fb4, fb5, fb6, fb7, fb8, fb9⟩ := PS0.out.facts
      go_wp2_with fail
      clear fa1 fa2 fa3 fa4 fa5 fa6 fa7 fa8 fa9 fb1 fb2 fb3 fb4 fb5 fb6 fb7 fb8 fb9
      refine (PS0.out.call 255).mono ?_
      rw [Eb.out]
      rintro e W1 ⟨rfl, A1_, c1_, ps⟩
      have PS1 := Aside0.mk ps
      clear ps
      obtain ⟨fa1, fa2, fa3, fa4, fa5, fa6, fa7, fa8, fa9, fb1, fb2, fb3, fb4, fb5, fb6, fb7, fb8, fb9⟩ := PS1.out.facts
      go_wp2_with fail
      have PS2 := Aside0.mk (PS1.out.set 1 (.int .i64 (wrap64 b1)) rfl)
      clear fa1 fa2 fa3 fa4 fa5 fa6 fa7 fa8 fa9 fb1 fb2 fb3 fb4 fb5 fb6 fb7 fb8 fb9
      refine (PS2.out.call 255).mono ?_
      rw [Ec.out]
      rintro e W3 ⟨rfl, A3_, c3_, ps⟩
      have PS3 := Aside0.mk ps
      clear ps
      obtain ⟨fa1, fa2, fa3, fa4, fa5, fa6, fa7, fa8, fa9, fb1, fb2, fb3, fb4, fb5, fb6, fb7, fb8, fb9⟩ := PS3.out.facts
      go_wp2
      have PS4 := Aside0.mk (PS3.out.set 2 (.int .i64 (wrap64 c1)) rfl)
      refine bodyPost_ret (v := .tuple #[.agg #[.int .i64 0, .int .i64 0, .int .i64 0, .int .u32 0], .int .i64 2]) (by simp [results, Tryd.results28, go_sem, fa1, fa2, fa3, fa4, fa5, fa6, fa7, fa8, fa9, fb1, fb2, fb3, fb4, fb5, fb6, fb7, fb8, fb9, o1, o2, o3, o4, o5, o6]) rfl ⟨rfl, ?_⟩
      exact (((PS4.out.bel.setCell (Nat.le_refl _) _).setCell (Nat.le_refl _) _).setCell (Nat.le_refl _) _).setCell (Nat.le_refl _) _
     ·have t3 : decide (c3 < 0) = false := dF h0
      by_cases h1 : c2.length > 0
      ·have t4 : decide (0 < (c2.length : Int)) = true := dT (by omega)
       have t5 : (0 < c2.length) = True := eq_true h1
       have t6 : decide (0 < c2.length) = true := dT h1
       have HZ := HQ.out
       rw [if_neg h0, if_pos h1] at HZ
       simp only [Prod.mk.injEq] at HZ
       obtain ⟨rfl, rfl, rfl, rfl, rfl⟩ := HZ
       clear HQ h0 h1
       go_wp2
       go_quiet (fail)
       go_upto_region 9 with fail
       obtain ⟨W0, hW0⟩ : ∃ W0, W0 = ((((wr.alloc (.cells #[.int .i64 s1, .string s2, .bool false, .bool true] 63)).drewN nq).alloc (.cells #[.int .i64 s1, .int .i64 0, .int .i64 0, .int .u32 0] 45)).alloc (.cells #[.slice A2 ws.length (c - 1)] 77)) := ⟨_, rfl⟩
       rw [← hW0]
       have PS0 : Aside0 (PS w w.heap.size wr.heap.size (wr.heap.size + 1) (wr.heap.size + 1 + 1) s1 s2 false true A2 (c - 1) ws s1 0 0 0 W0) := ⟨by rw [hW0]; exact PS.start s1 s2 false true nq HLO.out BEL.out BOX.out HC2.out HL.out⟩
       clear hW0
       obtain ⟨fa1, fa2, fa3, fa4, fa5, fa6, fa7, fa8, fa9, fb1, fb2, fb3, fb4, fb5, fb6, fb7, fb8, fb9⟩ := PS0.out.facts
       go_wp2_with fail
       clear fa1 fa2 fa3 fa4 fa5 fa6 fa7 fa8 fa9 fb1 fb2 fb3 fb4 fb5 fb6 fb7 fb8 fb9
       refine (PS0.out.call 255).mono ?_
       rw [Eb.out]
       rintro e W1 ⟨rfl, A1_, c1_, ps⟩
       have PS1 := Aside0.mk ps
       clear ps
       obtain ⟨fa1, fa2, fa3, fa4, fa5, fa6, fa7, fa8, fa9, fb1, fb2, fb3, fb4, fb5, fb6, fb7, fb8, fb9⟩ := PS1.out.facts
       go_wp2_with fail
       have PS2 := Aside0.mk (PS1.out.set 1 (.int .i64 (wrap64 b1)) rfl)
       clear fa1 fa2 fa3 fa4 fa5 fa6 fa7 fa8 fa9 fb1 fb2 fb3 fb4 fb5 fb6 fb7 fb8 fb9
       refine (PS2.out.call 255).mono ?_
       rw [Ec.out]
       rintro e W3 ⟨rfl, A3_, c3_, ps⟩
       have PS3 := Aside0.mk ps
       clear ps
       obtain ⟨fa1, fa2, fa3, fa4, fa5, fa6, fa7, fa8, fa9, fb1, fb2, fb3, fb4, fb5, fb6, fb7, fb8, fb9⟩ := PS3.out.facts
       go_wp2
       have PS4 := Aside0.mk (PS3.out.set 2 (.int .i64 (wrap64 c1)) rfl)
       refine bodyPost_ret (v := .tuple #[.agg #[.int .i64 0, .int .i64 0, .int .i64 0, .int .u32 0], .int .i64 2]) (by simp [results, Tryd.results28, go_sem, fa1, fa2, fa3, fa4, fa5, fa6, fa7, fa8, fa9, fb1, fb2, fb3, fb4, fb5, fb6, fb7, fb8, fb9, o1, o2, o3, o4, o5, o6]) rfl ⟨rfl, ?_⟩
       exact (((PS4.out.bel.setCell (Nat.le_refl _) _).setCell (Nat.le_refl _) _).setCell (Nat.le_refl _) _).setCell (Nat.le_refl _) _
      ·have t4 : decide (0 < (c2.length : Int)) = false := dF (by omega)
       have t5 : (0 < c2.length) = False := eq_false h1
       have t6 : decide (0 < c2.length) = false := dF h1
       have HZ := HQ.out
       rw [if_neg h0, if_neg h1] at HZ
       simp only [Prod.mk.injEq] at HZ
       obtain ⟨rfl, rfl, rfl, rfl, rfl⟩ := HZ
       clear HQ h0 h1
       go_wp2
       go_quiet (fail)
       go_upto_region 9 with fail
       obtain ⟨W0, hW0⟩ : ∃ W0, W0 = ((((wr.alloc (.cells #[.int .i64 s1, .string s2, .bool false, .bool true] 63)).drewN nq).alloc (.cells #[.int .i64 s1, .int .i64 0, .int .i64 0, .int .u32 0] 45)).alloc (.cells #[.slice A2 ws.length (c - 1)] 77)) := ⟨_, rfl⟩
       rw [← hW0]
       have PS0 : Aside0 (PS w w.heap.size wr.heap.size (wr.heap.size + 1) (wr.heap.size + 1 + 1) s1 s2 false true A2 (c - 1) ws s1 0 0 0 W0) := ⟨by rw [hW0]; exact PS.start s1 s2 false true nq HLO.out BEL.out BOX.out HC2.out HL.out⟩
       clear hW0
       obtain ⟨fa1, fa2, fa3, fa4, fa5, fa6, fa7, fa8, fa9, fb1, fb2, fb3, fb4, fb5, fb6, fb7, fb8, fb9⟩ := PS0.out.facts
       go_wp2_with fail
       clear fa1 fa2 fa3 fa4 fa5 fa6 fa7 fa8 fa9 fb1 fb2 fb3 fb4 fb5 fb6 fb7 fb8 fb9
       refine (PS0.out.call 255).mono ?_
       rw [Eb.out]
       rintro e W1 ⟨rfl, A1_, c1_, ps⟩
       have PS1 := Aside0.mk ps
       clear ps
       obtain ⟨fa1, fa2, fa3, fa4, fa5, fa6, fa7, fa8, fa9, fb1, fb2, fb3, fb4, fb5, fb6, fb7, fb8, fb9⟩ := PS1.out.facts
       go_wp2_with fail
       have PS2 := Aside0.mk (PS1.out.set 1 (.int .i64 (wrap64 b1)) rfl)
       clear fa1 fa2 fa3 fa4 fa5 fa6 fa7 fa8 fa9 fb1 fb2 fb3 fb4 fb5 fb6 fb7 fb8 fb9
       refine (PS2.out.call 255).mono ?_
       rw [Ec.out]
       rintro e W3 ⟨rfl, A3_, c3_, ps⟩
       have PS3 := Aside0.mk ps
       clear ps
       obtain ⟨fa1, fa2, fa3, fa4, fa5, fa6, fa7, fa8, fa9, fb1, fb2, fb3, fb4, fb5, fb6, fb7, fb8, fb9⟩ := PS3.out.facts
       go_wp2
       have PS4 := Aside0.mk (PS3.out.set 2 (.int .i64 (wrap64 c1)) rfl)
       refine bodyPost_ret (v := .tuple #[.agg #[.int .i64 c3, .int .i64 (wrap64 b1), .int .i64 (wrap64 c1), .int .u32 0], .int .i64 0]) (by simp [results, Tryd.results28, go_sem, fa1, fa2, fa3, fa4, fa5, fa6, fa7, fa8, fa9, fb1, fb2, fb3, fb4, fb5, fb6, fb7, fb8, fb9, o1, o2, o3, o4, o5, o6]) rfl ⟨rfl, ?_⟩
       exact (((PS4.out.bel.setCell (Nat.le_refl _) _).setCell (Nat.le_refl _) _).setCell (Nat.le_refl _) _).setCell (Nat.le_refl _) _
    ·-- has true, ways false
     obtain ⟨a1, a2, a3, ea⟩ : ∃ x1 x2 x3, numStep 4294967295 ws s1 = (x1, x2, x3) := ⟨_, _, _, rfl⟩
     have hpr : parseRest s1 true false ws = if a3 < 0 then none else if a2.length > 0 then none else some (a3, 0, 0, a1 % 4294967296) := by unfold parseRest; simp [ea]
     have HP2 := HP.out
     rw [hpr] at HP2
     have HQ := Aside0.mk HP2
     clear hpr HP2 HP
     have Ea := Aside0.mk ea
     clear ea
     by_cases h0 : a3 < 0
     ·have t3 : decide (a3 < 0) = true := dT h0
      have HZ := HQ.out
      rw [if_pos h0] at HZ
      simp only [Prod.mk.injEq] at HZ
      obtain ⟨rfl, rfl, rfl, rfl, rfl⟩ := HZ
      clear HQ h0
      go_wp2
      go_quiet (fail)
      go_upto_region 9 with fail
      obtain ⟨W0, hW0⟩ : ∃ W0, W0 = ((((wr.alloc (.cells #[.int .i64 s1, .string s2, .bool true, .bool false] 63)).drewN nq).alloc (.cells #[.int .i64 s1, .int .i64 0, .int .i64 0, .int .u32 0] 45)).alloc (.cells #[.slice A2 ws.length (c - 1)] 77)) := ⟨_, rfl⟩
      rw [← hW0]
      have PS0 : Aside0 (PS w w.heap.size wr.heap.size (wr.heap.size + 1) (wr.heap.size + 1 + 1) s1 s2 true false A2 (c - 1) ws s1 0 0 0 W0) := ⟨by rw [hW0]; exact PS.start s1 s2 true false nq HLO.out BEL.out BOX.out HC2.out HL.out⟩
      clear hW0
      obtain ⟨fa1, fa2, fa3, fa4, fa5, fa6, fa7, fa8, fa9, fb1, fb2, fb3, fb4, fb5, fb6, fb7, fb8, fb9⟩ := PS0.out.facts
      go_wp2_with fail
      clear fa1 fa2 fa3 fa4 fa5 fa6 fa7 fa8 fa9 fb1 fb2 fb3 fb4 fb5 fb6 fb7 fb8 fb9
      refine (PS0.out.call 4294967295).mono ?_
      rw [Ea.out]
      rintro e W1 ⟨rfl, A1_, c1_, ps⟩
      have PS1 := Aside0.mk ps
      clear ps
      obtain ⟨fa1, fa2, fa3, fa4, fa5, fa6, fa7, fa8, fa9, fb1, fb2, fb3, fb4, fb5, fb6, fb7, fb8, fb9⟩ := PS1.out.facts
      go_wp2
      have PS2 := Aside0.mk (PS1.out.set 3 (.int .u32 (a1 % 4294967296)) rfl)
      refine bodyPost_ret (v := .tuple #[.agg #[.int .i64 0, .int .i64 0, .int .i64 0, .int .u32 0], .int .i64 2]) (by simp [results, Tryd.results28, go_sem, fa1, fa2, fa3, fa4, fa5, fa6, fa7, fa8, fa9, fb1, fb2, fb3, fb4, fb5, fb6, fb7, fb8, fb9, o1, o2, o3, o4, o5, o6]) rfl ⟨rfl, ?_⟩
      exact (((PS2.out.bel.setCell (Nat.le_refl _) _).setCell (Nat.le_refl _) _).setCell (Nat.le_refl _) _).setCell (Nat.le_refl _) _
     ·have t3 : decide (a3 < 0) = false := dF h0
      by_cases h1 : a2.length > 0
      ·have t4 : decide (0 < (a2.length : Int)) = true := dT (by omega)
       have t5 : (0 < a2.length) = True := eq_true h1
       have t6 : decide (0 < a2.length) = true := dT h1
       have HZ := HQ.out
       rw [if_neg h0, if_pos h1] at HZ
       simp only [Prod.mk.injEq] at HZ
       obtain ⟨rfl, rfl, rfl, rfl, rfl⟩ := HZ
       clear HQ h0 h1
       go_wp2
       go_quiet (fail)
       go_upto_region 9 with fail
       obtain ⟨W0, hW0⟩ : ∃ W0, W0 = ((((wr.alloc (.cells #[.int .i64 s1, .string s2, .bool true, .bool false] 63)).drewN nq).alloc (.cells #[.int .i64 s1, .int .i64 0, .int .i64 0, .int .u32 0] 45)).alloc (.cells #[.slice A2 ws.length (c - 1)] 77)) := ⟨_, rfl⟩
       rw [← hW0]
       have PS0 : Aside0 (PS w w.heap.size wr.heap.size (wr.heap.size + 1) (wr.heap.size + 1 + 1) s1 s2 true false A2 (c - 1) ws s1 0 0 0 W0) := ⟨by rw [hW0]; exact PS.start s1 s2 true false nq HLO.out BEL.out BOX.out HC2.out HL.out⟩
       clear hW0
       obtain ⟨fa1, fa2, fa3, fa4, fa5, fa6, fa7, fa8, fa9, fb1, fb2, fb3, fb4, fb5, fb6, fb7, fb8, fb9⟩ := PS0.out.facts
       go_wp2_with fail
       clear fa1 fa2 fa3 fa4 fa5 fa6 fa7 fa8 fa9 fb1 fb2 fb3 fb4 fb5 fb6 fb7 fb8 fb9
       refine (PS0.out.call 4294967295).mono ?_
       rw [Ea.out]
       rintro e W1 ⟨rfl, A1_, c1_, ps⟩
       have PS1 := Aside0.mk ps
       clear ps
       obtain ⟨fa1, fa2, fa3, fa4, fa5, fa6, fa7, fa8, fa9, fb1, fb2, fb3, fb4, fb5, fb6, fb7, fb8, fb9⟩ := PS1.out.facts
       go_wp2
       have PS2 := Aside0.mk (PS1.out.set 3 (.int .u32 (a1 % 4294967296)) rfl)
       refine bodyPost_ret (v := .tuple #[.agg #[.int .i64 0, .int .i64 0, .int .i64 0, .int .u32 0], .int .i64 2]) (by simp [results, Tryd.results28, go_sem, fa1, fa2, fa3, fa4, fa5, fa6, fa7, fa8, fa9, fb1, fb2, fb3, fb4, fb5, fb6, fb7, fb8, fb9, o1, o2, o3, o4, o5, o6]) rfl ⟨rfl, ?_⟩
       exact (((PS2.out.bel.setCell (Nat.le_refl _) _).setCell (Nat.le_refl _) _).setCell (Nat.le_refl _) _).setCell (Nat.le_refl _) _
      ·have t4 : decide (0 < (a2.length : Int)) = false := dF (by omega)
       have t5 : (0 < a2.length) = False := eq_false h1
       have t6 : decide (0 < a2.length) = false := dF h1
       have HZ := HQ.out
       rw [if_neg h0, if_neg h1] at HZ
       simp only [Prod.mk.injEq] at HZ
       obtain ⟨rfl, rfl, rfl, rfl, rfl⟩ := HZ
       clear HQ h0 h1
       go_wp2
       go_quiet (fail)
       go_upto_region 9 with fail
       obtain ⟨W0, hW0⟩ : ∃ W0, W0 = ((((wr.alloc (.cells #[.int .i64 s1, .string s2, .bool true, .bool false] 63)).drewN nq).alloc (.cells #[.int .i64 s1, .int .i64 0, .int .i64 0, .int .u32 0] 45)).alloc (.cells #[.slice A2 ws.length (c - 1)] 77)) := ⟨_, rfl⟩
       rw [← hW0]
       have PS0 : Aside0 (PS w w.heap.size wr.heap.size (wr.heap.size + 1) (wr.heap.size + 1 + 1) s1 s2 true false A2 (c - 1) ws s1 0 0 0 W0) := ⟨by rw [hW0]; exact PS.start s1 s2 true false nq HLO.out BEL.out BOX.out HC2.out HL.out⟩
       clear hW0
       obtain ⟨fa1, fa2, fa3, fa4, fa5, fa6, fa7, fa8, fa9, fb1, fb2, fb3, fb4, fb5, fb6, fb7, fb8, fb9⟩ := PS0.out.facts
       go_wp2_with fail
       clear fa1 fa2 fa3 fa4 fa5 fa6 fa7 fa8 fa9 fb1 fb2 fb3 fb4 fb5 fb6 fb7 fb8 fb9
       refine (PS0.out.call 4294967295).mono ?_
       rw [Ea.out]
       rintro e W1 ⟨rfl, A1_, c1_, ps⟩
       have PS1 := Aside0.mk ps
       clear ps
       obtain ⟨fa1, fa2, fa3, fa4, fa5, fa6, fa7, fa8, fa9, fb1, fb2, fb3, fb4, fb5, fb6, fb7, fb8, fb9⟩ := PS1.out.facts
       go_wp2
       have PS2 := Aside0.mk (PS1.out.set 3 (.int .u32 (a1 % 4294967296)) rfl)
       refine bodyPost_ret (v := .tuple #[.agg #[.int .i64 a3, .int .i64 0, .int .i64 0, .int .u32 (a1 % 4294967296)], .int .i64 0]) (by simp [results, Tryd.results28, go_sem, fa1, fa2, fa3, fa4, fa5, fa6, fa7, fa8, fa9, fb1, fb2, fb3, fb4, fb5, fb6, fb7, fb8, fb9, o1, o2, o3, o4, o5, o6]) rfl ⟨rfl, ?_⟩
       exact (((PS2.out.bel.setCell (Nat.le_refl _) _).setCell (Nat.le_refl _) _).setCell (Nat.le_refl _) _).setCell (Nat.le_refl _) _
    ·-- has true, ways true
     obtain ⟨a1, a2, a3, ea⟩ : ∃ x1 x2 x3, numStep 4294967295 ws s1 = (x1, x2, x3) := ⟨_, _, _, rfl⟩
     obtain ⟨b1, b2, b3, eb⟩ : ∃ x1 x2 x3, numStep 255 a2 a3 = (x1, x2, x3) := ⟨_, _, _, rfl⟩
     obtain ⟨c1, c2, c3, ec⟩ : ∃ x1 x2 x3, numStep 255 b2 b3 = (x1, x2, x3) := ⟨_, _, _, rfl⟩
     have hpr : parseRest s1 true true ws = if c3 < 0 then none else if c2.length > 0 then none else some (c3, wrap64 b1, wrap64 c1, a1 % 4294967296) := by unfold parseRest; simp [ea, eb, ec]
     have HP2 := HP.out
     rw [hpr] at HP2
     have HQ := Aside0.mk HP2
     clear hpr HP2 HP
     have Ea := Aside0.mk ea
     clear ea
     have Eb := Aside0.mk eb
     clear eb
     have Ec := Aside0.mk ec
     clear ec
     by_cases h0 : c3 < 0
     ·have t3 : decide (c3 < 0) = true := dT h0
      have HZ := HQ.out
      rw [if_pos h0] at HZ
      simp only [Prod.mk.injEq] at HZ
      obtain ⟨rfl, rfl, rfl, rfl, rfl⟩ := HZ
      clear HQ h0
      go_wp2
      go_quiet (fail)
      go_upto_region 9 with fail
      obtain ⟨W0, hW0⟩ : ∃ W0, W0 = ((((wr.alloc (.cells #[.int .i64 s1, .string s2, .bool true, .bool true] 63)).drewN nq).alloc (.cells #[.int .i64 s1, .int .i64 0, .int .i64 0, .int .u32 0] 45)).alloc (.cells #[.slice A2 ws.length (c - 1)] 77)) := ⟨_, rfl⟩
      rw [← hW0]
      have PS0 : Aside0 (PS w w.heap.size wr.heap.size (wr.heap.size + 1) (wr.heap.size + 1 + 1) s1 s2 true true A2 (c - 1) ws s1 0 0 0 W0) := ⟨by rw [hW0]; exact PS.start s1 s2 true true nq HLO.out BEL.out BOX.out HC2.out HL.out⟩
      clear hW0
      obtain ⟨fa1, fa2, fa3, fa4, fa5, fa6, fa7, fa8, fa9, fb1, fb2, fb3, fb4, fb5, fb6, fb7, fb8, fb9⟩ := PS0.out.facts
      go_wp2_with fail
      clear fa1 fa2 fa3 fa4 fa5 fa6 fa7 fa8 fa9 fb1 fb2 fb3 fb4 fb5 fb6 fb7 fb8 fb9
      refine (PS0.out.call 4294967295).mono ?_
      rw [Ea.out]
      rintro e W1 ⟨rfl, A1_, c1_, ps⟩
      have PS1 := Aside0.mk ps
      clear ps
      obtain ⟨fa1, fa2, fa3, fa4, fa5, fa6, fa7, fa8, fa9, fb1, fb2, fb3, fb4, fb5, fb6, fb7, fb8, fb9⟩ := PS1.out.facts
      go_wp2_with fail
      have PS2 := Aside0.mk (PS1.out.set 3 (.int .u32 (a1 % 4294967296)) rfl)
      clear fa1 fa2 fa3 fa4 fa5 fa6 fa7 fa8 fa9 fb1 fb2 fb3 fb4 fb5 fb6 fb7 fb8 fb9
      refine (PS2.out.call 255).mono ?_
      rw [Eb.out]
      rintro e W3 ⟨rfl, A3_, c3_, ps⟩
      have PS3 := Aside0.mk ps
      clear ps
      obtain ⟨fa1, fa2, fa3, fa4, fa5, fa6, fa7, fa8, fa9, fb1, fb2, fb3, fb4, fb5, fb6, fb7, fb8, fb9⟩ := PS3.out.facts
      go_wp2_with fail
      have PS4 := Aside0.mk (PS3.out.set 1 (.int .i64 (wrap64 b1)) rfl)
      clear fa1 fa2 fa3 fa4 fa5 fa6 fa7 fa8 fa9 fb1 fb2 fb3 fb4 fb5 fb6 fb7 fb8 fb9
      refine (PS4.out.call 255).mono ?_
      rw [Ec.out]
      rintro e W5 ⟨rfl, A5_, c5_, ps⟩
      have PS5 := Aside0.mk ps
      clear ps
      obtain ⟨fa1, fa2, fa3, fa4, fa5, fa6, fa7, fa8, fa9, fb1, fb2, fb3, fb4, fb5, fb6, fb7, fb8, fb9⟩ := PS5.out.facts
      go_wp2
      have PS6 := Aside0.mk (PS5.out.set 2 (.int .i64 (wrap64 c1)) rfl)
      refine bodyPost_ret (v := .tuple #[.agg #[.int .i64 0, .int .i64 0, .int .i64 0, .int .u32 0], .int .i64 2]) (by simp [results, Tryd.results28, go_sem, fa1, fa2, fa3, fa4, fa5, fa6, fa7, fa8, fa9, fb1, fb2, fb3, fb4, fb5, fb6, fb7, fb8, fb9, o1, o2, o3, o4, o5, o6]) rfl ⟨rfl, ?_⟩
      exact (((PS6.out.bel.setCell (Nat.le_refl _) _).setCell (Nat.le_refl _) _).setCell (Nat.le_refl _) _).setCell (Nat.le_refl _) _
     ·have t3 : decide (c3 < 0) = false := dF h0
      by_cases h1 : c2.length > 0
      ·have t4 : decide (0 < (c2.length : Int)) = true := dT (by omega)
       have t5 : (0 < c2.length) = True := eq_true h1
       have t6 : decide (0 < c2.length) = true := dT h1
       have HZ := HQ.out
       rw [if_neg h0, if_pos h1] at HZ
       simp only [Prod.mk.injEq] at HZ
       obtain ⟨rfl, rfl, rfl, rfl, rfl⟩ := HZ
       clear HQ h0 h1
       go_wp2
       go_quiet (fail)
       go_upto_region 9 with fail
       obtain ⟨W0, hW0⟩ : ∃ W0, W0 = ((((wr.alloc (.cells #[.int .i64 s1, .string s2, .bool true, .bool true] 63)).drewN nq).alloc (.cells #[.int .i64 s1, .int .i64 0, .int .i64 0, .int .u32 0] 45)).alloc (.cells #[.slice A2 ws.length (c - 1)] 77)) := ⟨_, rfl⟩
       rw [← hW0]
       have PS0 : Aside0 (PS w w.heap.size wr.heap.size (wr.heap.size + 1) (wr.heap.size + 1 + 1) s1 s2 true true A2 (c - 1) ws s1 0 0 0 W0) := ⟨by rw [hW0]; exact PS.start s1 s2 true true nq HLO.out BEL.out BOX.out HC2.out HL.out⟩
       clear hW0
       obtain ⟨fa1, fa2, fa3, fa4, fa5, fa6, fa7, fa8, fa9, fb1, fb2, fb3, fb4, fb5, fb6, fb7, fb8, fb9⟩ := PS0.out.facts
       go_wp2_with fail
       clear fa1 fa2 fa3 fa4 fa5 fa6 fa7 fa8 fa9 fb1 fb2 fb3 fb4 fb5 fb6 fb7 fb8 fb9
       refine (PS0.out.call 4294967295).mono ?_
       rw [Ea.out]
       rintro e W1 ⟨rfl, A1_, c1_, ps⟩
       have PS1 := Aside0.mk ps
       clear ps
       obtain ⟨fa1, fa2, fa3, fa4, fa5, fa6, fa7, fa8, fa9, fb1, fb2, fb3, fb4, fb5, fb6, fb7, fb8, fb9⟩ := PS1.out.facts
       go_wp2_with fail
       have PS2 := Aside0.mk (PS1.out.set 3 (.int .u32 (a1 % 4294967296)) rfl)
       clear fa1 fa2 fa3 fa4 fa5 fa6 fa7 fa8 fa9 fb1 fb2 fb3 fb4 fb5 fb6 fb7 fb8 fb9
       refine (PS2.out.call 255).mono ?_
       rw [Eb.out]
       rintro e W3 ⟨rfl, A3_, c3_, ps⟩
       have PS3 := Aside0.mk ps
       clear ps
       obtain ⟨fa1, fa2, fa3, fa4, fa5, fa6, fa7, fa8, fa9, fb1, fb2, fb3, fb4, fb5, fb6, fb7, fb8, fb9⟩ := PS3.out.facts
       go_wp2_with fail
       have PS4 := Aside0.mk (PS3.out.set 1 (.int .i64 (wrap64 b1)) rfl)
       clear fa1 fa2 fa3 fa4 fa5 fa6 fa7 fa8 fa9 fb1 fb2 fb3 fb4 fb5 fb6 fb7 fb8 fb9
       refine (PS4.out.call 255).mono ?_
       rw [Ec.out]
       rintro e W5 ⟨rfl, A5_, c5_, ps⟩
       have PS5 := Aside0.mk ps
       clear ps
       obtain ⟨fa1, fa2, fa3, fa4, fa5, fa6, fa7, fa8, fa9, fb1, fb2, fb3, fb4, fb5, fb6, fb7, fb8, fb9⟩ := PS5.out.facts
       go_wp2
       have PS6 := Aside0.mk (PS5.out.set 2 (.int .i64 (wrap64 c1)) rfl)
       refine bodyPost_ret (v := .tuple #[.agg #[.int .i64 0, .int .i64 0, .int .i64 0, .int .u32 0], .int .i64 2]) (by simp [results, Tryd.results28, go_sem, fa1, fa2, fa3, fa4, fa5, fa6, fa7, fa8, fa9, fb1, fb2, fb3, fb4, fb5, fb6, fb7, fb8, fb9, o1, o2, o3, o4, o5, o6]) rfl ⟨rfl, ?_⟩
       exact (((PS6.out.bel.setCell (Nat.le_refl _) _).setCell (Nat.le_refl _) _).setCell (Nat.le_refl _) _).setCell (Nat.le_refl _) _
      ·have t4 : decide (0 < (c2.length : Int)) = false := dF (by omega)
       have t5 : (0 < c2.length) = False := eq_false h1
       have t6 : decide (0 < c2.length) = false := dF h1
       have HZ := HQ.out
       rw [if_neg h0, if_neg h1] at HZ
       simp only [Prod.mk.injEq] at HZ
       obtain ⟨rfl, rfl, rfl, rfl, rfl⟩ := HZ
       clear HQ h0 h1
       go_wp2
       go_quiet (fail)
       go_upto_region 9 with fail
       obtain ⟨W0, hW0⟩ : ∃ W0, W0 = ((((wr.alloc (.cells #[.int .i64 s1, .string s2, .bool true, .bool true] 63)).drewN nq).alloc (.cells #[.int .i64 s1, .int .i64 0, .int .i64 0, .int .u32 0] 45)).alloc (.cells #[.slice A2 ws.length (c - 1)] 77)) := ⟨_, rfl⟩
       rw [← hW0]
       have PS0 : Aside0 (PS w w.heap.size wr.heap.size (wr.heap.size + 1) (wr.heap.size + 1 + 1) s1 s2 true true A2 (c - 1) ws s1 0 0 0 W0) := ⟨by rw [hW0]; exact PS.start s1 s2 true true nq HLO.out BEL.out BOX.out HC2.out HL.out⟩
       clear hW0
       obtain ⟨fa1, fa2, fa3, fa4, fa5, fa6, fa7, fa8, fa9, fb1, fb2, fb3, fb4, fb5, fb6, fb7, fb8, fb9⟩ := PS0.out.facts
       go_wp2_with fail
       clear fa1 fa2 fa3 fa4 fa5 fa6 fa7 fa8 fa9 fb1 fb2 fb3 fb4 fb5 fb6 fb7 fb8 fb9
       refine (PS0.out.call 4294967295).mono ?_
       rw [Ea.out]
       rintro e W1 ⟨rfl, A1_, c1_, ps⟩
       have PS1 := Aside0.mk ps
       clear ps
       obtain ⟨fa1, fa2, fa3, fa4, fa5, fa6, fa7, fa8, fa9, fb1, fb2, fb3, fb4, fb5, fb6, fb7, fb8, fb9⟩ := PS1.out.facts
       go_wp2_with fail
       have PS2 := Aside0.mk (PS1.out.set 3 (.int .u32 (a1 % 4294967296)) rfl)
       clear fa1 fa2 fa3 fa4 fa5 fa6 fa7 fa8 fa9 fb1 fb2 fb3 fb4 fb5 fb6 fb7 fb8 fb9
       refine (PS2.out.call 255).mono ?_
       rw [Eb.out]
       rintro e W3 ⟨rfl, A3_, c3_, ps⟩
       have PS3 := Aside0.mk ps
       clear ps
       obtain ⟨fa1, fa2, fa3, fa4, fa5, fa6, fa7, fa8, fa9, fb1, fb2, fb3, fb4, fb5, fb6, fb7, fb8, fb9⟩ := PS3.out.facts
       go_wp2_with fail
       have PS4 := Aside0.mk (PS3.out.set 1 (.int .i64 (wrap64 b1)) rfl)
       clear fa1 fa2 fa3 fa4 fa5 fa6 fa7 fa8 fa9 fb1 fb2 fb3 fb4 fb5 fb6 fb7 fb8 fb9
       refine (PS4.out.call 255).mono ?_
       rw [Ec.out]
       rintro e W5 ⟨rfl, A5_, c5_, ps⟩
       have PS5 := Aside0.mk ps
       clear ps
       obtain ⟨fa1, fa2, fa3, fa4, fa5, fa6, fa7, fa8, fa9, fb1, fb2, fb3, fb4, fb5, fb6, fb7, fb8, fb9⟩ := PS5.out.facts
       go_wp2
       have PS6 := Aside0.mk (PS5.out.set 2 (.int .i64 (wrap64 c1)) rfl)
       refine bodyPost_ret (v := .tuple #[.agg #[.int .i64 c3, .int .i64 (wrap64 b1), .int .i64 (wrap64 c1), .int .u32 (a1 % 4294967296)], .int .i64 0]) (by simp [results, Tryd.results28, go_sem, fa1, fa2, fa3, fa4, fa5, fa6, fa7, fa8, fa9, fb1, fb2, fb3, fb4, fb5, fb6, fb7, fb8, fb9, o1, o2, o3, o4, o5, o6]) rfl ⟨rfl, ?_⟩
       exact (((PS6.out.bel.setCell (Nat.le_refl _) _).setCell (Nat.le_refl _) _).setCell (Nat.le_refl _) _).setCell (Nat.le_refl _) _
   ·have t1 : (s2.toList == w0.toList) = false := bF.mpr he
    have t2 : (s2.toList != w0.toList) = true := nI.mpr he
    have HP : Aside0 (parseIn (shapeT.drop (i + 1)) w0 ws = (r1, r2, r3, r4, r5)) := ⟨by rw [← HH.out, HD.out]; unfold parseIn; rw [List.find?_cons, t1]⟩
    clear he HH HD
    go_wp2
    go_quiet (fail)
    go_wp2
    exact ⟨⟨i + 1, by omega, by go_num, HP, ⟨zN (zA HBr.out _) nq⟩⟩, by simp [intOf]; omega⟩
  ·obtain rfl : i = 39 := by omega
   have HZ : ((0, 0, 0, 0, 2) : Int × Int × Int × Int × Int) = (r1, r2, r3, r4, r5) := by rw [← HH.out]; rfl
   simp only [Prod.mk.injEq] at HZ
   obtain ⟨rfl, rfl, rfl, rfl, rfl⟩ := HZ
   have BOX0 : wr.heap[w.heap.size]? = some (.cells #[.int .i64 0, .int .i64 0, .int .i64 0, .int .u32 0] 45 (0, 0)) := (HBr.out.block _ (by have := HB1.out.size; simp at this; omega)).trans ((HB1.out.block _ (Nat.lt_succ_self _)).trans (heap_alloc_new w _))
   have BEL : Below w.heap.size w wr := (((Below.refl w.heap.size w).alloc (Nat.le_refl _) _).trans (HB1.out.mono (Nat.le_succ _))).trans (HBr.out.mono (by have := HB1.out.size; simp at this; omega))
   have fb1 : wr.cell? ⟨w.heap.size, 0, none⟩ = some (.int .i64 0) := by simp [World.cell?, BOX0]
   have fb2 : wr.cell? ⟨w.heap.size, 1, none⟩ = some (.int .i64 0) := by simp [World.cell?, BOX0]
   have fb3 : wr.cell? ⟨w.heap.size, 2, none⟩ = some (.int .i64 0) := by simp [World.cell?, BOX0]
   have fb4 : wr.cell? ⟨w.heap.size, 3, none⟩ = some (.int .u32 0) := by simp [World.cell?, BOX0]
   have fb5 : wr.frozen? ⟨w.heap.size, 0, none⟩ = false := by simp [World.frozen?, BOX0]
   have fb6 : wr.frozen? ⟨w.heap.size, 1, none⟩ = false := by simp [World.frozen?, BOX0]
   have fb7 : wr.frozen? ⟨w.heap.size, 2, none⟩ = false := by simp [World.frozen?, BOX0]
   have fb8 : wr.frozen? ⟨w.heap.size, 3, none⟩ = false := by simp [World.frozen?, BOX0]
   have HBE := Aside0.mk BEL
   clear BEL BOX0 HH
   go_wp2
   refine bodyPost_ret (v := .tuple #[.agg #[.int .i64 0, .int .i64 0, .int .i64 0, .int .u32 0], .int .i64 2]) (by simp [results, Tryd.results28, go_sem, fb1, fb2, fb3, fb4]) rfl ⟨rfl, ?_⟩
   exact (((HBE.out.setCell (Nat.le_refl _) _).setCell (Nat.le_refl _) _).setCell (Nat.le_refl _) _).setCell (Nat.le_refl _) _
theorem ins_Parse.calls (s : ByteArray) (r1 r2 r3 r4 r5 : Int) (w : World) (hG : Glob w) (h : ins_Parse.f s = some (r1, r2, r3, r4, r5)) :
  Calls Tryd.prog 28 #[.string s] w fun e w' => e = .returned (.tuple #[.agg #[.int .i64 r1, .int .i64 r2, .int .i64 r3, .int .u32 r4], .int .i64 r5]) ∧ Below w.heap.size w w' := by
 unfold ins_Parse.f at h
 by_cases hs : s.size < 8796093022000
 ·rw [if_pos hs] at h
  obtain ⟨w0, ws, hw⟩ := wordsOf_cons s
  rw [hw] at h
  exact ins_Parse.walk s w0 ws r1 r2 r3 r4 r5 w hG hs hw (Option.some.inj h)
 ·rw [if_neg hs] at h
  cases h
end Go.Proofs.YtohpbjnihmcelaaDoor.M
