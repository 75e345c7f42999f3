/- What Go functions compute; their calls come to it. No condition. -/
import Derived.Test.YtahacmdhhfmhiaaDoorM0
import Derived.Test.YtahacmdhhfmhiaaDoorMA
import Derived.Test.YtahacmdhhfmhiaaDoorM7
namespace Go.Proofs.YtahacmdhhfmhiaaDoor.M
open Go.RowKit Go.Proofs.YtahacmdhhfmhiaaDoorW.PrintWords Go.Proofs.YtahacmdhhfmhiaaDoorW.PrintLast Go.Proofs.YtahacmdhhfmhiaaDoorW.PrintMore
attribute [local go_sem] max2_int min2_int max_two min_two max_three min_three max_four min_four   -- for this text's walks alone
set_option linter.unusedVariables false
set_option linter.unusedSimpArgs false
set_option maxRecDepth 100000 in
theorem upd_new {w : World} {r : Nat} {es : Array MapEntry} {clock : Nat} {k : Int} {v : Value} (hb : w.heap[r]? = some (.map es clock)) (hf : Instr.findNow (.int .i64) (.int .i64 k) es.toList 0 = some none) :
  (Instr.mapUpdate 103 (.map (some r)) (.int .i64 k) v).run Tryd.prog w = .ok () { w with heap := w.heap.setIfInBounds r (.map (es.push { key := .int .i64 k, val := v, born := clock }) (clock + 1)) } := by
 have hm := Tryd.underlying103
 have hd := Tryd.underlying3
 have hk : MapKept.IsKey (.int .i64) (.int .i64 k) := by simp [MapKept.IsKey]
 simp [Instr.mapUpdate, run_underlying hm, MapKept.run_getObj_map hb, MapKept.run_checkKey hd hk, MapKept.run_findKey hd hf, MapKept.run_setObj_map _ hb, Result.andThen]
set_option maxRecDepth 100000 in
theorem upd_step {w0 w : World} {r : Nat} {es : Array MapEntry} {clock : Nat} {k : Int} {v : Value} (hb : w.heap[r]? = some (.map es clock)) (hf : Instr.findNow (.int .i64) (.int .i64 k) es.toList 0 = some none) (hB : Below w0.heap.size w0 w) (hr : w0.heap.size ≤ r) :
  ∃ w1, (Instr.mapUpdate 103 (.map (some r)) (.int .i64 k) v).run Tryd.prog w = .ok () w1 ∧ w1.heap[r]? = some (.map (es.push { key := .int .i64 k, val := v, born := clock }) (clock + 1)) ∧ (∀ i, i ≠ r → w1.heap[i]? = w.heap[i]?) ∧ Below w0.heap.size w0 w1 := by
 refine ⟨_, upd_new hb hf, (MapKept.heap_set hb).1, (MapKept.heap_set hb).2, ?_⟩
 refine ⟨hB.os, hB.tape, hB.output, by simpa using hB.size, fun i hi => ?_⟩
 rw [(MapKept.heap_set (o' := .map (es.push { key := .int .i64 k, val := v, born := clock }) (clock + 1)) hb).2 i (by omega)]
 exact hB.block i hi
def ruleF (n b : Nat) : Value := .func (.func n) #[] #[.pointer (some ⟨b, 0, none⟩)]
def rulesEs (b : Nat) : Array MapEntry := #[{ key := .int .i64 32, val := ruleF 72 b, born := 0 }, { key := .int .i64 52, val := ruleF 73 b, born := 1 }, { key := .int .i64 2, val := ruleF 70 b, born := 2 }, { key := .int .i64 3, val := ruleF 70 b, born := 3 },
 { key := .int .i64 96, val := ruleF 70 b, born := 4 }, { key := .int .i64 97, val := ruleF 70 b, born := 5 }, { key := .int .i64 100, val := ruleF 71 b, born := 6 }, { key := .int .i64 116, val := ruleF 71 b, born := 7 }]
def RulesAt (w : World) (m b : Nat) : Prop := w.heap[m]? = some (.map (rulesEs b) 8) ∧ w.heap[b]? = some (.cells #[.func (.func 69) #[] #[]] 108 (0, 0))
set_option maxHeartbeats 8000000 in
set_option maxRecDepth 100000 in
theorem check_rules.calls (w : World) :
  Calls Tryd.prog 67 #[] w fun e w' => ∃ m b, e = .returned (.map (some m)) ∧ w.heap.size ≤ m ∧ w.heap.size ≤ b ∧ RulesAt w' m b ∧ Below w.heap.size w w' := by
 have hst : ∀ (W : World) (a : Addr) (m : Mode), (store a (.func (.func 69) #[] #[]) m).run Tryd.prog W = stored Tryd.prog W a (.func (.func 69) #[] #[]) m := fun W a m => run_store _ W a _ m rfl
 have hmm := @run_makeMap Tryd.prog
 go_enter Tryd.func67, Tryd.ntmps67
 go_wp2
 obtain ⟨W0, hW0⟩ : ∃ W, W = (w.alloc (Obj.cells #[Value.func (Fn.func 69) #[] #[]] 108)).alloc (Obj.map #[] 0) := ⟨_, rfl⟩
 have B0 : Below w.heap.size w W0 := by rw [hW0]; exact zA (zA (Below.refl _ _) _) _
 have M0_ : W0.heap[w.heap.size + 1]? = some (.map #[] 0) := by
  rw [hW0]
  have := (MapKept.heap_alloc (w.alloc (Obj.cells #[Value.func (Fn.func 69) #[] #[]] 108)) (Obj.map #[] 0)).1
  simpa using this
 have C0 : W0.heap[w.heap.size]? = some (.cells #[.func (.func 69) #[] #[]] 108 (0, 0)) := by
  rw [hW0]
  have h1 := (MapKept.heap_alloc w (Obj.cells #[Value.func (Fn.func 69) #[] #[]] 108)).1
  have h2 := (MapKept.heap_alloc (w.alloc (Obj.cells #[Value.func (Fn.func 69) #[] #[]] 108)) (Obj.map #[] 0)).2 w.heap.size (by simp)
  rw [h2]
  exact h1
 rw [← hW0]
 clear hW0
 have hr : w.heap.size ≤ w.heap.size + 1 := by omega
 obtain ⟨W1, e1, M1_, O1, B1⟩ := upd_step (k := 32) M0_ (by rfl) B0 hr
 rw [e1]
 have C1 := (O1 w.heap.size (by omega)).trans C0
 go_wp2
 obtain ⟨W2, e2, M2_, O2, B2⟩ := upd_step (k := 52) M1_ (by rfl) B1 hr
 rw [e2]
 have C2 := (O2 w.heap.size (by omega)).trans C1
 go_wp2
 obtain ⟨W3, e3, M3_, O3, B3⟩ := upd_step (k := 2) M2_ (by rfl) B2 hr
 rw [e3]
 have C3 := (O3 w.heap.size (by omega)).trans C2
 go_wp2
 obtain ⟨W4, e4, M4_, O4, B4⟩ := upd_step (k := 3) M3_ (by rfl) B3 hr
 rw [e4]
 have C4 := (O4 w.heap.size (by omega)).trans C3
 go_wp2
 obtain ⟨W5, e5, M5_, O5, B5⟩ := upd_step (k := 96) M4_ (by rfl) B4 hr
 rw [e5]
 have C5 := (O5 w.heap.size (by omega)).trans C4
 go_wp2
 obtain ⟨W6, e6, M6_, O6, B6⟩ := upd_step (k := 97) M5_ (by rfl) B5 hr
 rw [e6]
 have C6 := (O6 w.heap.size (by omega)).trans C5
 go_wp2
 obtain ⟨W7, e7, M7_, O7, B7⟩ := upd_step (k := 100) M6_ (by rfl) B6 hr
 rw [e7]
 have C7 := (O7 w.heap.size (by omega)).trans C6
 go_wp2
 obtain ⟨W8, e8, M8_, O8, B8⟩ := upd_step (k := 116) M7_ (by rfl) B7 hr
 rw [e8]
 have C8 := (O8 w.heap.size (by omega)).trans C7
 go_wp2
 go_ret
 exact ⟨_, w.heap.size, rfl, by omega, Nat.le_refl _, ⟨M8_, C8⟩, B8⟩
set_option maxHeartbeats 8000000 in
set_option maxRecDepth 100000 in
theorem check_rule2.calls (a0 a1 a2 a3 : Int) (b : Nat) (w : World) (hc : w.heap[b]? = some (.cells #[.func (.func 69) #[] #[]] 108 (0, 0))) :
  Calls Tryd.prog 70 #[.agg #[.int .i64 a0, .int .i64 a1, .int .i64 a2, .int .u32 a3], .pointer (some ⟨b, 0, none⟩)] w fun e w' => e = .returned (.int .i64 (if a3 < 16 then 0 else 7)) ∧ Below w.heap.size w w' := by
 have hu36 := Tryd.underlying59
 have h1 : w.cell? ⟨b, 0, none⟩ = some (.func (.func 69) #[] #[]) := (kC hc 0).trans rfl
 have hlt : b < w.heap.size := (Array.getElem?_eq_some_iff.1 hc).1
 have h1a : ∀ o, (w.alloc o).cell? ⟨b, 0, none⟩ = some (.func (.func 69) #[] #[]) := fun o => (World.cell?_alloc_lt _ _ _ hlt).trans h1
 clear h1
 by_cases c : a3 < 16
 ·rw [if_pos c]
  have d : decide (a3 < 16) = true := dT c
  clear c
  go_enter Tryd.func70, Tryd.ntmps70
  go_wp2
  go_ret
  exact ⟨rfl, zA (Below.refl _ _) _⟩
 ·rw [if_neg c]
  have d : decide (a3 < 16) = false := dF c
  clear c
  go_enter Tryd.func70, Tryd.ntmps70
  go_wp2
  go_ret
  exact ⟨rfl, zA (Below.refl _ _) _⟩
set_option maxHeartbeats 8000000 in
set_option maxRecDepth 100000 in
theorem check_rule3.calls (a0 a1 a2 a3 : Int) (b : Nat) (w : World) (hc : w.heap[b]? = some (.cells #[.func (.func 69) #[] #[]] 108 (0, 0))) :
  Calls Tryd.prog 71 #[.agg #[.int .i64 a0, .int .i64 a1, .int .i64 a2, .int .u32 a3], .pointer (some ⟨b, 0, none⟩)] w fun e w' => e = .returned (.int .i64 (if a3 < 32 then 0 else 1)) ∧ Below w.heap.size w w' := by
 have hu36 := Tryd.underlying59
 have h1 : w.cell? ⟨b, 0, none⟩ = some (.func (.func 69) #[] #[]) := (kC hc 0).trans rfl
 have hlt : b < w.heap.size := (Array.getElem?_eq_some_iff.1 hc).1
 have h1a : ∀ o, (w.alloc o).cell? ⟨b, 0, none⟩ = some (.func (.func 69) #[] #[]) := fun o => (World.cell?_alloc_lt _ _ _ hlt).trans h1
 clear h1
 by_cases c : a3 < 32
 ·rw [if_pos c]
  have d : decide (a3 < 32) = true := dT c
  clear c
  go_enter Tryd.func71, Tryd.ntmps71
  go_wp2
  go_ret
  exact ⟨rfl, zA (Below.refl _ _) _⟩
 ·rw [if_neg c]
  have d : decide (a3 < 32) = false := dF c
  clear c
  go_enter Tryd.func71, Tryd.ntmps71
  go_wp2
  go_ret
  exact ⟨rfl, zA (Below.refl _ _) _⟩
set_option maxHeartbeats 8000000 in
set_option maxRecDepth 100000 in
theorem check_rule5.calls (a0 a1 a2 a3 : Int) (b : Nat) (w : World) (hc : w.heap[b]? = some (.cells #[.func (.func 69) #[] #[]] 108 (0, 0))) :
  Calls Tryd.prog 73 #[.agg #[.int .i64 a0, .int .i64 a1, .int .i64 a2, .int .u32 a3], .pointer (some ⟨b, 0, none⟩)] w fun e w' => e = .returned (.int .i64 (if a3 ≠ 0 then 0 else 8)) ∧ Below w.heap.size w w' := by
 have hu36 := Tryd.underlying59
 have h1 : w.cell? ⟨b, 0, none⟩ = some (.func (.func 69) #[] #[]) := (kC hc 0).trans rfl
 have hlt : b < w.heap.size := (Array.getElem?_eq_some_iff.1 hc).1
 have h1a : ∀ o, (w.alloc o).cell? ⟨b, 0, none⟩ = some (.func (.func 69) #[] #[]) := fun o => (World.cell?_alloc_lt _ _ _ hlt).trans h1
 clear h1
 by_cases c : a3 ≠ 0
 ·rw [if_pos c]
  have d : (a3 != 0) = true := nI.mpr c
  clear c
  go_enter Tryd.func73, Tryd.ntmps73
  go_wp2
  go_ret
  exact ⟨rfl, zA (Below.refl _ _) _⟩
 ·rw [if_neg c]
  have d : (a3 != 0) = false := nF.mpr (by omega)
  clear c
  go_enter Tryd.func73, Tryd.ntmps73
  go_wp2
  go_ret
  exact ⟨rfl, zA (Below.refl _ _) _⟩
set_option maxHeartbeats 8000000 in
set_option maxRecDepth 100000 in
theorem check_rule4.calls (a0 a1 a2 a3 : Int) (b : Nat) (w : World) (hc : w.heap[b]? = some (.cells #[.func (.func 69) #[] #[]] 108 (0, 0))) :
  Calls Tryd.prog 72 #[.agg #[.int .i64 a0, .int .i64 a1, .int .i64 a2, .int .u32 a3], .pointer (some ⟨b, 0, none⟩)] w fun e w' => e = .returned (.int .i64 (if Int.tmod a3 4 = 0 then (if a3 < 64 then 0 else 6) else 6)) ∧ Below w.heap.size w w' := by
 have hu36 := Tryd.underlying59
 have h1 : w.cell? ⟨b, 0, none⟩ = some (.func (.func 69) #[] #[]) := (kC hc 0).trans rfl
 have hlt : b < w.heap.size := (Array.getElem?_eq_some_iff.1 hc).1
 have h1a : ∀ o, (w.alloc o).cell? ⟨b, 0, none⟩ = some (.func (.func 69) #[] #[]) := fun o => (World.cell?_alloc_lt _ _ _ hlt).trans h1
 clear h1
 by_cases c1 : Int.tmod a3 4 = 0
 ·have d1 : (Int.tmod a3 4 == 0) = true := bI.mpr c1
  rw [if_pos c1]
  clear c1
  by_cases c : a3 < 64
  ·rw [if_pos c]
   have d : decide (a3 < 64) = true := dT c
   clear c
   go_enter Tryd.func72, Tryd.ntmps72
   go_wp2
   go_ret
   exact ⟨rfl, zA (Below.refl _ _) _⟩
  ·rw [if_neg c]
   have d : decide (a3 < 64) = false := dF c
   clear c
   go_enter Tryd.func72, Tryd.ntmps72
   go_wp2
   go_ret
   exact ⟨rfl, zA (Below.refl _ _) _⟩
 ·have d1 : (Int.tmod a3 4 == 0) = false := bF.mpr c1
  rw [if_neg c1]
  clear c1
  go_enter Tryd.func72, Tryd.ntmps72
  go_wp2
  go_ret
  exact ⟨rfl, zA (Below.refl _ _) _⟩
def ruleN (op : Int) : Option Nat := if op = 32 then some 72 else if op = 52 then some 73 else if op = 2 ∨ op = 3 ∨ op = 96 ∨ op = 97 then some 70 else if op = 100 ∨ op = 116 then some 71 else none
def check_ruleE (op k : Int) : Int := if op = 32 then (if Int.tmod k 4 = 0 then (if k < 64 then 0 else 6) else 6) else if op = 52 then (if k ≠ 0 then 0 else 8) else if op = 2 ∨ op = 3 ∨ op = 96 ∨ op = 97 then (if k < 16 then 0 else 7) else if op = 100 ∨ op = 116 then (if k < 32 then 0 else 1) else 0
set_option maxRecDepth 100000 in
theorem ruleE_none {op k : Int} (h : ruleN op = none) : check_ruleE op k = 0 := by
 unfold ruleN at h
 unfold check_ruleE
 split at h
 ·cases h
 rename_i h1
 rw [if_neg h1]
 split at h
 ·cases h
 rename_i h2
 rw [if_neg h2]
 split at h
 ·cases h
 rename_i h3
 rw [if_neg h3]
 split at h
 ·cases h
 rename_i h4
 rw [if_neg h4]
set_option maxRecDepth 100000 in
theorem ruleN_cases (op : Int) : ruleN op = none ∨ ruleN op = some 70 ∨ ruleN op = some 71 ∨ ruleN op = some 72 ∨ ruleN op = some 73 := by
 unfold ruleN
 split
 ·simp
 ·split
  ·simp
  ·split
   ·simp
   ·split <;> simp
set_option maxRecDepth 100000 in
theorem lookup_hit {w : World} {r : Nat} {es : Array MapEntry} {clock i : Nat} {k : Int} {v : Value} (hb : w.heap[r]? = some (.map es clock)) (hf : Instr.findNow (.int .i64) (.int .i64 k) es.toList 0 = some (some (i, v))) :
  (Instr.lookup 103 (.map (some r)) (.int .i64 k) false).run Tryd.prog w = .ok v w := by
 have hm := Tryd.underlying103
 have hd := Tryd.underlying3
 have hk : MapKept.IsKey (.int .i64) (.int .i64 k) := by simp [MapKept.IsKey]
 simp [Instr.lookup, run_underlying hm, MapKept.run_getObj_map hb, MapKept.run_checkKey hd hk, MapKept.run_findKey hd hf, Result.andThen]
set_option maxRecDepth 100000 in
theorem lookup_miss {w : World} {r : Nat} {es : Array MapEntry} {clock : Nat} {k : Int} (hb : w.heap[r]? = some (.map es clock)) (hf : Instr.findNow (.int .i64) (.int .i64 k) es.toList 0 = some none) :
  (Instr.lookup 103 (.map (some r)) (.int .i64 k) false).run Tryd.prog w = .ok .nilFunc w := by
 have hm := Tryd.underlying103
 have hd := Tryd.underlying3
 have hk : MapKept.IsKey (.int .i64) (.int .i64 k) := by simp [MapKept.IsKey]
 have hz : (zeroValue 105).run Tryd.prog w = .ok .nilFunc w := rfl
 simp [Instr.lookup, run_underlying hm, MapKept.run_getObj_map hb, MapKept.run_checkKey hd hk, MapKept.run_findKey hd hf, Result.andThen, hz]
set_option maxRecDepth 100000 in
theorem lookup_some {w : World} {m b n : Nat} {op : Int} (h : RulesAt w m b) (hn : ruleN op = some n) :
  (Instr.lookup 103 (.map (some m)) (.int .i64 op) false).run Tryd.prog w = .ok (.func (.func n) #[] #[.pointer (some ⟨b, 0, none⟩)]) w := by
 unfold ruleN at hn
 split at hn
 ·rename_i h1; subst h1; cases hn; exact lookup_hit (i := 0) h.1 (by rfl)
 split at hn
 ·rename_i h1; subst h1; cases hn; exact lookup_hit (i := 1) h.1 (by rfl)
 split at hn
 ·rename_i h1
  cases hn
  rcases h1 with h1 | h1 | h1 | h1 <;> subst h1
  ·exact lookup_hit (i := 2) h.1 (by rfl)
  ·exact lookup_hit (i := 3) h.1 (by rfl)
  ·exact lookup_hit (i := 4) h.1 (by rfl)
  ·exact lookup_hit (i := 5) h.1 (by rfl)
 split at hn
 ·rename_i h1
  cases hn
  rcases h1 with h1 | h1 <;> subst h1
  ·exact lookup_hit (i := 6) h.1 (by rfl)
  ·exact lookup_hit (i := 7) h.1 (by rfl)
 ·cases hn
set_option maxRecDepth 100000 in
theorem lookup_none {w : World} {m b : Nat} {op : Int} (h : RulesAt w m b) (hn : ruleN op = none) :
  (Instr.lookup 103 (.map (some m)) (.int .i64 op) false).run Tryd.prog w = .ok .nilFunc w := by
 refine lookup_miss h.1 ?_
 unfold ruleN at hn
 have h1 : ¬ op = 32 := fun e => by simp [e] at hn
 have h2 : ¬ op = 52 := fun e => by simp [e] at hn
 have h3 : ¬ op = 2 := fun e => by simp [e] at hn
 have h4 : ¬ op = 3 := fun e => by simp [e] at hn
 have h5 : ¬ op = 96 := fun e => by simp [e] at hn
 have h6 : ¬ op = 97 := fun e => by simp [e] at hn
 have h7 : ¬ op = 100 := fun e => by simp [e] at hn
 have h8 : ¬ op = 116 := fun e => by simp [e] at hn
 have q1 : (op == 32) = false := bF.mpr h1
 have q2 : (op == 52) = false := bF.mpr h2
 have q3 : (op == 2) = false := bF.mpr h3
 have q4 : (op == 3) = false := bF.mpr h4
 have q5 : (op == 96) = false := bF.mpr h5
 have q6 : (op == 97) = false := bF.mpr h6
 have q7 : (op == 100) = false := bF.mpr h7
 have q8 : (op == 116) = false := bF.mpr h8
 simp [rulesEs, Instr.findNow, Instr.sameNow, q1, q2, q3, q4, q5, q6, q7, q8]
set_option maxRecDepth 100000 in
theorem RulesAt.below {w w1 : World} {m b : Nat} (h : RulesAt w m b) (hb : Below w.heap.size w w1) : RulesAt w1 m b :=
 ⟨(hb.block m (Array.getElem?_eq_some_iff.1 h.1).1).trans h.1, (hb.block b (Array.getElem?_eq_some_iff.1 h.2).1).trans h.2⟩
set_option maxRecDepth 100000 in
theorem check_ruleAt.calls (n : Nat) (a0 a1 a2 a3 : Int) (m b : Nat) (w : World) (hn : ruleN a0 = some n) (h : RulesAt w m b) :
  Calls Tryd.prog n #[.agg #[.int .i64 a0, .int .i64 a1, .int .i64 a2, .int .u32 a3], .pointer (some ⟨b, 0, none⟩)] w fun e w' => e = .returned (.int .i64 (check_ruleE a0 a3)) ∧ Below w.heap.size w w' := by
 unfold ruleN at hn
 unfold check_ruleE
 split at hn
 ·rename_i h1; rw [if_pos h1]; cases hn; exact check_rule4.calls a0 a1 a2 a3 b w h.2
 rename_i h1
 rw [if_neg h1]
 split at hn
 ·rename_i h2; rw [if_pos h2]; cases hn; exact check_rule5.calls a0 a1 a2 a3 b w h.2
 rename_i h2
 rw [if_neg h2]
 split at hn
 ·rename_i h3; rw [if_pos h3]; cases hn; exact check_rule2.calls a0 a1 a2 a3 b w h.2
 rename_i h3
 rw [if_neg h3]
 split at hn
 ·rename_i h4; rw [if_pos h4]; cases hn; exact check_rule3.calls a0 a1 a2 a3 b w h.2
 ·cases hn
set_option maxRecDepth 100000 in
theorem func_ne (n b : Nat) (W : World) : Sem.run Tryd.prog (Go.binOp .neq 105 (.func (.func n) #[] #[.pointer (some ⟨b, 0, none⟩)]) .nilFunc) W = .ok (.bool true) W := by rfl
set_option maxRecDepth 100000 in
theorem func_guard (n b : Nat) (x y : Operand) (W : World) : Sem.run Tryd.prog (Go.eqGuard .neq 105 x y (.func (.func n) #[] #[.pointer (some ⟨b, 0, none⟩)]) .nilFunc) W = .ok () W := by rfl
theorem nil_guard (x y : Operand) (W : World) : Sem.run Tryd.prog (Go.eqGuard .neq 105 x y .nilFunc .nilFunc) W = .ok () W := by rfl
set_option maxRecDepth 100000 in
theorem nil_ne (W : World) : Sem.run Tryd.prog (Go.binOp .neq 105 .nilFunc .nilFunc) W = .ok (.bool false) W := by rfl
set_option maxRecDepth 100000 in
theorem rule_ways {w : World} {m b : Nat} (op : Int) (h : RulesAt w m b) : ∃ (V : Value) (B : Bool), (Instr.lookup 103 (.map (some m)) (.int .i64 op) false).run Tryd.prog w = .ok V w ∧
  (∀ (x y : Operand) (W : World), Sem.run Tryd.prog (Go.eqGuard .neq 105 x y V .nilFunc) W = .ok () W) ∧ (∀ W : World, Sem.run Tryd.prog (Go.binOp .neq 105 V .nilFunc) W = .ok (.bool B) W) ∧
  ((ruleN op = none ∧ V = .nilFunc ∧ B = false) ∨ ∃ n, ruleN op = some n ∧ V = .func (.func n) #[] #[.pointer (some ⟨b, 0, none⟩)] ∧ B = true) := by
 cases hn : ruleN op with
 | none => exact ⟨_, _, lookup_none h hn, nil_guard, nil_ne, .inl ⟨rfl, rfl, rfl⟩⟩
 | some n => exact ⟨_, _, lookup_some h hn, func_guard n b, func_ne n b, .inr ⟨n, rfl, rfl, rfl⟩⟩
mutual
def check_Check.l0 : Nat → List (S59) → List (S59) → Int → Int → Option (Int × Int)
 | 0, _, _, _, _ => none
 | k + 1, x0, x22, x23, x24 => if x24 < x23 then (if 0 ≤ x24 then (if x24 < (x22.length : Int) then ((ins_Right.f k ((rd_T59 x22 x24).f0) ((rd_T59 x22 x24).f1) ((rd_T59 x22 x24).f2) ((rd_T59 x22 x24).f3)).bind fun t132 => (if t132 = true then (if (check_ruleE ((rd_T59 x22 x24).f0) ((rd_T59 x22 x24).f3)) = 0 then (if ((rd_T59 x22 x24).f0) = 5 then (check_Check.j1 k x0 x24 true x22 x23 x24 ((rd_T59 x22 x24).f0) ((rd_T59 x22 x24).f1) ((rd_T59 x22 x24).f2) ((rd_T59 x22 x24).f3)) else ((ins_Branch.f ((rd_T59 x22 x24).f0) ((rd_T59 x22 x24).f1) ((rd_T59 x22 x24).f2) ((rd_T59 x22 x24).f3)).bind fun t133 => (check_Check.j1 k x0 x24 t133 x22 x23 x24 ((rd_T59 x22 x24).f0) ((rd_T59 x22 x24).f1) ((rd_T59 x22 x24).f2) ((rd_T59 x22 x24).f3)))) else (some (x24, check_ruleE ((rd_T59 x22 x24).f0) ((rd_T59 x22 x24).f3)))) else (some (x24, 1)))) else (none)) else (none)) else (if 0 ≤ (wrap64 ((x0.length : Int) - 1)) then (if (wrap64 ((x0.length : Int) - 1)) < (x0.length : Int) then ((ins_Ends.f ((rd_T59 x0 (wrap64 ((x0.length : Int) - 1))).f0) ((rd_T59 x0 (wrap64 ((x0.length : Int) - 1))).f1) ((rd_T59 x0 (wrap64 ((x0.length : Int) - 1))).f2) ((rd_T59 x0 (wrap64 ((x0.length : Int) - 1))).f3)).bind fun t129 => (if t129 = true then (some (0, 0)) else (some (wrap64 ((x0.length : Int) - 1), 5)))) else (none)) else (none))
def check_Check.j1 : Nat → List (S59) → Int → Bool → List (S59) → Int → Int → Int → Int → Int → Int → Option (Int × Int)
 | 0, _, _, _, _, _, _, _, _, _, _ => none
 | k + 1, x0, x5, x9, x22, x23, x24, x132000, x132001, x132002, x132003 => (check_ways.f x132000 x132001 x132002 x132003 x5).bind fun t134 => (check_Check.l1 k x0 x5 x9 x22 x23 x24 t134 (t134.length : Int) 0)
def check_Check.l1 : Nat → List (S59) → Int → Bool → List (S59) → Int → Int → List Int → Int → Int → Option (Int × Int)
 | 0, _, _, _, _, _, _, _, _, _ => none
 | k + 1, x0, x5, x9, x22, x23, x24, x55, x56, x57 => if x57 < x56 then (if 0 ≤ x57 then (if x57 < (x55.length : Int) then (if x9 = true then (if (rd x55 x57) ≥ (x0.length : Int) then (some (x5, 4)) else (check_Check.l1 k x0 x5 x9 x22 x23 x24 x55 x56 (wrap64 (x57 + 1)))) else (check_Check.l1 k x0 x5 x9 x22 x23 x24 x55 x56 (wrap64 (x57 + 1)))) else (none)) else (none)) else (check_Check.l0 k x0 x22 x23 (wrap64 (x24 + 1)))
end
def check_Check.f (k : Nat) (l0 : List (S59)) : Option (Int × Int) := if (l0.length : Int) = 0 then (some (0, 5)) else (if (l0.length : Int) > 4096 then (some (0, 3)) else (check_Check.l0 k l0 l0 (l0.length : Int) 0))
set_option maxRecDepth 100000 in
theorem check_Check.mono_l : ∀ k, (∀ y0 y1 y2 y3, LeO (check_Check.l0 k y0 y1 y2 y3) (check_Check.l0 (k + 1) y0 y1 y2 y3)) ∧ (∀ y0 y1 y2 y3 y4 y5 y6 y7 y8 y9, LeO (check_Check.j1 k y0 y1 y2 y3 y4 y5 y6 y7 y8 y9) (check_Check.j1 (k + 1) y0 y1 y2 y3 y4 y5 y6 y7 y8 y9)) ∧ (∀ y0 y1 y2 y3 y4 y5 y6 y7 y8, LeO (check_Check.l1 k y0 y1 y2 y3 y4 y5 y6 y7 y8) (check_Check.l1 (k + 1) y0 y1 y2 y3 y4 y5 y6 y7 y8))
 | 0 => ⟨fun _ _ _ _ r h => by simp [check_Check.l0] at h, fun _ _ _ _ _ _ _ _ _ _ r h => by simp [check_Check.j1] at h, fun _ _ _ _ _ _ _ _ _ r h => by simp [check_Check.l1] at h⟩
 | k + 1 => by
  obtain ⟨ih0, ih1, ih2⟩ := check_Check.mono_l k
  refine ⟨?_, ?_, ?_⟩
  all_goals intros
  all_goals first | unfold check_Check.l0 | unfold check_Check.j1 | unfold check_Check.l1
  all_goals repeat' first
   | (with_reducible apply ih0)
   | (with_reducible apply ih1)
   | (with_reducible apply ih2)
   | (with_reducible apply ins_Right.mono)
   | (with_reducible exact LeO.refl _)
   | (with_reducible exact LeO.none _)
   | (with_reducible refine LeO.ite ?_ ?_)
   | (with_reducible refine LeO.bind ?_ (fun _ => ?_))
   | apply ih0
   | apply ih1
   | apply ih2
   | apply ins_Right.mono
   | exact LeO.none _
   | refine LeO.ite ?_ ?_
   | refine LeO.bind ?_ (fun _ => ?_)
set_option maxRecDepth 100000 in
theorem check_Check.mono : ∀ a0 k, LeO (check_Check.f k a0) (check_Check.f (k + 1) a0) := by
 intro a0 k
 obtain ⟨ih0, ih1, ih2⟩ := check_Check.mono_l k
 unfold check_Check.f
 repeat' first
   | (with_reducible apply ih0)
   | (with_reducible apply ih1)
   | (with_reducible apply ih2)
   | (with_reducible apply ins_Right.mono)
   | (with_reducible exact LeO.refl _)
   | (with_reducible exact LeO.none _)
   | (with_reducible refine LeO.ite ?_ ?_)
   | (with_reducible refine LeO.bind ?_ (fun _ => ?_))
   | apply ih0
   | apply ih1
   | apply ih2
   | apply ins_Right.mono
   | exact LeO.none _
   | refine LeO.ite ?_ ?_
   | refine LeO.bind ?_ (fun _ => ?_)
set_option maxHeartbeats 8000000 in
set_option maxRecDepth 100000 in
theorem check_Check.calls (k : Nat) (A0 : Option Addr) (c0 : Nat) (l0 : List (S59)) (r1 : Int) (r2 : Int) (w : World) (hr0 : Kd.C k59 w A0 l0.length l0) (hc0 : l0.length ≤ c0) (hG : Glob w) (h : check_Check.f k l0 = some (r1, r2)) :
  Calls Tryd.prog 64 #[.slice A0 l0.length c0] w fun e w' => e = .returned (.tuple #[.int .i64 r1, .int .i64 r2]) ∧ Below w.heap.size w w' := by
 have hu36 := Tryd.underlying59
 have HG := Aside0.mk hG
 clear hG
 have HR0 := Aside0.mk hr0
 have HC0 := Aside0.mk hc0
 clear hr0 hc0
 have HB := Aside0.mk (Below.refl w.heap.size w)
 have H : (if (l0.length : Int) = 0 then (some (0, 5)) else (if (l0.length : Int) > 4096 then (some (0, 3)) else (check_Check.l0 k l0 l0 (l0.length : Int) 0))) = some (r1, r2) := h
 clear h
 by_cases c2 : (l0.length : Int) = 0
 ·rw [if_pos c2] at H
  have c2b0 : ((l0.length : Int) == 0) = true := bI.mpr c2
  have c2b1 : ((l0.length : Int) != 0) = false := nF.mpr c2
  clear c2
  simp only [Option.some.injEq, Prod.mk.injEq] at H
  obtain ⟨rfl, rfl⟩ := H
  go_enter Tryd.func64, Tryd.ntmps64
  go_wp2
  go_ret2
  exact ⟨jE, jH HB⟩
 ·rw [if_neg c2] at H
  have c2b0 : ((l0.length : Int) == 0) = false := bF.mpr c2
  have c2b1 : ((l0.length : Int) != 0) = true := nI.mpr c2
  have c2b2 : ¬ (l0 = []) := fun h_ => c2 (by rw [h_]; rfl)
  by_cases c3 : (l0.length : Int) > 4096
  ·rw [if_pos c3] at H
   have c3b0 : decide (4096 < (l0.length : Int)) = true := dT c3
   have c3b1 : decide (4096 < l0.length) = true := dT (by omega)
   clear c3
   simp only [Option.some.injEq, Prod.mk.injEq] at H
   obtain ⟨rfl, rfl⟩ := H
   go_enter Tryd.func64, Tryd.ntmps64
   go_wp2
   go_ret2
   exact ⟨jE, jH HB⟩
  ·rw [if_neg c3] at H
   have c3b0 : decide (4096 < (l0.length : Int)) = false := dF c3
   have c3b1 : decide (4096 < l0.length) = false := dF (by omega)
   clear c3
   have H' := Aside0.mk H
   clear H
   go_enter Tryd.func64, Tryd.ntmps64
   go_wp2_with (first | (go_at_call 67; (with_reducible refine (check_rules.calls _).mono ?_); rintro e wz ⟨mR, bR, rfl, hmR, hbR, hRL, hbw⟩; have HRL := Aside0.mk hRL; have HW0 := Aside0.mk hbw; clear hRL hmR hbR; have n0_ := Aside0.mk (Glob.below HG.out hbw); have n1_ := Aside0.mk (Kd.C_below HR0.out hbw); clear HG HR0 HB; have HG := n0_; have HR0 := n1_; have HB := Aside0.mk (Below.refl wz.heap.size wz); clear n0_ n1_; (try clear hb); clear hbw))
   go_loopg [24] k (fun kq v24 w' => ∃ (x24_1 : Int), v24 = .int .i64 x24_1 ∧ Aside0 (check_Check.l0 kq l0 l0 (l0.length : Int) x24_1 = some (r1, r2)) ∧ Aside0 (kq ≤ k) ∧ Aside0 (Below wz.heap.size wz w'))
   case atStart => exact ⟨(0), jS, H', ⟨Nat.le_refl _⟩, ⟨jH HB⟩⟩
   case round =>
    clear H'
    obtain ⟨x24_1, rfl, HA, HK1, HB⟩ := hrel
    cases gk with
    | zero => exact absurd HA.out (by simp [check_Check.l0])
    | succ k1 =>
     have H := HA.out
     clear HA
     simp only [check_Check.l0] at H
     by_cases c4 : x24_1 < (l0.length : Int)
     ·rw [if_pos c4] at H
      have c4b0 : decide (x24_1 < (l0.length : Int)) = true := dT c4
      clear c4
      by_cases c5 : 0 ≤ x24_1
      ·rw [if_pos c5] at H
       have c5b0 : decide (0 ≤ x24_1) = true := dT c5
       clear c5
       by_cases c6 : x24_1 < (l0.length : Int)
       ·rw [if_pos c6] at H
        have c6b0 : decide (x24_1 < (l0.length : Int)) = true := dT c6
        clear c6
        replace H := Option.bind_eq_some_iff.mp H
        obtain ⟨t132, A70, H⟩ := H
        try dsimp only at H
        have A7 := Aside0.mk A70
        clear A70
        by_cases c8 : t132 = true
        ·subst c8
         rw [if_pos rfl] at H
         by_cases c9 : (check_ruleE ((rd_T59 l0 x24_1).f0) ((rd_T59 l0 x24_1).f3)) = 0
         ·rw [if_pos c9] at H
          have c9b0 : ((check_ruleE ((rd_T59 l0 x24_1).f0) ((rd_T59 l0 x24_1).f3)) == 0) = true := bI.mpr c9
          have c9b1 : ((check_ruleE ((rd_T59 l0 x24_1).f0) ((rd_T59 l0 x24_1).f3)) != 0) = false := nF.mpr c9
          clear c9
          have HC10 := Aside0.mk H
          clear H
          have p130 : 0 ≤ (x24_1 : Int) := oD (jA)
          have q130 : x24_1 < (l0.length : Int) := oD (jA)
          obtain ⟨ad130, e130, hx130_0, hx130_1, hx130_2, hx130_3⟩ := at_T59 HR0.out x24_1 p130 q130
          cases e130
          replace hx130_0 := (HB.out.cell (bL wz _ hx130_0)).trans hx130_0
          replace hx130_1 := (HB.out.cell (bL wz _ hx130_1)).trans hx130_1
          replace hx130_2 := (HB.out.cell (bL wz _ hx130_2)).trans hx130_2
          replace hx130_3 := (HB.out.cell (bL wz _ hx130_3)).trans hx130_3
          replace p130 := eq_true p130
          replace q130 := eq_true q130
          go_upto_region 11 with (first | ((with_reducible refine gate_dst (N := 6) rfl ?_); (try (refine gate_guard (by rfl) ?_; dsimp only)); refine box_event rfl (N := 6) rfl (cs := #[.int .i64 0, .int .i64 0, .int .i64 0, .int .u32 0]) (t := 59) jW ?_; intro gb131 hg w11 hbox hb; have n0_ := Aside0.mk (zT (jH HB) hb); have n1_ := Aside0.mk hbox; have n2_ := Aside0.mk ((by rw [hg]; exact (zZ (jH HB)) : wz.heap.size ≤ gb131)); have n3_ := Aside0.mk ((by rw [hg]; exact (zZ (jH HB)) : wz.heap.size ≤ gb131)); clear HB; have HB := n0_; have BK131 := n1_; have GW131 := n2_; have GE131 := n3_; clear n0_ n1_ n2_ n3_; clear hb hbox hg; obtain ⟨hcz12_0, hcz12_1, hcz12_2, hcz12_3, hfz12_0, hfz12_1, hfz12_2, hfz12_3⟩ := kQ4 BK131.out) | ((with_reducible refine gate_callee (f := 59) rfl ?_); refine goesL_ (some 30) rfl rfl Tryd.func59 (by kernel_rfl) rfl #[.agg #[.int .i64 ((rd_T59 l0 x24_1).f0), .int .i64 ((rd_T59 l0 x24_1).f1), .int .i64 ((rd_T59 l0 x24_1).f2), .int .u32 ((rd_T59 l0 x24_1).f3)]] rfl jZ ?_; (with_reducible refine (ins_Right.calls k1 ((rd_T59 l0 x24_1).f0) ((rd_T59 l0 x24_1).f1) ((rd_T59 l0 x24_1).f2) ((rd_T59 l0 x24_1).f3) true _ ?side1 A7.out).mono ?_); (case side1 => exact Glob.below HG.out (jH HB)); rintro e w13 ⟨rfl, hb⟩; refine ⟨_, rfl, ?_⟩; have n0_ := Aside0.mk (kB (g := gb131) (o := .cells #[.int .i64 ((rd_T59 l0 x24_1).f0), .int .i64 ((rd_T59 l0 x24_1).f1), .int .i64 ((rd_T59 l0 x24_1).f2), .int .u32 ((rd_T59 l0 x24_1).f3)] 59 (0, 0)) (by (with_reducible repeat (first | refine kN ?_ _ | refine kD ?_ | refine kA ?_ _)); refine kP (cs := #[.int .i64 ((rd_T59 l0 x24_1).f0), .int .i64 ((rd_T59 l0 x24_1).f1), .int .i64 ((rd_T59 l0 x24_1).f2), .int .u32 0]) ?_ 3 _ rfl; (with_reducible repeat (first | refine kN ?_ _ | refine kD ?_ | refine kA ?_ _)); refine kP (cs := #[.int .i64 ((rd_T59 l0 x24_1).f0), .int .i64 ((rd_T59 l0 x24_1).f1), .int .i64 0, .int .u32 0]) ?_ 2 _ rfl; (with_reducible repeat (first | refine kN ?_ _ | refine kD ?_ | refine kA ?_ _)); refine kP (cs := #[.int .i64 ((rd_T59 l0 x24_1).f0), .int .i64 0, .int .i64 0, .int .u32 0]) ?_ 1 _ rfl; (with_reducible repeat (first | refine kN ?_ _ | refine kD ?_ | refine kA ?_ _)); refine kP (cs := #[.int .i64 0, .int .i64 0, .int .i64 0, .int .u32 0]) ?_ 0 _ rfl; (with_reducible repeat (first | refine kN ?_ _ | refine kD ?_ | refine kA ?_ _)); exact BK131.out) hb); have n1_ := Aside0.mk (zT (jH HB) hb); clear BK131; clear HB; have BK131 := n0_; have HB := n1_; clear n0_ n1_; (try clear hb); (try clear hb2); (try clear hk); (try clear hi); obtain ⟨hcz14_0, hcz14_1, hcz14_2, hcz14_3, hfz14_0, hfz14_1, hfz14_2, hfz14_3⟩ := kQ4 BK131.out))
          (try simp only [Act.put, List.setIfInBounds_toArray, List.set_cons_zero, List.set_cons_succ])
          obtain ⟨V, B, hlk, heg, hne, hcase⟩ := rule_ways ((rd_T59 l0 x24_1).f0) (RulesAt.below HRL.out (show Below wz.heap.size wz w13 from HB.out))
          have hcase := Aside0.mk hcase
          have hcq_0 : w13.cell? ⟨gb131, 0, none⟩ = some (.int .i64 ((rd_T59 l0 x24_1).f0)) := (kC BK131.out 0).trans rfl
          have hcq_1 : w13.cell? ⟨gb131, 1, none⟩ = some (.int .i64 ((rd_T59 l0 x24_1).f1)) := (kC BK131.out 1).trans rfl
          have hcq_2 : w13.cell? ⟨gb131, 2, none⟩ = some (.int .i64 ((rd_T59 l0 x24_1).f2)) := (kC BK131.out 2).trans rfl
          have hcq_3 : w13.cell? ⟨gb131, 3, none⟩ = some (.int .u32 ((rd_T59 l0 x24_1).f3)) := (kC BK131.out 3).trans rfl
          have hfq_0 := kF BK131.out 0
          have hfq_1 := kF BK131.out 1
          have hfq_2 := kF BK131.out 2
          have hfq_3 := kF BK131.out 3
          go_upto_if 38 with (fail)
          (try simp only [Act.put, List.setIfInBounds_toArray, List.set_cons_zero, List.set_cons_succ])
          go_cut [8] (fun v8 wc => Aside0 (wc.heap[gb131]? = some (.cells #[.int .i64 ((rd_T59 l0 x24_1).f0), .int .i64 ((rd_T59 l0 x24_1).f1), .int .i64 ((rd_T59 l0 x24_1).f2), .int .u32 ((rd_T59 l0 x24_1).f3)] 59 (0, 0))) ∧ Aside0 (Below wz.heap.size wz wc))
          case first =>
           rcases hcase.out with ⟨hrn, rfl, rfl⟩ | ⟨n, hrn, rfl, rfl⟩
           ·skip
            go_wp2
            go_meet
            case rel => exact ⟨⟨jK BK131⟩, ⟨jH HB⟩⟩
           ·rcases ruleN_cases ((rd_T59 l0 x24_1).f0) with hq | hq | hq | hq | hq
            ·rw [hq] at hrn; cases hrn
            ·obtain rfl : n = 70 := (Option.some.inj (hq.symm.trans hrn)).symm
             clear hq
             go_wp2_with (first | (go_at_call 70; (with_reducible refine (check_ruleAt.calls 70 ((rd_T59 l0 x24_1).f0) ((rd_T59 l0 x24_1).f1) ((rd_T59 l0 x24_1).f2) ((rd_T59 l0 x24_1).f3) mR bR _ hrn ?side1).mono ?_); (case side1 => exact RulesAt.below HRL.out (jH HB)); rintro e wq ⟨rfl, hb⟩; replace BK131 := Aside0.mk (jB BK131 hb); replace HB := Aside0.mk (zT (jH HB) hb); (try clear hb)))
             go_meet
             case rel => exact ⟨⟨jK BK131⟩, ⟨jH HB⟩⟩
            ·obtain rfl : n = 71 := (Option.some.inj (hq.symm.trans hrn)).symm
             clear hq
             go_wp2_with (first | (go_at_call 71; (with_reducible refine (check_ruleAt.calls 71 ((rd_T59 l0 x24_1).f0) ((rd_T59 l0 x24_1).f1) ((rd_T59 l0 x24_1).f2) ((rd_T59 l0 x24_1).f3) mR bR _ hrn ?side1).mono ?_); (case side1 => exact RulesAt.below HRL.out (jH HB)); rintro e wq ⟨rfl, hb⟩; replace BK131 := Aside0.mk (jB BK131 hb); replace HB := Aside0.mk (zT (jH HB) hb); (try clear hb)))
             go_meet
             case rel => exact ⟨⟨jK BK131⟩, ⟨jH HB⟩⟩
            ·obtain rfl : n = 72 := (Option.some.inj (hq.symm.trans hrn)).symm
             clear hq
             go_wp2_with (first | (go_at_call 72; (with_reducible refine (check_ruleAt.calls 72 ((rd_T59 l0 x24_1).f0) ((rd_T59 l0 x24_1).f1) ((rd_T59 l0 x24_1).f2) ((rd_T59 l0 x24_1).f3) mR bR _ hrn ?side1).mono ?_); (case side1 => exact RulesAt.below HRL.out (jH HB)); rintro e wq ⟨rfl, hb⟩; replace BK131 := Aside0.mk (jB BK131 hb); replace HB := Aside0.mk (zT (jH HB) hb); (try clear hb)))
             go_meet
             case rel => exact ⟨⟨jK BK131⟩, ⟨jH HB⟩⟩
            ·obtain rfl : n = 73 := (Option.some.inj (hq.symm.trans hrn)).symm
             clear hq
             go_wp2_with (first | (go_at_call 73; (with_reducible refine (check_ruleAt.calls 73 ((rd_T59 l0 x24_1).f0) ((rd_T59 l0 x24_1).f1) ((rd_T59 l0 x24_1).f2) ((rd_T59 l0 x24_1).f3) mR bR _ hrn ?side1).mono ?_); (case side1 => exact RulesAt.below HRL.out (jH HB)); rintro e wq ⟨rfl, hb⟩; replace BK131 := Aside0.mk (jB BK131 hb); replace HB := Aside0.mk (zT (jH HB) hb); (try clear hb)))
             go_meet
             case rel => exact ⟨⟨jK BK131⟩, ⟨jH HB⟩⟩
          case rest =>
           obtain ⟨BK131, HB⟩ := hcut
           clear hcase heg hne
           go_upto_region 16 with (fail)
           (try simp only [Act.put, List.setIfInBounds_toArray, List.set_cons_zero, List.set_cons_succ])
           go_cut [9] (fun v9 wc => ∃ (kq : Nat) (x9_9 : Bool), v9 = .bool x9_9 ∧ Aside0 (check_Check.j1 kq l0 x24_1 x9_9 l0 (l0.length : Int) x24_1 ((rd_T59 l0 x24_1).f0) ((rd_T59 l0 x24_1).f1) ((rd_T59 l0 x24_1).f2) ((rd_T59 l0 x24_1).f3) = some (r1, r2)) ∧ Aside0 (kq ≤ k1) ∧ Aside0 (wc.heap[gb131]? = some (.cells #[.int .i64 ((rd_T59 l0 x24_1).f0), .int .i64 ((rd_T59 l0 x24_1).f1), .int .i64 ((rd_T59 l0 x24_1).f2), .int .u32 ((rd_T59 l0 x24_1).f3)] 59 (0, 0))) ∧ Aside0 (Below wz.heap.size wz wc))
           case first =>
            have H := HC10.out
            clear HC10
            by_cases c15 : ((rd_T59 l0 x24_1).f0) = 5
            ·rw [if_pos c15] at H
             have c15b0 : (((rd_T59 l0 x24_1).f0) == 5) = true := bI.mpr c15
             have c15b1 : (((rd_T59 l0 x24_1).f0) != 5) = false := nF.mpr c15
             clear c15
             (first | rw [c15b0] | (simp only [i64_w, i32_w]; rw [c15b0]) | skip)
             have H' := Aside0.mk H
             clear H
             obtain ⟨hcz16_0, hcz16_1, hcz16_2, hcz16_3, hfz16_0, hfz16_1, hfz16_2, hfz16_3⟩ := kQ4 BK131.out
             go_wp2
             go_meet
             case rel => exact ⟨_, (true), jS, H', ⟨by have := HK1.out; first | omega | exact Nat.le_refl _⟩, ⟨jK BK131⟩, ⟨jH HB⟩⟩
            ·rw [if_neg c15] at H
             have c15b0 : (((rd_T59 l0 x24_1).f0) == 5) = false := bF.mpr c15
             have c15b1 : (((rd_T59 l0 x24_1).f0) != 5) = true := nI.mpr c15
             (first | rw [c15b0] | (simp only [i64_w, i32_w]; rw [c15b0]) | skip)
             replace H := Option.bind_eq_some_iff.mp H
             obtain ⟨t133, A170, H⟩ := H
             try dsimp only at H
             have A17 := Aside0.mk A170
             clear A170
             have H' := Aside0.mk H
             clear H
             obtain ⟨hcz18_0, hcz18_1, hcz18_2, hcz18_3, hfz18_0, hfz18_1, hfz18_2, hfz18_3⟩ := kQ4 BK131.out
             go_wp2_with (first | (go_at_call 53; (with_reducible refine (ins_Branch.calls ((rd_T59 l0 x24_1).f0) ((rd_T59 l0 x24_1).f1) ((rd_T59 l0 x24_1).f2) ((rd_T59 l0 x24_1).f3) t133 _ ?side1 A17.out).mono ?_); (case side1 => exact Glob.below HG.out (jH HB)); rintro e w19 ⟨rfl, hb⟩; replace BK131 := Aside0.mk (jB BK131 hb); replace HB := Aside0.mk (zT (jH HB) hb); (try clear hb); (try clear hb2); (try clear hk); (try clear hi)))
             go_meet
             case rel => exact ⟨_, (t133), jS, H', ⟨by have := HK1.out; first | omega | exact Nat.le_refl _⟩, ⟨jK BK131⟩, ⟨jH HB⟩⟩
           case rest =>
            clear HC10
            obtain ⟨kq, x9_9, rfl, HA, HJ9, BK131, HB⟩ := hcut
            cases kq with
            | zero => exact absurd HA.out (by simp [check_Check.j1])
            | succ kj9 =>
             have H := HA.out
             clear HA
             simp only [check_Check.j1] at H
             replace H := Option.bind_eq_some_iff.mp H
             obtain ⟨t134, A200, H⟩ := H
             try dsimp only at H
             have A20 := Aside0.mk A200
             clear A200
             have H' := Aside0.mk H
             clear H
             obtain ⟨hcz21_0, hcz21_1, hcz21_2, hcz21_3, hfz21_0, hfz21_1, hfz21_2, hfz21_3⟩ := kQ4 BK131.out
             go_wp2_with (first | ((with_reducible refine gate_callee (f := 68) rfl ?_); refine goesL_ (some 55) rfl rfl Tryd.func68 (by kernel_rfl) rfl #[.agg #[.int .i64 ((rd_T59 l0 x24_1).f0), .int .i64 ((rd_T59 l0 x24_1).f1), .int .i64 ((rd_T59 l0 x24_1).f2), .int .u32 ((rd_T59 l0 x24_1).f3)], .int .i64 x24_1] rfl jZ ?_; (with_reducible refine (check_ways.calls ((rd_T59 l0 x24_1).f0) ((rd_T59 l0 x24_1).f1) ((rd_T59 l0 x24_1).f2) ((rd_T59 l0 x24_1).f3) x24_1 t134 _ ?side1 A20.out).mono ?_); (case side1 => exact Glob.below HG.out (jH HB)); rintro e w22 ⟨v135, rfl, ho0, hb⟩; refine ⟨_, rfl, ?_⟩; have HO136 := Aside0.mk (Kd.R_lower ho0 (zZ (jH HB))); replace BK131 := Aside0.mk (jB BK131 hb); replace HB := Aside0.mk (zT (jH HB) hb); (try clear hb); (try clear hb2); (try clear hk); (try clear hi); (try clear ho0); obtain ⟨Ao23, co23, eo23⟩ := Kd.R_slice HO136.out; subst eo23))
             go_loopg [57] kj9 (fun kq v57 w' => ∃ (x57_3 : Int), v57 = .int .i64 x57_3 ∧ Aside0 (check_Check.l1 kq l0 x24_1 x9_9 l0 (l0.length : Int) x24_1 t134 (t134.length : Int) x57_3 = some (r1, r2)) ∧ Aside0 (kq ≤ kj9) ∧ Aside0 (Kd.R (Kd.int .i64) 2 w' wz.heap.size (fun _ => True) (.slice Ao23 t134.length co23) t134) ∧ Aside0 (w'.heap[gb131]? = some (.cells #[.int .i64 ((rd_T59 l0 x24_1).f0), .int .i64 ((rd_T59 l0 x24_1).f1), .int .i64 ((rd_T59 l0 x24_1).f2), .int .u32 ((rd_T59 l0 x24_1).f3)] 59 (0, 0))) ∧ Aside0 (Below wz.heap.size wz w'))
             case atStart => exact ⟨(0), jS, H', ⟨Nat.le_refl _⟩, ⟨jR HO136⟩, ⟨jK BK131⟩, ⟨jH HB⟩⟩
             case round =>
              clear H'
              obtain ⟨x57_3, rfl, HA, HK3, HO_55, BK131, HB⟩ := hrel
              cases gk with
              | zero => exact absurd HA.out (by simp [check_Check.l1])
              | succ k3 =>
               have H := HA.out
               clear HA
               simp only [check_Check.l1] at H
               by_cases c24 : x57_3 < (t134.length : Int)
               ·rw [if_pos c24] at H
                have c24b0 : decide (x57_3 < (t134.length : Int)) = true := dT c24
                clear c24
                by_cases c25 : 0 ≤ x57_3
                ·rw [if_pos c25] at H
                 have c25b0 : decide (0 ≤ x57_3) = true := dT c25
                 clear c25
                 by_cases c26 : x57_3 < (t134.length : Int)
                 ·rw [if_pos c26] at H
                  have c26b0 : decide (x57_3 < (t134.length : Int)) = true := dT c26
                  clear c26
                  by_cases c27 : x9_9 = true
                  ·subst c27
                   rw [if_pos rfl] at H
                   by_cases c28 : (rd t134 x57_3) ≥ (l0.length : Int)
                   ·rw [if_pos c28] at H
                    have c28b0 : decide ((l0.length : Int) ≤ (rd t134 x57_3)) = true := dT c28
                    clear c28
                    simp only [Option.some.injEq, Prod.mk.injEq] at H
                    obtain ⟨rfl, rfl⟩ := H
                    have p137 : 0 ≤ (x57_3 : Int) := oD (jA)
                    have q137 : x57_3 < (t134.length : Int) := oD (jA)
                    obtain ⟨ad137, e137, hx137_0⟩ := Kd.at_int (Kd.R_reads' HO_55.out).2.2 x57_3 p137 q137
                    cases e137
                    replace p137 := eq_true p137
                    replace q137 := eq_true q137
                    go_wp2
                    go_ret2
                    exact ⟨jE, zT HW0.out (jH HB)⟩
                   ·rw [if_neg c28] at H
                    have c28b0 : decide ((l0.length : Int) ≤ (rd t134 x57_3)) = false := dF c28
                    clear c28
                    have H' := Aside0.mk H
                    clear H
                    have p137 : 0 ≤ (x57_3 : Int) := oD (jA)
                    have q137 : x57_3 < (t134.length : Int) := oD (jA)
                    obtain ⟨ad137, e137, hx137_0⟩ := Kd.at_int (Kd.R_reads' HO_55.out).2.2 x57_3 p137 q137
                    cases e137
                    replace p137 := eq_true p137
                    replace q137 := eq_true q137
                    go_wp2
                    go_roundg k3
                    case measure => have := HK1.out; have := HJ9.out; have := HK3.out; omega
                    case rel => exact ⟨(wrap64 (x57_3 + 1)), jS, H', ⟨by have := HK1.out; have := HJ9.out; have := HK3.out; omega⟩, ⟨jR HO_55⟩, ⟨jK BK131⟩, ⟨jH HB⟩⟩
                  ·replace c27 := Bool.eq_false_iff.mpr c27
                   subst c27
                   rw [if_neg (show ¬ (false = true) by decide)] at H
                   have H' := Aside0.mk H
                   clear H
                   have p137 : 0 ≤ (x57_3 : Int) := oD (jA)
                   have q137 : x57_3 < (t134.length : Int) := oD (jA)
                   obtain ⟨ad137, e137, hx137_0⟩ := Kd.at_int (Kd.R_reads' HO_55.out).2.2 x57_3 p137 q137
                   cases e137
                   replace p137 := eq_true p137
                   replace q137 := eq_true q137
                   go_wp2
                   go_roundg k3
                   case measure => have := HK1.out; have := HJ9.out; have := HK3.out; omega
                   case rel => exact ⟨(wrap64 (x57_3 + 1)), jS, H', ⟨by have := HK1.out; have := HJ9.out; have := HK3.out; omega⟩, ⟨jR HO_55⟩, ⟨jK BK131⟩, ⟨jH HB⟩⟩
                 ·rw [if_neg c26] at H
                  exact absurd H (by simp)
                ·rw [if_neg c25] at H
                 exact absurd H (by simp)
               ·rw [if_neg c24] at H
                have c24b0 : decide (x57_3 < (t134.length : Int)) = false := dF c24
                clear c24
                have H' := Aside0.mk H
                clear H
                go_wp2
                go_roundg k3
                case measure => have := HK1.out; have := HJ9.out; have := HK3.out; omega
                case rel => exact ⟨(wrap64 (x24_1 + 1)), jS, H', ⟨by have := HK1.out; have := HJ9.out; have := HK3.out; omega⟩, ⟨jH HB⟩⟩
         ·rw [if_neg c9] at H
          have c9b0 : ((check_ruleE ((rd_T59 l0 x24_1).f0) ((rd_T59 l0 x24_1).f3)) == 0) = false := bF.mpr c9
          have c9b1 : ((check_ruleE ((rd_T59 l0 x24_1).f0) ((rd_T59 l0 x24_1).f3)) != 0) = true := nI.mpr c9
          simp only [Option.some.injEq, Prod.mk.injEq] at H
          obtain ⟨rfl, rfl⟩ := H
          have p130 : 0 ≤ (x24_1 : Int) := oD (jA)
          have q130 : x24_1 < (l0.length : Int) := oD (jA)
          obtain ⟨ad130, e130, hx130_0, hx130_1, hx130_2, hx130_3⟩ := at_T59 HR0.out x24_1 p130 q130
          cases e130
          replace hx130_0 := (HB.out.cell (bL wz _ hx130_0)).trans hx130_0
          replace hx130_1 := (HB.out.cell (bL wz _ hx130_1)).trans hx130_1
          replace hx130_2 := (HB.out.cell (bL wz _ hx130_2)).trans hx130_2
          replace hx130_3 := (HB.out.cell (bL wz _ hx130_3)).trans hx130_3
          replace p130 := eq_true p130
          replace q130 := eq_true q130
          go_upto_region 11 with (first | ((with_reducible refine gate_dst (N := 6) rfl ?_); (try (refine gate_guard (by rfl) ?_; dsimp only)); refine box_event rfl (N := 6) rfl (cs := #[.int .i64 0, .int .i64 0, .int .i64 0, .int .u32 0]) (t := 59) jW ?_; intro gb131 hg w29 hbox hb; have n0_ := Aside0.mk (zT (jH HB) hb); have n1_ := Aside0.mk hbox; have n2_ := Aside0.mk ((by rw [hg]; exact (zZ (jH HB)) : wz.heap.size ≤ gb131)); have n3_ := Aside0.mk ((by rw [hg]; exact (zZ (jH HB)) : wz.heap.size ≤ gb131)); clear HB; have HB := n0_; have BK131 := n1_; have GW131 := n2_; have GE131 := n3_; clear n0_ n1_ n2_ n3_; clear hb hbox hg; obtain ⟨hcz30_0, hcz30_1, hcz30_2, hcz30_3, hfz30_0, hfz30_1, hfz30_2, hfz30_3⟩ := kQ4 BK131.out) | ((with_reducible refine gate_callee (f := 59) rfl ?_); refine goesL_ (some 30) rfl rfl Tryd.func59 (by kernel_rfl) rfl #[.agg #[.int .i64 ((rd_T59 l0 x24_1).f0), .int .i64 ((rd_T59 l0 x24_1).f1), .int .i64 ((rd_T59 l0 x24_1).f2), .int .u32 ((rd_T59 l0 x24_1).f3)]] rfl jZ ?_; (with_reducible refine (ins_Right.calls k1 ((rd_T59 l0 x24_1).f0) ((rd_T59 l0 x24_1).f1) ((rd_T59 l0 x24_1).f2) ((rd_T59 l0 x24_1).f3) true _ ?side1 A7.out).mono ?_); (case side1 => exact Glob.below HG.out (jH HB)); rintro e w31 ⟨rfl, hb⟩; refine ⟨_, rfl, ?_⟩; have n0_ := Aside0.mk (kB (g := gb131) (o := .cells #[.int .i64 ((rd_T59 l0 x24_1).f0), .int .i64 ((rd_T59 l0 x24_1).f1), .int .i64 ((rd_T59 l0 x24_1).f2), .int .u32 ((rd_T59 l0 x24_1).f3)] 59 (0, 0)) (by (with_reducible repeat (first | refine kN ?_ _ | refine kD ?_ | refine kA ?_ _)); refine kP (cs := #[.int .i64 ((rd_T59 l0 x24_1).f0), .int .i64 ((rd_T59 l0 x24_1).f1), .int .i64 ((rd_T59 l0 x24_1).f2), .int .u32 0]) ?_ 3 _ rfl; (with_reducible repeat (first | refine kN ?_ _ | refine kD ?_ | refine kA ?_ _)); refine kP (cs := #[.int .i64 ((rd_T59 l0 x24_1).f0), .int .i64 ((rd_T59 l0 x24_1).f1), .int .i64 0, .int .u32 0]) ?_ 2 _ rfl; (with_reducible repeat (first | refine kN ?_ _ | refine kD ?_ | refine kA ?_ _)); refine kP (cs := #[.int .i64 ((rd_T59 l0 x24_1).f0), .int .i64 0, .int .i64 0, .int .u32 0]) ?_ 1 _ rfl; (with_reducible repeat (first | refine kN ?_ _ | refine kD ?_ | refine kA ?_ _)); refine kP (cs := #[.int .i64 0, .int .i64 0, .int .i64 0, .int .u32 0]) ?_ 0 _ rfl; (with_reducible repeat (first | refine kN ?_ _ | refine kD ?_ | refine kA ?_ _)); exact BK131.out) hb); have n1_ := Aside0.mk (zT (jH HB) hb); clear BK131; clear HB; have BK131 := n0_; have HB := n1_; clear n0_ n1_; (try clear hb); (try clear hb2); (try clear hk); (try clear hi); obtain ⟨hcz32_0, hcz32_1, hcz32_2, hcz32_3, hfz32_0, hfz32_1, hfz32_2, hfz32_3⟩ := kQ4 BK131.out))
          (try simp only [Act.put, List.setIfInBounds_toArray, List.set_cons_zero, List.set_cons_succ])
          obtain ⟨V, B, hlk, heg, hne, hcase⟩ := rule_ways ((rd_T59 l0 x24_1).f0) (RulesAt.below HRL.out (show Below wz.heap.size wz w31 from HB.out))
          have hcase := Aside0.mk hcase
          have hcq_0 : w31.cell? ⟨gb131, 0, none⟩ = some (.int .i64 ((rd_T59 l0 x24_1).f0)) := (kC BK131.out 0).trans rfl
          have hcq_1 : w31.cell? ⟨gb131, 1, none⟩ = some (.int .i64 ((rd_T59 l0 x24_1).f1)) := (kC BK131.out 1).trans rfl
          have hcq_2 : w31.cell? ⟨gb131, 2, none⟩ = some (.int .i64 ((rd_T59 l0 x24_1).f2)) := (kC BK131.out 2).trans rfl
          have hcq_3 : w31.cell? ⟨gb131, 3, none⟩ = some (.int .u32 ((rd_T59 l0 x24_1).f3)) := (kC BK131.out 3).trans rfl
          have hfq_0 := kF BK131.out 0
          have hfq_1 := kF BK131.out 1
          have hfq_2 := kF BK131.out 2
          have hfq_3 := kF BK131.out 3
          go_upto_if 38 with (fail)
          rcases hcase.out with ⟨hrn, rfl, rfl⟩ | ⟨n, hrn, rfl, rfl⟩
          ·skip
           exact absurd (ruleE_none hrn) c9
          ·rcases ruleN_cases ((rd_T59 l0 x24_1).f0) with hq | hq | hq | hq | hq
           ·rw [hq] at hrn; cases hrn
           ·obtain rfl : n = 70 := (Option.some.inj (hq.symm.trans hrn)).symm
            clear hq
            go_wp2_with (first | (go_at_call 70; (with_reducible refine (check_ruleAt.calls 70 ((rd_T59 l0 x24_1).f0) ((rd_T59 l0 x24_1).f1) ((rd_T59 l0 x24_1).f2) ((rd_T59 l0 x24_1).f3) mR bR _ hrn ?side1).mono ?_); (case side1 => exact RulesAt.below HRL.out (jH HB)); rintro e wq ⟨rfl, hb⟩; replace BK131 := Aside0.mk (jB BK131 hb); replace HB := Aside0.mk (zT (jH HB) hb); (try clear hb)))
            go_ret2
            exact ⟨jE, zT HW0.out (jH HB)⟩
           ·obtain rfl : n = 71 := (Option.some.inj (hq.symm.trans hrn)).symm
            clear hq
            go_wp2_with (first | (go_at_call 71; (with_reducible refine (check_ruleAt.calls 71 ((rd_T59 l0 x24_1).f0) ((rd_T59 l0 x24_1).f1) ((rd_T59 l0 x24_1).f2) ((rd_T59 l0 x24_1).f3) mR bR _ hrn ?side1).mono ?_); (case side1 => exact RulesAt.below HRL.out (jH HB)); rintro e wq ⟨rfl, hb⟩; replace BK131 := Aside0.mk (jB BK131 hb); replace HB := Aside0.mk (zT (jH HB) hb); (try clear hb)))
            go_ret2
            exact ⟨jE, zT HW0.out (jH HB)⟩
           ·obtain rfl : n = 72 := (Option.some.inj (hq.symm.trans hrn)).symm
            clear hq
            go_wp2_with (first | (go_at_call 72; (with_reducible refine (check_ruleAt.calls 72 ((rd_T59 l0 x24_1).f0) ((rd_T59 l0 x24_1).f1) ((rd_T59 l0 x24_1).f2) ((rd_T59 l0 x24_1).f3) mR bR _ hrn ?side1).mono ?_); (case side1 => exact RulesAt.below HRL.out (jH HB)); rintro e wq ⟨rfl, hb⟩; replace BK131 := Aside0.mk (jB BK131 hb); replace HB := Aside0.mk (zT (jH HB) hb); (try clear hb)))
            go_ret2
            exact ⟨jE, zT HW0.out (jH HB)⟩
           ·obtain rfl : n = 73 := (Option.some.inj (hq.symm.trans hrn)).symm
            clear hq
            go_wp2_with (first | (go_at_call 73; (with_reducible refine (check_ruleAt.calls 73 ((rd_T59 l0 x24_1).f0) ((rd_T59 l0 x24_1).f1) ((rd_T59 l0 x24_1).f2) ((rd_T59 l0 x24_1).f3) mR bR _ hrn ?side1).mono ?_); (case side1 => exact RulesAt.below HRL.out (jH HB)); rintro e wq ⟨rfl, hb⟩; replace BK131 := Aside0.mk (jB BK131 hb); replace HB := Aside0.mk (zT (jH HB) hb); (try clear hb)))
            go_ret2
            exact ⟨jE, zT HW0.out (jH HB)⟩
        ·replace c8 := Bool.eq_false_iff.mpr c8
         subst c8
         rw [if_neg (show ¬ (false = true) by decide)] at H
         simp only [Option.some.injEq, Prod.mk.injEq] at H
         obtain ⟨rfl, rfl⟩ := H
         have p130 : 0 ≤ (x24_1 : Int) := oD (jA)
         have q130 : x24_1 < (l0.length : Int) := oD (jA)
         obtain ⟨ad130, e130, hx130_0, hx130_1, hx130_2, hx130_3⟩ := at_T59 HR0.out x24_1 p130 q130
         cases e130
         replace hx130_0 := (HB.out.cell (bL wz _ hx130_0)).trans hx130_0
         replace hx130_1 := (HB.out.cell (bL wz _ hx130_1)).trans hx130_1
         replace hx130_2 := (HB.out.cell (bL wz _ hx130_2)).trans hx130_2
         replace hx130_3 := (HB.out.cell (bL wz _ hx130_3)).trans hx130_3
         replace p130 := eq_true p130
         replace q130 := eq_true q130
         go_wp2_with (first | ((with_reducible refine gate_dst (N := 6) rfl ?_); (try (refine gate_guard (by rfl) ?_; dsimp only)); refine box_event rfl (N := 6) rfl (cs := #[.int .i64 0, .int .i64 0, .int .i64 0, .int .u32 0]) (t := 59) jW ?_; intro gb131 hg w33 hbox hb; have n0_ := Aside0.mk (zT (jH HB) hb); have n1_ := Aside0.mk hbox; have n2_ := Aside0.mk ((by rw [hg]; exact (zZ (jH HB)) : wz.heap.size ≤ gb131)); have n3_ := Aside0.mk ((by rw [hg]; exact (zZ (jH HB)) : wz.heap.size ≤ gb131)); clear HB; have HB := n0_; have BK131 := n1_; have GW131 := n2_; have GE131 := n3_; clear n0_ n1_ n2_ n3_; clear hb hbox hg; obtain ⟨hcz34_0, hcz34_1, hcz34_2, hcz34_3, hfz34_0, hfz34_1, hfz34_2, hfz34_3⟩ := kQ4 BK131.out) | ((with_reducible refine gate_callee (f := 59) rfl ?_); refine goesL_ (some 30) rfl rfl Tryd.func59 (by kernel_rfl) rfl #[.agg #[.int .i64 ((rd_T59 l0 x24_1).f0), .int .i64 ((rd_T59 l0 x24_1).f1), .int .i64 ((rd_T59 l0 x24_1).f2), .int .u32 ((rd_T59 l0 x24_1).f3)]] rfl jZ ?_; (with_reducible refine (ins_Right.calls k1 ((rd_T59 l0 x24_1).f0) ((rd_T59 l0 x24_1).f1) ((rd_T59 l0 x24_1).f2) ((rd_T59 l0 x24_1).f3) false _ ?side1 A7.out).mono ?_); (case side1 => exact Glob.below HG.out (jH HB)); rintro e w35 ⟨rfl, hb⟩; refine ⟨_, rfl, ?_⟩; have n0_ := Aside0.mk (kB (g := gb131) (o := .cells #[.int .i64 ((rd_T59 l0 x24_1).f0), .int .i64 ((rd_T59 l0 x24_1).f1), .int .i64 ((rd_T59 l0 x24_1).f2), .int .u32 ((rd_T59 l0 x24_1).f3)] 59 (0, 0)) (by (with_reducible repeat (first | refine kN ?_ _ | refine kD ?_ | refine kA ?_ _)); refine kP (cs := #[.int .i64 ((rd_T59 l0 x24_1).f0), .int .i64 ((rd_T59 l0 x24_1).f1), .int .i64 ((rd_T59 l0 x24_1).f2), .int .u32 0]) ?_ 3 _ rfl; (with_reducible repeat (first | refine kN ?_ _ | refine kD ?_ | refine kA ?_ _)); refine kP (cs := #[.int .i64 ((rd_T59 l0 x24_1).f0), .int .i64 ((rd_T59 l0 x24_1).f1), .int .i64 0, .int .u32 0]) ?_ 2 _ rfl; (with_reducible repeat (first | refine kN ?_ _ | refine kD ?_ | refine kA ?_ _)); refine kP (cs := #[.int .i64 ((rd_T59 l0 x24_1).f0), .int .i64 0, .int .i64 0, .int .u32 0]) ?_ 1 _ rfl; (with_reducible repeat (first | refine kN ?_ _ | refine kD ?_ | refine kA ?_ _)); refine kP (cs := #[.int .i64 0, .int .i64 0, .int .i64 0, .int .u32 0]) ?_ 0 _ rfl; (with_reducible repeat (first | refine kN ?_ _ | refine kD ?_ | refine kA ?_ _)); exact BK131.out) hb); have n1_ := Aside0.mk (zT (jH HB) hb); clear BK131; clear HB; have BK131 := n0_; have HB := n1_; clear n0_ n1_; (try clear hb); (try clear hb2); (try clear hk); (try clear hi)))
         go_ret2
         exact ⟨jE, zT HW0.out (jH HB)⟩
       ·rw [if_neg c6] at H
        exact absurd H (by simp)
      ·rw [if_neg c5] at H
       exact absurd H (by simp)
     ·rw [if_neg c4] at H
      have c4b0 : decide (x24_1 < (l0.length : Int)) = false := dF c4
      clear c4
      obtain ⟨ji36, hji36⟩ : ∃ j_ : Int, (wrap64 ((l0.length : Int) - 1)) = j_ := ⟨_, rfl⟩
      replace H : (if 0 ≤ (ji36) then (if (ji36) < (l0.length : Int) then ((ins_Ends.f ((rd_T59 l0 (ji36)).f0) ((rd_T59 l0 (ji36)).f1) ((rd_T59 l0 (ji36)).f2) ((rd_T59 l0 (ji36)).f3)).bind fun t129 => (if t129 = true then (some (0, 0)) else (some (ji36, 5)))) else (none)) else (none)) = some (r1, r2) := by first | (rw [hji36] at H; exact H) | (simp only [hji36] at H ⊢; exact H)
      have hji36w : (IntKind.i64.wrap ((l0.length : Int) - 1)) = ji36 := (i64_w _).trans hji36
      by_cases c37 : 0 ≤ (ji36)
      ·rw [if_pos c37] at H
       have c37b0 : decide (0 ≤ (ji36)) = true := dT c37
       clear c37
       by_cases c38 : (ji36) < (l0.length : Int)
       ·rw [if_pos c38] at H
        have c38b0 : decide ((ji36) < (l0.length : Int)) = true := dT c38
        clear c38
        replace H := Option.bind_eq_some_iff.mp H
        obtain ⟨t129, A390, H⟩ := H
        try dsimp only at H
        have A39 := Aside0.mk A390
        clear A390
        by_cases c40 : t129 = true
        ·subst c40
         rw [if_pos rfl] at H
         simp only [Option.some.injEq, Prod.mk.injEq] at H
         obtain ⟨rfl, rfl⟩ := H
         have p128 : 0 ≤ ((ji36) : Int) := oD (jA)
         have q128 : (ji36) < (l0.length : Int) := oD (jA)
         obtain ⟨ad128, e128, hx128_0, hx128_1, hx128_2, hx128_3⟩ := at_T59 HR0.out (ji36) p128 q128
         cases e128
         replace hx128_0 := (HB.out.cell (bL wz _ hx128_0)).trans hx128_0
         replace hx128_1 := (HB.out.cell (bL wz _ hx128_1)).trans hx128_1
         replace hx128_2 := (HB.out.cell (bL wz _ hx128_2)).trans hx128_2
         replace hx128_3 := (HB.out.cell (bL wz _ hx128_3)).trans hx128_3
         replace p128 := eq_true p128
         replace q128 := eq_true q128
         go_wp2_with (first | ((with_reducible refine gate_callee (f := 54) rfl ?_); refine goesL_ (some 78) rfl rfl Tryd.func54 (by kernel_rfl) rfl #[.agg #[.int .i64 ((rd_T59 l0 (ji36)).f0), .int .i64 ((rd_T59 l0 (ji36)).f1), .int .i64 ((rd_T59 l0 (ji36)).f2), .int .u32 ((rd_T59 l0 (ji36)).f3)]] rfl (by (try simp only [List.map_toArray, List.map_cons, List.map_nil]); first | done | (simp only [hji36]; rfl) | rfl | (simp only [List.length_drop, List.length_take]; rfl)) ?_; (with_reducible refine (ins_Ends.calls ((rd_T59 l0 (ji36)).f0) ((rd_T59 l0 (ji36)).f1) ((rd_T59 l0 (ji36)).f2) ((rd_T59 l0 (ji36)).f3) true _ A39.out).mono ?_); rintro e w41 ⟨rfl, hb⟩; refine ⟨_, rfl, ?_⟩; replace HB := Aside0.mk (zT (jH HB) hb); (try clear hb); (try clear hb2); (try clear hk); (try clear hi)))
         go_ret2
         exact ⟨by first | rfl | (simp [errW_none, errW_some] <;> rfl) | (simp only [← hji36]; first | rfl | (simp [errW_none, errW_some] <;> rfl)) | (simp [*, errW_none, errW_some] <;> rfl), zT HW0.out (jH HB)⟩
        ·replace c40 := Bool.eq_false_iff.mpr c40
         subst c40
         rw [if_neg (show ¬ (false = true) by decide)] at H
         simp only [Option.some.injEq, Prod.mk.injEq] at H
         obtain ⟨rfl, rfl⟩ := H
         have p128 : 0 ≤ ((ji36) : Int) := oD (jA)
         have q128 : (ji36) < (l0.length : Int) := oD (jA)
         obtain ⟨ad128, e128, hx128_0, hx128_1, hx128_2, hx128_3⟩ := at_T59 HR0.out (ji36) p128 q128
         cases e128
         replace hx128_0 := (HB.out.cell (bL wz _ hx128_0)).trans hx128_0
         replace hx128_1 := (HB.out.cell (bL wz _ hx128_1)).trans hx128_1
         replace hx128_2 := (HB.out.cell (bL wz _ hx128_2)).trans hx128_2
         replace hx128_3 := (HB.out.cell (bL wz _ hx128_3)).trans hx128_3
         replace p128 := eq_true p128
         replace q128 := eq_true q128
         go_wp2_with (first | ((with_reducible refine gate_callee (f := 54) rfl ?_); refine goesL_ (some 78) rfl rfl Tryd.func54 (by kernel_rfl) rfl #[.agg #[.int .i64 ((rd_T59 l0 (ji36)).f0), .int .i64 ((rd_T59 l0 (ji36)).f1), .int .i64 ((rd_T59 l0 (ji36)).f2), .int .u32 ((rd_T59 l0 (ji36)).f3)]] rfl (by (try simp only [List.map_toArray, List.map_cons, List.map_nil]); first | done | (simp only [hji36]; rfl) | rfl | (simp only [List.length_drop, List.length_take]; rfl)) ?_; (with_reducible refine (ins_Ends.calls ((rd_T59 l0 (ji36)).f0) ((rd_T59 l0 (ji36)).f1) ((rd_T59 l0 (ji36)).f2) ((rd_T59 l0 (ji36)).f3) false _ A39.out).mono ?_); rintro e w42 ⟨rfl, hb⟩; refine ⟨_, rfl, ?_⟩; replace HB := Aside0.mk (zT (jH HB) hb); (try clear hb); (try clear hb2); (try clear hk); (try clear hi)))
         go_ret2
         exact ⟨by first | rfl | (simp [errW_none, errW_some] <;> rfl) | (simp only [← hji36]; first | rfl | (simp [errW_none, errW_some] <;> rfl)) | (simp [*, errW_none, errW_some] <;> rfl), zT HW0.out (jH HB)⟩
       ·rw [if_neg c38] at H
        exact absurd H (by simp)
      ·rw [if_neg c37] at H
       exact absurd H (by simp)
end Go.Proofs.YtahacmdhhfmhiaaDoor.M
