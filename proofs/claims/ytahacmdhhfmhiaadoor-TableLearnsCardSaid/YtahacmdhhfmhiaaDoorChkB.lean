/- Which filters are sound, by the program's and the document's functions: they answer the same. No condition but sizes far beyond the laws'. -/
import Derived.Test.YtahacmdhhfmhiaaDoorOpsA
import Derived.Test.YtahacmdhhfmhiaaDoorKA
import Derived.Test.YtahacmdhhfmhiaaDoorMB
import Derived.Test.YtahacmdhhfmhiaaDoorMF
namespace Go.Proofs.YtahacmdhhfmhiaaDoor.ChkB
set_option linter.unusedVariables false
set_option linter.unusedSimpArgs false
open Go.RowKit Go.Proofs.YtahacmdhhfmhiaaDoorW.PrintWords Go.Proofs.YtahacmdhhfmhiaaDoorW.PrintLast Go.Proofs.YtahacmdhhfmhiaaDoorW.PrintMore Go.Proofs.YtahacmdhhfmhiaaDoor.M Go.Proofs.YtahacmdhhfmhiaaDoor.InsOps Go.Proofs.YtahacmdhhfmhiaaDoor.RightB
abbrev In := S59
theorem w64s {x : Int} (h0 : -1000000000000 ≤ x) (h1 : x < 1000000000000) : wrap64 x = x := by simp only [wrap64]; omega
theorem wS (n : Nat) (h : n < 100000000) : wrap64 ((n : Int) + 1) = ((n + 1 : Nat) : Int) := by rw [w64s (by omega) (by omega)]; rfl
theorem rd_at (l : List In) (i : Nat) (h : i < l.length) : rd_T59 l (i : Int) = l[i] := by
 simp [rd_T59, List.getD_eq_getElem?_getD, h]
theorem drop_at {α : Type} (l : List α) (i : Nat) (h : i < l.length) : l.drop i = l[i] :: l.drop (i + 1) := List.drop_eq_getElem_cons h
noncomputable def rt (x : In) : Bool := rightI x.f0 x.f1 x.f2 x.f3
def GoodI (x : In) : Prop := ∃ (i a b c : Nat), i < 39 ∧ opsL[i]? = some x.f0 ∧ x.f1 = (a : Int) ∧ x.f2 = (b : Int) ∧ x.f3 = (c : Int) ∧ a < 256 ∧ b < 256 ∧ c < 4294967296 ∧ right i (a : Int) (b : Int) (c : Int) = true
theorem good_of {x : In} (hw : Q.wfIns x) (h : rt x = true) : GoodI x := by
 unfold rt at h
 rcases op_cases x.f0 with ⟨i, hi, ho⟩ | ho
 ·rw [(rightI_row hi ho _ _ _).1] at h
  obtain ⟨a, b, c, e1, e2, e3, l1, l2, l3⟩ := right_fields hw.2.2.2 h
  refine ⟨i, a, b, c, hi, ho, e1, e2, e3, l1, l2, l3, ?_⟩
  rw [← e1, ← e2, ← e3]; exact h
 ·rw [(rightI_none ho _ _ _).1] at h; cases h
theorem good_small {x : In} (h : GoodI x) : 0 ≤ x.f1 ∧ x.f1 < 256 ∧ 0 ≤ x.f2 ∧ x.f2 < 256 ∧ 0 ≤ x.f3 ∧ x.f3 < 4294967296 := by
 obtain ⟨i, a, b, c, hi, ho, e1, e2, e3, l1, l2, l3, hr⟩ := h
 rw [e1, e2, e3]
 omega
theorem u32_range {n : Int} (h : (Lit.int .u32 n).wf = true) : 0 ≤ n ∧ n < 4294967296 := by
 simp only [Lit.wf, IntKind.min, IntKind.max, IntKind.signed, IntKind.bits, Bool.and_eq_true, decide_eq_true_eq] at h
 have h1 : 0 ≤ n := by simpa using h.1
 have h2 : n ≤ 4294967295 := by simpa using h.2
 omega
theorem branch_5 : branchI 5 = false := by
 have := branchI_is 5 0 0 0
 have e : ins_Branch.f 5 0 0 0 = some false := by decide +kernel
 rw [e] at this
 exact (Option.some.inj this).symm
theorem branch_6 : branchI 6 = false := by
 have := branchI_is 6 0 0 0
 have e : ins_Branch.f 6 0 0 0 = some false := by decide +kernel
 rw [e] at this
 exact (Option.some.inj this).symm
theorem branch_22 : branchI 22 = false := by
 have := branchI_is 22 0 0 0
 have e : ins_Branch.f 22 0 0 0 = some false := by decide +kernel
 rw [e] at this
 exact (Option.some.inj this).symm
def endI (x : In) : Bool := x.f0 == 6 || x.f0 == 22
theorem ends_is (x : In) : ins_Ends.f x.f0 x.f1 x.f2 x.f3 = some (endI x) := by
 unfold ins_Ends.f endI
 by_cases h : x.f0 = 6
 ·rw [if_pos h, h]; rfl
 ·rw [if_neg h, show (x.f0 == 6) = false from beq_eq_false_iff_ne.mpr h]; rfl
theorem rends_is (x : In) : r02_Ends.f x.f0 x.f1 x.f2 x.f3 = some (endI x) := by
 unfold r02_Ends.f endI
 by_cases h : x.f0 = 6
 ·rw [if_pos h, h]; rfl
 ·rw [if_neg h, show (x.f0 == 6) = false from beq_eq_false_iff_ne.mpr h]; rfl
noncomputable def far (x : In) (left : Int) : Bool := if x.f0 = 5 then decide (left ≤ x.f3) else branchI x.f0 && (decide (left ≤ x.f1) || decide (left ≤ x.f2))
noncomputable def one (x : In) (left : Int) : Int := if rt x = true then if check_ruleE x.f0 x.f3 = 0 then if far x left = true then 4 else 0 else check_ruleE x.f0 x.f3 else 1
theorem tail4 (x : In) (left : Int) (b : Bool) (hb : b = (if x.f0 = 5 then decide (left ≤ x.f3) else false)) : Ev (fun k => r05_One.j4 k left b x.f0 x.f1 x.f2 x.f3) (if far x left = true then 4 else 0) := by
 unfold far
 by_cases h5 : x.f0 = 5
 ·rw [if_pos h5] at hb
  rw [if_pos h5, ← hb]
  cases b
  ·refine Ev.step (fun k => by simp only [r05_One.j4, Bool.false_eq_true, if_false]; rfl) (Ev.bind (rbranchI_is _ _ _ _) ?_)
   rw [h5, branch_5]
   simp only [Bool.false_eq_true, if_false]
   exact Ev.now _
  ·exact Ev.step (f := fun _ => some 4) (fun k => by simp [r05_One.j4]) (Ev.now _)
 ·rw [if_neg h5] at hb
  rw [if_neg h5]
  subst hb
  refine Ev.step (fun k => by simp only [r05_One.j4, Bool.false_eq_true, if_false]; rfl) (Ev.bind (rbranchI_is _ _ _ _) ?_)
  cases branchI x.f0
  ·simp only [Bool.false_eq_true, if_false, Bool.false_and]; exact Ev.now _
  ·simp only [if_true, Bool.true_and]
   by_cases c1 : x.f1 ≥ left
   ·simp only [if_pos c1, decide_eq_true (show left ≤ x.f1 from c1), Bool.true_or, if_true]; exact Ev.now _
   ·simp only [if_neg c1, decide_eq_false (show ¬ left ≤ x.f1 from c1), Bool.false_or]
    by_cases c2 : x.f2 ≥ left
    ·simp only [if_pos c2, decide_eq_true (show left ≤ x.f2 from c2), if_true]; exact Ev.now _
    ·simp only [if_neg c2, decide_eq_false (show ¬ left ≤ x.f2 from c2), Bool.false_eq_true, if_false]; exact Ev.now _
theorem one_is (x : In) (hw : Q.wfIns x) (at_ n : Nat) (hn : at_ < n) (hn2 : n < 100000) : Ev (fun k => r05_One.f k x.f0 x.f1 x.f2 x.f3 (at_ : Int) (n : Int)) (one x ((n : Int) - 1 - (at_ : Int))) := by
 have hk := u32_range hw.2.2.2
 unfold r05_One.f one
 refine Ev.bind (rrightI_is _ _ _ _) ?_
 have er : rightI x.f0 x.f1 x.f2 x.f3 = rt x := rfl
 rw [er]
 cases hr : rt x
 ·simp only [Bool.false_eq_true, if_false]; exact Ev.now _
 simp only [if_true]
 have eleft : wrap64 (wrap64 ((n : Int) - 1) - (at_ : Int)) = (n : Int) - 1 - (at_ : Int) := by rw [w64s (x := (n : Int) - 1) (by omega) (by omega), w64s (by omega) (by omega)]
 generalize hL : (n : Int) - 1 - (at_ : Int) = left at eleft
 have hleft : 0 ≤ left ∧ left < 100000 := by omega
 have j3 : ∀ b : Bool, Ev (fun k => r05_One.j3 k (at_ : Int) (n : Int) b x.f0 x.f1 x.f2 x.f3) (if b = true then 1 else if far x left = true then 4 else 0) := by
  intro b
  cases b
  ·simp only [Bool.false_eq_true, if_false]
   by_cases h5 : x.f0 = 5
   ·refine Ev.step (fun k => by simp only [r05_One.j3, Bool.false_eq_true, if_false]; rw [if_pos h5, eleft]) (tail4 x left _ ?_)
    rw [if_pos h5]
    have e1 : IntKind.u64.wrap x.f3 = x.f3 := by rw [IntKind.wrap_u64]; omega
    have e2 : IntKind.u64.wrap left = left := by rw [IntKind.wrap_u64]; omega
    rw [e1, e2]
   ·refine Ev.step (fun k => by simp only [r05_One.j3, Bool.false_eq_true, if_false]; rw [if_neg h5, eleft]) (tail4 x left _ ?_)
    rw [if_neg h5]
  ·exact Ev.step (f := fun _ => some 1) (fun k => by simp [r05_One.j3]) (Ev.now _)
 have j2 : ∀ b : Bool, Ev (fun k => r05_One.j2 k (at_ : Int) (n : Int) b x.f0 x.f1 x.f2 x.f3) (if b = true then 8 else if (x.f0 = 100 ∨ x.f0 = 116) ∧ x.f3 > 31 then 1 else if far x left = true then 4 else 0) := by
  intro b
  cases b
  ·simp only [Bool.false_eq_true, if_false]
   by_cases h1 : x.f0 = 100
   ·refine Ev.step (fun k => by simp only [r05_One.j2, Bool.false_eq_true, if_false]; rw [if_pos h1]) ?_
    have := j3 (decide (x.f3 > 31))
    by_cases c : x.f3 > 31
    ·rw [if_pos ⟨.inl h1, c⟩]; rw [decide_eq_true c] at this ⊢; exact this
    ·rw [if_neg (fun h => c h.2)]; rw [decide_eq_false c] at this ⊢; exact this
   by_cases h2 : x.f0 = 116
   ·refine Ev.step (fun k => by simp only [r05_One.j2, Bool.false_eq_true, if_false]; rw [if_neg h1, if_pos h2]) ?_
    have := j3 (decide (x.f3 > 31))
    by_cases c : x.f3 > 31
    ·rw [if_pos ⟨.inr h2, c⟩]; rw [decide_eq_true c] at this ⊢; exact this
    ·rw [if_neg (fun h => c h.2)]; rw [decide_eq_false c] at this ⊢; exact this
   rw [if_neg (fun h => h.1.elim h1 h2)]
   exact Ev.step (fun k => by simp only [r05_One.j2, Bool.false_eq_true, if_false]; rw [if_neg h1, if_neg h2]) (j3 false)
  ·exact Ev.step (f := fun _ => some 8) (fun k => by simp [r05_One.j2]) (Ev.now _)
 have j1 : ∀ b : Bool, Ev (fun k => r05_One.j1 k (at_ : Int) (n : Int) b x.f0 x.f1 x.f2 x.f3) (if b = true then 7 else if x.f0 = 52 ∧ x.f3 = 0 then 8 else if (x.f0 = 100 ∨ x.f0 = 116) ∧ x.f3 > 31 then 1 else if far x left = true then 4 else 0) := by
  intro b
  cases b
  ·simp only [Bool.false_eq_true, if_false]
   by_cases h1 : x.f0 = 52
   ·refine Ev.step (fun k => by simp only [r05_One.j1, Bool.false_eq_true, if_false]; rw [if_pos h1]) ?_
    have := j2 (x.f3 == 0)
    by_cases c : x.f3 = 0
    ·rw [if_pos ⟨h1, c⟩]; rw [show (x.f3 == 0) = true from beq_iff_eq.mpr c] at this ⊢; exact this
    ·rw [if_neg (fun h => c h.2)]; rw [show (x.f3 == 0) = false from beq_eq_false_iff_ne.mpr c] at this ⊢; exact this
   rw [if_neg (fun h => h1 h.1)]
   exact Ev.step (fun k => by simp only [r05_One.j1, Bool.false_eq_true, if_false]; rw [if_neg h1]) (j2 false)
  ·exact Ev.step (f := fun _ => some 7) (fun k => by simp [r05_One.j1]) (Ev.now _)
 have j0 : ∀ b : Bool, Ev (fun k => r05_One.j0 k (at_ : Int) (n : Int) b x.f0 x.f1 x.f2 x.f3) (if b = true then 6 else if (x.f0 = 2 ∨ x.f0 = 3 ∨ x.f0 = 96 ∨ x.f0 = 97) ∧ x.f3 > 15 then 7 else if x.f0 = 52 ∧ x.f3 = 0 then 8 else if (x.f0 = 100 ∨ x.f0 = 116) ∧ x.f3 > 31 then 1 else if far x left = true then 4 else 0) := by
  intro b
  cases b
  ·simp only [Bool.false_eq_true, if_false]
   have on : (x.f0 = 2 ∨ x.f0 = 3 ∨ x.f0 = 96 ∨ x.f0 = 97) → Ev (fun k => r05_One.j1 k (at_ : Int) (n : Int) (decide (x.f3 > 15)) x.f0 x.f1 x.f2 x.f3) (if (x.f0 = 2 ∨ x.f0 = 3 ∨ x.f0 = 96 ∨ x.f0 = 97) ∧ x.f3 > 15 then 7 else if x.f0 = 52 ∧ x.f3 = 0 then 8 else if (x.f0 = 100 ∨ x.f0 = 116) ∧ x.f3 > 31 then 1 else if far x left = true then 4 else 0) := by
    intro ho
    have := j1 (decide (x.f3 > 15))
    by_cases c : x.f3 > 15
    ·rw [if_pos ⟨ho, c⟩]; rw [decide_eq_true c] at this ⊢; exact this
    ·rw [if_neg (fun h => c h.2)]; rw [decide_eq_false c] at this ⊢; exact this
   by_cases h1 : x.f0 = 2
   ·exact Ev.step (fun k => by simp only [r05_One.j0, Bool.false_eq_true, if_false]; rw [if_pos h1]) (on (.inl h1))
   by_cases h2 : x.f0 = 3
   ·exact Ev.step (fun k => by simp only [r05_One.j0, Bool.false_eq_true, if_false]; rw [if_neg h1, if_pos h2]) (on (.inr (.inl h2)))
   by_cases h3 : x.f0 = 96
   ·exact Ev.step (fun k => by simp only [r05_One.j0, Bool.false_eq_true, if_false]; rw [if_neg h1, if_neg h2, if_pos h3]) (on (.inr (.inr (.inl h3))))
   by_cases h4 : x.f0 = 97
   ·exact Ev.step (fun k => by simp only [r05_One.j0, Bool.false_eq_true, if_false]; rw [if_neg h1, if_neg h2, if_neg h3, if_pos h4]) (on (.inr (.inr (.inr h4))))
   rw [if_neg (fun h => h.1.elim h1 (fun h => h.elim h2 (fun h => h.elim h3 h4)))]
   exact Ev.step (fun k => by simp only [r05_One.j0, Bool.false_eq_true, if_false]; rw [if_neg h1, if_neg h2, if_neg h3, if_neg h4]) (j1 false)
  ·exact Ev.step (f := fun _ => some 6) (fun k => by simp [r05_One.j0]) (Ev.now _)
 have fin : ∀ b : Bool, b = decide (x.f0 = 32 ∧ ¬ (Int.tmod x.f3 4 = 0 ∧ x.f3 < 64)) → (if b = true then 6 else if (x.f0 = 2 ∨ x.f0 = 3 ∨ x.f0 = 96 ∨ x.f0 = 97) ∧ x.f3 > 15 then 7 else if x.f0 = 52 ∧ x.f3 = 0 then 8 else if (x.f0 = 100 ∨ x.f0 = 116) ∧ x.f3 > 31 then 1 else if far x left = true then 4 else 0) = (if check_ruleE x.f0 x.f3 = 0 then if far x left = true then 4 else 0 else check_ruleE x.f0 x.f3) := by
  intro b hb
  unfold check_ruleE
  by_cases g1 : x.f0 = 32
  ·by_cases g2 : Int.tmod x.f3 4 = 0
   ·by_cases g3 : x.f3 < 64
    ·rw [hb, decide_eq_false (fun h => h.2 ⟨g2, g3⟩)]
     simp [g1, g2, g3]
    ·rw [hb, decide_eq_true ⟨g1, fun h => g3 h.2⟩]
     simp [g1, g2, g3]
   ·rw [hb, decide_eq_true ⟨g1, fun h => g2 h.1⟩]
    simp [g1, g2]
  ·rw [hb, decide_eq_false (fun h => g1 h.1)]
   by_cases g2 : x.f0 = 52
   ·by_cases g3 : x.f3 = 0
    ·simp [g2, g3]
    ·simp [g2, g3]
   ·by_cases g3 : x.f0 = 2 ∨ x.f0 = 3 ∨ x.f0 = 96 ∨ x.f0 = 97
    ·have g4 : ¬ (x.f0 = 100 ∨ x.f0 = 116) := by omega
     by_cases g5 : x.f3 < 16
     ·have g6 : ¬ x.f3 > 15 := by omega
      simp [g1, g2, g3, g4, g5, g6]
     ·have g6 : x.f3 > 15 := by omega
      simp [g1, g2, g3, g4, g5, g6]
    ·by_cases g4 : x.f0 = 100 ∨ x.f0 = 116
     ·by_cases g5 : x.f3 < 32
      ·have g6 : ¬ x.f3 > 31 := by omega
       simp [g1, g2, g3, g4, g5, g6]
      ·have g6 : x.f3 > 31 := by omega
       simp [g1, g2, g3, g4, g5, g6]
     ·simp [g1, g2, g3, g4]
 by_cases g1 : x.f0 = 32
 ·simp only [if_pos g1]
  by_cases g2 : Int.tmod x.f3 4 = 0
  ·simp only [if_pos g2]
   have g2' : x.f3 % 4 = 0 := by rw [← Int.tmod_eq_emod_of_nonneg hk.1]; exact g2
   have h := fin (decide (x.f3 > 60)) (by
    by_cases c : x.f3 > 60
    ·rw [decide_eq_true c, decide_eq_true ⟨g1, fun h => by omega⟩]
    ·rw [decide_eq_false c, decide_eq_false (fun h => h.2 ⟨g2, by omega⟩)])
   rw [← h]
   exact j0 _
  ·simp only [if_neg g2]
   have h := fin true (by rw [decide_eq_true ⟨g1, fun h => g2 h.1⟩])
   rw [← h]
   exact j0 _
 ·simp only [if_neg g1]
  have h := fin false (by rw [decide_eq_false (fun h => g1 h.1)])
  rw [← h]
  exact j0 _
noncomputable def scan (n : Nat) : List In → Nat → Option (Nat × Int)
 | [], _ => none
 | x :: r, i => if one x ((n : Int) - 1 - (i : Int)) = 0 then scan n r (i + 1) else some (i, one x ((n : Int) - 1 - (i : Int)))
noncomputable def lastI (l : List In) : Int × Int := if endI (l.getD (l.length - 1) z59) = true then (0, 0) else ((l.length : Int) - 1, 5)
noncomputable def chk (l : List In) : Int × Int := if l.length = 0 then (0, 5) else if 4096 < l.length then (0, 3) else match scan l.length l 0 with
 | some p => ((p.1 : Int), p.2)
 | none => lastI l
theorem rd_last (l : List In) (h0 : l.length ≠ 0) (hl : l.length < 100000) : 0 ≤ wrap64 ((l.length : Int) - 1) ∧ wrap64 ((l.length : Int) - 1) < (l.length : Int) ∧ rd_T59 l (wrap64 ((l.length : Int) - 1)) = l.getD (l.length - 1) z59 ∧ wrap64 ((l.length : Int) - 1) = (l.length : Int) - 1 := by
 have e : wrap64 ((l.length : Int) - 1) = ((l.length - 1 : Nat) : Int) := by rw [w64s (by omega) (by omega)]; omega
 rw [e]
 refine ⟨by omega, by omega, ?_, by omega⟩
 unfold rd_T59
 rw [Int.toNat_natCast]
noncomputable def waysI (x : In) (i : Int) : List Int := if endI x = true then [] else if x.f0 = 5 then [i + 1 + x.f3] else if branchI x.f0 = true then [i + 1 + mn x.f1 x.f2, i + 1 + mx x.f1 x.f2] else [i + 1]
theorem mn_mx (a b : Int) : mn a b = min a b ∧ mx a b = max a b := by unfold mn mx; constructor <;> split <;> omega
theorem ways_is (x : In) (hg : GoodI x) (i : Nat) (hi : i < 100000) : check_ways.f x.f0 x.f1 x.f2 x.f3 (i : Int) = some (waysI x (i : Int)) := by
 obtain ⟨b1, b2, b3, b4, b5, b6⟩ := good_small hg
 unfold check_ways.f waysI
 have e1 : wrap64 ((i : Int) + 1) = (i : Int) + 1 := w64s (by omega) (by omega)
 have e2 : wrap64 x.f3 = x.f3 := w64s (by omega) (by omega)
 have e3 : wrap64 ((i : Int) + 1 + x.f3) = (i : Int) + 1 + x.f3 := w64s (by omega) (by omega)
 obtain ⟨m1, m2⟩ := mn_mx x.f1 x.f2
 have e4 : wrap64 ((i : Int) + 1 + mn x.f1 x.f2) = (i : Int) + 1 + mn x.f1 x.f2 := by rw [m1]; exact w64s (by omega) (by omega)
 have e5 : wrap64 ((i : Int) + 1 + mx x.f1 x.f2) = (i : Int) + 1 + mx x.f1 x.f2 := by rw [m2]; exact w64s (by omega) (by omega)
 rw [ends_is, branchI_is, e1, e2, e3, e4, e5]
 simp only [Option.bind_some]
 cases endI x
 ·simp only [Bool.false_eq_true, if_false]
  by_cases h5 : x.f0 = 5
  ·rw [if_pos h5, if_pos h5]
  ·rw [if_neg h5, if_neg h5]
   cases branchI x.f0 <;> simp
 ·simp
theorem inner_from (l : List In) (hl : l.length < 100000) (i : Nat) (hi : i < l.length) (j : Bool) (ws : List Int) (hws : ws.length < 100) (r : Int × Int)
  (hr : if j = true ∧ ∃ t ∈ ws, (l.length : Int) ≤ t then r = ((i : Int), 4) else Ev (fun k => check_Check.l0 k l l (l.length : Int) ((i + 1 : Nat) : Int)) r) :
  ∀ (m p : Nat), p + m = ws.length → (∀ q, q < p → ∀ h : q < ws.length, ¬ (j = true ∧ (l.length : Int) ≤ ws[q])) → Ev (fun k => check_Check.l1 k l (i : Int) j l (l.length : Int) (i : Int) ws (ws.length : Int) (p : Int)) r := by
 intro m
 induction m with
 | zero =>
  intro p hp hno
  have hnone : ¬ (j = true ∧ ∃ t ∈ ws, (l.length : Int) ≤ t) := by
   rintro ⟨h1, t, ht, h2⟩
   obtain ⟨q, hq, e⟩ := List.getElem_of_mem ht
   exact hno q (by omega) hq ⟨h1, by rw [e]; exact h2⟩
  rw [if_neg hnone] at hr
  refine Ev.step (fun k => ?_) hr
  simp only [check_Check.l1]
  rw [if_neg (by omega), wS i (by omega)]
 | succ m ih =>
  intro p hp hno
  have hpl : p < ws.length := by omega
  have erd : rd ws (p : Int) = ws[p] := by simp [rd, List.getD_eq_getElem?_getD, hpl]
  cases j
  ·refine Ev.step (fun k => ?_) (ih (p + 1) (by omega) (fun q _ _ h => by simp at h))
   simp only [check_Check.l1]
   rw [if_pos (by omega), if_pos (by omega), if_pos (by omega), if_neg (by simp), wS p (by omega)]
  ·by_cases c : ws[p] ≥ (l.length : Int)
   ·rw [if_pos ⟨rfl, ws[p], List.getElem_mem hpl, c⟩] at hr
    subst hr
    refine Ev.step (f := fun _ => some ((i : Int), 4)) (fun k => ?_) (Ev.now _)
    simp only [check_Check.l1]
    rw [if_pos (by omega), if_pos (by omega), if_pos (by omega), if_pos trivial, erd, if_pos c]
   ·refine Ev.step (fun k => ?_) (ih (p + 1) (by omega) (fun q hq h => ?_))
    ·simp only [check_Check.l1]
     rw [if_pos (by omega), if_pos (by omega), if_pos (by omega), if_pos trivial, erd, if_neg c, wS p (by omega)]
    ·by_cases hqp : q = p
     ·subst hqp
      intro hh
      exact c hh.2
     ·exact hno q (by omega) h
theorem far_ways (x : In) (n i : Nat) (hi : i < n) : (((decide (x.f0 = 5) || branchI x.f0) = true) ∧ ∃ t ∈ waysI x (i : Int), (n : Int) ≤ t) ↔ far x ((n : Int) - 1 - (i : Int)) = true := by
 unfold far waysI endI
 by_cases h5 : x.f0 = 5
 ·have hb := branch_5
  rw [if_pos h5, if_pos h5, h5]
  simp
  omega
 ·rw [if_neg h5, if_neg h5]
  cases hb : branchI x.f0
  ·simp [h5]
  ·have h6 : ¬ x.f0 = 6 := fun e => by rw [e, branch_6] at hb; cases hb
   have h22 : ¬ x.f0 = 22 := fun e => by rw [e, branch_22] at hb; cases hb
   obtain ⟨m1, m2⟩ := mn_mx x.f1 x.f2
   rw [m1, m2]
   simp [h5, h6, h22]
   omega
theorem check_from (l : List In) (h0 : l.length ≠ 0) (hl : l.length < 100000) (hw : ∀ x ∈ l, Q.wfIns x) : ∀ (m i : Nat), i + m = l.length → Ev (fun k => check_Check.l0 k l l (l.length : Int) (i : Int)) (match scan l.length (l.drop i) i with | some p => ((p.1 : Int), p.2) | none => lastI l) := by
 obtain ⟨q1, q2, q3, q4⟩ := rd_last l h0 hl
 intro m
 induction m with
 | zero =>
  intro i hi
  rw [List.drop_of_length_le (by omega)]
  simp only [scan]
  refine Ev.step (f := fun _ => some (lastI l)) (fun k => ?_) (Ev.now _)
  simp only [check_Check.l0]
  rw [if_neg (by omega), if_pos q1, if_pos q2, ends_is, q3, q4]
  simp only [Option.bind_some]
  exact (apply_ite some _ _ _).symm
 | succ m ih =>
  intro i hi
  have hil : i < l.length := by omega
  have hwx := hw _ (List.getElem_mem hil)
  refine Ev.step (fun k => by simp only [check_Check.l0]; rw [if_pos (by omega), if_pos (by omega), if_pos (by omega), rd_at l i hil]) ?_
  refine Ev.bind (rightI_is _ _ _ _) ?_
  rw [drop_at l i hil]
  simp only [scan]
  have er : rightI l[i].f0 l[i].f1 l[i].f2 l[i].f3 = rt l[i] := rfl
  rw [er]
  cases hr : rt l[i]
  ·have e1 : one l[i] ((l.length : Int) - 1 - (i : Int)) = 1 := by unfold one; rw [hr]; rfl
   rw [e1]
   simp only [Bool.false_eq_true, if_false, show ((1 : Int) = 0) = False by simp]
   exact Ev.now _
  ·simp only [if_true]
   by_cases hE : check_ruleE l[i].f0 l[i].f3 = 0
   ·simp only [if_pos hE]
    have hg := good_of hwx hr
    have e1 : one l[i] ((l.length : Int) - 1 - (i : Int)) = if far l[i] ((l.length : Int) - 1 - (i : Int)) = true then 4 else 0 := by unfold one; rw [hr, if_pos rfl, if_pos hE]
    rw [e1]
    have body : ∀ j : Bool, j = (decide (l[i].f0 = 5) || branchI l[i].f0) → Ev (fun k => check_Check.j1 k l (i : Int) j l (l.length : Int) (i : Int) l[i].f0 l[i].f1 l[i].f2 l[i].f3)
      (match (if (if far l[i] ((l.length : Int) - 1 - (i : Int)) = true then (4 : Int) else 0) = 0 then scan l.length (l.drop (i + 1)) (i + 1) else some (i, if far l[i] ((l.length : Int) - 1 - (i : Int)) = true then (4 : Int) else 0)) with | some p => ((p.1 : Int), p.2) | none => lastI l) := by
     intro j hj
     refine Ev.step (fun k => by simp only [check_Check.j1]; rw [ways_is _ hg i (by omega)]) ?_
     simp only [Option.bind_some]
     have hlen : (waysI l[i] (i : Int)).length < 100 := by unfold waysI; split <;> (try split) <;> (try split) <;> simp
     refine inner_from l hl i hil j _ hlen _ ?_ (waysI l[i] (i : Int)).length 0 (by omega) (fun q hq => absurd hq (by omega))
     have hfw := far_ways l[i] l.length i hil
     rw [← hj] at hfw
     cases hf : far l[i] ((l.length : Int) - 1 - (i : Int))
     ·rw [hf] at hfw
      rw [if_neg (fun h => by have := hfw.mp h; cases this)]
      simp only [Bool.false_eq_true, if_false, if_true]
      exact ih (i + 1) (by omega)
     ·rw [hf] at hfw
      rw [if_pos (hfw.mpr rfl)]
      simp only [if_true, show ((4 : Int) = 0) = False by simp, if_false]
    by_cases h5 : l[i].f0 = 5
    ·simp only [if_pos h5]
     exact body true (by rw [decide_eq_true h5]; rfl)
    ·simp only [if_neg h5, branchI_is, Option.bind_some]
     exact body _ (by rw [decide_eq_false h5]; rfl)
   ·simp only [if_neg hE]
    have e1 : one l[i] ((l.length : Int) - 1 - (i : Int)) = check_ruleE l[i].f0 l[i].f3 := by unfold one; rw [hr, if_pos rfl, if_neg hE]
    rw [e1]
    simp only [if_neg hE]
    exact Ev.now _
theorem check_is (l : List In) (hl : l.length < 100000) (hw : ∀ x ∈ l, Q.wfIns x) : Ev (fun k => check_Check.f k l) (chk l) := by
 unfold check_Check.f chk
 by_cases h0 : l.length = 0
 ·rw [if_pos h0]; exact Ev.congr (fun k => if_pos (by omega)) (Ev.now _)
 rw [if_neg h0]
 refine Ev.congr (fun k => if_neg (by omega)) ?_
 by_cases h1 : 4096 < l.length
 ·rw [if_pos h1]; exact Ev.congr (fun k => if_pos (by omega)) (Ev.now _)
 ·rw [if_neg h1]; exact Ev.congr (fun k => if_neg (by omega)) (check_from l h0 hl hw l.length 0 (by omega))
theorem sound_is (l : List In) (hl : l.length < 100000) (hw : ∀ x ∈ l, Q.wfIns x) : Ev (fun k => check_Sound.f k l) ((chk l).2 == 0) := by
 unfold check_Sound.f
 exact Ev.bind (check_is l hl hw) (Ev.now _)
theorem scan_none (n : Nat) : ∀ (l : List In) (i : Nat), scan n l i = none ↔ ∀ q, ∀ h : q < l.length, one l[q] ((n : Int) - 1 - ((i + q : Nat) : Int)) = 0 := by
 intro l
 induction l with
 | nil => intro i; simp [scan]
 | cons x r ih =>
  intro i
  simp only [scan]
  constructor
  ·intro h q hq
   by_cases c : one x ((n : Int) - 1 - (i : Int)) = 0
   ·rw [if_pos c] at h
    cases q with
    | zero => simpa using c
    | succ q =>
     have := (ih (i + 1)).mp h q (by simpa using hq)
     rw [show i + (q + 1) = i + 1 + q by omega]
     simpa using this
   ·rw [if_neg c] at h; cases h
  ·intro h
   have c : one x ((n : Int) - 1 - (i : Int)) = 0 := by
    have h0 := h 0 (by simp)
    rw [Nat.add_zero] at h0
    exact h0
   rw [if_pos c]
   refine (ih (i + 1)).mpr (fun q hq => ?_)
   have := h (q + 1) (by simpa using hq)
   rw [show i + (q + 1) = i + 1 + q by omega] at this
   simpa using this
theorem scan_some (n : Nat) : ∀ (l : List In) (i : Nat) (p : Nat × Int), scan n l i = some p → i ≤ p.1 ∧ p.1 < i + l.length ∧ p.2 ≠ 0 ∧ ∀ q, i + q < p.1 → ∀ h : q < l.length, one l[q] ((n : Int) - 1 - ((i + q : Nat) : Int)) = 0 := by
 intro l
 induction l with
 | nil => intro i p h; simp [scan] at h
 | cons x r ih =>
  intro i p h
  simp only [scan] at h
  by_cases c : one x ((n : Int) - 1 - (i : Int)) = 0
  ·rw [if_pos c] at h
   obtain ⟨h1, h2, h3, h4⟩ := ih (i + 1) p h
   refine ⟨by omega, by simp only [List.length_cons]; omega, h3, fun q hq hl => ?_⟩
   cases q with
   | zero => simpa using c
   | succ q =>
    have := h4 q (by omega) (by simpa using hl)
    rw [show i + (q + 1) = i + 1 + q by omega]
    simpa using this
  ·rw [if_neg c] at h
   cases h
   refine ⟨Nat.le_refl _, by simp, c, fun q hq => by omega⟩
theorem sound_iff (l : List In) : (chk l).2 = 0 ↔ l.length ≠ 0 ∧ l.length ≤ 4096 ∧ (∀ q, ∀ h : q < l.length, one l[q] ((l.length : Int) - 1 - (q : Int)) = 0) ∧ endI (l.getD (l.length - 1) z59) = true := by
 unfold chk
 by_cases h0 : l.length = 0
 ·rw [if_pos h0]; simp [h0]
 rw [if_neg h0]
 by_cases h1 : 4096 < l.length
 ·rw [if_pos h1]; simp; omega
 rw [if_neg h1]
 cases hs : scan l.length l 0 with
 | some p =>
  obtain ⟨g1, g2, g3, g4⟩ := scan_some _ _ _ _ hs
  simp only
  constructor
  ·intro h; exact absurd h g3
  ·rintro ⟨_, _, h, _⟩
   exfalso
   have : scan l.length l 0 = none := (scan_none l.length l 0).mpr (fun q hq => by have := h q hq; rwa [Nat.zero_add])
   rw [hs] at this
   cases this
 | none =>
  have hall := (scan_none l.length l 0).mp hs
  unfold lastI
  simp only
  cases he : endI (l.getD (l.length - 1) z59)
  ·simp
  ·simp only [if_true]
   refine ⟨fun _ => ⟨h0, by omega, fun q hq => by have := hall q hq; rwa [Nat.zero_add] at this, trivial⟩, fun _ => trivial⟩
end Go.Proofs.YtahacmdhhfmhiaaDoor.ChkB
