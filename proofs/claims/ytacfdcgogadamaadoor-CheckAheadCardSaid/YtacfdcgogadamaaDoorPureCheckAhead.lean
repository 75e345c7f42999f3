/- The pure statement of CheckAhead is proved: a sound filter with an instruction ahead is sound if that one is. No condition. -/
import Derived.Test.YtacfdcgogadamaaDoorChkB
import Derived.Test.YtacfdcgogadamaaDoorChkK
import Derived.Test.YtacfdcgogadamaaDoorQCheckAhead
namespace Go.Proofs.YtacfdcgogadamaaDoor.Pure
set_option linter.unusedVariables false
set_option linter.unusedSimpArgs false
open Go.RowKit Go.Proofs.YtacfdcgogadamaaDoorW.PrintWords Go.Proofs.YtacfdcgogadamaaDoorW.PrintLast Go.Proofs.YtacfdcgogadamaaDoorW.PrintMore Go.Proofs.YtacfdcgogadamaaDoor.M Go.Proofs.YtacfdcgogadamaaDoor.InsOps Go.Proofs.YtacfdcgogadamaaDoor.RightB Go.Proofs.YtacfdcgogadamaaDoor.ChkB Go.Proofs.YtacfdcgogadamaaDoor.ChkK
theorem far_same (x : In) (a b : Int) (h : a = b) : one x a = one x b := by rw [h]
theorem ahead_chk (f : List In) (x : In) (hs : (chk f).2 = 0) (hn : f.length ≤ 500) : chk (x :: f) = (0, one x (f.length : Int)) := by
  obtain ⟨h1, h2, h3, h4⟩ := (sound_iff f).mp hs
  unfold chk
  rw [if_neg (by simp), if_neg (by simp only [List.length_cons]; omega)]
  have e0 : ((((x :: f).length : Nat) : Int) - 1 - ((0 : Nat) : Int)) = (f.length : Int) := by simp only [List.length_cons]; omega
  simp only [scan]
  rw [e0]
  by_cases c : one x (f.length : Int) = 0
  · rw [if_pos c]
    have hrest : scan (x :: f).length f (0 + 1) = none := (scan_none _ f (0 + 1)).mpr (fun q hq => by
      rw [far_same f[q] _ ((f.length : Int) - 1 - (q : Int)) (by simp only [List.length_cons]; omega)]
      exact h3 q hq)
    rw [hrest]
    unfold lastI
    simp only
    have el : (x :: f).getD ((x :: f).length - 1) z36 = f.getD (f.length - 1) z36 := by
      simp only [List.length_cons, Nat.add_sub_cancel]
      obtain ⟨m, hm⟩ : ∃ m, f.length = m + 1 := ⟨f.length - 1, by omega⟩
      rw [hm]
      simp
    rw [el, h4, c]
    rfl
  · rw [if_neg c]
    rfl
theorem CheckAhead : Q.CheckAhead := by
  intro f a0 a1 a2 a3 _ hw w0 w1 w2 w3
  refine Ev.rounds ?_
  unfold hurdlelaw05_CheckAhead.f
  have out : Ev (fun k => hurdlelaw05_CheckAhead.j0 k f true a0 a1 a2 a3) true :=
    Ev.step (f := fun k => (hurdlelaw05_knows.f k).bind fun t => some t) (fun k => by simp [hurdlelaw05_CheckAhead.j0]) (Ev.bind knows_is (Ev.now _))
  by_cases h : (f.length : Int) > 500
  · exact Ev.congr (fun k => if_pos h) out
  · refine Ev.congr (fun k => if_neg h) ?_
    refine Ev.bind (rsound_is f (by omega) hw) ?_
    by_cases hs : (chk f).2 = 0
    · rw [show ((chk f).2 == 0) = true from beq_iff_eq.mpr hs]
      have hwx : Q.wfIns (⟨a0, a1, a2, a3⟩ : In) := ⟨w0, w1, w2, w3⟩
      have hw2 : ∀ y ∈ (⟨a0, a1, a2, a3⟩ : In) :: f, Q.wfIns y := fun y hy => by
        rcases List.mem_cons.1 hy with rfl | hy
        · exact hwx
        · exact hw y hy
      refine Ev.step (f := fun k => (check_Check.f k ((⟨a0, a1, a2, a3⟩ : In) :: f)).bind fun bt273 => (if bt273.1 = 0 then ((hurdleref05_One.f k a0 a1 a2 a3 0 (wrap64 ((f.length : Int) + 1))).bind fun t275 => (if bt273.2 = t275 then ((hurdlelaw05_knows.f k).bind fun t276 => (some t276)) else (none))) else (none))) (fun k => ?_) ?_
      · have c : ([(⟨a0, a1, a2, a3⟩ : In)] : List In).length + f.length < 4398046511104 := by simp; omega
        simp only [hurdlelaw05_CheckAhead.j0, Bool.not_true, Bool.false_eq_true, if_false, Option.bind_some, if_pos c]
        rfl
      · refine Ev.bind (check_is _ (by simp only [List.length_cons]; omega) hw2) ?_
        rw [ahead_chk f _ hs (by omega)]
        simp only [if_true]
        have e1 : wrap64 ((f.length : Int) + 1) = ((f.length + 1 : Nat) : Int) := wS _ (by omega)
        rw [e1]
        have ho := one_is ⟨a0, a1, a2, a3⟩ hwx 0 (f.length + 1) (by omega) (by omega)
        have e2 : (((f.length + 1 : Nat) : Int) - 1 - ((0 : Nat) : Int)) = (f.length : Int) := by omega
        rw [e2] at ho
        refine Ev.bind ho ?_
        exact Ev.congr (fun k => if_pos rfl) (Ev.bind knows_is (Ev.now _))
    · rw [show ((chk f).2 == 0) = false from beq_eq_false_iff_ne.mpr hs]
      exact out
end Go.Proofs.YtacfdcgogadamaaDoor.Pure
