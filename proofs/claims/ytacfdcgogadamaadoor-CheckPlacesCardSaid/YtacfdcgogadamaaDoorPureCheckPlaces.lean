/- The pure statement of CheckPlaces is proved: the place of an error is one of the filter's, and what stands ahead of it makes no difference. No condition. -/
import Derived.Test.YtacfdcgogadamaaDoorChkB
import Derived.Test.YtacfdcgogadamaaDoorChkK
import Derived.Test.YtacfdcgogadamaaDoorQCheckPlaces
namespace Go.Proofs.YtacfdcgogadamaaDoor.Pure
set_option linter.unusedVariables false
set_option linter.unusedSimpArgs false
open Go.RowKit Go.Proofs.YtacfdcgogadamaaDoorW.PrintWords Go.Proofs.YtacfdcgogadamaaDoorW.PrintLast Go.Proofs.YtacfdcgogadamaaDoorW.PrintMore Go.Proofs.YtacfdcgogadamaaDoor.M Go.Proofs.YtacfdcgogadamaaDoor.InsOps Go.Proofs.YtacfdcgogadamaaDoor.RightB Go.Proofs.YtacfdcgogadamaaDoor.ChkB Go.Proofs.YtacfdcgogadamaaDoor.ChkK
theorem places_from (l : List In) (hl : l.length < 100000) (hw : ∀ x ∈ l, Q.wfIns x) (p : Nat) (hp : p ≤ l.length) (hall : ∀ q, q < p → ∀ h : q < l.length, one l[q] ((l.length : Int) - 1 - (q : Int)) = 0) : ∀ (m i : Nat), i + m = p → Ev (fun k => hurdlelaw05_CheckPlaces.l0 k l (p : Int) (i : Int)) true := by
  intro m
  induction m with
  | zero =>
    intro i hi
    refine Ev.step (f := fun k => (hurdlelaw05_knows.f k).bind fun t => some t) (fun k => ?_) (Ev.bind knows_is (Ev.now _))
    simp only [hurdlelaw05_CheckPlaces.l0]
    rw [if_neg (by omega)]
  | succ m ih =>
    intro i hi
    have hil : i < l.length := by omega
    refine Ev.step (fun k => by simp only [hurdlelaw05_CheckPlaces.l0]; rw [if_pos (by omega), if_pos (by omega), if_pos (by omega), rd_at l i hil]) ?_
    refine Ev.bind (one_is l[i] (hw _ (List.getElem_mem hil)) i l.length hil hl) ?_
    rw [hall i (by omega) hil]
    simp only [if_true]
    rw [wS i (by omega)]
    exact ih (i + 1) (by omega)
theorem chk_place (l : List In) (h : (chk l).2 ≠ 0) : ∃ p : Nat, (chk l).1 = (p : Int) ∧ (p = 0 ∨ p < l.length) ∧ ∀ q, q < p → ∀ h : q < l.length, one l[q] ((l.length : Int) - 1 - (q : Int)) = 0 := by
  unfold chk at h ⊢
  by_cases h0 : l.length = 0
  · rw [if_pos h0]; exact ⟨0, rfl, .inl rfl, fun q hq => by omega⟩
  rw [if_neg h0] at h ⊢
  by_cases h1 : 4096 < l.length
  · rw [if_pos h1]; exact ⟨0, rfl, .inl rfl, fun q hq => by omega⟩
  rw [if_neg h1] at h ⊢
  cases hs : scan l.length l 0 with
  | some p =>
    obtain ⟨g1, g2, g3, g4⟩ := scan_some _ _ _ _ hs
    refine ⟨p.1, rfl, .inr (by omega), fun q hq hl => ?_⟩
    have := g4 q (by omega) hl
    rwa [Nat.zero_add] at this
  | none =>
    have hall := (scan_none l.length l 0).mp hs
    rw [hs] at h
    unfold lastI at h ⊢
    simp only at h ⊢
    cases he : endI (l.getD (l.length - 1) z36)
    · simp only [Bool.false_eq_true, if_false]
      refine ⟨l.length - 1, by omega, .inr (by omega), fun q hq hl => ?_⟩
      have := hall q hl
      rwa [Nat.zero_add] at this
    · rw [he] at h; simp at h
theorem chk_zero (l : List In) (h : (chk l).2 = 0) : (chk l).1 = 0 := by
  unfold chk at h ⊢
  by_cases h0 : l.length = 0
  · rw [if_pos h0]
  rw [if_neg h0] at h ⊢
  by_cases h1 : 4096 < l.length
  · rw [if_pos h1]
  rw [if_neg h1] at h ⊢
  cases hs : scan l.length l 0 with
  | some p =>
    obtain ⟨g1, g2, g3, g4⟩ := scan_some _ _ _ _ hs
    rw [hs] at h
    exact absurd h g3
  | none =>
    rw [hs] at h
    unfold lastI at h ⊢
    simp only at h ⊢
    cases he : endI (l.getD (l.length - 1) z36)
    · rw [he] at h; simp at h
    · simp
theorem CheckPlaces : Q.CheckPlaces := by
  intro l _ hw
  refine Ev.rounds ?_
  unfold hurdlelaw05_CheckPlaces.f
  by_cases h : (l.length : Int) > 500
  · exact Ev.congr (fun k => if_pos h) (Ev.bind knows_is (Ev.now _))
  · refine Ev.congr (fun k => if_neg h) ?_
    have hl : l.length < 100000 := by omega
    refine Ev.bind (check_is l hl hw) ?_
    by_cases h2 : (chk l).2 = 0
    · simp only [if_pos h2, chk_zero l h2, if_true]
      exact Ev.bind knows_is (Ev.now _)
    · simp only [if_neg h2]
      obtain ⟨p, e, hp, hall⟩ := chk_place l h2
      rw [e]
      have run : Ev (fun k => hurdlelaw05_CheckPlaces.j0 k l (p : Int) false) true := by
        refine Ev.step (fun k => by simp only [hurdlelaw05_CheckPlaces.j0, Bool.false_eq_true, if_false]; rfl) ?_
        exact places_from l hl hw p (by omega) hall p 0 (by omega)
      refine Ev.congr (fun k => if_neg (by omega)) ?_
      by_cases h3 : (p : Int) > 0
      · refine Ev.congr (fun k => if_pos h3) ?_
        rw [decide_eq_false (by omega)]
        exact run
      · exact Ev.congr (fun k => if_neg h3) run
end Go.Proofs.YtacfdcgogadamaaDoor.Pure
