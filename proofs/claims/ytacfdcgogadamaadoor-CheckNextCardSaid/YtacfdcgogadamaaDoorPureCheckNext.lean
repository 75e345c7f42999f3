/- The pure statement of CheckNext is proved: the places to which a run may go are told as by the document. No condition. -/
import Derived.Test.YtacfdcgogadamaaDoorChkN
import Derived.Test.YtacfdcgogadamaaDoorChkK
import Derived.Test.YtacfdcgogadamaaDoorQCheckNext
namespace Go.Proofs.YtacfdcgogadamaaDoor.Pure
set_option linter.unusedVariables false
set_option linter.unusedSimpArgs false
open Go.RowKit Go.Proofs.YtacfdcgogadamaaDoorW.PrintWords Go.Proofs.YtacfdcgogadamaaDoorW.PrintLast Go.Proofs.YtacfdcgogadamaaDoorW.PrintMore Go.Proofs.YtacfdcgogadamaaDoor.M Go.Proofs.YtacfdcgogadamaaDoor.InsOps Go.Proofs.YtacfdcgogadamaaDoor.RightB Go.Proofs.YtacfdcgogadamaaDoor.ChkB Go.Proofs.YtacfdcgogadamaaDoor.ChkN Go.Proofs.YtacfdcgogadamaaDoor.ChkK
theorem cmp_from (l : List Int) (hl : l.length < 100000) : ∀ (m i : Nat), i + m = l.length → Ev (fun k => hurdlelaw05_CheckNext.l0 k l l (i : Int)) true := by
  intro m
  induction m with
  | zero =>
    intro i hi
    refine Ev.step (f := fun k => (hurdlelaw05_knows.f k).bind fun t => some t) (fun k => ?_) (Ev.bind knows_is (Ev.now _))
    simp only [hurdlelaw05_CheckNext.l0]
    rw [if_neg (by omega)]
  | succ m ih =>
    intro i hi
    refine Ev.step (fun k => ?_) (ih (i + 1) (by omega))
    simp only [hurdlelaw05_CheckNext.l0]
    rw [if_pos (by omega), if_pos (by omega), if_pos (by omega), if_pos trivial, wS i (by omega)]
theorem next_len (x : In) (a n : Nat) : (nextL x a n).length ≤ n := by
  unfold nextL
  rw [List.length_map]
  have : ∀ (m o : Nat), (hits (hit x) o m).length ≤ m := by
    intro m
    induction m with
    | zero => intro o; simp [hits]
    | succ m ih =>
      intro o
      unfold hits
      have := ih (o + 1)
      split
      · simp only [List.length_cons]; omega
      · omega
  exact this n 0
theorem CheckNext : Q.CheckNext := by
  intro l at_ _ hw hat
  refine Ev.rounds ?_
  unfold hurdlelaw05_CheckNext.f
  by_cases h : (l.length : Int) > 300
  · exact Ev.congr (fun k => if_pos h) (Ev.bind knows_is (Ev.now _))
  · refine Ev.congr (fun k => if_neg h) ?_
    have hl : l.length < 100000 := by omega
    have none : ((chk l).2 ≠ 0 ∨ at_ < 0 ∨ (l.length : Int) ≤ at_) → Ev (fun k => hurdlelaw05_CheckNext.j0 k l at_ [] true) true := fun _ =>
      Ev.step (f := fun k => (hurdlelaw05_knows.f k).bind fun t => some t) (fun k => by simp [hurdlelaw05_CheckNext.j0]) (Ev.bind knows_is (Ev.now _))
    by_cases h1 : at_ < 0
    · refine Ev.bind (next_none l hl hw at_ (.inr (.inl h1))) ?_
      exact Ev.congr (fun k => if_pos h1) (none (.inr (.inl h1)))
    by_cases h2 : at_ ≥ (l.length : Int)
    · refine Ev.bind (next_none l hl hw at_ (.inr (.inr h2))) ?_
      exact Ev.congr (fun k => (if_neg h1).trans (if_pos h2)) (none (.inr (.inr h2)))
    by_cases hs : (chk l).2 = 0
    · obtain ⟨a, rfl⟩ : ∃ a : Nat, at_ = (a : Int) := ⟨at_.toNat, by omega⟩
      have ha : a < l.length := by omega
      refine Ev.bind (next_is l hl hw hs a ha) ?_
      refine Ev.congr (fun k => (if_neg h1).trans (if_neg h2)) ?_
      refine Ev.bind (rsound_is l hl hw) ?_
      rw [hs]
      refine Ev.step (fun k => by simp only [hurdlelaw05_CheckNext.j0, beq_self_eq_true, Bool.not_true, Bool.false_eq_true, if_false]; rfl) ?_
      refine Ev.bind (rnext_is l hl hw a ha) ?_
      have := next_len l[a] a (l.length - 1 - a)
      exact Ev.congr (fun k => if_pos rfl) (cmp_from _ (by omega) (nextL l[a] a (l.length - 1 - a)).length 0 (Nat.zero_add _))
    · refine Ev.bind (next_none l hl hw at_ (.inl hs)) ?_
      refine Ev.congr (fun k => (if_neg h1).trans (if_neg h2)) ?_
      refine Ev.bind (rsound_is l hl hw) ?_
      rw [show ((chk l).2 == 0) = false from beq_eq_false_iff_ne.mpr hs]
      exact none (.inl hs)
end Go.Proofs.YtacfdcgogadamaaDoor.Pure
