/- InsKinds: the kinds that the program tells are those that the document tells. No condition. -/
import Derived.Test.YtbgneakihibmbaaDoorInsOps
import Derived.Test.YtbgneakihibmbaaDoorQInsKinds
namespace Go.Proofs.YtbgneakihibmbaaDoor.Pure
set_option linter.unusedVariables false
set_option linter.unusedSimpArgs false
open Go.RowKit Go.Proofs.YtbgneakihibmbaaDoorW.PrintWords Go.Proofs.YtbgneakihibmbaaDoorW.PrintLast Go.Proofs.YtbgneakihibmbaaDoorW.PrintMore Go.Proofs.YtbgneakihibmbaaDoor.M Go.Proofs.YtbgneakihibmbaaDoor.InsOps
theorem InsKinds : Q.InsKinds := by
  intro a b c d _ _ _ _
  by_cases h : a ∈ opsL
  · have all : ∀ i : Nat, i < 39 → hurdlelaw02_InsKinds.f 60 (opsL.getD i 0) 0 0 0 = some true := by decide +kernel
    refine ⟨60, ?_⟩
    exact op_each (P := fun a => hurdlelaw02_InsKinds.f 60 a b c d = some true) (fun i hi => all i hi) a h
  · refine Ev.rounds ?_
    have h1 : ins_Alu.f a b c d = some (0, false, false) := by simp [ins_Alu.f, of_none h]
    have h2 : Ev (fun k => hurdleref02_Alu.f k a b c d) (0, false, false) := by
      refine Ev.bind (place_none h) ?_
      exact Ev.step (f := fun _ => some (0, false, false)) (fun k => by simp [hurdleref02_Alu.j0]) (Ev.now _)
    have h3 : ins_Branch.f a b c d = some false := by simp [ins_Branch.f, of_none h]
    have h4 : Ev (fun k => hurdleref02_Branch.f k a b c d) false := by
      refine Ev.bind (place_none h) ?_
      exact Ev.congr (f := fun _ => some false) (fun k => by simp [hurdleref02_branch.f]) (Ev.now _)
    unfold hurdlelaw02_InsKinds.f
    simp only [h1, Option.bind_some]
    refine Ev.bind h2 ?_
    simp only [if_true, beq_self_eq_true, h3, Option.bind_some]
    refine Ev.bind h4 ?_
    have e : ∃ z, ins_Ends.f a b c d = some z ∧ hurdleref02_Ends.f a b c d = some z := by
      unfold ins_Ends.f hurdleref02_Ends.f
      split
      · exact ⟨_, rfl, rfl⟩
      · exact ⟨_, rfl, rfl⟩
    obtain ⟨z, e1, e2⟩ := e
    simp only [e1, e2, Option.bind_some, beq_self_eq_true, if_true]
    exact Ev.bind knows_is (Ev.now _)
end Go.Proofs.YtbgneakihibmbaaDoor.Pure
