/- InsOnly: no operation is of two kinds. No condition. -/
import Derived.Test.YtbgneakihibmbaaDoorInsOps
import Derived.Test.YtbgneakihibmbaaDoorQInsOnly
namespace Go.Proofs.YtbgneakihibmbaaDoor.Pure
set_option linter.unusedVariables false
set_option linter.unusedSimpArgs false
open Go.RowKit Go.Proofs.YtbgneakihibmbaaDoorW.PrintWords Go.Proofs.YtbgneakihibmbaaDoorW.PrintLast Go.Proofs.YtbgneakihibmbaaDoorW.PrintMore Go.Proofs.YtbgneakihibmbaaDoor.M Go.Proofs.YtbgneakihibmbaaDoor.InsOps
theorem InsOnly : Q.InsOnly := by
  intro a b c d _ _ _ _
  by_cases h : a ∈ opsL
  · have all : ∀ i : Nat, i < 39 → hurdlelaw02_InsOnly.f 60 (opsL.getD i 0) 0 0 0 = some true := by decide +kernel
    refine ⟨60, ?_⟩
    exact op_each (P := fun a => hurdlelaw02_InsOnly.f 60 a b c d = some true) (fun i hi => all i hi) a h
  · refine Ev.rounds ?_
    have h1 : ins_Alu.f a b c d = some (0, false, false) := by simp [ins_Alu.f, of_none h]
    have h3 : ins_Branch.f a b c d = some false := by simp [ins_Branch.f, of_none h]
    have h4 : ins_Ends.f a b c d = some false := by
      have e6 : (6 : Int) ∈ opsL := by decide
      have e22 : (22 : Int) ∈ opsL := by decide
      unfold ins_Ends.f
      rw [if_neg (fun e => h (by rw [e]; exact e6))]
      have : (a == 22) = false := by simpa using (fun e => h (by rw [e]; exact e22) : ¬ a = 22)
      rw [this]
    unfold hurdlelaw02_InsOnly.f
    simp only [h1, Option.bind_some, Bool.false_eq_true, if_false]
    refine Ev.step (fun k => by simp only [hurdlelaw02_InsOnly.j0, h3, Option.bind_some, Bool.false_eq_true, if_false]; rfl) ?_
    refine Ev.step (fun k => by simp only [hurdlelaw02_InsOnly.j1, h4, Option.bind_some, Bool.false_eq_true, if_false]; rfl) ?_
    simp only [if_true]
    exact Ev.bind knows_is (Ev.now _)
end Go.Proofs.YtbgneakihibmbaaDoor.Pure
