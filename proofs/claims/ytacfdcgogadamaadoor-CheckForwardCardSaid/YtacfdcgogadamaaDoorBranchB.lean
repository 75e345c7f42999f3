/- Which instructions are branches, by the program's and the document's functions. No condition. -/
import Derived.Test.YtacfdcgogadamaaDoorRightB
import Derived.Test.YtacfdcgogadamaaDoorM3
import Derived.Test.YtacfdcgogadamaaDoorM11
namespace Go.Proofs.YtacfdcgogadamaaDoor.RightB
set_option linter.unusedVariables false
set_option linter.unusedSimpArgs false
open Go.RowKit Go.Proofs.YtacfdcgogadamaaDoorW.PrintWords Go.Proofs.YtacfdcgogadamaaDoorW.PrintLast Go.Proofs.YtacfdcgogadamaaDoorW.PrintMore Go.Proofs.YtacfdcgogadamaaDoor.M Go.Proofs.YtacfdcgogadamaaDoor.InsOps
theorem branchI_is (a b c d : Int) : ins_Branch.f a b c d = some (branchI a) := by
  rcases op_cases a with ⟨i, hi, h⟩ | h
  · rw [(rightI_row hi h 0 0 0).2]
    have all : ∀ i : Nat, i < 39 → ins_Branch.f (opsL.getD i 0) 0 0 0 = some (hasW i) := by decide +kernel
    have e : opsL.getD i 0 = a := by rw [List.getD_eq_getElem?_getD, h]; rfl
    rw [← e]; exact all i hi
  · rw [(rightI_none h 0 0 0).2]
    simp [ins_Branch.f, of_none h]
theorem rbranchI_is (a b c d : Int) : Ev (fun n => hurdleref02_Branch.f n a b c d) (branchI a) := by
  rcases op_cases a with ⟨i, hi, h⟩ | h
  · rw [(rightI_row hi h 0 0 0).2]
    refine Ev.bind (place_some hi h) ?_
    exact Ev.congr (f := fun _ => some (hasW i)) (fun n => by simp [branch_is hi]) (Ev.now _)
  · rw [(rightI_none h 0 0 0).2]
    refine Ev.bind (place_none h) ?_
    exact Ev.congr (f := fun _ => some false) (fun k => by simp [hurdleref02_branch.f]) (Ev.now _)
end Go.Proofs.YtacfdcgogadamaaDoor.RightB
