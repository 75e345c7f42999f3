/- The pure statement of TableBytes is proved: which tables are right, and their bytes, by the program's and the document's functions. No condition. -/
import Derived.Test.YtahacmdhhfmhiaaDoorTabC
import Derived.Test.YtahacmdhhfmhiaaDoorQTableBytes
namespace Go.Proofs.YtahacmdhhfmhiaaDoor.Pure
set_option linter.unusedVariables false
set_option linter.unusedSimpArgs false
open Go.RowKit Go.Proofs.YtahacmdhhfmhiaaDoorW.PrintWords Go.Proofs.YtahacmdhhfmhiaaDoorW.PrintLast Go.Proofs.YtahacmdhhfmhiaaDoorW.PrintMore Go.Proofs.YtahacmdhhfmhiaaDoor.M Go.Proofs.YtahacmdhhfmhiaaDoor.InsOps Go.Proofs.YtahacmdhhfmhiaaDoor.RightB Go.Proofs.YtahacmdhhfmhiaaDoor.Hex Go.Proofs.YtahacmdhhfmhiaaDoor.TabA Go.Proofs.YtahacmdhhfmhiaaDoor.TabB Go.Proofs.YtahacmdhhfmhiaaDoor.TabK
theorem TableBytes : Q.TableBytes := by
 intro t hl hw
 simp only [maxLen] at hl
 refine Ev.rounds ?_
 unfold l21_TableBytes.f
 have out : Ev (fun k => (l21_knows.f k).bind fun t => some t) true := Ev.bind knows_is (Ev.now _)
 refine Ev.bind (great_is t (by omega)) ?_
 cases hg : grN t
 ·have h := wt_of (fun x hx => ⟨(hw x hx).1.2, (hw x hx).2.1.2, (hw x hx).2.2⟩) hg
  have hA := as_is t h.n
  refine Ev.congr (fun k => if_neg Bool.false_ne_true) ?_
  cases hr : rg t
  ·have h1 := rright_is h
   have h2 := right_is h
   rw [hr] at h1 h2
   exact Ev.bind (encode_no h hr) (Ev.bind hA (Ev.bind h1 (Ev.bind h2 (Ev.congr (fun k => (if_neg (by decide)).trans ((if_neg Bool.false_ne_true).trans ((if_pos rfl).trans (if_pos rfl)))) out))))
  ·have h1 := rright_is h
   have h2 := right_is h
   rw [hr] at h1 h2
   exact Ev.bind (encode_ok h hr) (Ev.bind hA (Ev.bind h1 (Ev.bind h2 (Ev.congr (fun k => (if_neg (by decide)).trans (if_pos rfl)) (Ev.bind hA (Ev.bind (rencode_is h hr) (Ev.congr (fun k => (if_pos rfl).trans (if_pos rfl)) out)))))))
 ·exact Ev.congr (fun k => if_pos rfl) out
end Go.Proofs.YtahacmdhhfmhiaaDoor.Pure
