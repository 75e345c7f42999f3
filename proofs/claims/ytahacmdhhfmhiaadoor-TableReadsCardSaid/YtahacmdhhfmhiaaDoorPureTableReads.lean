/- The pure statement of TableReads is proved: any bytes are read as the document says, or the error is told. No condition. -/
import Derived.Test.YtahacmdhhfmhiaaDoorTabC
import Derived.Test.YtahacmdhhfmhiaaDoorQTableReads
namespace Go.Proofs.YtahacmdhhfmhiaaDoor.Pure
set_option linter.unusedVariables false
set_option linter.unusedSimpArgs false
open Go.RowKit Go.Proofs.YtahacmdhhfmhiaaDoorW.PrintWords Go.Proofs.YtahacmdhhfmhiaaDoorW.PrintLast Go.Proofs.YtahacmdhhfmhiaaDoorW.PrintMore Go.Proofs.YtahacmdhhfmhiaaDoor.M Go.Proofs.YtahacmdhhfmhiaaDoor.InsOps Go.Proofs.YtahacmdhhfmhiaaDoor.RightB Go.Proofs.YtahacmdhhfmhiaaDoor.Hex Go.Proofs.YtahacmdhhfmhiaaDoor.TabA Go.Proofs.YtahacmdhhfmhiaaDoor.TabB Go.Proofs.YtahacmdhhfmhiaaDoor.TabD Go.Proofs.YtahacmdhhfmhiaaDoor.TabR Go.Proofs.YtahacmdhhfmhiaaDoor.TabK
theorem TableReads : Q.TableReads := by
 intro l _ hw
 obtain ⟨b, rfl, hb⟩ := CodecB.I_of l hw
 have hI := CodecB.I_length b
 refine Ev.rounds ?_
 unfold l21_TableReads.f
 have kn : Ev (fun k => (l21_knows.f k).bind fun t => some t) true := Ev.bind knows_is (Ev.now _)
 by_cases h : ((CodecB.I b).length : Int) > 5000
 ·exact Ev.congr (fun k => if_pos h) kn
 ·refine Ev.congr (fun k => if_neg h) ?_
  have hd := decode_is hb (by omega)
  have hr := rdecode_is hb (by omega)
  have ht : Wt (decTab b).1 := by
   by_cases h0 : (decTab b).2 = 0
   ·exact (tab_back hb (u := (decTab b).1) (Prod.ext rfl h0)).2.2
   ·rw [tab_no h0]
    exact ⟨by simp, fun y hy => by simp at hy⟩
  have hA := as_is _ ht.n
  have hE : ([] : List Int).length + (CodecB.I b).length < 140737488355328 := by rw [List.length_nil]; omega
  refine Ev.congr (fun k => by rw [Option.bind_some, if_pos hE, List.nil_append]) ?_
  exact Ev.bind hd (Ev.bind hr (Ev.bind hA (Ev.bind (same_is _ ht) (Ev.congr (fun k => (if_pos rfl).trans (if_pos rfl)) kn))))
end Go.Proofs.YtahacmdhhfmhiaaDoor.Pure
