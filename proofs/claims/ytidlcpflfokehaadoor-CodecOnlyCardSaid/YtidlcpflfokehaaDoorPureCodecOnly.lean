/- The pure statement of CodecOnly is proved: what was read from a text has just that text. No condition. -/
import Derived.Test.YtidlcpflfokehaaDoorCodP
import Derived.Test.YtidlcpflfokehaaDoorCodA
import Derived.Test.YtidlcpflfokehaaDoorQCodecOnly
namespace Go.Proofs.YtidlcpflfokehaaDoor.Pure
set_option linter.unusedVariables false
set_option linter.unusedSimpArgs false
open Go.RowKit Go.Proofs.YtidlcpflfokehaaDoorW.PrintWords Go.Proofs.YtidlcpflfokehaaDoorW.PrintLast Go.Proofs.YtidlcpflfokehaaDoorW.PrintMore Go.Proofs.YtidlcpflfokehaaDoor.M Go.Proofs.YtidlcpflfokehaaDoor.Hex Go.Proofs.YtidlcpflfokehaaDoor.CodecB Go.Proofs.YtidlcpflfokehaaDoor.CodecT Go.Proofs.YtidlcpflfokehaaDoor.CodecP Go.Proofs.YtidlcpflfokehaaDoor.CodecK
theorem CodecOnly : Q.CodecOnly := by
  intro s _
  have hb := bytes_bs s
  have he := str_bytes s
  generalize numsL s = L at hb he
  subst he
  refine Ev.rounds ?_
  unfold hurdlelaw03_CodecOnly.f
  by_cases h : ((str L).size : Int) > 5000
  · exact Ev.congr (fun k => if_pos h) (Ev.bind knows_is (Ev.now _))
  · refine Ev.congr (fun k => if_neg h) ?_
    rw [str_size] at h
    obtain ⟨⟨g, i, e⟩, h1, h2⟩ := parse_read L hb (by omega)
    refine Ev.bind h1 ?_
    rcases h2 with ⟨h3, h4, h5, h6⟩ | ⟨h3, h4⟩
    · simp only at h3 h4 h5 h6
      subst h3
      simp only [if_true]
      refine Ev.bind (print_good g h4 h6) ?_
      rw [h5]
      exact Ev.congr (fun k => (if_pos rfl).trans (if_pos rfl)) (Ev.bind knows_is (Ev.now _))
    · simp only at h3 h4
      subst h4
      simp only [if_neg h3]
      exact Ev.congr (fun k => if_pos rfl) (Ev.bind knows_is (Ev.now _))
end Go.Proofs.YtidlcpflfokehaaDoor.Pure
