/- The pure statement of CodecBytes is proved: a filter has the bytes, and the text, that the document says. No condition. -/
import Derived.Test.YtidlcpflfokehaaDoorCodA
import Derived.Test.YtidlcpflfokehaaDoorQCodecBytes
namespace Go.Proofs.YtidlcpflfokehaaDoor.Pure
set_option linter.unusedVariables false
set_option linter.unusedSimpArgs false
open Go.RowKit Go.Proofs.YtidlcpflfokehaaDoorW.PrintWords Go.Proofs.YtidlcpflfokehaaDoorW.PrintLast Go.Proofs.YtidlcpflfokehaaDoorW.PrintMore Go.Proofs.YtidlcpflfokehaaDoor.M Go.Proofs.YtidlcpflfokehaaDoor.Hex Go.Proofs.YtidlcpflfokehaaDoor.CodecB Go.Proofs.YtidlcpflfokehaaDoor.CodecT Go.Proofs.YtidlcpflfokehaaDoor.CodecK
theorem CodecBytes : Q.CodecBytes := by
  intro l _ hw
  refine Ev.rounds ?_
  unfold hurdlelaw03_CodecBytes.f
  by_cases h : (l.length : Int) > 5000
  · exact Ev.congr (fun k => if_pos h) (Ev.bind knows_is (Ev.now _))
  · refine Ev.congr (fun k => if_neg h) ?_
    have hl : l.length < 100000 := by omega
    refine Ev.bind (encode_is l hl hw) (Ev.bind (print_all l hl hw) (Ev.bind (rcheck_is l hl) (Ev.bind (right_is_all l hl) ?_)))
    simp only [bne_self_eq_false, Bool.false_eq_true, if_false, if_true]
    rcases chk_cases l with ⟨e, hn, ho⟩ | ⟨e, _⟩ | ⟨e, _⟩
    · rw [e]
      simp only [if_true]
      refine Ev.step (fun k => by simp only [hurdlelaw03_CodecBytes.j0, Bool.false_eq_true, if_false, if_true]; rfl) ?_
      have hg := okL_good hw ho
      refine Ev.bind (rencode_is l hl hg) ?_
      refine Ev.congr (fun k => if_pos rfl) (Ev.bind (rprint_all l hl hg) ?_)
      exact Ev.congr (fun k => if_pos rfl) (Ev.bind knows_is (Ev.now _))
    · rw [e]
      simp only [show ((3 : Int) = 0) = False by simp, if_false]
      refine Ev.step (f := fun k => (hurdlelaw03_knows.f k).bind fun t => some t) (fun k => ?_) (Ev.bind knows_is (Ev.now _))
      have es : (str []).toList = [] := by rw [ByteArray.toList_eq]; rfl
      simp [hurdlelaw03_CodecBytes.j0, es]
    · rw [e]
      simp only [show ((1 : Int) = 0) = False by simp, if_false]
      refine Ev.step (f := fun k => (hurdlelaw03_knows.f k).bind fun t => some t) (fun k => ?_) (Ev.bind knows_is (Ev.now _))
      have es : (str []).toList = [] := by rw [ByteArray.toList_eq]; rfl
      simp [hurdlelaw03_CodecBytes.j0, es]
end Go.Proofs.YtidlcpflfokehaaDoor.Pure
