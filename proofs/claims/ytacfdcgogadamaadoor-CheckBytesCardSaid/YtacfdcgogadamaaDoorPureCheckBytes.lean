/- The pure statement of CheckBytes is proved: a filter that is sound has bytes, and a text; what is read from them is sound. No condition. -/
import Derived.Test.YtacfdcgogadamaaDoorChkA
import Derived.Test.YtacfdcgogadamaaDoorCodA
import Derived.Test.YtacfdcgogadamaaDoorQCheckBytes
namespace Go.Proofs.YtacfdcgogadamaaDoor.Pure
set_option linter.unusedVariables false
set_option linter.unusedSimpArgs false
open Go.RowKit Go.Proofs.YtacfdcgogadamaaDoorW.PrintWords Go.Proofs.YtacfdcgogadamaaDoorW.PrintLast Go.Proofs.YtacfdcgogadamaaDoorW.PrintMore Go.Proofs.YtacfdcgogadamaaDoor.M Go.Proofs.YtacfdcgogadamaaDoor.ChkK
theorem sound_good (l : List ChkB.In) (hw : ∀ x ∈ l, Q.wfIns x) (hs : (ChkB.chk l).2 = 0) : (∀ x ∈ l, CodecB.GoodI x) ∧ l.length ≤ 4096 := by
  obtain ⟨h1, h2, h3, h4⟩ := (ChkB.sound_iff l).mp hs
  refine ⟨fun x hx => ?_, h2⟩
  obtain ⟨i, hi, rfl⟩ := List.getElem_of_mem hx
  have h := h3 i hi
  unfold ChkB.one at h
  cases hr : ChkB.rt l[i]
  · rw [hr] at h; simp at h
  · exact ChkB.good_of (hw _ hx) hr
theorem CheckBytes : Q.CheckBytes := by
  intro l _ hw
  refine Ev.rounds ?_
  unfold hurdlelaw05_CheckBytes.f
  have kn := knows_is
  by_cases h : (l.length : Int) > 500
  · refine Ev.congr (fun k => if_pos h) ?_
    refine Ev.step (fun k => by simp only [hurdlelaw05_CheckBytes.j0, if_true]; rw [if_pos h]) ?_
    exact Ev.bind kn (Ev.congr (fun k => if_pos rfl) (Ev.now _))
  · refine Ev.congr (fun k => if_neg h) ?_
    have hl : l.length < 100000 := by omega
    refine Ev.bind (ChkB.sound_is l hl hw) ?_
    by_cases hs : (ChkB.chk l).2 = 0
    · obtain ⟨hg, hn⟩ := sound_good l hw hs
      rw [hs]
      refine Ev.step (fun k => by simp only [hurdlelaw05_CheckBytes.j0, beq_self_eq_true, Bool.not_true, Bool.false_eq_true, if_false]; rfl) ?_
      refine Ev.bind (CodecP.encode_good l hg hn) ?_
      have hd : CodecB.decoded (CodecB.encL l) = (l, 0) := by
        unfold CodecB.decoded
        have := CodecB.encL_len l
        rw [if_neg (by omega), if_pos (by omega), show (CodecB.encL l).length / 8 = l.length by omega]
        simpa using CodecB.decG_enc l [] hg
      have hdi := CodecB.decode_is (CodecB.encL l) (CodecB.encL_bs hg) (by rw [CodecB.encL_len]; omega)
      rw [hd] at hdi
      refine Ev.bind hdi (Ev.bind (CodecP.print_good l hg hn) (Ev.bind (CodecP.parse_print l hg hn) ?_))
      refine Ev.congr (fun k => (if_pos rfl).trans ((if_pos rfl).trans ((if_pos rfl).trans (if_pos rfl)))) ?_
      have hsd := ChkB.sound_is l hl hw
      rw [hs] at hsd
      refine Ev.bind hsd ?_
      refine Ev.congr (fun k => if_pos rfl) (Ev.bind hsd ?_)
      exact Ev.congr (fun k => if_pos rfl) (Ev.bind kn (Ev.now _))
    · have e : ((ChkB.chk l).2 == 0) = false := beq_eq_false_iff_ne.mpr hs
      rw [e]
      refine Ev.step (fun k => by simp only [hurdlelaw05_CheckBytes.j0, Bool.not_false, if_true]; rw [if_neg h]) ?_
      have hsd := ChkB.rsound_is l hl hw
      rw [e] at hsd
      refine Ev.bind hsd ?_
      exact Ev.congr (fun k => if_neg (by simp)) (Ev.bind kn (Ev.now _))
end Go.Proofs.YtacfdcgogadamaaDoor.Pure
