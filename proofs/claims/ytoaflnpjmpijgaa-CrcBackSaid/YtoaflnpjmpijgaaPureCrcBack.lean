/- The pure statement of CrcBack is proved: what is sealed is opened as it was, and what is opened is sealed by its bytes. No condition. -/
import Derived.Test.YtoaflnpjmpijgaaM4
import Derived.Test.YtoaflnpjmpijgaaCrcL
namespace Go.Proofs.Ytoaflnpjmpijgaa.Pure
set_option linter.unusedVariables false
open Go.RowKit Go.Proofs.Ytoaflnpjmpijgaa.M Go.Proofs.YtoaflnpjmpijgaaW.PrintWords Go.Proofs.YtoaflnpjmpijgaaW.PrintLast Go.Proofs.Ytoaflnpjmpijgaa.CrcPlain Go.Proofs.Ytoaflnpjmpijgaa.CrcB Go.Proofs.Ytoaflnpjmpijgaa.CrcL

theorem CrcBack : hurdlelaw20_CrcBack.Pure := by
  intro l0 _ hn hw
  obtain ⟨l, rfl, hl⟩ := I_of l0 hw
  rw [I_length] at hn
  refine Ev.rounds ?_
  by_cases h2 : (l.length : Int) > 2000
  · refine Ev.congr (f := fun k => (hurdlelaw20_knows.f k).bind fun t => some t) (fun k => ?_) (Ev.bind knows_is (Ev.now _))
    unfold hurdlelaw20_CrcBack.f
    rw [I_length, if_pos h2]
  · have hs := seal_is l hl (by omega)
    have ho := open_is (l ++ four (crc l)) (seal_bs hl) (by rw [List.length_append, four_len]; omega)
    have e1 : opened (l ++ four (crc l)) = (l, 0) := by
      unfold opened
      have hlen : (l ++ four (crc l)).length = l.length + 4 := by rw [List.length_append, four_len]
      rw [if_neg (by omega), hlen]
      have ht : (l ++ four (crc l)).take (l.length + 4 - 4) = l := by simp
      rw [ht, if_pos rfl]
    rw [e1] at ho
    have hp := open_is l hl (by omega)
    have hf : ∀ k, hurdlelaw20_CrcBack.f k (I l) = (crc_Seal.f k (I l)).bind fun t149 => (crc_Open.f k t149).bind fun bt152 => (crc_Open.f k (I l)).bind fun bt162 => (if (strOfNums bt152.1).toList = (strOfNums (I l)).toList then (if bt152.2 = 0 then (if bt162.2 = 0 then ((crc_Seal.f k bt162.1).bind fun t166 => (if (strOfNums t166).toList = (strOfNums (I l)).toList then ((hurdlelaw20_knows.f k).bind fun t169 => (some t169)) else (none))) else ((hurdlelaw20_knows.f k).bind fun t170 => (some t170))) else (none)) else (none)) := by
      intro k
      unfold hurdlelaw20_CrcBack.f
      rw [I_length, if_neg h2]
      simp only [Option.bind_some, List.nil_append, List.length_nil]
      have c : 0 + l.length < 140737488355328 := by omega
      simp only [c, if_true]
    refine Ev.congr hf (Ev.bind hs (Ev.bind ho (Ev.bind hp ?_)))
    refine Ev.congr (fun k => (if_pos rfl).trans (if_pos rfl)) ?_
    by_cases h4 : l.length < 4
    · have e : opened l = ([], 9) := by unfold opened; rw [if_pos h4]
      rw [e]
      exact Ev.congr (fun k => if_neg (by decide)) (Ev.bind knows_is (Ev.now _))
    · by_cases he : l.take (l.length - 4) ++ four (crc (l.take (l.length - 4))) = l
      · have e : opened l = (l.take (l.length - 4), 0) := by unfold opened; rw [if_neg h4, if_pos he]
        rw [e]
        refine Ev.congr (fun k => if_pos rfl) ?_
        refine Ev.bind (seal_is (l.take (l.length - 4)) (take_bs hl _) (by rw [List.length_take]; omega)) ?_
        rw [he]
        exact Ev.congr (fun k => if_pos rfl) (Ev.bind knows_is (Ev.now _))
      · have e : opened l = ([], 10) := by unfold opened; rw [if_neg h4, if_neg he]
        rw [e]
        exact Ev.congr (fun k => if_neg (by decide)) (Ev.bind knows_is (Ev.now _))
end Go.Proofs.Ytoaflnpjmpijgaa.Pure
