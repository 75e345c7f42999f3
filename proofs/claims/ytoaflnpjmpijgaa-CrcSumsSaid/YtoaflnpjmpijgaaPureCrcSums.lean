/- The pure statement of CrcSums is proved. No condition. -/
import Derived.Test.YtoaflnpjmpijgaaM10
import Derived.Test.YtoaflnpjmpijgaaCrcL
namespace Go.Proofs.Ytoaflnpjmpijgaa.Pure
set_option linter.unusedVariables false
open Go.RowKit Go.Proofs.Ytoaflnpjmpijgaa.M Go.Proofs.YtoaflnpjmpijgaaW.PrintWords Go.Proofs.YtoaflnpjmpijgaaW.PrintLast Go.Proofs.Ytoaflnpjmpijgaa.CrcPlain Go.Proofs.Ytoaflnpjmpijgaa.CrcB Go.Proofs.Ytoaflnpjmpijgaa.CrcL

theorem CrcSums : hurdlelaw20_CrcSums.Pure := by
  intro l0 _ hn hw
  obtain ⟨l, rfl, hl⟩ := I_of l0 hw
  rw [I_length] at hn
  refine Ev.rounds ?_
  by_cases h2 : (l.length : Int) > 2000
  · refine Ev.congr (f := fun k => (hurdlelaw20_knows.f k).bind fun t => some t) (fun k => ?_) (Ev.bind knows_is (Ev.now _))
    unfold hurdlelaw20_CrcSums.f
    rw [I_length, if_pos h2]
  · have hf : ∀ k, hurdlelaw20_CrcSums.f k (I l) = ((crc_Sum.f k (I l)).bind fun t208 => ((hurdleref20_Sum.f k (I l)).bind fun t209 => (if t208 = t209 then ((crc_Seal.f k (I l)).bind fun t210 => ((hurdleref20_Seal.f k (I l)).bind fun t213 => (if (strOfNums t210).toList = (strOfNums t213).toList then ((hurdlelaw20_knows.f k).bind fun t216 => (some t216)) else (some false)))) else (some false)))) := by
      intro k
      unfold hurdlelaw20_CrcSums.f
      rw [I_length, if_neg h2]
    refine Ev.congr hf (Ev.bind (sum_is l hl (by omega)) (Ev.bind (rsum_is l hl (by omega)) ?_))
    refine Ev.congr (fun k => if_pos rfl) (Ev.bind (seal_is l hl (by omega)) (Ev.bind (rseal_is l hl (by omega)) ?_))
    exact Ev.congr (fun k => if_pos rfl) (Ev.bind knows_is (Ev.now _))

end Go.Proofs.Ytoaflnpjmpijgaa.Pure
