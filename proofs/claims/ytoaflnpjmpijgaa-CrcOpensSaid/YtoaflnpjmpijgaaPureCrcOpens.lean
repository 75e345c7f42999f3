/- The pure statement of CrcOpens is proved. No condition. -/
import Derived.Test.YtoaflnpjmpijgaaM11
import Derived.Test.YtoaflnpjmpijgaaCrcL
namespace Go.Proofs.Ytoaflnpjmpijgaa.Pure
set_option linter.unusedVariables false
open Go.RowKit Go.Proofs.Ytoaflnpjmpijgaa.M Go.Proofs.YtoaflnpjmpijgaaW.PrintWords Go.Proofs.YtoaflnpjmpijgaaW.PrintLast Go.Proofs.Ytoaflnpjmpijgaa.CrcPlain Go.Proofs.Ytoaflnpjmpijgaa.CrcB Go.Proofs.Ytoaflnpjmpijgaa.CrcL

theorem CrcOpens : hurdlelaw20_CrcOpens.Pure := by
  intro l0 _ hn hw
  obtain ⟨l, rfl, hl⟩ := I_of l0 hw
  rw [I_length] at hn
  refine Ev.rounds ?_
  by_cases h2 : (l.length : Int) > 2000
  · refine Ev.congr (f := fun k => (hurdlelaw20_knows.f k).bind fun t => some t) (fun k => ?_) (Ev.bind knows_is (Ev.now _))
    unfold hurdlelaw20_CrcOpens.f
    rw [I_length, if_pos h2]
  · have ho := open_is l hl (by omega)
    by_cases h4 : l.length < 4
    · have e : opened l = ([], 9) := by unfold opened; rw [if_pos h4]
      rw [e] at ho
      have hf : ∀ k, hurdlelaw20_CrcOpens.f k (I l) = (crc_Open.f k (I l)).bind fun bt224 => (if (bt224.1.length : Int) = 0 then (if bt224.2 = 9 then ((hurdlelaw20_knows.f k).bind fun t228 => (some t228)) else (some false)) else (some false)) := by
        intro k
        unfold hurdlelaw20_CrcOpens.f
        rw [I_length, if_neg h2]
        have hwn : wrap64 ((l.length : Int) - 4) < 0 := by unfold wrap64; omega
        simp only [Option.bind_some, List.nil_append, List.length_nil]
        rw [if_pos (by omega)]
        simp only [hwn, if_true]
      refine Ev.congr hf (Ev.bind ho ?_)
      exact Ev.congr (fun k => (if_pos rfl).trans (if_pos rfl)) (Ev.bind knows_is (Ev.now _))
    · have hw : wrap64 ((l.length : Int) - 4) = ((l.length - 4 : Nat) : Int) := by rw [w64 (by omega) (by omega)]; omega
      have hs := rseal_is (l.take (l.length - 4)) (take_bs hl _) (by rw [List.length_take]; omega)
      have hf : ∀ k, hurdlelaw20_CrcOpens.f k (I l) = (crc_Open.f k (I l)).bind fun bt224 => ((hurdleref20_Seal.f k (I (l.take (l.length - 4)))).bind fun t230 => (if (strOfNums t230).toList = (strOfNums (I l)).toList then (if (strOfNums bt224.1).toList = (strOfNums (I (l.take (l.length - 4)))).toList then (if bt224.2 = 0 then ((hurdlelaw20_knows.f k).bind fun t234 => (some t234)) else (some false)) else (some false)) else (if (bt224.1.length : Int) = 0 then (if bt224.2 = 10 then ((hurdlelaw20_knows.f k).bind fun t235 => (some t235)) else (some false)) else (some false)))) := by
        intro k
        unfold hurdlelaw20_CrcOpens.f
        rw [I_length, if_neg h2]
        simp only [Option.bind_some, List.nil_append, List.length_nil]
        have c1 : ¬ ((l.length - 4 : Nat) : Int) < 0 := by omega
        have c2 : 0 ≤ ((l.length - 4 : Nat) : Int) := by omega
        have c3 : ((l.length - 4 : Nat) : Int) ≤ (l.length : Int) := by omega
        rw [if_pos (by omega)]
        simp only [hw, c1, c2, c3, if_true, if_false, Int.toNat_natCast, I_take]
      refine Ev.congr hf (Ev.bind ho (Ev.bind hs ?_))
      by_cases he : l.take (l.length - 4) ++ four (crc (l.take (l.length - 4))) = l
      · have e : opened l = (l.take (l.length - 4), 0) := by unfold opened; rw [if_neg h4, if_pos he]
        rw [e]
        exact Ev.congr (fun k => (if_pos ((str_inj (seal_bs (take_bs hl _)) hl).mpr he)).trans ((if_pos rfl).trans (if_pos rfl))) (Ev.bind knows_is (Ev.now _))
      · have e : opened l = ([], 10) := by unfold opened; rw [if_neg h4, if_neg he]
        rw [e]
        exact Ev.congr (fun k => (if_neg (fun h => he ((str_inj (seal_bs (take_bs hl _)) hl).mp h))).trans ((if_pos rfl).trans (if_pos rfl))) (Ev.bind knows_is (Ev.now _))

end Go.Proofs.Ytoaflnpjmpijgaa.Pure
