/- The pure statement of CheckBehind is proved: a sound filter with a sound one behind it is sound. No condition. -/
import Derived.Test.YtacfdcgogadamaaDoorChkB
import Derived.Test.YtacfdcgogadamaaDoorChkK
import Derived.Test.YtacfdcgogadamaaDoorQCheckBehind
namespace Go.Proofs.YtacfdcgogadamaaDoor.Pure
set_option linter.unusedVariables false
set_option linter.unusedSimpArgs false
open Go.RowKit Go.Proofs.YtacfdcgogadamaaDoorW.PrintWords Go.Proofs.YtacfdcgogadamaaDoorW.PrintLast Go.Proofs.YtacfdcgogadamaaDoorW.PrintMore Go.Proofs.YtacfdcgogadamaaDoor.M Go.Proofs.YtacfdcgogadamaaDoor.InsOps Go.Proofs.YtacfdcgogadamaaDoor.RightB Go.Proofs.YtacfdcgogadamaaDoor.ChkB Go.Proofs.YtacfdcgogadamaaDoor.ChkK
theorem one_more (x : In) (a b : Int) (h : a ≤ b) (h0 : one x a = 0) : one x b = 0 := by
  unfold one at h0 ⊢
  split at h0
  · rename_i h1
    rw [if_pos h1]
    split at h0
    · rename_i h2
      rw [if_pos h2]
      have hf : far x a = false := by
        cases hf : far x a
        · rfl
        · rw [hf] at h0; simp at h0
      have hg : far x b = false := by
        unfold far at hf ⊢
        split at hf
        · rename_i h5
          rw [if_pos h5]
          have := of_decide_eq_false hf
          exact decide_eq_false (by omega)
        · rename_i h5
          rw [if_neg h5]
          cases hb : branchI x.f0
          · rfl
          · rw [hb] at hf
            simp at hf ⊢
            omega
      rw [hg]
      rfl
    · rename_i h2
      exact absurd h0 h2
  · exact absurd h0 (by decide)
theorem behind_chk (f g : List In) (hf : (chk f).2 = 0) (hg : (chk g).2 = 0) (hn : f.length ≤ 500) (hm : g.length ≤ 500) : (chk (f ++ g)).2 = 0 := by
  obtain ⟨a1, a2, a3, a4⟩ := (sound_iff f).mp hf
  obtain ⟨b1, b2, b3, b4⟩ := (sound_iff g).mp hg
  refine (sound_iff (f ++ g)).mpr ⟨by rw [List.length_append]; omega, by rw [List.length_append]; omega, fun q hq => ?_, ?_⟩
  · rw [List.length_append] at hq
    by_cases hqf : q < f.length
    · rw [List.getElem_append_left hqf]
      refine one_more _ _ _ ?_ (a3 q hqf)
      rw [List.length_append]
      omega
    · rw [List.getElem_append_right (by omega)]
      have := b3 (q - f.length) (by omega)
      have e : ((g.length : Int) - 1 - ((q - f.length : Nat) : Int)) = (((f ++ g).length : Nat) : Int) - 1 - (q : Int) := by rw [List.length_append]; omega
      rw [← e]
      exact this
  · have e : (f ++ g).getD ((f ++ g).length - 1) z36 = g.getD (g.length - 1) z36 := by
      rw [List.getD_eq_getElem?_getD, List.getD_eq_getElem?_getD, List.length_append, List.getElem?_append_right (by omega)]
      congr 2
      omega
    rw [e]
    exact b4
theorem CheckBehind : Q.CheckBehind := by
  intro f g _ hw _ hv
  refine Ev.rounds ?_
  unfold hurdlelaw05_CheckBehind.f
  have out : Ev (fun k => hurdlelaw05_CheckBehind.j0 k f g true) true :=
    Ev.step (f := fun k => (hurdlelaw05_knows.f k).bind fun t => some t) (fun k => by simp [hurdlelaw05_CheckBehind.j0]) (Ev.bind knows_is (Ev.now _))
  by_cases h : (f.length : Int) > 500
  · exact Ev.congr (fun k => if_pos h) out
  refine Ev.congr (fun k => if_neg h) ?_
  by_cases h2 : (g.length : Int) > 500
  · exact Ev.congr (fun k => if_pos h2) out
  refine Ev.congr (fun k => if_neg h2) ?_
  refine Ev.bind (rsound_is f (by omega) hw) ?_
  by_cases hs : (chk f).2 = 0
  · rw [show ((chk f).2 == 0) = true from beq_iff_eq.mpr hs]
    simp only [if_true]
    refine Ev.bind (rsound_is g (by omega) hv) ?_
    by_cases ht : (chk g).2 = 0
    · rw [show ((chk g).2 == 0) = true from beq_iff_eq.mpr ht]
      refine Ev.step (f := fun k => (check_Sound.f k (f ++ g)).bind fun t262 => (if t262 = true then ((hurdlelaw05_knows.f k).bind fun t263 => (some t263)) else (none))) (fun k => ?_) ?_
      · have c1 : ([] : List In).length + f.length < 4398046511104 := by simp; omega
        have c2 : f.length + g.length < 4398046511104 := by omega
        simp only [hurdlelaw05_CheckBehind.j0, Bool.not_true, Bool.false_eq_true, if_false, Option.bind_some, if_pos c1, List.nil_append, if_pos c2]
      · refine Ev.bind (sound_is (f ++ g) (by rw [List.length_append]; omega) (fun x hx => by
          rcases List.mem_append.1 hx with hx | hx
          · exact hw x hx
          · exact hv x hx)) ?_
        rw [behind_chk f g hs ht (by omega) (by omega)]
        exact Ev.congr (fun k => if_pos rfl) (Ev.bind knows_is (Ev.now _))
    · rw [show ((chk g).2 == 0) = false from beq_eq_false_iff_ne.mpr ht]
      exact out
  · rw [show ((chk f).2 == 0) = false from beq_eq_false_iff_ne.mpr hs]
    simp only [Bool.false_eq_true, if_false]
    exact out
end Go.Proofs.YtacfdcgogadamaaDoor.Pure
