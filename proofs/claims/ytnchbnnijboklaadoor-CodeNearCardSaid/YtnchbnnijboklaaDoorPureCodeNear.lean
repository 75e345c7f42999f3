/- CodeNear: a branch is one instruction more, and at most two jumps. No condition. -/
import Derived.Test.YtnchbnnijboklaaDoorCodeK
import Derived.Test.YtnchbnnijboklaaDoorQCodeNear
namespace Go.Proofs.YtnchbnnijboklaaDoor.Pure
set_option linter.unusedVariables false
set_option linter.unusedSimpArgs false
open Go.RowKit Go.Proofs.YtnchbnnijboklaaDoorW.PrintWords Go.Proofs.YtnchbnnijboklaaDoorW.PrintLast Go.Proofs.YtnchbnnijboklaaDoorW.PrintMore Go.Proofs.YtnchbnnijboklaaDoor.M Go.Proofs.YtnchbnnijboklaaDoor.InsOps Go.Proofs.YtnchbnnijboklaaDoor.RightB Go.Proofs.YtnchbnnijboklaaDoor.CodeB
theorem front_shape (c : List In) (x : In) (h : c.length < 4096) : front c x = (x :: c, (c.length : Int) + 1, 0) := by unfold front; rw [if_neg (by omega)]
theorem near_shape (c : List In) (t : Int) (h : c.length < 4096) (h0 : 1 ≤ t) (h1 : t ≤ (c.length : Int)) : ∃ d l, near c t = (d, l, 0) ∧ (d.length : Int) = (c.length : Int) + (if (c.length : Int) - t > 254 then 1 else 0) := by
  unfold near
  by_cases g : (c.length : Int) - t ≤ 254
  · rw [if_pos g, if_neg (by omega)]
    exact ⟨c, t, rfl, by omega⟩
  · rw [if_neg g, if_pos (by omega)]
    unfold jump
    rw [if_pos ⟨h0, h1⟩, if_neg (by omega), front_shape _ _ h]
    exact ⟨_, _, rfl, by simp⟩
theorem branch_shape (c : List In) (op k t f : Int) (h : c.length ≤ 1000) (t0 : 1 ≤ t) (t1 : t ≤ (c.length : Int)) (f0 : 1 ≤ f) (f1 : f ≤ (c.length : Int)) :
    ∃ d, branch true c op k t f = (d, (d.length : Int), 0) ∧ (d.length : Int) = (c.length : Int) + 1 + (if (c.length : Int) - t > 254 then 1 else 0) + (if (c.length : Int) - f > 254 - (if (c.length : Int) - t > 254 then 1 else 0) then 1 else 0) := by
  unfold branch
  rw [if_pos rfl, if_pos ⟨⟨t0, t1⟩, f0, f1⟩]
  obtain ⟨d, l, e, hd⟩ := near_shape c t (by omega) t0 t1
  have hd1 : (d.length : Int) ≤ (c.length : Int) + 1 := by rw [hd]; split <;> omega
  have hd0 : (c.length : Int) ≤ (d.length : Int) := by rw [hd]; split <;> omega
  rw [e]
  simp only [if_true]
  unfold second
  obtain ⟨d2, l2, e2, hd2⟩ := near_shape d f (by omega) f0 (by omega)
  have hd3 : (d2.length : Int) ≤ (d.length : Int) + 1 := by rw [hd2]; split <;> omega
  rw [e2]
  simp only [if_true]
  unfold last
  rw [front_shape _ _ (by omega)]
  simp only [if_true]
  refine ⟨lastI op k l l2 d2 :: d2, ?_, ?_⟩
  · simp
  · simp only [List.length_cons]
    have q : ((d.length : Int) - f > 254) ↔ ((c.length : Int) - f > 254 - (if (c.length : Int) - t > 254 then 1 else 0)) := by rw [hd]; constructor <;> intro <;> omega
    have q2 : (if (d.length : Int) - f > 254 then (1 : Int) else 0) = (if (c.length : Int) - f > 254 - (if (c.length : Int) - t > 254 then 1 else 0) then 1 else 0) := by simp only [q]
    rw [← q2]
    omega
theorem at_range (c : List In) (n : Int) (hn : (Lit.int .u16 n).wf = true) (h0 : (c.length : Int) ≠ 0) (h1 : c.length ≤ 1000) : 1 ≤ atI c n ∧ atI c n ≤ (c.length : Int) := by
  have h3 : 0 ≤ n ∧ n < 65536 := by
    simp only [Lit.wf, IntKind.min, IntKind.max, IntKind.signed, IntKind.bits, Bool.and_eq_true, decide_eq_true_eq] at hn
    have g1 : 0 ≤ n := by simpa using hn.1
    have g2 : n ≤ 65535 := by simpa using hn.2
    omega
  unfold atI
  rw [if_neg h0, w64s (x := n) (by omega) (by omega)]
  have e : Int.tmod n (c.length : Int) = n % (c.length : Int) := Int.tmod_eq_emod_of_nonneg h3.1
  have g1 : 0 ≤ n % (c.length : Int) := Int.emod_nonneg _ h0
  have g2 : n % (c.length : Int) < (c.length : Int) := Int.emod_lt_of_pos _ (by omega)
  rw [e, w64s (by omega) (by omega)]
  omega
theorem CodeNear : Q.CodeNear := by
  intro c a0 a1 a2 a3 t f _ _ _ _ _ _ ht hf
  refine Ev.rounds ?_
  unfold hurdlelaw12_CodeNear.f
  have out : Ev (fun k => hurdlelaw12_CodeNear.j0 k c t f true a0 a1 a2 a3) true :=
    Ev.step (f := fun k => (hurdlelaw12_knows.f k).bind fun t => some t) (fun k => by simp [hurdlelaw12_CodeNear.j0]) (Ev.bind knows_is (Ev.now _))
  by_cases h : (c.length : Int) > 1000
  · exact Ev.congr (fun k => if_pos h) out
  · refine Ev.congr (fun k => if_neg h) ?_
    by_cases h0 : (c.length : Int) = 0
    · rw [show ((c.length : Int) == 0) = true from beq_iff_eq.mpr h0]
      exact out
    · rw [show ((c.length : Int) == 0) = false from beq_eq_false_iff_ne.mpr h0]
      have hs : Sm c := show c.length < 100000 by omega
      obtain ⟨t0, t1⟩ := at_range c t ht h0 (by omega)
      obtain ⟨f0, f1⟩ := at_range c f hf h0 (by omega)
      refine Ev.step (fun k => by simp only [hurdlelaw12_CodeNear.j0, at_is, Option.bind_some]; rw [if_neg (by simp)]) ?_
      refine Ev.bind (branch_is _ c a0 a3 _ _ hs (by omega) rfl) ?_
      cases hok : (branchI a0 && rightI a0 0 0 a3)
      · have e : branch false c a0 a3 (atI c t) (atI c f) = (c, 0, 1) := by unfold branch; rw [if_neg (by simp)]
        rw [e]
        refine Ev.congr (fun k => if_neg (show ¬ ((1 : Int) = 0) by decide)) ?_
        refine Ev.bind (same_is c hs) ?_
        exact Ev.congr (fun k => (if_pos rfl).trans (if_pos rfl)) (Ev.bind knows_is (Ev.now _))
      · obtain ⟨d, e, hd⟩ := branch_shape c a0 a3 (atI c t) (atI c f) (by omega) t0 t1 f0 f1
        rw [e]
        refine Ev.congr (fun k => if_pos rfl) ?_
        simp only []
        by_cases g : (c.length : Int) - atI c t > 254
        · rw [if_pos g] at hd
          refine Ev.congr (fun k => if_pos (by rw [w64s (by omega) (by omega)]; exact g)) ?_
          by_cases g2 : (c.length : Int) - atI c f > 254 - 1
          · rw [if_pos g2] at hd
            have en : wrap64 ((d.length : Int) - (c.length : Int)) = 3 := by rw [w64s (by omega) (by omega)]; omega
            rw [en]
            refine Ev.step (f := fun k => (hurdlelaw12_knows.f k).bind fun t => some t) (fun k => ?_) (Ev.bind knows_is (Ev.now _))
            simp only [hurdlelaw12_CodeNear.j1, at_is, Option.bind_some]
            rw [if_pos (by rw [w64s (by omega) (by omega), w64s (by omega) (by omega)]; omega), if_pos (by decide +kernel), if_pos (by decide +kernel), if_pos (by decide +kernel), if_pos (by decide +kernel), if_pos trivial]
          · rw [if_neg g2] at hd
            have en : wrap64 ((d.length : Int) - (c.length : Int)) = 2 := by rw [w64s (by omega) (by omega)]; omega
            rw [en]
            refine Ev.step (f := fun k => (hurdlelaw12_knows.f k).bind fun t => some t) (fun k => ?_) (Ev.bind knows_is (Ev.now _))
            simp only [hurdlelaw12_CodeNear.j1, at_is, Option.bind_some]
            rw [if_neg (by rw [w64s (by omega) (by omega), w64s (by omega) (by omega)]; omega), if_pos (by decide +kernel), if_pos (by decide +kernel), if_pos (by decide +kernel), if_pos (by decide +kernel), if_pos trivial]
        · rw [if_neg g] at hd
          refine Ev.congr (fun k => if_neg (by rw [w64s (by omega) (by omega)]; exact g)) ?_
          by_cases g2 : (c.length : Int) - atI c f > 254 - 0
          · rw [if_pos g2] at hd
            have en : wrap64 ((d.length : Int) - (c.length : Int)) = 2 := by rw [w64s (by omega) (by omega)]; omega
            rw [en]
            refine Ev.step (f := fun k => (hurdlelaw12_knows.f k).bind fun t => some t) (fun k => ?_) (Ev.bind knows_is (Ev.now _))
            simp only [hurdlelaw12_CodeNear.j1, at_is, Option.bind_some]
            rw [if_pos (by rw [w64s (by omega) (by omega), w64s (by omega) (by omega)]; omega), if_pos (by decide +kernel), if_pos (by decide +kernel), if_pos (by decide +kernel), if_pos (by decide +kernel), if_pos trivial]
          · rw [if_neg g2] at hd
            have en : wrap64 ((d.length : Int) - (c.length : Int)) = 1 := by rw [w64s (by omega) (by omega)]; omega
            rw [en]
            refine Ev.step (f := fun k => (hurdlelaw12_knows.f k).bind fun t => some t) (fun k => ?_) (Ev.bind knows_is (Ev.now _))
            simp only [hurdlelaw12_CodeNear.j1, at_is, Option.bind_some]
            rw [if_neg (by rw [w64s (by omega) (by omega), w64s (by omega) (by omega)]; omega), if_pos (by decide +kernel), if_pos (by decide +kernel), if_pos (by decide +kernel), if_pos (by decide +kernel), if_pos trivial]
end Go.Proofs.YtnchbnnijboklaaDoor.Pure
