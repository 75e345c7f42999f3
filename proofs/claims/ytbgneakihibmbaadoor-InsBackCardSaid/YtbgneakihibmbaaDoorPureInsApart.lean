/- InsApart: unlike instructions that are right have unlike texts. No condition. -/
import Derived.Test.YtbgneakihibmbaaDoorInsR
import Derived.Test.YtbgneakihibmbaaDoorQInsApart
namespace Go.Proofs.YtbgneakihibmbaaDoor.Pure
set_option linter.unusedVariables false
set_option linter.unusedSimpArgs false
open Go.RowKit Go.Proofs.YtbgneakihibmbaaDoorW.PrintWords Go.Proofs.YtbgneakihibmbaaDoorW.PrintLast Go.Proofs.YtbgneakihibmbaaDoorW.PrintMore Go.Proofs.YtbgneakihibmbaaDoor.M Go.Proofs.YtbgneakihibmbaaDoor.Hex Go.Proofs.YtbgneakihibmbaaDoor.HexB Go.Proofs.YtbgneakihibmbaaDoor.InsOps Go.Proofs.YtbgneakihibmbaaDoor.InsB Go.Proofs.YtbgneakihibmbaaDoor.InsR
theorem print_any (a jt jf k : Int) (hk : (Lit.int .u32 k).wf = true) :
    (∃ (i x y z : Nat), i < 39 ∧ opsL[i]? = some a ∧ jt = (x : Int) ∧ jf = (y : Int) ∧ k = (z : Int) ∧ x < 256 ∧ y < 256 ∧ z < 4294967296 ∧ right i (x : Int) (y : Int) (z : Int) = true ∧ Ev (fun n => ins_Print.f n a jt jf k) (str (insL i x y z), 0)) ∨
    Ev (fun n => ins_Print.f n a jt jf k) (str [], 1) := by
  rcases op_cases a with ⟨i, hi, h⟩ | h
  · by_cases hr : right i jt jf k = true
    · obtain ⟨x, y, z, rfl, rfl, rfl, hx, hy, hz⟩ := right_fields hk hr
      exact .inl ⟨i, x, y, z, hi, h, rfl, rfl, rfl, hx, hy, hz, hr, print_is hi h x y z hx hy hz hr⟩
    · have h1 := right_is hi h jt jf k
      rw [Bool.eq_false_iff.mpr hr] at h1
      exact .inr (print_wrong h1)
  · exact .inr (print_wrong (right_none h jt jf k))
theorem InsApart : Q.InsApart := by
  intro a b c d a' b' c' d' _ _ _ hd _ _ _ hd'
  refine Ev.rounds ?_
  unfold hurdlelaw02_InsApart.f
  have on : ∀ (s t : ByteArray) (p q r u p' q' r' u' : Int), Ev (fun k => hurdlelaw02_InsApart.j0 k s t true p q r u p' q' r' u') true := by
    intro s t p q r u p' q' r' u'
    refine Ev.step (fun k => by simp only [hurdlelaw02_InsApart.j0, if_true]) (Ev.bind knows_is (Ev.now _))
  rcases print_any a b c d hd with ⟨i, x, y, z, hi, h, rfl, rfl, rfl, hx, hy, hz, hr, hp⟩ | hp
  · refine Ev.bind hp ?_
    rcases print_any a' b' c' d' hd' with ⟨i', x', y', z', hi', h', rfl, rfl, rfl, hx', hy', hz', hr', hp'⟩ | hp'
    · refine Ev.bind hp' ?_
      simp only [if_true, bne_self_eq_false]
      refine Ev.step (f := fun k => (hurdlelaw02_knows.f k).bind fun t => some t) (fun k => ?_) (Ev.bind knows_is (Ev.now _))
      simp only [hurdlelaw02_InsApart.j0, Bool.false_eq_true, if_false]
      rw [if_pos]
      by_cases he : str (insL i x y z) = str (insL i' x' y' z')
      · have e1 := parse_ins hi h x y z hx hy hz hr
        have e2 := parse_ins hi' h' x' y' z' hx' hy' hz' hr'
        rw [he, e2] at e1
        have e3 := Option.some.inj e1
        simp only [Prod.mk.injEq] at e3
        obtain ⟨q1, q2, q3, q4, _⟩ := e3
        rw [he, q1, q2, q3, q4]
        simp
      · have e1 : ((str (insL i x y z)).toList == (str (insL i' x' y' z')).toList) = false := by
          rw [beq_eq_false_iff_ne]
          intro e
          exact he (toList_inj.1 e)
        rw [e1]
        have e2 : (a == a' && ((x : Int) == (x' : Int) && ((y : Int) == (y' : Int) && (z : Int) == (z' : Int)))) = false := by
          apply Bool.eq_false_iff.mpr
          intro e
          simp only [Bool.and_eq_true, beq_iff_eq] at e
          obtain ⟨q1, q2, q3, q4⟩ := e
          apply he
          have q2 : x = x' := by omega
          have q3 : y = y' := by omega
          have q4 : z = z' := by omega
          subst q1 q2 q3 q4
          have : i = i' := by
            have n : opsL.Nodup := by decide
            have l1 := (List.getElem?_eq_some_iff.1 h)
            have l2 := (List.getElem?_eq_some_iff.1 h')
            obtain ⟨g1, g2⟩ := l1
            obtain ⟨g3, g4⟩ := l2
            exact (List.getElem_inj n).1 (g2.trans g4.symm)
          rw [this]
        rw [e2]
        rfl
    · refine Ev.bind hp' ?_
      simp only [if_true]
      exact on _ _ _ _ _ _ _ _ _ _
  · refine Ev.bind hp ?_
    rcases print_any a' b' c' d' hd' with ⟨i', x', y', z', hi', h', rfl, rfl, rfl, hx', hy', hz', hr', hp'⟩ | hp'
    · refine Ev.bind hp' ?_
      simp only [show ((1 : Int) = 0) = False by simp, if_false]
      exact on _ _ _ _ _ _ _ _ _ _
    · refine Ev.bind hp' ?_
      simp only [show ((1 : Int) = 0) = False by simp, if_false]
      exact on _ _ _ _ _ _ _ _ _ _
end Go.Proofs.YtbgneakihibmbaaDoor.Pure
