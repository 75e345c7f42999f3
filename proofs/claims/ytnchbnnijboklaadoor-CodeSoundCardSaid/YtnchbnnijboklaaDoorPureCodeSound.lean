/- The pure statement of CodeSound is proved: code grows soundly, and each label comes to what was asked, by the program's and the document's functions. No condition. -/
import Derived.Test.YtnchbnnijboklaaDoorRunX
import Derived.Test.YtnchbnnijboklaaDoorQCodeSound
namespace Go.Proofs.YtnchbnnijboklaaDoor.Pure
set_option linter.unusedVariables false
set_option linter.unusedSimpArgs false
open Go.RowKit Go.Proofs.YtnchbnnijboklaaDoorW.PrintWords Go.Proofs.YtnchbnnijboklaaDoorW.PrintLast Go.Proofs.YtnchbnnijboklaaDoorW.PrintMore Go.Proofs.YtnchbnnijboklaaDoor.M Go.Proofs.YtnchbnnijboklaaDoor.InsOps Go.Proofs.YtnchbnnijboklaaDoor.RightB Go.Proofs.YtnchbnnijboklaaDoor.RunO Go.Proofs.YtnchbnnijboklaaDoor.RunT
theorem rd_U {m : List Int} (h : ∀ x ∈ m, (Lit.int .u32 x).wf = true) (i : Int) : U (rd m i) := by
 unfold rd
 rw [List.getD_eq_getElem?_getD]
 cases hm : m[i.toNat]? with
 | none => show U 0; unfold U; omega
 | some x =>
  obtain ⟨hi, e⟩ := List.getElem?_eq_some_iff.1 hm
  exact ChkB.u32_range (h x (e ▸ List.getElem_mem hi))
theorem CodeSound : Q.CodeSound := by
 intro c l a x m n r p q _ hw _ hl w0 w1 wm
 refine Ev.rounds ?_
 unfold hurdlelaw12_CodeSound.f
 have hs : Sok a x m := ⟨ChkB.u32_range w0, ChkB.u32_range w1, rd_U wm⟩
 have out : Ev (fun k => hurdlelaw12_CodeSound.j0 k c l true a x m n r p q) true :=
  Ev.step (f := fun k => (hurdlelaw12_knows.f k).bind fun t => some t) (fun k => by rw [hurdlelaw12_CodeSound.j0, if_pos rfl]) (Ev.bind CodeB.knows_is (Ev.now _))
 by_cases hlen : (c.length : Int) > 500
 ·exact Ev.congr (fun k => if_pos hlen) out
 ·refine Ev.congr (fun k => if_neg hlen) (Ev.bind (ChkB.rsound_is c (by omega) hw) ?_)
  by_cases h0 : (ChkB.chk c).2 = 0
  ·rw [h0]
   have e : Ev (fun k => hurdlelaw12_CodeSound.l0 k c l 0 a x m n r p q) true := CodeS.l0_is hs l hl 20 0 c (by omega) (by omega) ⟨by omega, hw, h0⟩ (by omega)
   exact Ev.step (fun k => by rw [hurdlelaw12_CodeSound.j0, if_neg (show ¬ (!((0 : Int) == 0)) = true by decide)]) e
  ·rw [show ((ChkB.chk c).2 == 0) = false from beq_eq_false_iff_ne.mpr h0]
   exact out
end Go.Proofs.YtnchbnnijboklaaDoor.Pure
