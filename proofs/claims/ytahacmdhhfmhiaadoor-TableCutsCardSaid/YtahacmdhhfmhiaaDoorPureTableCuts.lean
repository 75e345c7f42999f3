/- The pure statement of TableCuts is proved: bytes that are cut off behind are never the table; bytes with bits turned within 32 are no table's. No condition. -/
import Derived.Test.YtahacmdhhfmhiaaDoorTabC
import Derived.Test.YtahacmdhhfmhiaaDoorQTableCuts
namespace Go.Proofs.YtahacmdhhfmhiaaDoor.Pure
set_option linter.unusedVariables false
set_option linter.unusedSimpArgs false
open Go.RowKit Go.Proofs.YtahacmdhhfmhiaaDoorW.PrintWords Go.Proofs.YtahacmdhhfmhiaaDoorW.PrintLast Go.Proofs.YtahacmdhhfmhiaaDoorW.PrintMore Go.Proofs.YtahacmdhhfmhiaaDoor.M Go.Proofs.YtahacmdhhfmhiaaDoor.InsOps Go.Proofs.YtahacmdhhfmhiaaDoor.RightB Go.Proofs.YtahacmdhhfmhiaaDoor.Hex Go.Proofs.YtahacmdhhfmhiaaDoor.TabA Go.Proofs.YtahacmdhhfmhiaaDoor.TabB Go.Proofs.YtahacmdhhfmhiaaDoor.TabD Go.Proofs.YtahacmdhhfmhiaaDoor.TabX Go.Proofs.YtahacmdhhfmhiaaDoor.TabK
theorem TableCuts : Q.TableCuts := by
 intro t cut at_ tu hl hw _ hat _
 simp only [maxLen] at hl
 refine Ev.rounds ?_
 unfold l21_TableCuts.f
 have kn : Ev (fun k => (l21_knows.f k).bind fun t => some t) true := Ev.bind knows_is (Ev.now _)
 refine Ev.bind (great_is t (by omega)) ?_
 cases hg : grN t
 ·refine Ev.congr (fun k => if_neg Bool.false_ne_true) ?_
  have h := wt_of (fun x hx => ⟨(hw x hx).1.2, (hw x hx).2.1.2, (hw x hx).2.2⟩) hg
  cases hr : rg t
  ·exact Ev.bind (encode_no h hr) (Ev.congr (fun k => (if_neg (show ¬ ((1 : Int) = 0) by decide)).trans (if_pos rfl)) kn)
  ·refine Ev.bind (encode_ok h hr) (Ev.congr (fun k => if_pos rfl) ?_)
   obtain ⟨tb, tl⟩ := tab_bs h hr
   have hI := CodecB.I_length (tabN t)
   have e8 : wrap64 (8 * ((CodecB.I (tabN t)).length : Int)) = ((8 * (tabN t).length : Nat) : Int) := by rw [hI]; exact wN (by omega) (by omega)
   -- bits that are turned
   have two : Ev (fun k => l21_TableCuts.j1 k at_ tu (CodecB.I (tabN t))) true := by
    have out : Ev (fun k => l21_TableCuts.j2 k at_ tu (CodecB.I (tabN t)) true) true := Ev.step (fun k => by rw [l21_TableCuts.j2, if_pos rfl]) kn
    by_cases h2 : at_ < 0
    ·exact Ev.step (fun k => by rw [l21_TableCuts.j1, if_pos h2]) out
    ·refine Ev.step (fun k => by rw [l21_TableCuts.j1, if_neg h2, e8]) ?_
     by_cases h3 : at_ ≥ ((8 * (tabN t).length : Nat) : Int)
     ·rw [decide_eq_true h3]
      exact out
     ·rw [decide_eq_false h3]
      obtain ⟨a, rfl⟩ : ∃ a : Nat, at_ = (a : Int) := ⟨at_.toNat, (Int.toNat_of_nonneg (by omega)).symm⟩
      refine Ev.step (fun k => by rw [l21_TableCuts.j2, if_neg Bool.false_ne_true]) ?_
      exact cuts_from h hr a (by omega) 32 0 (by omega) 0 (tabN t) tu (by decide) tb rfl (by simp)
   unfold l21_TableCuts.g
   have pass : ∀ c, Ev (fun k => l21_TableCuts.j0 k c at_ tu (CodecB.I (tabN t)) false) true := fun c => Ev.step (fun k => by rw [l21_TableCuts.j0, if_neg Bool.false_ne_true]) two
   by_cases h0 : cut ≥ 0
   ·refine Ev.congr (fun k => if_pos h0) ?_
    by_cases h1 : cut < ((CodecB.I (tabN t)).length : Int)
    ·rw [decide_eq_true h1]
     obtain ⟨c, rfl⟩ : ∃ c : Nat, cut = (c : Int) := ⟨cut.toNat, (Int.toNat_of_nonneg h0).symm⟩
     have hc : c < (tabN t).length := by omega
     have hd := decode_is (take_bs tb c) (by rw [List.length_take]; omega)
     have hn := cut_no h hr c hc
     refine Ev.step (fun k => by rw [l21_TableCuts.j0, if_pos rfl, if_pos h0, if_pos (Int.le_of_lt h1), Int.toNat_natCast, I_take]) (Ev.bind hd ?_)
     exact Ev.congr (fun k => if_neg hn) two
    ·rw [decide_eq_false h1]
     exact pass cut
   ·exact Ev.congr (fun k => if_neg h0) (pass cut)
 ·exact Ev.congr (fun k => if_pos rfl) kn
end Go.Proofs.YtahacmdhhfmhiaaDoor.Pure
