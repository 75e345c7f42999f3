/- The pure statement of TableBack is proved: a table's bytes are read as the table, and what was read has just these bytes. No condition. -/
import Derived.Test.YtahacmdhhfmhiaaDoorTabC
import Derived.Test.YtahacmdhhfmhiaaDoorQTableBack
namespace Go.Proofs.YtahacmdhhfmhiaaDoor.Pure
set_option linter.unusedVariables false
set_option linter.unusedSimpArgs false
open Go.RowKit Go.Proofs.YtahacmdhhfmhiaaDoorW.PrintWords Go.Proofs.YtahacmdhhfmhiaaDoorW.PrintLast Go.Proofs.YtahacmdhhfmhiaaDoorW.PrintMore Go.Proofs.YtahacmdhhfmhiaaDoor.M Go.Proofs.YtahacmdhhfmhiaaDoor.InsOps Go.Proofs.YtahacmdhhfmhiaaDoor.RightB Go.Proofs.YtahacmdhhfmhiaaDoor.Hex Go.Proofs.YtahacmdhhfmhiaaDoor.TabA Go.Proofs.YtahacmdhhfmhiaaDoor.TabB Go.Proofs.YtahacmdhhfmhiaaDoor.TabD Go.Proofs.YtahacmdhhfmhiaaDoor.TabK
theorem tab_bs {t : List Ru} (h : Wt t) (hr : rg t = true) : Bs (tabN t) ∧ (tabN t).length < 90000 := by
 obtain ⟨h64, hm⟩ := rg_may hr
 have hb : Bs (headT t ++ encT t) := fun x hx => by
  rcases List.mem_append.1 hx with h1 | h1
  ·exact head_bs t x h1
  ·obtain ⟨y, hy, hx⟩ := List.mem_flatMap.1 h1
   exact byt_bs_ru (h.w y hy) (hm y hy) x hx
 have hl : ∀ s : List Ru, (∀ x ∈ s, Wr x ∧ may x = true) → (encT s).length ≤ 518 * s.length := by
  intro s
  induction s with
  | nil => intro _; exact Nat.le_refl _
  | cons x s ih =>
   intro hs
   have h1 := byt_len_ru (hs x List.mem_cons_self).1 (hs x List.mem_cons_self).2
   have h2 := ih (fun y hy => hs y (List.mem_cons_of_mem _ hy))
   show (byt x ++ encT s).length ≤ 518 * (s.length + 1)
   rw [List.length_append]
   omega
 have hl2 := hl t (fun x hx => ⟨h.w x hx, hm x hx⟩)
 refine ⟨fun x hx => ?_, ?_⟩
 ·rcases List.mem_append.1 hx with h1 | h1
  ·exact hb x h1
  ·exact CrcB.four_bs _ x h1
 ·unfold tabN
  rw [List.length_append, List.length_append]
  have e5 : (headT t).length = 5 := rfl
  have e4 : (CrcPlain.four (CrcPlain.crc (headT t ++ encT t))).length = 4 := rfl
  omega
theorem TableBack : Q.TableBack := by
 intro t l hl hw _ hlw
 simp only [maxLen] at hl
 refine Ev.rounds ?_
 unfold l21_TableBack.f
 have kn : Ev (fun k => (l21_knows.f k).bind fun t => some t) true := Ev.bind knows_is (Ev.now _)
 have out : Ev (fun k => l21_TableBack.j0 k t l true) true := Ev.step (fun k => by rw [l21_TableBack.j0, if_pos rfl]) kn
 refine Ev.bind (great_is t (by omega)) ?_
 cases hg : grN t
 ·refine Ev.congr (fun k => if_neg Bool.false_ne_true) ?_
  by_cases h5 : (l.length : Int) > 5000
  ·rw [decide_eq_true h5]
   exact out
  ·rw [decide_eq_false h5]
   obtain ⟨b, hb, hbs⟩ := CodecB.I_of l hlw
   subst hb
   have hI := CodecB.I_length b
   have h := wt_of (fun x hx => ⟨(hw x hx).1.2, (hw x hx).2.1.2, (hw x hx).2.2⟩) hg
   -- bytes
   have two : Ev (fun k => l21_TableBack.j1 k (CodecB.I b)) true := by
    have hd := decode_is hbs (by omega)
    have hlen : ([] : List Int).length + (CodecB.I b).length < 140737488355328 := by rw [List.length_nil]; omega
    refine Ev.step (fun k => by rw [l21_TableBack.j1, Option.bind_some, if_pos hlen, List.nil_append]) (Ev.bind hd ?_)
    by_cases h0 : (decTab b).2 = 0
    ·obtain ⟨u, hu⟩ : ∃ u, u = (decTab b).1 := ⟨_, rfl⟩
     have e : decTab b = (u, 0) := Prod.ext hu.symm h0
     obtain ⟨g1, g2, g3⟩ := tab_back hbs e
     have en := encode_ok g3 g2
     have hr := right_is g3
     rw [g1] at en
     rw [g2] at hr
     rw [e]
     exact Ev.congr (fun k => if_pos rfl) (Ev.bind en (Ev.congr (fun k => (if_pos rfl).trans (if_pos rfl)) (Ev.bind hr (Ev.congr (fun k => if_pos rfl) kn))))
    ·have hn := tab_no h0
     exact Ev.congr (fun k => (if_neg h0).trans (if_pos (by rw [hn]; rfl))) kn
   refine Ev.step (fun k => by rw [l21_TableBack.j0, if_neg Bool.false_ne_true]) ?_
   cases hr : rg t
   ·exact Ev.bind (encode_no h hr) (Ev.congr (fun k => if_neg (show ¬ ((1 : Int) = 0) by decide)) two)
   ·obtain ⟨tb, tl⟩ := tab_bs h hr
    have hd := decode_is tb tl
    rw [tab_read h hr] at hd
    have hA := as_is t h.n
    exact Ev.bind (encode_ok h hr) (Ev.congr (fun k => if_pos rfl) (Ev.bind hd (Ev.bind hA (Ev.bind hA (Ev.bind (same_is t h) (Ev.congr (fun k => (if_pos rfl).trans (if_pos rfl)) two))))))
 ·exact Ev.congr (fun k => if_pos rfl) out
end Go.Proofs.YtahacmdhhfmhiaaDoor.Pure
