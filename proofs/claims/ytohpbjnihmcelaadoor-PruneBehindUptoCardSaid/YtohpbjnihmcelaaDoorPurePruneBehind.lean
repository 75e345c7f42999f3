/- The pure statement of PruneBehind is proved: what stands behind a sound filter is left out. No condition. -/
import Derived.Test.YtohpbjnihmcelaaDoorPruD
import Derived.Test.YtohpbjnihmcelaaDoorQPruneBehind
namespace Go.Proofs.YtohpbjnihmcelaaDoor.Pure
set_option linter.unusedVariables false
set_option linter.unusedSimpArgs false
open Go.RowKit Go.Proofs.YtohpbjnihmcelaaDoorW.PrintWords Go.Proofs.YtohpbjnihmcelaaDoorW.PrintLast Go.Proofs.YtohpbjnihmcelaaDoorW.PrintMore Go.Proofs.YtohpbjnihmcelaaDoor.M Go.Proofs.YtohpbjnihmcelaaDoor.InsOps Go.Proofs.YtohpbjnihmcelaaDoor.RightB Go.Proofs.YtohpbjnihmcelaaDoor.ChkB Go.Proofs.YtohpbjnihmcelaaDoor.ChkN Go.Proofs.YtohpbjnihmcelaaDoor.PruA Go.Proofs.YtohpbjnihmcelaaDoor.PruB Go.Proofs.YtohpbjnihmcelaaDoor.PruK Go.Proofs.YtohpbjnihmcelaaDoor.PruS
theorem same_from (c : List In) (hc : c.length < 100000) : ∀ (m i : Nat), i + m = c.length → Ev (fun k => hurdleref03_Same.l0 k c c (i : Int)) true := by
  intro m
  induction m with
  | zero =>
    intro i hi
    refine Ev.step (f := fun _ => some true) (fun k => ?_) (Ev.now _)
    simp only [hurdleref03_Same.l0]
    rw [if_neg (by omega)]
  | succ m ih =>
    intro i hi
    refine Ev.step (fun k => ?_) (ih (i + 1) (by omega))
    simp only [hurdleref03_Same.l0]
    rw [if_pos (by omega), if_pos (by omega), if_pos (by omega), if_neg (by simp), wS i (by omega)]
theorem same_is (c : List In) (hc : c.length < 100000) : Ev (fun k => hurdleref03_Same.f k c c) true := by
  unfold hurdleref03_Same.f
  exact Ev.congr (fun k => if_pos rfl) (same_from c hc c.length 0 (by omega))
theorem cnt_app (a b : List Bool) (i : Nat) (h : i ≤ a.length) : cnt (a ++ b) i = cnt a i := by
  unfold cnt
  rw [List.take_append_of_le_length h]
theorem stp_app {f l : List In} {s j : Nat} (hs : s < f.length) : Stp (f ++ l) s j ↔ Stp f s j := by
  constructor
  · rintro ⟨_, o, ho, rfl⟩
    rw [List.getElem_append_left hs] at ho
    exact ⟨hs, o, ho, rfl⟩
  · rintro ⟨_, o, ho, rfl⟩
    exact ⟨by rw [List.length_append]; omega, o, by rw [List.getElem_append_left hs]; exact ho, rfl⟩
theorem rc_app {f l : List In} (h : Ok f) {s i : Nat} (hs : s < f.length) : Rc (f ++ l) s i ↔ Rc f s i := by
  constructor
  · intro t
    induction t with
    | refl => exact .refl _
    | step a _ ih =>
      have a2 := (stp_app hs).mp a
      exact .step a2 (ih (stp_lt h a2).2)
  · intro t
    induction t with
    | refl => exact .refl _
    | step a _ ih => exact .step ((stp_app hs).mpr a) (ih (stp_lt h a).2)
theorem met_app {f l : List In} (h : Ok f) (ha : Ok (f ++ l)) : metL (f ++ l) = metL f ++ List.replicate l.length false := by
  have h0 := ok_ne h
  refine (metL_is ha (ok_ne ha) _ (by rw [List.length_append, metL_len, List.length_replicate, List.length_append]) (fun i => ?_)).symm
  rw [rc_app h (by omega), ← metL_at h h0 i]
  by_cases hi : i < f.length
  · rw [List.getD_eq_getElem?_getD, List.getElem?_append_left (by rw [metL_len]; exact hi), ← List.getD_eq_getElem?_getD]
  · rw [List.getD_eq_getElem?_getD, List.getElem?_append_right (by rw [metL_len]; omega), List.getElem?_replicate, List.getD_eq_getElem?_getD, List.getElem?_eq_none (by rw [metL_len]; omega)]
    split <;> simp
theorem prF_cut (m : List Bool) (l : List In) : ∀ (d e a : Nat), prF m l a (d + e) = prF m l a d ++ prF m l (a + d) e := by
  intro d
  induction d with
  | zero => intro e a; rw [Nat.zero_add, prF, List.nil_append, Nat.add_zero]
  | succ d ih =>
    intro e a
    rw [show d + 1 + e = (d + e) + 1 by omega, prF, prF, ih, List.append_assoc, show a + 1 + d = a + (d + 1) by omega]
theorem prF_none (m : List Bool) (l : List In) : ∀ (d a : Nat), (∀ i, a ≤ i → m.getD i false = false) → prF m l a d = [] := by
  intro d
  induction d with
  | zero => intro a _; rfl
  | succ d ih => intro a hn; rw [prF, hn a (Nat.le_refl _), ih (a + 1) (fun i hi => hn i (by omega))]; rfl
theorem prF_app {f l : List In} (h : Ok f) (b : List Bool) : ∀ (d a : Nat), a + d = f.length → prF (metL f ++ b) (f ++ l) a d = prF (metL f) f a d := by
  have hm := metL_len f
  intro d
  induction d with
  | zero => intro a _; rfl
  | succ d ih =>
    intro a ha
    have hal : a < f.length := by omega
    rw [prF, prF, ih (a + 1) (by omega)]
    have e1 : (metL f ++ b).getD a false = (metL f).getD a false := by rw [List.getD_eq_getElem?_getD, List.getElem?_append_left (by omega), ← List.getD_eq_getElem?_getD]
    have e2 : (f ++ l).getD a z45 = f[a] := by rw [List.getD_eq_getElem?_getD, List.getElem?_append_left hal, List.getElem?_eq_getElem hal]; rfl
    have e3 : f.getD a z45 = f[a] := by rw [List.getD_eq_getElem?_getD, List.getElem?_eq_getElem hal]; rfl
    rw [e1, e2, e3]
    congr 1
    have e4 : prI (metL f ++ b) f[a] a = prI (metL f) f[a] a := by
      unfold prI
      have eb : ∀ o, a + 1 + o < f.length → btw (metL f ++ b) a o = btw (metL f) a o := fun o ho => by
        unfold btw
        rw [cnt_app _ _ _ (by omega), cnt_app _ _ _ (by omega)]
      by_cases h5 : f[a].f0 = 5
      · rw [if_pos h5, if_pos h5, eb _ (ja_stp h hal h5)]
      · rw [if_neg h5, if_neg h5]
        cases hb : branchI f[a].f0
        · rfl
        · obtain ⟨s1, s2, _, _⟩ := br_stp h hal hb
          rw [if_pos rfl, if_pos rfl, eb _ s1, eb _ s2]
    rw [e4]
theorem prL_app {f l : List In} (h : Ok f) (ha : Ok (f ++ l)) : prL (metL (f ++ l)) (f ++ l) = prL (metL f) f := by
  unfold prL
  rw [met_app h ha, List.length_append, prF_cut, prF_app h _ f.length 0 (by omega), prF_none _ _ l.length (0 + f.length) (fun i hi => ?_), List.append_nil]
  rw [List.getD_eq_getElem?_getD, List.getElem?_append_right (by rw [metL_len]; omega), List.getElem?_replicate]
  split <;> rfl
theorem PruneBehind : Q.PruneBehind := by
  intro f l _ hw _ hv hB
  refine Ev.rounds ?_
  unfold hurdlelaw23_PruneBehind.f
  have out : Ev (fun k => hurdlelaw23_PruneBehind.j0 k f (f ++ l) true) true :=
    Ev.step (f := fun k => (hurdlelaw23_knows.f k).bind fun t => some t) (fun k => by simp [hurdlelaw23_PruneBehind.j0]) (Ev.bind knows_is (Ev.now _))
  have c1 : ([] : List In).length + f.length < 4398046511104 := by simp; omega
  have c2 : f.length + l.length < 4398046511104 := by omega
  simp only [Option.bind_some, if_pos c1, List.nil_append, if_pos c2]
  by_cases h : (f.length : Int) > 100
  · exact Ev.congr (fun k => if_pos h) out
  refine Ev.congr (fun k => if_neg h) ?_
  by_cases h2 : (l.length : Int) > 100
  · exact Ev.congr (fun k => if_pos h2) out
  refine Ev.congr (fun k => if_neg h2) ?_
  have hwa : ∀ x ∈ f ++ l, Q.wfIns x := fun x hx => by
    rcases List.mem_append.1 hx with hx | hx
    · exact hw x hx
    · exact hv x hx
  have hla : (f ++ l).length < 100000 := by rw [List.length_append]; omega
  refine Ev.bind (rsound_is f (by omega) hw) ?_
  by_cases hs : (chk f).2 = 0
  · rw [show ((chk f).2 == 0) = true from beq_iff_eq.mpr hs]
    simp only [if_true]
    refine Ev.bind (rsound_is (f ++ l) hla hwa) ?_
    by_cases ht : (chk (f ++ l)).2 = 0
    · rw [show ((chk (f ++ l)).2 == 0) = true from beq_iff_eq.mpr ht]
      have h : Ok f := ⟨by omega, hw, hs⟩
      have ha : Ok (f ++ l) := ⟨hla, hwa, ht⟩
      have e2 := prune_is ha
      rw [prL_app h ha] at e2
      refine Ev.step (f := fun k => (prune_Prune.f k f).bind fun a => (prune_Prune.f k (f ++ l)).bind fun b => if a.2 = 0 then if b.2 = 0 then (hurdleref03_Same.f k a.1 b.1).bind fun t => if t = true then (hurdlelaw23_knows.f k).bind fun v => some v else none else none else none) (fun k => ?_) (Ev.bind (prune_is h) (Ev.bind e2 ?_))
      · simp only [hurdlelaw23_PruneBehind.j0, Bool.not_true, Bool.false_eq_true, if_false]
      · refine Ev.congr (fun k => by rw [if_pos rfl, if_pos rfl]) ?_
        exact Ev.bind (same_is _ (by have := g_ok h; exact this.hl)) (Ev.congr (fun k => if_pos rfl) (Ev.bind knows_is (Ev.now _)))
    · rw [show ((chk (f ++ l)).2 == 0) = false from beq_eq_false_iff_ne.mpr ht]
      exact out
  · rw [show ((chk f).2 == 0) = false from beq_eq_false_iff_ne.mpr hs]
    simp only [Bool.false_eq_true, if_false]
    exact out
end Go.Proofs.YtohpbjnihmcelaaDoor.Pure
