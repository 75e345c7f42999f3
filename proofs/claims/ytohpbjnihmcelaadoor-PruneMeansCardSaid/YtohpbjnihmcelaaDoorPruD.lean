/- What prune.Met goes over, and what the document's one pass tells: the same places. No condition but sizes far beyond the laws'. -/
import Derived.Test.YtohpbjnihmcelaaDoorChkA
import Derived.Test.YtohpbjnihmcelaaDoorM7
import Derived.Test.YtohpbjnihmcelaaDoorM8
import Derived.Test.YtohpbjnihmcelaaDoorM12
namespace Go.Proofs.YtohpbjnihmcelaaDoor.PruA
set_option linter.unusedVariables false
set_option linter.unusedSimpArgs false
open Go.RowKit Go.Proofs.YtohpbjnihmcelaaDoorW.PrintWords Go.Proofs.YtohpbjnihmcelaaDoorW.PrintLast Go.Proofs.YtohpbjnihmcelaaDoorW.PrintMore Go.Proofs.YtohpbjnihmcelaaDoor.M Go.Proofs.YtohpbjnihmcelaaDoor.InsOps Go.Proofs.YtohpbjnihmcelaaDoor.RightB Go.Proofs.YtohpbjnihmcelaaDoor.ChkB Go.Proofs.YtohpbjnihmcelaaDoor.ChkN
def Stp (l : List In) (s j : Nat) : Prop := ∃ h : s < l.length, ∃ o, hit l[s] o = true ∧ j = s + 1 + o
inductive Rc (l : List In) : Nat → Nat → Prop
  | refl (s : Nat) : Rc l s s
  | step {s j i : Nat} : Stp l s j → Rc l j i → Rc l s i
structure Ok (l : List In) : Prop where
  hl : l.length < 100000
  hw : ∀ x ∈ l, Q.wfIns x
  hs : (chk l).2 = 0
theorem hit_cases {x : In} {o : Nat} (h : hit x o = true) : endI x = false ∧ ((branchI x.f0 = true ∧ ((o : Int) = x.f1 ∨ (o : Int) = x.f2)) ∨ (branchI x.f0 = false ∧ x.f0 = 5 ∧ (o : Int) = x.f3) ∨ (branchI x.f0 = false ∧ x.f0 ≠ 5 ∧ o = 0)) := by
  unfold hit at h
  simp only [Bool.and_eq_true, Bool.not_eq_true'] at h
  refine ⟨h.1, ?_⟩
  have h2 := h.2
  cases hb : branchI x.f0
  · rw [hb] at h2
    simp only [Bool.false_eq_true, if_false] at h2
    by_cases h5 : x.f0 = 5
    · rw [if_pos h5] at h2
      exact .inr (.inl ⟨rfl, h5, of_decide_eq_true h2⟩)
    · rw [if_neg h5] at h2
      exact .inr (.inr ⟨rfl, h5, by simpa using h2⟩)
  · rw [hb] at h2
    simp only [if_true, Bool.or_eq_true, decide_eq_true_eq] at h2
    exact .inl ⟨rfl, h2⟩
theorem hit_ja {x : In} (he : endI x = false) (h5 : x.f0 = 5) (o : Nat) : hit x o = true ↔ (o : Int) = x.f3 := by
  have hb : branchI x.f0 = false := by rw [h5]; exact branch_5
  unfold hit
  rw [he, hb]
  simp [h5]
theorem hit_br {x : In} (he : endI x = false) (hb : branchI x.f0 = true) (o : Nat) : hit x o = true ↔ (o : Int) = x.f1 ∨ (o : Int) = x.f2 := by
  unfold hit
  rw [he, hb]
  simp
theorem hit_on {x : In} (he : endI x = false) (h5 : x.f0 ≠ 5) (hb : branchI x.f0 = false) (o : Nat) : hit x o = true ↔ o = 0 := by
  unfold hit
  rw [he, hb]
  simp [h5]
theorem br_end {x : In} (hb : branchI x.f0 = true) : endI x = false ∧ x.f0 ≠ 5 := by
  refine ⟨?_, fun h => by rw [h, branch_5] at hb; cases hb⟩
  unfold endI
  simp only [Bool.or_eq_false_iff, beq_eq_false_iff_ne]
  exact ⟨fun h => (by rw [h, branch_6] at hb; cases hb), fun h => (by rw [h, branch_22] at hb; cases hb)⟩
theorem stp_lt {l : List In} (h : Ok l) {s j : Nat} (t : Stp l s j) : s < j ∧ j < l.length := by
  obtain ⟨hs, o, ho, rfl⟩ := t
  refine ⟨by omega, ?_⟩
  obtain ⟨h1, h2, h3, h4⟩ := (sound_iff l).mp h.hs
  obtain ⟨hg, hf⟩ := one_zero (h.hw _ (List.getElem_mem hs)) (h3 s hs)
  obtain ⟨he, hc⟩ := hit_cases ho
  unfold far at hf
  rcases hc with ⟨hb, hc⟩ | ⟨hb, h5, hc⟩ | ⟨hb, h5, hc⟩
  · rw [if_neg (br_end hb).2, hb] at hf
    simp only [Bool.true_and, Bool.or_eq_false_iff, decide_eq_false_iff_not] at hf
    omega
  · rw [if_pos h5] at hf
    simp only [decide_eq_false_iff_not] at hf
    omega
  · by_cases hl : s = l.length - 1
    · exfalso
      rw [List.getD_eq_getElem?_getD, List.getElem?_eq_getElem (by omega)] at h4
      simp only [Option.getD_some] at h4
      have : l[s] = l[l.length - 1] := by congr 1
      rw [this, h4] at he
      cases he
    · omega
theorem rc_le {l : List In} (h : Ok l) {s i : Nat} (t : Rc l s i) : s ≤ i := by
  induction t with
  | refl => exact Nat.le_refl _
  | step a _ ih => have := stp_lt h a; omega
theorem rc_lt {l : List In} (h : Ok l) {s i : Nat} (t : Rc l s i) (hs : s < l.length) : i < l.length := by
  induction t with
  | refl => exact hs
  | step a _ ih => exact ih (stp_lt h a).2
theorem rc_snoc {l : List In} {s i j : Nat} (t : Rc l s i) (a : Stp l i j) : Rc l s j := by
  induction t with
  | refl => exact .step a (.refl _)
  | step b _ ih => exact .step b (ih a)
theorem rc_cases {l : List In} {s i : Nat} : Rc l s i ↔ i = s ∨ ∃ j, Stp l s j ∧ Rc l j i :=
  ⟨fun t => by cases t with
    | refl => exact .inl rfl
    | step a b => exact .inr ⟨_, a, b⟩,
   fun t => by
    rcases t with rfl | ⟨j, a, b⟩
    · exact .refl _
    · exact .step a b⟩
def Cl (l : List In) (m : List Bool) (b : Nat) : Prop := ∀ i j, b ≤ i → m.getD i false = true → Stp l i j → m.getD j false = true
theorem cl_rc {l : List In} (h : Ok l) {m : List Bool} {b s i : Nat} (c : Cl l m b) (hb : b ≤ s) (hm : m.getD s false = true) (t : Rc l s i) : m.getD i false = true := by
  induction t with
  | refl => exact hm
  | step a _ ih => exact ih (by have := stp_lt h a; omega) (c _ _ hb hm a)
theorem glue {l : List In} (h : Ok l) {m m2 : List Bool} {b s : Nat} (hb : b ≤ s) (hc : Cl l m b) (hc2 : Cl l m2 (s + 1)) (e : ∀ i, m2.getD i false = true ↔ (m.getD i false = true ∨ i = s ∨ ∃ j, Stp l s j ∧ Rc l j i)) :
    Cl l m2 b ∧ ∀ i, m2.getD i false = true ↔ (m.getD i false = true ∨ Rc l s i) := by
  refine ⟨fun i j hi hm hst => ?_, fun i => by rw [e i, rc_cases]⟩
  by_cases hs : s + 1 ≤ i
  · exact hc2 i j hs hm hst
  · rw [e i] at hm
    rw [e j]
    rcases hm with hm | rfl | ⟨q, a, t⟩
    · exact .inl (hc i j hi hm hst)
    · exact .inr (.inr ⟨j, hst, .refl _⟩)
    · have := stp_lt h a
      have := rc_le h t
      omega
theorem getD_set (m : List Bool) (s i : Nat) (hs : s < m.length) : (m.set s true).getD i false = true ↔ (m.getD i false = true ∨ i = s) := by
  simp only [List.getD_eq_getElem?_getD]
  by_cases h : i = s
  · subst h
    rw [List.getElem?_set_self hs]
    simp
  · rw [List.getElem?_set_ne (Ne.symm h)]
    simp [h]
theorem rdB (m : List Bool) (s : Nat) : rdOf false m (s : Int) = m.getD s false := rfl
theorem meet_is {l : List In} (h : Ok l) : ∀ (d s : Nat) (m : List Bool) (b : Nat), l.length ≤ s + d → s < l.length → m.length = l.length → b ≤ s → Cl l m b →
    ∃ m', Ev (fun k => prune_meet.l0 k (s : Int) l m) m' ∧ m'.length = l.length ∧ Cl l m' b ∧ ∀ i, m'.getD i false = true ↔ (m.getD i false = true ∨ Rc l s i) := by
  intro d
  induction d with
  | zero => intro s m b h1 h2; omega
  | succ d ih =>
    intro s m b hd hs hm hb hc
    have hl := h.hl
    by_cases hms : m.getD s false = true
    · refine ⟨m, Ev.step (f := fun _ => some m) (fun k => ?_) (Ev.now _), hm, hc, fun i => ⟨.inl, fun t => ?_⟩⟩
      · simp only [prune_meet.l0]
        rw [if_pos (by omega), if_pos (by omega), rdB, if_pos hms]
      · rcases t with t | t
        · exact t
        · exact cl_rc h hc hb hms t
    · have hw := h.hw _ (List.getElem_mem hs)
      obtain ⟨y, hy⟩ : ∃ y, y = m.set s true := ⟨_, rfl⟩
      have hyl : y.length = l.length := by rw [hy, List.length_set, hm]
      have hyi : ∀ i, y.getD i false = true ↔ (m.getD i false = true ∨ i = s) := fun i => by rw [hy]; exact getD_set m s i (by omega)
      have hyc : Cl l y (s + 1) := fun i j hi hm2 hst => by
        rcases (hyi i).mp hm2 with h1 | h1
        · exact (hyi j).mpr (.inl (hc i j (by omega) h1 hst))
        · omega
      have start : ∀ {f : Nat → Option (List Bool)} {r : List Bool}, (∀ k, (if endI l[s] = true then some y else if l[s].f0 = 5 then prune_meet.l0 k (wrap64 (wrap64 ((s : Int) + wrap64 l[s].f3) + 1)) l y else if branchI l[s].f0 = true then (prune_meet.f k (wrap64 (wrap64 ((s : Int) + 1) + l[s].f1)) l y).bind fun t => prune_meet.l0 k (wrap64 (wrap64 ((s : Int) + l[s].f2) + 1)) l t else prune_meet.l0 k (wrap64 ((s : Int) + 1)) l y) = f k) → Ev f r → Ev (fun k => prune_meet.l0 k (s : Int) l m) r := by
        intro f r hf hr
        refine Ev.step (fun k => ?_) hr
        rw [← hf k]
        simp only [prune_meet.l0]
        rw [if_pos (by omega), if_pos (by omega), rdB, if_neg hms, Option.bind_some, if_pos (by omega), rd_at l s hs, ends_is, Option.bind_some, branchI_is]
        simp only [Option.bind_some, Int.toNat_natCast, ← hy]
      cases he : endI l[s]
      · obtain ⟨hg1, hg2⟩ := sound_at l h.hw h.hs s hs
        obtain ⟨g1, g2, g3, g4, g5, g6⟩ := good_small hg1
        by_cases h5 : l[s].f0 = 5
        · have hst : ∀ j, Stp l s j ↔ j = s + 1 + l[s].f3.toNat := fun j => by
            constructor
            · rintro ⟨_, o, ho, rfl⟩
              rw [hit_ja he h5] at ho
              omega
            · rintro rfl
              exact ⟨hs, _, (hit_ja he h5 _).mpr (by omega), rfl⟩
          have hj := stp_lt h ((hst _).mpr rfl)
          obtain ⟨m', e1, e2, e3, e4⟩ := ih (s + 1 + l[s].f3.toNat) y (s + 1) (by omega) hj.2 hyl (by omega) hyc
          obtain ⟨c1, c2⟩ := glue h hb hc e3 (fun i => by
            rw [e4 i, hyi i, or_assoc]
            refine or_congr_right (or_congr_right ⟨fun t => ⟨_, (hst _).mpr rfl, t⟩, ?_⟩)
            rintro ⟨j, a, t⟩
            rw [hst] at a
            subst a
            exact t)
          refine ⟨m', start (f := fun k => prune_meet.l0 k ((s + 1 + l[s].f3.toNat : Nat) : Int) l y) (fun k => ?_) e1, e2, c1, c2⟩
          rw [if_neg (by rw [he]; simp), if_pos h5]
          congr 1
          rw [w64s (x := l[s].f3) (by omega) (by omega), w64s (x := (s : Int) + l[s].f3) (by omega) (by omega), w64s (x := (s : Int) + l[s].f3 + 1) (by omega) (by omega)]
          omega
        · cases hbr : branchI l[s].f0
          · have hst : ∀ j, Stp l s j ↔ j = s + 1 := fun j => by
              constructor
              · rintro ⟨_, o, ho, rfl⟩
                rw [hit_on he h5 hbr] at ho
                omega
              · rintro rfl
                exact ⟨hs, 0, (hit_on he h5 hbr _).mpr rfl, by omega⟩
            have hj := stp_lt h ((hst _).mpr rfl)
            obtain ⟨m', e1, e2, e3, e4⟩ := ih (s + 1) y (s + 1) (by omega) hj.2 hyl (by omega) hyc
            obtain ⟨c1, c2⟩ := glue h hb hc e3 (fun i => by
              rw [e4 i, hyi i, or_assoc]
              refine or_congr_right (or_congr_right ⟨fun t => ⟨_, (hst _).mpr rfl, t⟩, ?_⟩)
              rintro ⟨j, a, t⟩
              rw [hst] at a
              subst a
              exact t)
            refine ⟨m', start (f := fun k => prune_meet.l0 k ((s + 1 : Nat) : Int) l y) (fun k => ?_) e1, e2, c1, c2⟩
            rw [if_neg (by rw [he]; simp), if_neg h5, if_neg (by rw [hbr]; simp), wS s (by omega)]
          · have hst : ∀ j, Stp l s j ↔ (j = s + 1 + l[s].f1.toNat ∨ j = s + 1 + l[s].f2.toNat) := fun j => by
              constructor
              · rintro ⟨_, o, ho, rfl⟩
                rw [hit_br he hbr] at ho
                omega
              · rintro (rfl | rfl)
                · exact ⟨hs, _, (hit_br he hbr _).mpr (.inl (by omega)), rfl⟩
                · exact ⟨hs, _, (hit_br he hbr _).mpr (.inr (by omega)), rfl⟩
            have hj1 := stp_lt h ((hst _).mpr (.inl rfl))
            have hj2 := stp_lt h ((hst _).mpr (.inr rfl))
            obtain ⟨m1, d1, d2, d3, d4⟩ := ih (s + 1 + l[s].f1.toNat) y (s + 1) (by omega) hj1.2 hyl (by omega) hyc
            obtain ⟨m', e1, e2, e3, e4⟩ := ih (s + 1 + l[s].f2.toNat) m1 (s + 1) (by omega) hj2.2 d2 (by omega) d3
            obtain ⟨c1, c2⟩ := glue h hb hc e3 (fun i => by
              rw [e4 i, d4 i, hyi i, or_assoc, or_assoc]
              refine or_congr_right (or_congr_right ⟨?_, ?_⟩)
              · rintro (t | t)
                · exact ⟨_, (hst _).mpr (.inl rfl), t⟩
                · exact ⟨_, (hst _).mpr (.inr rfl), t⟩
              · rintro ⟨j, a, t⟩
                rw [hst] at a
                rcases a with rfl | rfl
                · exact .inl t
                · exact .inr t)
            refine ⟨m', start (f := fun k => (prune_meet.f k ((s + 1 + l[s].f1.toNat : Nat) : Int) l y).bind fun t => prune_meet.l0 k ((s + 1 + l[s].f2.toNat : Nat) : Int) l t) (fun k => ?_) (Ev.bind (Ev.step (fun k => by simp only [prune_meet.f]) d1) e1), e2, c1, c2⟩
            rw [if_neg (by rw [he]; simp), if_neg h5, if_pos hbr]
            rw [w64s (x := (s : Int) + 1) (by omega) (by omega), w64s (x := (s : Int) + 1 + l[s].f1) (by omega) (by omega), w64s (x := (s : Int) + l[s].f2) (by omega) (by omega), w64s (x := (s : Int) + l[s].f2 + 1) (by omega) (by omega)]
            rw [show (s : Int) + 1 + l[s].f1 = ((s + 1 + l[s].f1.toNat : Nat) : Int) by omega, show (s : Int) + l[s].f2 + 1 = ((s + 1 + l[s].f2.toNat : Nat) : Int) by omega]
      · have hst : ∀ j, ¬ Stp l s j := fun j => by
          rintro ⟨_, o, ho, rfl⟩
          rw [(hit_cases ho).1] at he
          cases he
        obtain ⟨c1, c2⟩ := glue h hb hc hyc (fun i => by
          rw [hyi i]
          refine or_congr_right ⟨.inl, ?_⟩
          rintro (t | ⟨j, a, _⟩)
          · exact t
          · exact absurd a (hst j))
        refine ⟨y, start (f := fun _ => some y) (fun k => if_pos he) (Ev.now _), hyl, c1, c2⟩
open Classical in
noncomputable def metL (l : List In) : List Bool := (List.range l.length).map fun i => decide (Rc l 0 i)
theorem metL_len (l : List In) : (metL l).length = l.length := by simp [metL]
theorem metL_at {l : List In} (h : Ok l) (h0 : l.length ≠ 0) (i : Nat) : (metL l).getD i false = true ↔ Rc l 0 i := by
  unfold metL
  rw [List.getD_eq_getElem?_getD]
  by_cases hi : i < l.length
  · simp [List.getElem?_map, List.getElem?_range hi]
  · rw [List.getElem?_eq_none (by simp; omega)]
    constructor
    · intro h; cases h
    · intro t; exact absurd (rc_lt h t (by omega)) hi
theorem metL_is {l : List In} (h : Ok l) (h0 : l.length ≠ 0) (m : List Bool) (hm : m.length = l.length) (e : ∀ i, m.getD i false = true ↔ Rc l 0 i) : m = metL l := by
  refine List.ext_getElem (by rw [hm, metL_len]) (fun i h1 h2 => ?_)
  have e1 := e i
  rw [← metL_at h h0 i, List.getD_eq_getElem?_getD, List.getD_eq_getElem?_getD, List.getElem?_eq_getElem h1, List.getElem?_eq_getElem h2] at e1
  simp only [Option.getD_some] at e1
  exact Bool.eq_iff_iff.mpr e1
theorem ok_ne {l : List In} (h : Ok l) : l.length ≠ 0 := ((sound_iff l).mp h.hs).1
theorem met_is {l : List In} (h : Ok l) : Ev (fun k => prune_Met.f k l) (metL l, 0) := by
  have h0 := ok_ne h
  have hl := h.hl
  unfold prune_Met.f
  refine Ev.bind (sound_is l hl h.hw) ?_
  rw [h.hs]
  refine Ev.congr (fun k => by rw [if_pos (by rfl), if_pos (by omega), if_pos (by omega)]) ?_
  obtain ⟨m', e1, e2, _, e4⟩ := meet_is h l.length 0 (List.replicate ((l.length : Int) : Int).toNat false) 0 (by omega) (by omega) (by simp) (Nat.le_refl _) (fun i j _ hm _ => by
    rw [List.getD_eq_getElem?_getD, List.getElem?_replicate] at hm
    split at hm <;> simp at hm)
  have : m' = metL l := metL_is h h0 m' e2 (fun i => by
    rw [e4 i]
    refine ⟨fun t => ?_, .inr⟩
    rcases t with t | t
    · rw [List.getD_eq_getElem?_getD, List.getElem?_replicate] at t
      split at t <;> simp at t
    · exact t)
  subst this
  refine Ev.bind (Ev.step (fun k => by simp only [prune_meet.f]; rfl) e1) (Ev.now _)
theorem met_not {l : List In} (hl : l.length < 100000) (hw : ∀ x ∈ l, Q.wfIns x) (hs : (chk l).2 ≠ 0) : Ev (fun k => prune_Met.f k l) ([], 1) := by
  unfold prune_Met.f
  refine Ev.bind (sound_is l hl hw) ?_
  rw [show ((chk l).2 == 0) = false from beq_eq_false_iff_ne.mpr hs]
  exact Ev.congr (fun k => if_neg (by simp)) (Ev.now _)
end Go.Proofs.YtohpbjnihmcelaaDoor.PruA
/- What prune.Prune leaves, and what the document leaves: the same. No condition but sizes far beyond the laws'. -/
namespace Go.Proofs.YtohpbjnihmcelaaDoor.PruB
set_option linter.unusedVariables false
set_option linter.unusedSimpArgs false
open Go.RowKit Go.Proofs.YtohpbjnihmcelaaDoorW.PrintWords Go.Proofs.YtohpbjnihmcelaaDoorW.PrintLast Go.Proofs.YtohpbjnihmcelaaDoorW.PrintMore Go.Proofs.YtohpbjnihmcelaaDoor.M Go.Proofs.YtohpbjnihmcelaaDoor.InsOps Go.Proofs.YtohpbjnihmcelaaDoor.RightB Go.Proofs.YtohpbjnihmcelaaDoor.ChkB Go.Proofs.YtohpbjnihmcelaaDoor.ChkN Go.Proofs.YtohpbjnihmcelaaDoor.PruA
def cnt (m : List Bool) (i : Nat) : Nat := (m.take i).count true
theorem cnt_zero (m : List Bool) : cnt m 0 = 0 := by simp [cnt]
theorem cnt_succ (m : List Bool) (i : Nat) (h : i < m.length) : cnt m (i + 1) = cnt m i + if m.getD i false = true then 1 else 0 := by
  unfold cnt
  rw [List.take_succ_eq_append_getElem h, List.count_append, List.getD_eq_getElem?_getD, List.getElem?_eq_getElem h]
  congr 1
  simp only [Option.getD_some]
  cases m[i] <;> simp
theorem cnt_le (m : List Bool) (i : Nat) : cnt m i ≤ i := by
  unfold cnt
  have h1 := List.count_le_length (a := true) (l := m.take i)
  have h2 := List.length_take (i := i) (l := m)
  omega
theorem cnt_mono (m : List Bool) {i j : Nat} (h : i ≤ j) : cnt m i ≤ cnt m j := by
  unfold cnt
  exact List.Sublist.count_le _ (List.take_sublist_take_left h)
def btw (m : List Bool) (a o : Nat) : Nat := cnt m (a + 1 + o) - cnt m (a + 1)
theorem btw_le (m : List Bool) (a o : Nat) : btw m a o ≤ a + 1 + o := by have := cnt_le m (a + 1 + o); unfold btw; omega
noncomputable def prI (m : List Bool) (x : In) (a : Nat) : In :=
  if x.f0 = 5 then ⟨x.f0, x.f1, x.f2, ((btw m a x.f3.toNat : Nat) : Int)⟩
  else if branchI x.f0 = true then ⟨x.f0, ((btw m a x.f1.toNat : Nat) : Int), ((btw m a x.f2.toNat : Nat) : Int), x.f3⟩ else x
noncomputable def prF (m : List Bool) (l : List In) : Nat → Nat → List In
  | _, 0 => []
  | a, d + 1 => (if m.getD a false = true then [prI m (l.getD a z45) a] else []) ++ prF m l (a + 1) d
noncomputable def prL (m : List Bool) (l : List In) : List In := prF m l 0 l.length
def nowL (m : List Bool) (a : Nat) : List Int := (List.range m.length).map fun i => if i < a then (cnt m i : Int) else 0
theorem nowL_len (m : List Bool) (a : Nat) : (nowL m a).length = m.length := by simp [nowL]
theorem nowL_set (m : List Bool) (a : Nat) : (nowL m a).set a (cnt m a : Int) = nowL m (a + 1) := by
  refine List.ext_getElem (by rw [List.length_set, nowL_len, nowL_len]) (fun i h1 h2 => ?_)
  rw [List.getElem_set]
  have hi : i < m.length := by rw [nowL_len] at h2; exact h2
  simp only [nowL, List.getElem_map, List.getElem_range]
  by_cases e : a = i
  · subst e
    rw [if_pos rfl, if_pos (by omega)]
  · rw [if_neg e]
    by_cases h : i < a
    · rw [if_pos h, if_pos (by omega)]
    · rw [if_neg h, if_neg (by omega)]
theorem rd_now (m : List Bool) (a i : Nat) (hi : i < m.length) (ha : i < a) : rd (nowL m a) (i : Int) = (cnt m i : Int) := by
  unfold rd nowL
  rw [List.getD_eq_getElem?_getD, Int.toNat_natCast, List.getElem?_map, List.getElem?_range hi]
  simp [ha]
theorem off_is (m : List Bool) (hm : m.length < 100000) (a o : Nat) (ha : m.getD a false = true) (h : a + 1 + o < m.length) : prune_off.f (nowL m m.length) (a : Int) (o : Int) = some ((btw m a o : Nat) : Int) := by
  have hc := cnt_succ m a (by omega)
  rw [if_pos ha] at hc
  have hmono := cnt_mono m (show a + 1 ≤ a + 1 + o by omega)
  have hle := cnt_le m (a + 1 + o)
  unfold prune_off.f
  rw [wS a (by omega), w64s (x := ((a + 1 : Nat) : Int) + (o : Int)) (by omega) (by omega), show ((a + 1 : Nat) : Int) + (o : Int) = ((a + 1 + o : Nat) : Int) by omega]
  rw [if_pos (by omega), if_pos (by rw [nowL_len]; omega), if_pos (by omega), if_pos (by rw [nowL_len]; omega), rd_now m _ _ h h, rd_now m _ a (by omega) (by omega)]
  rw [w64s (x := ((cnt m (a + 1 + o) : Nat) : Int) - (cnt m a : Int)) (by omega) (by omega), w64s (by omega) (by omega)]
  unfold btw
  congr 1
  omega
theorem now_from (l : List In) (m : List Bool) (hm : m.length < 100000) (r : List In × Int) (hr : Ev (fun k => prune_Prune.l1 k m [] (nowL m m.length) l (l.length : Int) 0) r) : ∀ (d a : Nat), a + d = m.length → Ev (fun k => prune_Prune.l0 k l m (cnt m a : Int) (nowL m a) m (m.length : Int) (a : Int)) r := by
  intro d
  induction d with
  | zero =>
    intro a h
    refine Ev.step (fun k => ?_) hr
    simp only [prune_Prune.l0]
    rw [if_neg (by omega), show a = m.length by omega]
  | succ d ih =>
    intro a h
    have hc := cnt_succ m a (by omega)
    have hle := cnt_le m a
    refine Ev.step (fun k => ?_) (ih (a + 1) (by omega))
    simp only [prune_Prune.l0]
    rw [if_pos (by omega), if_pos (by omega), if_pos (by omega), if_pos (by rw [nowL_len]; omega), Option.bind_some, rdB, Int.toNat_natCast, nowL_set, wS a (by omega), wS (cnt m a) (by omega)]
    cases hb : m.getD a false
    · rw [hb] at hc
      rw [if_neg Bool.false_ne_true, hc]
      simp
    · rw [hb] at hc
      rw [if_pos rfl, hc]
      simp
theorem ja_stp {l : List In} (h : Ok l) {a : Nat} (ha : a < l.length) (h5 : l[a].f0 = 5) : a + 1 + l[a].f3.toNat < l.length := by
  have g := u32_range (h.hw _ (List.getElem_mem ha)).2.2.2
  have he : endI l[a] = false := by unfold endI; rw [h5]; rfl
  exact (stp_lt h ⟨ha, _, (hit_ja he h5 _).mpr (by omega), rfl⟩).2
theorem br_stp {l : List In} (h : Ok l) {a : Nat} (ha : a < l.length) (hb : branchI l[a].f0 = true) : a + 1 + l[a].f1.toNat < l.length ∧ a + 1 + l[a].f2.toNat < l.length ∧ 0 ≤ l[a].f1 ∧ 0 ≤ l[a].f2 := by
  obtain ⟨g1, g2, g3, g4, g5, g6⟩ := good_small (sound_at l h.hw h.hs a ha).1
  have he := (br_end hb).1
  exact ⟨(stp_lt h ⟨ha, _, (hit_br he hb _).mpr (.inl (by omega)), rfl⟩).2, (stp_lt h ⟨ha, _, (hit_br he hb _).mpr (.inr (by omega)), rfl⟩).2, g1, g3⟩
theorem out_from {l : List In} (h : Ok l) (m : List Bool) (hm : m.length = l.length) : ∀ (d a : Nat) (acc : List In), a + d = l.length → acc.length ≤ a → Ev (fun k => prune_Prune.l1 k m acc (nowL m m.length) l (l.length : Int) (a : Int)) (acc ++ prF m l a d, 0) := by
  have hl := h.hl
  intro d
  induction d with
  | zero =>
    intro a acc ha hacc
    refine Ev.step (f := fun _ => some (acc, 0)) (fun k => ?_) (by rw [prF, List.append_nil]; exact Ev.now _)
    simp only [prune_Prune.l1]
    rw [if_neg (by omega)]
  | succ d ih =>
    intro a acc ha hacc
    have hal : a < l.length := by omega
    have hgd : l.getD a z45 = l[a] := by rw [List.getD_eq_getElem?_getD, List.getElem?_eq_getElem hal]; rfl
    have g := u32_range (h.hw _ (List.getElem_mem hal)).2.2.2
    rw [prF, hgd]
    cases hb : m.getD a false
    · have := ih (a + 1) acc (by omega) (by omega)
      simp only [Bool.false_eq_true, if_false, List.nil_append]
      refine Ev.step (fun k => ?_) this
      simp only [prune_Prune.l1]
      rw [if_pos (by omega), if_pos (by omega), if_pos (by omega), if_pos (by omega), rdB, hb, if_neg Bool.false_ne_true, wS a (by omega)]
    · have := ih (a + 1) (acc ++ [prI m l[a] a]) (by omega) (by rw [List.length_append]; simp; omega)
      rw [if_pos rfl, ← List.append_assoc]
      refine Ev.step (fun k => ?_) this
      simp only [prune_Prune.l1]
      rw [if_pos (by omega), if_pos (by omega), if_pos (by omega), if_pos (by omega), rdB, hb, if_pos rfl, rd_at l a hal, wS a (by omega)]
      unfold prI
      by_cases h5 : l[a].f0 = 5
      · have hs := ja_stp h hal h5
        have e := off_is m (by omega) a l[a].f3.toNat hb (by omega)
        rw [show ((l[a].f3.toNat : Nat) : Int) = l[a].f3 by omega] at e
        have hbl := btw_le m a l[a].f3.toNat
        rw [if_pos h5, w64s (x := l[a].f3) (by omega) (by omega), e, Option.bind_some, if_pos (by omega), if_pos h5, show ((btw m a l[a].f3.toNat : Nat) : Int) % 4294967296 = ((btw m a l[a].f3.toNat : Nat) : Int) by omega]
      · rw [if_neg h5, if_neg h5, branchI_is, Option.bind_some]
        cases hbr : branchI l[a].f0
        · rw [if_neg Bool.false_ne_true, if_neg Bool.false_ne_true, if_pos (by omega)]
        · obtain ⟨s1, s2, s3, s4⟩ := br_stp h hal hbr
          have e1 := off_is m (by omega) a l[a].f1.toNat hb (by omega)
          have e2 := off_is m (by omega) a l[a].f2.toNat hb (by omega)
          rw [show ((l[a].f1.toNat : Nat) : Int) = l[a].f1 by omega] at e1
          rw [show ((l[a].f2.toNat : Nat) : Int) = l[a].f2 by omega] at e2
          rw [if_pos rfl, if_pos rfl, e1, Option.bind_some, e2, Option.bind_some, if_pos (by omega)]
theorem prune_is {l : List In} (h : Ok l) : Ev (fun k => prune_Prune.f k l) (prL (metL l) l, 0) := by
  have hl := h.hl
  unfold prune_Prune.f
  refine Ev.bind (met_is h) ?_
  refine Ev.congr (fun k => by rw [if_pos rfl, if_pos (by omega), if_pos (by omega)]) ?_
  have e0 : (List.replicate ((l.length : Int) : Int).toNat 0 : List Int) = nowL (metL l) 0 := by
    refine List.ext_getElem (by rw [nowL_len, metL_len]; simp) (fun i h1 h2 => by simp [nowL])
  rw [e0]
  have := now_from l (metL l) (by rw [metL_len]; exact hl) _ (out_from h (metL l) (metL_len l) l.length 0 [] (by omega) (Nat.le_refl _)) (metL l).length 0 (by omega)
  rw [cnt_zero] at this
  exact this
theorem prune_not {l : List In} (hl : l.length < 100000) (hw : ∀ x ∈ l, Q.wfIns x) (hs : (chk l).2 ≠ 0) : Ev (fun k => prune_Prune.f k l) ([], 1) := by
  unfold prune_Prune.f
  refine Ev.bind (met_not hl hw hs) ?_
  exact Ev.congr (fun k => if_neg (show ¬ ((1 : Int) = 0) by omega)) (Ev.now _)
theorem prF_len (m : List Bool) (l : List In) : ∀ (d a : Nat), (prF m l a d).length ≤ d
  | 0, a => by simp [prF]
  | d + 1, a => by
    have := prF_len m l d (a + 1)
    unfold prF
    rw [List.length_append]
    split
    · simp; omega
    · simp; omega
end Go.Proofs.YtohpbjnihmcelaaDoor.PruB
/- What is pruned is sound, all its places are come to, and to prune it again changes nothing. No condition but sizes far beyond the laws'. -/
namespace Go.Proofs.YtohpbjnihmcelaaDoor.PruS
set_option linter.unusedVariables false
set_option linter.unusedSimpArgs false
open Go.RowKit Go.Proofs.YtohpbjnihmcelaaDoorW.PrintWords Go.Proofs.YtohpbjnihmcelaaDoorW.PrintLast Go.Proofs.YtohpbjnihmcelaaDoorW.PrintMore Go.Proofs.YtohpbjnihmcelaaDoor.M Go.Proofs.YtohpbjnihmcelaaDoor.InsOps Go.Proofs.YtohpbjnihmcelaaDoor.RightB Go.Proofs.YtohpbjnihmcelaaDoor.ChkB Go.Proofs.YtohpbjnihmcelaaDoor.ChkN Go.Proofs.YtohpbjnihmcelaaDoor.PruA Go.Proofs.YtohpbjnihmcelaaDoor.PruB
theorem cnt_met {m : List Bool} {a : Nat} (h : m.getD a false = true) (ha : a < m.length) : cnt m (a + 1) = cnt m a + 1 := by rw [cnt_succ m a ha, if_pos h]
theorem cnt_not {m : List Bool} {a : Nat} (h : m.getD a false = false) (ha : a < m.length) : cnt m (a + 1) = cnt m a := by rw [cnt_succ m a ha, h]; rfl
theorem cnt_add (m : List Bool) (i o : Nat) : cnt m (i + o) ≤ cnt m i + o := by
  unfold cnt
  rw [List.take_add, List.count_append]
  have h1 := List.count_le_length (a := true) (l := (m.drop i).take o)
  have h2 := List.length_take (i := o) (l := m.drop i)
  omega
theorem btw_o (m : List Bool) (a o : Nat) : btw m a o ≤ o := by have := cnt_add m (a + 1) o; unfold btw; omega
theorem prF_len_eq (m : List Bool) (l : List In) (hm : m.length = l.length) : ∀ (d a : Nat), a + d = l.length → (prF m l a d).length = cnt m l.length - cnt m a := by
  intro d
  induction d with
  | zero => intro a h; rw [prF, show a = l.length by omega]; simp
  | succ d ih =>
    intro a h
    have hmono := cnt_mono m (show a + 1 ≤ l.length by omega)
    rw [prF, List.length_append, ih (a + 1) (by omega)]
    cases hb : m.getD a false
    · rw [cnt_not hb (by omega)] at hmono ⊢
      simp
    · rw [cnt_met hb (by omega)] at hmono ⊢
      rw [if_pos rfl, List.length_singleton]
      omega
theorem prF_get (m : List Bool) (l : List In) (hm : m.length = l.length) : ∀ (d a : Nat), a + d = l.length → ∀ i, a ≤ i → i < l.length → m.getD i false = true → (prF m l a d)[cnt m i - cnt m a]? = some (prI m (l.getD i z45) i) := by
  intro d
  induction d with
  | zero => intro a h i h1 h2; omega
  | succ d ih =>
    intro a h i h1 h2 hi
    rw [prF]
    cases hb : m.getD a false
    · have hne : i ≠ a := fun e => by rw [e, hb] at hi; cases hi
      have := ih (a + 1) (by omega) i (by omega) h2 hi
      rw [cnt_not hb (by omega)] at this
      simpa using this
    · rw [if_pos rfl]
      by_cases e : i = a
      · subst e
        rw [Nat.sub_self]
        rfl
      · have := ih (a + 1) (by omega) i (by omega) h2 hi
        have hmono := cnt_mono m (show a + 1 ≤ i by omega)
        rw [cnt_met hb (by omega)] at this hmono
        rw [show cnt m i - cnt m a = (cnt m i - (cnt m a + 1)) + 1 by omega, List.singleton_append, List.getElem?_cons_succ]
        exact this
theorem cnt_surj (m : List Bool) : ∀ (n q : Nat), n ≤ m.length → q < cnt m n → ∃ i, i < n ∧ m.getD i false = true ∧ cnt m i = q := by
  intro n
  induction n with
  | zero => intro q _ h; rw [cnt_zero] at h; omega
  | succ n ih =>
    intro q hn h
    cases hb : m.getD n false
    · rw [cnt_not hb (by omega)] at h
      obtain ⟨i, h1, h2⟩ := ih q (by omega) h
      exact ⟨i, by omega, h2⟩
    · rw [cnt_met hb (by omega)] at h
      by_cases hq : q < cnt m n
      · obtain ⟨i, h1, h2⟩ := ih q (by omega) hq
        exact ⟨i, by omega, h2⟩
      · exact ⟨n, by omega, hb, by omega⟩
theorem prI_f0 (m : List Bool) (x : In) (a : Nat) : (prI m x a).f0 = x.f0 := by
  unfold prI
  split
  · rfl
  · split <;> rfl
theorem prI_end (m : List Bool) (x : In) (a : Nat) : endI (prI m x a) = endI x := by unfold endI; rw [prI_f0]
theorem prI_hit (m : List Bool) (x : In) (a o : Nat) (h : hit x o = true) : hit (prI m x a) (btw m a o) = true := by
  obtain ⟨he, hc⟩ := hit_cases h
  have he2 : endI (prI m x a) = false := by rw [prI_end, he]
  rcases hc with ⟨hb, hc⟩ | ⟨hb, h5, hc⟩ | ⟨hb, h5, hc⟩
  · rw [hit_br he2 (by rw [prI_f0]; exact hb)]
    unfold prI
    rw [if_neg (br_end hb).2, if_pos hb]
    rcases hc with hc | hc
    · left; rw [← hc]; rfl
    · right; rw [← hc]; rfl
  · rw [hit_ja he2 (by rw [prI_f0]; exact h5)]
    unfold prI
    rw [if_pos h5, ← hc]
    rfl
  · rw [hit_on he2 (by rw [prI_f0]; exact h5) (by rw [prI_f0]; exact hb), hc]
    unfold btw
    exact Nat.sub_self _
theorem wf_i64 (n : Nat) (h : n < 100000) : (Lit.int .i64 (n : Int)).wf = true := by
  simp [Lit.wf, IntKind.min, IntKind.max, IntKind.signed, IntKind.bits]
  omega
theorem wf_u32 (n : Nat) (h : n < 100000) : (Lit.int .u32 (n : Int)).wf = true := by
  simp [Lit.wf, IntKind.min, IntKind.max, IntKind.signed, IntKind.bits]
  omega
theorem hit_ex {x : In} (hg : GoodI x) (he : endI x = false) : ∃ o, hit x o = true := by
  obtain ⟨g1, g2, g3, g4, g5, g6⟩ := good_small hg
  by_cases h5 : x.f0 = 5
  · exact ⟨x.f3.toNat, (hit_ja he h5 _).mpr (by omega)⟩
  · cases hb : branchI x.f0
    · exact ⟨0, (hit_on he h5 hb _).mpr rfl⟩
    · exact ⟨x.f1.toNat, (hit_br he hb _).mpr (.inl (by omega))⟩
theorem g_len {l : List In} (h : Ok l) : (prL (metL l) l).length = cnt (metL l) l.length := by
  unfold prL
  rw [prF_len_eq _ _ (metL_len l) _ _ (by omega), cnt_zero, Nat.sub_zero]
section
variable {l : List In} (h : Ok l)
include h
theorem met_lt {j : Nat} (hj : Rc l 0 j) : j < l.length ∧ cnt (metL l) j < cnt (metL l) l.length := by
  have h0 := ok_ne h
  have hlt := rc_lt h hj (by omega)
  have := cnt_met ((metL_at h h0 j).mpr hj) (by rw [metL_len]; exact hlt)
  have := cnt_mono (metL l) (show j + 1 ≤ l.length by omega)
  exact ⟨hlt, by omega⟩
theorem g_get {i : Nat} (hi : Rc l 0 i) : ∃ hl : i < l.length, (prL (metL l) l)[cnt (metL l) i]? = some (prI (metL l) l[i] i) := by
  have h0 := ok_ne h
  have hlt := rc_lt h hi (by omega)
  refine ⟨hlt, ?_⟩
  have := prF_get (metL l) l (metL_len l) l.length 0 (by omega) i (by omega) hlt ((metL_at h h0 i).mpr hi)
  rw [cnt_zero, Nat.sub_zero, List.getD_eq_getElem?_getD, List.getElem?_eq_getElem hlt] at this
  exact this
theorem g_all {q : Nat} (hq : q < (prL (metL l) l).length) : ∃ i, Rc l 0 i ∧ cnt (metL l) i = q := by
  rw [g_len h] at hq
  obtain ⟨i, h1, h2, h3⟩ := cnt_surj (metL l) l.length q (by rw [metL_len]; exact Nat.le_refl _) hq
  exact ⟨i, (metL_at h (ok_ne h) i).mp h2, h3⟩
theorem cnt_step {i o : Nat} (hi : Rc l 0 i) (hs : Stp l i (i + 1 + o)) : cnt (metL l) (i + 1 + o) = cnt (metL l) i + 1 + btw (metL l) i o := by
  have hlt := rc_lt h hi (by have := ok_ne h; omega)
  have h1 := cnt_met ((metL_at h (ok_ne h) i).mpr hi) (by rw [metL_len]; exact hlt)
  have h2 := cnt_mono (metL l) (show i + 1 ≤ i + 1 + o by omega)
  unfold btw
  omega
theorem g_stp {i j : Nat} (hi : Rc l 0 i) (hs : Stp l i j) : Stp (prL (metL l) l) (cnt (metL l) i) (cnt (metL l) j) := by
  obtain ⟨hlt, hg⟩ := g_get h hi
  obtain ⟨hq, e⟩ := List.getElem?_eq_some_iff.1 hg
  have hs2 := hs
  obtain ⟨_, o, ho, rfl⟩ := hs
  exact ⟨hq, btw (metL l) i o, by rw [e]; exact prI_hit _ _ _ _ ho, cnt_step h hi hs2⟩
theorem g_rc {s i : Nat} (t : Rc l s i) (hs : Rc l 0 s) : Rc (prL (metL l) l) (cnt (metL l) s) (cnt (metL l) i) := by
  induction t with
  | refl => exact .refl _
  | step a _ ih => exact .step (g_stp h hs a) (ih (rc_snoc hs a))
theorem g_room {i o : Nat} (hi : Rc l 0 i) (hs : Stp l i (i + 1 + o)) : btw (metL l) i o < cnt (metL l) l.length - 1 - cnt (metL l) i ∧ cnt (metL l) i < cnt (metL l) l.length := by
  have h1 := cnt_step h hi hs
  have h2 := (met_lt h (rc_snoc hi hs)).2
  omega
theorem g_one {i : Nat} (hi : Rc l 0 i) : ∃ hl : i < l.length, one (prI (metL l) l[i] i) (((prL (metL l) l).length : Int) - 1 - (cnt (metL l) i : Int)) = 0 ∧ Q.wfIns (prI (metL l) l[i] i) := by
  have h0 := ok_ne h
  have hll := h.hl
  have hlt := rc_lt h hi (by omega)
  refine ⟨hlt, ?_⟩
  have hw := h.hw _ (List.getElem_mem hlt)
  obtain ⟨_, _, h3, _⟩ := (sound_iff l).mp h.hs
  have h1 := h3 i hlt
  have hE : check_ruleE l[i].f0 l[i].f3 = 0 ∧ rt l[i] = true := by
    unfold one at h1
    cases hr : rt l[i]
    · rw [hr] at h1; simp at h1
    · rw [hr] at h1
      simp only [if_true] at h1
      split at h1
      · rename_i hE; exact ⟨hE, rfl⟩
      · rename_i hE; exact absurd h1 hE
  obtain ⟨hE, hrt⟩ := hE
  have hgood := (sound_at l h.hw h.hs i hlt).1
  obtain ⟨g1, g2, g3, g4, g5, g6⟩ := good_small hgood
  obtain ⟨idx, ja, jb, jc, hidx, hop, e1, e2, e3, l1, l2, l3, hright⟩ := hgood
  rw [g_len h]
  have hcl := (met_lt h hi).2
  unfold prI
  by_cases h5 : l[i].f0 = 5
  · have hs : Stp l i (i + 1 + l[i].f3.toNat) := ⟨hlt, _, (hit_ja (by unfold endI; rw [h5]; rfl) h5 _).mpr (by omega), rfl⟩
    have hroom := (g_room h hi hs).1
    have hbl := btw_o (metL l) i l[i].f3.toNat
    have hsl := (stp_lt h hs).2
    rw [if_pos h5]
    refine ⟨?_, hw.1, hw.2.1, hw.2.2.1, wf_u32 _ (by omega)⟩
    have hrt2 : rt (⟨l[i].f0, l[i].f1, l[i].f2, ((btw (metL l) i l[i].f3.toNat : Nat) : Int)⟩ : In) = true := by
      unfold rt
      show rightI l[i].f0 l[i].f1 l[i].f2 ((btw (metL l) i l[i].f3.toNat : Nat) : Int) = true
      rw [(rightI_row hidx hop _ _ _).1]
      unfold right at hright ⊢
      rw [← e1, ← e2] at hright
      simp only [Bool.and_eq_true, Bool.or_eq_true] at hright ⊢
      refine ⟨?_, hright.2⟩
      rcases hright.1 with hk | hk
      · exact .inl hk
      · right
        have hz : l[i].f3.toNat = 0 := by simp only [beq_iff_eq] at hk; omega
        rw [hz] at hbl ⊢
        rw [beq_iff_eq]
        omega
    unfold one
    rw [if_pos hrt2]
    have hE2 : check_ruleE l[i].f0 ((btw (metL l) i l[i].f3.toNat : Nat) : Int) = 0 := by rw [h5]; unfold check_ruleE; simp
    rw [if_pos hE2]
    have hfar : far (⟨l[i].f0, l[i].f1, l[i].f2, ((btw (metL l) i l[i].f3.toNat : Nat) : Int)⟩ : In) (((cnt (metL l) l.length : Nat) : Int) - 1 - (cnt (metL l) i : Int)) = false := by
      unfold far
      rw [if_pos h5]
      exact decide_eq_false (by show ¬ _ ≤ ((btw (metL l) i l[i].f3.toNat : Nat) : Int); omega)
    rw [hfar, if_neg Bool.false_ne_true]
  · rw [if_neg h5]
    cases hb : branchI l[i].f0
    · rw [if_neg Bool.false_ne_true]
      refine ⟨?_, hw⟩
      unfold one
      rw [if_pos hrt, if_pos hE]
      have hfar : far l[i] (((cnt (metL l) l.length : Nat) : Int) - 1 - (cnt (metL l) i : Int)) = false := by
        unfold far
        rw [if_neg h5, hb]
        rfl
      rw [hfar, if_neg Bool.false_ne_true]
    · have he := (br_end hb).1
      have hs1 : Stp l i (i + 1 + l[i].f1.toNat) := ⟨hlt, _, (hit_br he hb _).mpr (.inl (by omega)), rfl⟩
      have hs2 : Stp l i (i + 1 + l[i].f2.toNat) := ⟨hlt, _, (hit_br he hb _).mpr (.inr (by omega)), rfl⟩
      have hr1 := (g_room h hi hs1).1
      have hr2 := (g_room h hi hs2).1
      have hb1 := btw_o (metL l) i l[i].f1.toNat
      have hb2 := btw_o (metL l) i l[i].f2.toNat
      rw [if_pos rfl]
      refine ⟨?_, hw.1, wf_i64 _ (by omega), wf_i64 _ (by omega), hw.2.2.2⟩
      have hW : hasW idx = true := by rw [← (rightI_row hidx hop 0 0 0).2]; exact hb
      have hrt2 : rt (⟨l[i].f0, ((btw (metL l) i l[i].f1.toNat : Nat) : Int), ((btw (metL l) i l[i].f2.toNat : Nat) : Int), l[i].f3⟩ : In) = true := by
        unfold rt
        show rightI l[i].f0 ((btw (metL l) i l[i].f1.toNat : Nat) : Int) ((btw (metL l) i l[i].f2.toNat : Nat) : Int) l[i].f3 = true
        rw [(rightI_row hidx hop _ _ _).1]
        unfold right at hright ⊢
        rw [← e3, hW] at hright
        rw [hW]
        simp only [Bool.and_eq_true, if_true, decide_eq_true_eq] at hright ⊢
        exact ⟨hright.1, ⟨by omega, by omega⟩, by omega, by omega⟩
      unfold one
      rw [if_pos hrt2, if_pos (show check_ruleE l[i].f0 l[i].f3 = 0 from hE)]
      have hfar : far (⟨l[i].f0, ((btw (metL l) i l[i].f1.toNat : Nat) : Int), ((btw (metL l) i l[i].f2.toNat : Nat) : Int), l[i].f3⟩ : In) (((cnt (metL l) l.length : Nat) : Int) - 1 - (cnt (metL l) i : Int)) = false := by
        unfold far
        rw [if_neg h5]
        show (branchI l[i].f0 && (decide (_ ≤ ((btw (metL l) i l[i].f1.toNat : Nat) : Int)) || decide (_ ≤ ((btw (metL l) i l[i].f2.toNat : Nat) : Int)))) = false
        rw [hb, decide_eq_false (by omega), decide_eq_false (by omega)]
        rfl
      rw [hfar, if_neg Bool.false_ne_true]
theorem g_ok : Ok (prL (metL l) l) := by
  have h0 := ok_ne h
  have hl := h.hl
  have hglen := g_len h
  have hle := cnt_le (metL l) l.length
  have hpos := (met_lt h (.refl 0)).2
  have h4096 := ((sound_iff l).mp h.hs).2.1
  refine ⟨by omega, fun x hx => ?_, (sound_iff _).mpr ⟨by omega, by omega, fun q hq => ?_, ?_⟩⟩
  · obtain ⟨q, hq, rfl⟩ := List.getElem_of_mem hx
    obtain ⟨i, hi, rfl⟩ := g_all h hq
    obtain ⟨_, hg⟩ := g_get h hi
    obtain ⟨_, e⟩ := List.getElem?_eq_some_iff.1 hg
    obtain ⟨_, _, hw⟩ := g_one h hi
    rw [e]
    exact hw
  · obtain ⟨i, hi, rfl⟩ := g_all h hq
    obtain ⟨_, hg⟩ := g_get h hi
    obtain ⟨_, e⟩ := List.getElem?_eq_some_iff.1 hg
    obtain ⟨_, ho, _⟩ := g_one h hi
    rw [e]
    exact ho
  · obtain ⟨i, hi, hc⟩ := g_all h (q := (prL (metL l) l).length - 1) (by omega)
    obtain ⟨hlt, hg⟩ := g_get h hi
    rw [← hc, List.getD_eq_getElem?_getD, hg, Option.getD_some, prI_end]
    cases he : endI l[i]
    · exfalso
      obtain ⟨o, ho⟩ := hit_ex (sound_at l h.hw h.hs i hlt).1 he
      have hs : Stp l i (i + 1 + o) := ⟨hlt, o, ho, rfl⟩
      have h1 := cnt_step h hi hs
      have h2 := (met_lt h (rc_snoc hi hs)).2
      omega
    · rfl
theorem g_met : metL (prL (metL l) l) = List.replicate (prL (metL l) l).length true := by
  refine (metL_is (g_ok h) (ok_ne (g_ok h)) _ (by simp) (fun q => ?_)).symm
  rw [List.getD_eq_getElem?_getD, List.getElem?_replicate]
  have key : q < (prL (metL l) l).length → Rc (prL (metL l) l) 0 q := fun hq => by
    obtain ⟨i, hi, rfl⟩ := g_all h hq
    have := g_rc h hi (.refl 0)
    rw [cnt_zero] at this
    exact this
  constructor
  · intro t
    split at t
    · rename_i hq; exact key hq
    · cases t
  · intro t
    have := rc_lt (g_ok h) t (by have := ok_ne (g_ok h); omega)
    rw [if_pos this]
    rfl
end
theorem cnt_true (n i : Nat) (h : i ≤ n) : cnt (List.replicate n true) i = i := by
  unfold cnt
  rw [List.take_replicate, List.count_replicate]
  simp
  omega
theorem btw_true (n a o : Nat) (h : a + 1 + o ≤ n) : btw (List.replicate n true) a o = o := by
  unfold btw
  rw [cnt_true _ _ h, cnt_true _ _ (by omega)]
  omega
theorem prF_true {g : List In} (h : Ok g) : ∀ (d a : Nat), a + d = g.length → prF (List.replicate g.length true) g a d = g.drop a := by
  intro d
  induction d with
  | zero => intro a ha; rw [prF, List.drop_of_length_le (by omega)]
  | succ d ih =>
    intro a ha
    have hal : a < g.length := by omega
    rw [prF, ih (a + 1) (by omega), drop_at g a hal]
    have hb : (List.replicate g.length true).getD a false = true := by
      rw [List.getD_eq_getElem?_getD, List.getElem?_replicate, if_pos hal]
      rfl
    rw [if_pos hb, List.singleton_append]
    congr 1
    rw [List.getD_eq_getElem?_getD, List.getElem?_eq_getElem hal, Option.getD_some]
    unfold prI
    have g1 := u32_range (h.hw _ (List.getElem_mem hal)).2.2.2
    by_cases h5 : g[a].f0 = 5
    · have hs := ja_stp h hal h5
      rw [if_pos h5, btw_true _ _ _ (by omega), show ((g[a].f3.toNat : Nat) : Int) = g[a].f3 by omega]
    · rw [if_neg h5]
      cases hb2 : branchI g[a].f0
      · rfl
      · obtain ⟨s1, s2, s3, s4⟩ := br_stp h hal hb2
        rw [if_pos rfl, btw_true _ _ _ (by omega), btw_true _ _ _ (by omega), show ((g[a].f1.toNat : Nat) : Int) = g[a].f1 by omega, show ((g[a].f2.toNat : Nat) : Int) = g[a].f2 by omega]
theorem g_again {l : List In} (h : Ok l) : prL (metL (prL (metL l) l)) (prL (metL l) l) = prL (metL l) l := by
  rw [g_met h]
  have := prF_true (g_ok h) (prL (metL l) l).length 0 (by omega)
  rw [List.drop_zero] at this
  exact this
end Go.Proofs.YtohpbjnihmcelaaDoor.PruS
/- The document's examples of what is pruned hold. No condition. -/
namespace Go.Proofs.YtohpbjnihmcelaaDoor.PruK
open Go.RowKit Go.Proofs.YtohpbjnihmcelaaDoorW.PrintWords Go.Proofs.YtohpbjnihmcelaaDoorW.PrintLast Go.Proofs.YtohpbjnihmcelaaDoorW.PrintMore Go.Proofs.YtohpbjnihmcelaaDoor.M
theorem knows_is : Ev (fun k => l23_knows.f k) true := Ev.of l23_knows.mono (k := 80) (by decide +kernel)
end Go.Proofs.YtohpbjnihmcelaaDoor.PruK
