/- What prune.Met goes over, and what the document's one pass tells: the same places. No condition but sizes far beyond the laws'. -/
import Derived.Test.YtohpbjnihmcelaaDoorChkA
import Derived.Test.YtohpbjnihmcelaaDoorM7
import Derived.Test.YtohpbjnihmcelaaDoorM19
import Derived.Test.YtohpbjnihmcelaaDoorM8
import Derived.Test.YtohpbjnihmcelaaDoorM21
import Derived.Test.YtohpbjnihmcelaaDoorM22
import Derived.Test.YtohpbjnihmcelaaDoorM12
namespace Go.Proofs.YtohpbjnihmcelaaDoor.PruA
set_option linter.unusedVariables false
set_option linter.unusedSimpArgs false
open Go.RowKit Go.Proofs.YtohpbjnihmcelaaDoorW.PrintWords Go.Proofs.YtohpbjnihmcelaaDoorW.PrintLast Go.Proofs.YtohpbjnihmcelaaDoorW.PrintMore Go.Proofs.YtohpbjnihmcelaaDoor.M Go.Proofs.YtohpbjnihmcelaaDoor.InsOps Go.Proofs.YtohpbjnihmcelaaDoor.RightB Go.Proofs.YtohpbjnihmcelaaDoor.ChkB Go.Proofs.YtohpbjnihmcelaaDoor.ChkN

/-- A step of a run. -/
def Stp (l : List In) (s j : Nat) : Prop := ∃ h : s < l.length, ∃ o, hit l[s] o = true ∧ j = s + 1 + o
/-- To come from one place to another. -/
inductive Rc (l : List In) : Nat → Nat → Prop
  | refl (s : Nat) : Rc l s s
  | step {s j i : Nat} : Stp l s j → Rc l j i → Rc l s i
structure Ok (l : List In) : Prop where
  hl : l.length < 100000
  hw : ∀ x ∈ l, Q.wfIns x
  hs : (chk l).2 = 0
theorem hit_cases {x : In} {o : Nat} (h : hit x o = true) : endI x = false ∧ ((branchI x.f0 = true ∧ ((o : Int) = x.f1 ∨ (o : Int) = x.f2)) ∨ (branchI x.f0 = false ∧ x.f0 = 5 ∧ (o : Int) = x.f3) ∨ (branchI x.f0 = false ∧ x.f0 ≠ 5 ∧ o = 0)) := by
  unfold hit at h
  simp only [Bool.and_eq_true, Bool.not_eq_true'] at h
  refine ⟨h.1, ?_⟩
  have h2 := h.2
  cases hb : branchI x.f0
  · rw [hb] at h2
    simp only [Bool.false_eq_true, if_false] at h2
    by_cases h5 : x.f0 = 5
    · rw [if_pos h5] at h2
      exact .inr (.inl ⟨rfl, h5, of_decide_eq_true h2⟩)
    · rw [if_neg h5] at h2
      exact .inr (.inr ⟨rfl, h5, by simpa using h2⟩)
  · rw [hb] at h2
    simp only [if_true, Bool.or_eq_true, decide_eq_true_eq] at h2
    exact .inl ⟨rfl, h2⟩
theorem hit_ja {x : In} (he : endI x = false) (h5 : x.f0 = 5) (o : Nat) : hit x o = true ↔ (o : Int) = x.f3 := by
  have hb : branchI x.f0 = false := by rw [h5]; exact branch_5
  unfold hit
  rw [he, hb]
  simp [h5]
theorem hit_br {x : In} (he : endI x = false) (hb : branchI x.f0 = true) (o : Nat) : hit x o = true ↔ (o : Int) = x.f1 ∨ (o : Int) = x.f2 := by
  unfold hit
  rw [he, hb]
  simp
theorem hit_on {x : In} (he : endI x = false) (h5 : x.f0 ≠ 5) (hb : branchI x.f0 = false) (o : Nat) : hit x o = true ↔ o = 0 := by
  unfold hit
  rw [he, hb]
  simp [h5]
theorem br_end {x : In} (hb : branchI x.f0 = true) : endI x = false ∧ x.f0 ≠ 5 := by
  refine ⟨?_, fun h => by rw [h, branch_5] at hb; cases hb⟩
  unfold endI
  simp only [Bool.or_eq_false_iff, beq_eq_false_iff_ne]
  exact ⟨fun h => (by rw [h, branch_6] at hb; cases hb), fun h => (by rw [h, branch_22] at hb; cases hb)⟩
theorem stp_lt {l : List In} (h : Ok l) {s j : Nat} (t : Stp l s j) : s < j ∧ j < l.length := by
  obtain ⟨hs, o, ho, rfl⟩ := t
  refine ⟨by omega, ?_⟩
  obtain ⟨h1, h2, h3, h4⟩ := (sound_iff l).mp h.hs
  obtain ⟨hg, hf⟩ := one_zero (h.hw _ (List.getElem_mem hs)) (h3 s hs)
  obtain ⟨he, hc⟩ := hit_cases ho
  unfold far at hf
  rcases hc with ⟨hb, hc⟩ | ⟨hb, h5, hc⟩ | ⟨hb, h5, hc⟩
  · rw [if_neg (br_end hb).2, hb] at hf
    simp only [Bool.true_and, Bool.or_eq_false_iff, decide_eq_false_iff_not] at hf
    omega
  · rw [if_pos h5] at hf
    simp only [decide_eq_false_iff_not] at hf
    omega
  · by_cases hl : s = l.length - 1
    · exfalso
      rw [List.getD_eq_getElem?_getD, List.getElem?_eq_getElem (by omega)] at h4
      simp only [Option.getD_some] at h4
      have : l[s] = l[l.length - 1] := by congr 1
      rw [this, h4] at he
      cases he
    · omega
theorem rc_le {l : List In} (h : Ok l) {s i : Nat} (t : Rc l s i) : s ≤ i := by
  induction t with
  | refl => exact Nat.le_refl _
  | step a _ ih => have := stp_lt h a; omega
theorem rc_lt {l : List In} (h : Ok l) {s i : Nat} (t : Rc l s i) (hs : s < l.length) : i < l.length := by
  induction t with
  | refl => exact hs
  | step a _ ih => exact ih (stp_lt h a).2
theorem rc_snoc {l : List In} {s i j : Nat} (t : Rc l s i) (a : Stp l i j) : Rc l s j := by
  induction t with
  | refl => exact .step a (.refl _)
  | step b _ ih => exact .step b (ih a)
theorem rc_cases {l : List In} {s i : Nat} : Rc l s i ↔ i = s ∨ ∃ j, Stp l s j ∧ Rc l j i :=
  ⟨fun t => by cases t with
    | refl => exact .inl rfl
    | step a b => exact .inr ⟨_, a, b⟩,
   fun t => by
    rcases t with rfl | ⟨j, a, b⟩
    · exact .refl _
    · exact .step a b⟩
/-- Closed from a place on. -/
def Cl (l : List In) (m : List Bool) (b : Nat) : Prop := ∀ i j, b ≤ i → m.getD i false = true → Stp l i j → m.getD j false = true
theorem cl_rc {l : List In} (h : Ok l) {m : List Bool} {b s i : Nat} (c : Cl l m b) (hb : b ≤ s) (hm : m.getD s false = true) (t : Rc l s i) : m.getD i false = true := by
  induction t with
  | refl => exact hm
  | step a _ ih => exact ih (by have := stp_lt h a; omega) (c _ _ hb hm a)
theorem glue {l : List In} (h : Ok l) {m m2 : List Bool} {b s : Nat} (hb : b ≤ s) (hc : Cl l m b) (hc2 : Cl l m2 (s + 1)) (e : ∀ i, m2.getD i false = true ↔ (m.getD i false = true ∨ i = s ∨ ∃ j, Stp l s j ∧ Rc l j i)) :
    Cl l m2 b ∧ ∀ i, m2.getD i false = true ↔ (m.getD i false = true ∨ Rc l s i) := by
  refine ⟨fun i j hi hm hst => ?_, fun i => by rw [e i, rc_cases]⟩
  by_cases hs : s + 1 ≤ i
  · exact hc2 i j hs hm hst
  · rw [e i] at hm
    rw [e j]
    rcases hm with hm | rfl | ⟨q, a, t⟩
    · exact .inl (hc i j hi hm hst)
    · exact .inr (.inr ⟨j, hst, .refl _⟩)
    · have := stp_lt h a
      have := rc_le h t
      omega
theorem getD_set (m : List Bool) (s i : Nat) (hs : s < m.length) : (m.set s true).getD i false = true ↔ (m.getD i false = true ∨ i = s) := by
  simp only [List.getD_eq_getElem?_getD]
  by_cases h : i = s
  · subst h
    rw [List.getElem?_set_self hs]
    simp
  · rw [List.getElem?_set_ne (Ne.symm h)]
    simp [h]
theorem rdB (m : List Bool) (s : Nat) : rdOf false m (s : Int) = m.getD s false := rfl
theorem meet_is {l : List In} (h : Ok l) : ∀ (d s : Nat) (m : List Bool) (b : Nat), l.length ≤ s + d → s < l.length → m.length = l.length → b ≤ s → Cl l m b →
    ∃ m', Ev (fun k => prune_meet.l0 k (s : Int) l m) m' ∧ m'.length = l.length ∧ Cl l m' b ∧ ∀ i, m'.getD i false = true ↔ (m.getD i false = true ∨ Rc l s i) := by
  intro d
  induction d with
  | zero => intro s m b h1 h2; omega
  | succ d ih =>
    intro s m b hd hs hm hb hc
    have hl := h.hl
    by_cases hms : m.getD s false = true
    · refine ⟨m, Ev.step (f := fun _ => some m) (fun k => ?_) (Ev.now _), hm, hc, fun i => ⟨.inl, fun t => ?_⟩⟩
      · simp only [prune_meet.l0]
        rw [if_pos (by omega), if_pos (by omega), rdB, if_pos hms]
      · rcases t with t | t
        · exact t
        · exact cl_rc h hc hb hms t
    · have hw := h.hw _ (List.getElem_mem hs)
      obtain ⟨y, hy⟩ : ∃ y, y = m.set s true := ⟨_, rfl⟩
      have hyl : y.length = l.length := by rw [hy, List.length_set, hm]
      have hyi : ∀ i, y.getD i false = true ↔ (m.getD i false = true ∨ i = s) := fun i => by rw [hy]; exact getD_set m s i (by omega)
      have hyc : Cl l y (s + 1) := fun i j hi hm2 hst => by
        rcases (hyi i).mp hm2 with h1 | h1
        · exact (hyi j).mpr (.inl (hc i j (by omega) h1 hst))
        · omega
      have start : ∀ {f : Nat → Option (List Bool)} {r : List Bool}, (∀ k, (if endI l[s] = true then some y else if l[s].f0 = 5 then prune_meet.l0 k (wrap64 (wrap64 ((s : Int) + wrap64 l[s].f3) + 1)) l y else if branchI l[s].f0 = true then (prune_meet.f k (wrap64 (wrap64 ((s : Int) + 1) + l[s].f1)) l y).bind fun t => prune_meet.l0 k (wrap64 (wrap64 ((s : Int) + l[s].f2) + 1)) l t else prune_meet.l0 k (wrap64 ((s : Int) + 1)) l y) = f k) → Ev f r → Ev (fun k => prune_meet.l0 k (s : Int) l m) r := by
        intro f r hf hr
        refine Ev.step (fun k => ?_) hr
        rw [← hf k]
        simp only [prune_meet.l0]
        rw [if_pos (by omega), if_pos (by omega), rdB, if_neg hms, Option.bind_some, if_pos (by omega), rd_at l s hs, ends_is, Option.bind_some, branchI_is]
        simp only [Option.bind_some, Int.toNat_natCast, ← hy]
      cases he : endI l[s]
      · obtain ⟨hg1, hg2⟩ := sound_at l h.hw h.hs s hs
        obtain ⟨g1, g2, g3, g4, g5, g6⟩ := good_small hg1
        by_cases h5 : l[s].f0 = 5
        · have hst : ∀ j, Stp l s j ↔ j = s + 1 + l[s].f3.toNat := fun j => by
            constructor
            · rintro ⟨_, o, ho, rfl⟩
              rw [hit_ja he h5] at ho
              omega
            · rintro rfl
              exact ⟨hs, _, (hit_ja he h5 _).mpr (by omega), rfl⟩
          have hj := stp_lt h ((hst _).mpr rfl)
          obtain ⟨m', e1, e2, e3, e4⟩ := ih (s + 1 + l[s].f3.toNat) y (s + 1) (by omega) hj.2 hyl (by omega) hyc
          obtain ⟨c1, c2⟩ := glue h hb hc e3 (fun i => by
            rw [e4 i, hyi i, or_assoc]
            refine or_congr_right (or_congr_right ⟨fun t => ⟨_, (hst _).mpr rfl, t⟩, ?_⟩)
            rintro ⟨j, a, t⟩
            rw [hst] at a
            subst a
            exact t)
          refine ⟨m', start (f := fun k => prune_meet.l0 k ((s + 1 + l[s].f3.toNat : Nat) : Int) l y) (fun k => ?_) e1, e2, c1, c2⟩
          rw [if_neg (by rw [he]; simp), if_pos h5]
          congr 1
          rw [w64s (x := l[s].f3) (by omega) (by omega), w64s (x := (s : Int) + l[s].f3) (by omega) (by omega), w64s (x := (s : Int) + l[s].f3 + 1) (by omega) (by omega)]
          omega
        · cases hbr : branchI l[s].f0
          · have hst : ∀ j, Stp l s j ↔ j = s + 1 := fun j => by
              constructor
              · rintro ⟨_, o, ho, rfl⟩
                rw [hit_on he h5 hbr] at ho
                omega
              · rintro rfl
                exact ⟨hs, 0, (hit_on he h5 hbr _).mpr rfl, by omega⟩
            have hj := stp_lt h ((hst _).mpr rfl)
            obtain ⟨m', e1, e2, e3, e4⟩ := ih (s + 1) y (s + 1) (by omega) hj.2 hyl (by omega) hyc
            obtain ⟨c1, c2⟩ := glue h hb hc e3 (fun i => by
              rw [e4 i, hyi i, or_assoc]
              refine or_congr_right (or_congr_right ⟨fun t => ⟨_, (hst _).mpr rfl, t⟩, ?_⟩)
              rintro ⟨j, a, t⟩
              rw [hst] at a
              subst a
              exact t)
            refine ⟨m', start (f := fun k => prune_meet.l0 k ((s + 1 : Nat) : Int) l y) (fun k => ?_) e1, e2, c1, c2⟩
            rw [if_neg (by rw [he]; simp), if_neg h5, if_neg (by rw [hbr]; simp), wS s (by omega)]
          · have hst : ∀ j, Stp l s j ↔ (j = s + 1 + l[s].f1.toNat ∨ j = s + 1 + l[s].f2.toNat) := fun j => by
              constructor
              · rintro ⟨_, o, ho, rfl⟩
                rw [hit_br he hbr] at ho
                omega
              · rintro (rfl | rfl)
                · exact ⟨hs, _, (hit_br he hbr _).mpr (.inl (by omega)), rfl⟩
                · exact ⟨hs, _, (hit_br he hbr _).mpr (.inr (by omega)), rfl⟩
            have hj1 := stp_lt h ((hst _).mpr (.inl rfl))
            have hj2 := stp_lt h ((hst _).mpr (.inr rfl))
            obtain ⟨m1, d1, d2, d3, d4⟩ := ih (s + 1 + l[s].f1.toNat) y (s + 1) (by omega) hj1.2 hyl (by omega) hyc
            obtain ⟨m', e1, e2, e3, e4⟩ := ih (s + 1 + l[s].f2.toNat) m1 (s + 1) (by omega) hj2.2 d2 (by omega) d3
            obtain ⟨c1, c2⟩ := glue h hb hc e3 (fun i => by
              rw [e4 i, d4 i, hyi i, or_assoc, or_assoc]
              refine or_congr_right (or_congr_right ⟨?_, ?_⟩)
              · rintro (t | t)
                · exact ⟨_, (hst _).mpr (.inl rfl), t⟩
                · exact ⟨_, (hst _).mpr (.inr rfl), t⟩
              · rintro ⟨j, a, t⟩
                rw [hst] at a
                rcases a with rfl | rfl
                · exact .inl t
                · exact .inr t)
            refine ⟨m', start (f := fun k => (prune_meet.f k ((s + 1 + l[s].f1.toNat : Nat) : Int) l y).bind fun t => prune_meet.l0 k ((s + 1 + l[s].f2.toNat : Nat) : Int) l t) (fun k => ?_) (Ev.bind (Ev.step (fun k => by simp only [prune_meet.f]) d1) e1), e2, c1, c2⟩
            rw [if_neg (by rw [he]; simp), if_neg h5, if_pos hbr]
            rw [w64s (x := (s : Int) + 1) (by omega) (by omega), w64s (x := (s : Int) + 1 + l[s].f1) (by omega) (by omega), w64s (x := (s : Int) + l[s].f2) (by omega) (by omega), w64s (x := (s : Int) + l[s].f2 + 1) (by omega) (by omega)]
            rw [show (s : Int) + 1 + l[s].f1 = ((s + 1 + l[s].f1.toNat : Nat) : Int) by omega, show (s : Int) + l[s].f2 + 1 = ((s + 1 + l[s].f2.toNat : Nat) : Int) by omega]
      · have hst : ∀ j, ¬ Stp l s j := fun j => by
          rintro ⟨_, o, ho, rfl⟩
          rw [(hit_cases ho).1] at he
          cases he
        obtain ⟨c1, c2⟩ := glue h hb hc hyc (fun i => by
          rw [hyi i]
          refine or_congr_right ⟨.inl, ?_⟩
          rintro (t | ⟨j, a, _⟩)
          · exact t
          · exact absurd a (hst j))
        refine ⟨y, start (f := fun _ => some y) (fun k => if_pos he) (Ev.now _), hyl, c1, c2⟩
open Classical in
/-- The places that are come to. -/
noncomputable def metL (l : List In) : List Bool := (List.range l.length).map fun i => decide (Rc l 0 i)
theorem metL_len (l : List In) : (metL l).length = l.length := by simp [metL]
theorem metL_at {l : List In} (h : Ok l) (h0 : l.length ≠ 0) (i : Nat) : (metL l).getD i false = true ↔ Rc l 0 i := by
  unfold metL
  rw [List.getD_eq_getElem?_getD]
  by_cases hi : i < l.length
  · simp [List.getElem?_map, List.getElem?_range hi]
  · rw [List.getElem?_eq_none (by simp; omega)]
    constructor
    · intro h; cases h
    · intro t; exact absurd (rc_lt h t (by omega)) hi
theorem metL_is {l : List In} (h : Ok l) (h0 : l.length ≠ 0) (m : List Bool) (hm : m.length = l.length) (e : ∀ i, m.getD i false = true ↔ Rc l 0 i) : m = metL l := by
  refine List.ext_getElem (by rw [hm, metL_len]) (fun i h1 h2 => ?_)
  have e1 := e i
  rw [← metL_at h h0 i, List.getD_eq_getElem?_getD, List.getD_eq_getElem?_getD, List.getElem?_eq_getElem h1, List.getElem?_eq_getElem h2] at e1
  simp only [Option.getD_some] at e1
  exact Bool.eq_iff_iff.mpr e1
theorem ok_ne {l : List In} (h : Ok l) : l.length ≠ 0 := ((sound_iff l).mp h.hs).1
theorem met_is {l : List In} (h : Ok l) : Ev (fun k => prune_Met.f k l) (metL l, 0) := by
  have h0 := ok_ne h
  have hl := h.hl
  unfold prune_Met.f
  refine Ev.bind (sound_is l hl h.hw) ?_
  rw [h.hs]
  refine Ev.congr (fun k => by rw [if_pos (by rfl), if_pos (by omega), if_pos (by omega)]) ?_
  obtain ⟨m', e1, e2, _, e4⟩ := meet_is h l.length 0 (List.replicate ((l.length : Int) : Int).toNat false) 0 (by omega) (by omega) (by simp) (Nat.le_refl _) (fun i j _ hm _ => by
    rw [List.getD_eq_getElem?_getD, List.getElem?_replicate] at hm
    split at hm <;> simp at hm)
  have : m' = metL l := metL_is h h0 m' e2 (fun i => by
    rw [e4 i]
    refine ⟨fun t => ?_, .inr⟩
    rcases t with t | t
    · rw [List.getD_eq_getElem?_getD, List.getElem?_replicate] at t
      split at t <;> simp at t
    · exact t)
  subst this
  refine Ev.bind (Ev.step (fun k => by simp only [prune_meet.f]; rfl) e1) (Ev.now _)
theorem met_not {l : List In} (hl : l.length < 100000) (hw : ∀ x ∈ l, Q.wfIns x) (hs : (chk l).2 ≠ 0) : Ev (fun k => prune_Met.f k l) ([], 1) := by
  unfold prune_Met.f
  refine Ev.bind (sound_is l hl hw) ?_
  rw [show ((chk l).2 == 0) = false from beq_eq_false_iff_ne.mpr hs]
  exact Ev.congr (fun k => if_neg (by simp)) (Ev.now _)
end Go.Proofs.YtohpbjnihmcelaaDoor.PruA

/- What prune.Met goes over, and what the document's one pass tells: the same places. No condition but sizes far beyond the laws'. -/
namespace Go.Proofs.YtohpbjnihmcelaaDoor.PruA
set_option linter.unusedVariables false
set_option linter.unusedSimpArgs false
open Go.RowKit Go.Proofs.YtohpbjnihmcelaaDoorW.PrintWords Go.Proofs.YtohpbjnihmcelaaDoorW.PrintLast Go.Proofs.YtohpbjnihmcelaaDoorW.PrintMore Go.Proofs.YtohpbjnihmcelaaDoor.M Go.Proofs.YtohpbjnihmcelaaDoor.InsOps Go.Proofs.YtohpbjnihmcelaaDoor.RightB Go.Proofs.YtohpbjnihmcelaaDoor.ChkB Go.Proofs.YtohpbjnihmcelaaDoor.ChkN

/-! The document's pass. -/
def markL (v : Bool) : List Int → List Bool → List Bool
  | [], m => m
  | t :: ts, m => markL v ts (m.set t.toNat (m.getD t.toNat false || v))
theorem markL_len (v : Bool) : ∀ (ts : List Int) (m : List Bool), (markL v ts m).length = m.length
  | [], m => rfl
  | t :: ts, m => by rw [markL, markL_len v ts, List.length_set]
theorem markL_at (v : Bool) : ∀ (ts : List Int) (m : List Bool) (i : Nat), (∀ t ∈ ts, 0 ≤ t ∧ t < (m.length : Int)) → ((markL v ts m).getD i false = true ↔ (m.getD i false = true ∨ (v = true ∧ (i : Int) ∈ ts)))
  | [], m, i, _ => by simp [markL]
  | t :: ts, m, i, h => by
    have h1 := h t List.mem_cons_self
    rw [markL, markL_at v ts _ i (fun u hu => by rw [List.length_set]; exact h u (List.mem_cons_of_mem _ hu))]
    have : (m.set t.toNat (m.getD t.toNat false || v)).getD i false = true ↔ (m.getD i false = true ∨ (v = true ∧ (i : Int) = t)) := by
      simp only [List.getD_eq_getElem?_getD]
      by_cases hi : i = t.toNat
      · subst hi
        rw [List.getElem?_set_self (by omega)]
        simp only [Option.getD_some, Bool.or_eq_true]
        have : ((t.toNat : Nat) : Int) = t := by omega
        simp [this]
      · rw [List.getElem?_set_ne (Ne.symm hi)]
        have : ¬ (i : Int) = t := by omega
        simp [this]
    rw [this, List.mem_cons]
    constructor
    · rintro ((h | ⟨h, g⟩) | ⟨h, g⟩)
      · exact .inl h
      · exact .inr ⟨h, .inl g⟩
      · exact .inr ⟨h, .inr g⟩
    · rintro (h | ⟨h, (g | g)⟩)
      · exact .inl (.inl h)
      · exact .inl (.inr ⟨h, g⟩)
      · exact .inr ⟨h, g⟩
theorem rmark_is (l : List In) (hl : l.length < 100000) (a : Nat) (ha : a < l.length) (ns : List Int) (hns : ns.length < 100000) (r : List Bool) : ∀ (q i : Nat) (m : List Bool), i + q = ns.length → m.length = l.length → (∀ t ∈ ns, (a : Int) < t ∧ t < (l.length : Int)) →
    Ev (fun k => hurdleref23_Met.l0 k l (markL (m.getD a false) (ns.drop i) m) ((a + 1 : Nat) : Int)) r → Ev (fun k => hurdleref23_Met.l1 k l m (a : Int) ns (i : Int)) r := by
  intro q
  induction q with
  | zero =>
    intro i m hi hm hn hr
    refine Ev.step (fun k => ?_) hr
    simp only [hurdleref23_Met.l1]
    rw [if_neg (by omega), wS a (by omega), List.drop_of_length_le (by omega)]
    rfl
  | succ q ih =>
    intro i m hi hm hn hr
    have hin : i < ns.length := by omega
    have hv := hn ns[i] (List.getElem_mem hin)
    have erd : rd ns (i : Int) = ns[i] := by simp [rd, List.getD_eq_getElem?_getD, hin]
    have eb : rdOf false m ns[i] = m.getD ns[i].toNat false := rfl
    rw [drop_at ns i hin] at hr
    simp only [markL] at hr
    have hkeep : (m.set ns[i].toNat (m.getD ns[i].toNat false || m.getD a false)).getD a false = m.getD a false := by
      simp only [List.getD_eq_getElem?_getD]
      rw [List.getElem?_set_ne (by omega)]
    have next := ih (i + 1) (m.set ns[i].toNat (m.getD ns[i].toNat false || m.getD a false)) (by omega) (by rw [List.length_set, hm]) hn (by rw [hkeep]; exact hr)
    refine Ev.step (fun k => ?_) next
    simp only [hurdleref23_Met.l1]
    rw [if_pos (by omega), if_pos (by omega), erd, if_pos (by omega), if_pos (by omega), wS i (by omega), eb]
    cases hb : m.getD ns[i].toNat false
    · rw [if_neg (by simp), if_pos (by omega), if_pos (by omega), rdB]
      simp
    · rw [if_pos rfl]
      simp
theorem nextL_mem {l : List In} (h : Ok l) {a : Nat} (ha : a < l.length) (j : Nat) : (j : Int) ∈ nextL l[a] a (l.length - 1 - a) ↔ Stp l a j := by
  unfold nextL
  rw [List.mem_map]
  constructor
  · rintro ⟨c, hc, e⟩
    have hp : ∀ (p : Nat → Bool) (m o : Nat), c ∈ hits p o m → p c = true := by
      intro p m
      induction m with
      | zero => intro o h; simp [hits] at h
      | succ m ih =>
        intro o h
        unfold hits at h
        split at h
        · rcases List.mem_cons.1 h with rfl | h
          · assumption
          · exact ih _ h
        · exact ih _ h
    exact ⟨ha, c, hp _ _ _ hc, by omega⟩
  · rintro ⟨_, o, ho, rfl⟩
    have hlt := stp_lt h ⟨ha, o, ho, rfl⟩
    refine ⟨o, ?_, by omega⟩
    have hp : ∀ (p : Nat → Bool), p o = true → ∀ (m b : Nat), b ≤ o → o < b + m → o ∈ hits p b m := by
      intro p hpo m
      induction m with
      | zero => intro b h1 h2; omega
      | succ m ih =>
        intro b h1 h2
        unfold hits
        by_cases hb : b = o
        · subst hb
          rw [if_pos hpo]
          exact List.mem_cons_self
        · split
          · exact List.mem_cons_of_mem _ (ih _ (by omega) (by omega))
          · exact ih _ (by omega) (by omega)
    exact hp _ ho _ _ (by omega) (by omega)
theorem hits_len (p : Nat → Bool) : ∀ (m o : Nat), (hits p o m).length ≤ m
  | 0, o => by simp [hits]
  | m + 1, o => by
    have := hits_len p m (o + 1)
    unfold hits
    split
    · simp; omega
    · omega
theorem rmet_from {l : List In} (h : Ok l) : ∀ (q a : Nat) (m : List Bool), a + q = l.length → m.length = l.length → (∀ j, m.getD j false = true ↔ (j = 0 ∨ ∃ i, i < a ∧ m.getD i false = true ∧ Stp l i j)) → Ev (fun k => hurdleref23_Met.l0 k l m (a : Int)) (metL l) := by
  have h0 := ok_ne h
  have hl := h.hl
  intro q
  induction q with
  | zero =>
    intro a m hq hm hi
    have : m = metL l := by
      refine metL_is h h0 m hm (fun j => ⟨fun t => ?_, fun t => ?_⟩)
      · induction j using Nat.strongRecOn with
        | _ j ih =>
          rcases (hi j).mp t with rfl | ⟨i, hia, hmi, hst⟩
          · exact .refl _
          · exact rc_snoc (ih i (stp_lt h hst).1 hmi) hst
      · have key : ∀ s, Rc l s j → m.getD s false = true → m.getD j false = true := by
          intro s t
          induction t with
          | refl => exact id
          | step a _ ih => exact fun hm2 => ih t ((hi _).mpr (.inr ⟨_, by obtain ⟨hx, _⟩ := a; omega, hm2, a⟩))
        exact key 0 t ((hi 0).mpr (.inl rfl))
    subst this
    refine Ev.step (f := fun _ => some (metL l)) (fun k => ?_) (Ev.now _)
    simp only [hurdleref23_Met.l0]
    rw [if_neg (by omega)]
  | succ q ih =>
    intro a m hq hm hi
    have ha : a < l.length := by omega
    refine Ev.step (fun k => by simp only [hurdleref23_Met.l0]; rw [if_pos (by omega)]) ?_
    refine Ev.bind (rnext_is l hl h.hw a ha) ?_
    have hr : ∀ t ∈ nextL l[a] a (l.length - 1 - a), (a : Int) < t ∧ t < (l.length : Int) := by
      intro t ht
      obtain ⟨c, hc, rfl⟩ := List.mem_map.1 ht
      have := (hits_range (hit l[a]) (l.length - 1 - a) 0).1 c hc
      omega
    refine rmark_is l hl a ha _ (by unfold nextL; rw [List.length_map]; have := hits_len (hit l[a]) (l.length - 1 - a) 0; omega) _ _ 0 m (Nat.zero_add _) hm hr ?_
    rw [List.drop_zero]
    have hat := fun i => markL_at (m.getD a false) (nextL l[a] a (l.length - 1 - a)) m i (fun t ht => by have := hr t ht; omega)
    refine ih (a + 1) _ (by omega) (by rw [markL_len, hm]) (fun j => ?_)
    rw [hat j, nextL_mem h ha, hi j]
    have back : ∀ i, i ≤ a → ((markL (m.getD a false) (nextL l[a] a (l.length - 1 - a)) m).getD i false = true ↔ m.getD i false = true) := by
      intro i hia
      rw [hat i, nextL_mem h ha]
      refine ⟨fun t => ?_, .inl⟩
      rcases t with t | ⟨_, t⟩
      · exact t
      · have := stp_lt h t; omega
    constructor
    · rintro ((rfl | ⟨i, h1, h2, h3⟩) | ⟨h1, h2⟩)
      · exact .inl rfl
      · exact .inr ⟨i, by omega, (back i (by omega)).mpr h2, h3⟩
      · exact .inr ⟨a, by omega, (back a (by omega)).mpr h1, h2⟩
    · rintro (rfl | ⟨i, h1, h2, h3⟩)
      · exact .inl (.inl rfl)
      · have h4 := (back i (by omega)).mp h2
        by_cases hia : i = a
        · subst hia
          exact .inr ⟨h4, h3⟩
        · exact .inl (.inr ⟨i, by omega, h4, h3⟩)
theorem rmet_is {l : List In} (h : Ok l) : Ev (fun k => hurdleref23_Met.f k l) (metL l) := by
  have h0 := ok_ne h
  have hl := h.hl
  unfold hurdleref23_Met.f
  refine Ev.congr (fun k => by rw [if_pos (by omega), if_pos (by omega), Option.bind_some, if_pos (by simp; omega)]) ?_
  have e0 : ∀ j, ((List.replicate ((l.length : Int) : Int).toNat false).set (0 : Int).toNat true).getD j false = true ↔ j = 0 := fun j => by
    rw [show (0 : Int).toNat = 0 from rfl, getD_set _ _ _ (by simp; omega)]
    constructor
    · rintro (t | t)
      · rw [List.getD_eq_getElem?_getD, List.getElem?_replicate] at t
        split at t <;> simp at t
      · exact t
    · exact .inr
  refine rmet_from h l.length 0 _ (by omega) (by simp) (fun j => ?_)
  rw [e0 j]
  refine ⟨.inl, fun t => ?_⟩
  rcases t with t | ⟨i, hi, _⟩
  · exact t
  · omega
end Go.Proofs.YtohpbjnihmcelaaDoor.PruA

/- What prune.Prune leaves, and what the document leaves: the same. No condition but sizes far beyond the laws'. -/
namespace Go.Proofs.YtohpbjnihmcelaaDoor.PruB
set_option linter.unusedVariables false
set_option linter.unusedSimpArgs false
open Go.RowKit Go.Proofs.YtohpbjnihmcelaaDoorW.PrintWords Go.Proofs.YtohpbjnihmcelaaDoorW.PrintLast Go.Proofs.YtohpbjnihmcelaaDoorW.PrintMore Go.Proofs.YtohpbjnihmcelaaDoor.M Go.Proofs.YtohpbjnihmcelaaDoor.InsOps Go.Proofs.YtohpbjnihmcelaaDoor.RightB Go.Proofs.YtohpbjnihmcelaaDoor.ChkB Go.Proofs.YtohpbjnihmcelaaDoor.ChkN Go.Proofs.YtohpbjnihmcelaaDoor.PruA

/-- How many of the first so many are come to. -/
def cnt (m : List Bool) (i : Nat) : Nat := (m.take i).count true
theorem cnt_zero (m : List Bool) : cnt m 0 = 0 := by simp [cnt]
theorem cnt_succ (m : List Bool) (i : Nat) (h : i < m.length) : cnt m (i + 1) = cnt m i + if m.getD i false = true then 1 else 0 := by
  unfold cnt
  rw [List.take_succ_eq_append_getElem h, List.count_append, List.getD_eq_getElem?_getD, List.getElem?_eq_getElem h]
  congr 1
  simp only [Option.getD_some]
  cases m[i] <;> simp
theorem cnt_le (m : List Bool) (i : Nat) : cnt m i ≤ i := by
  unfold cnt
  have h1 := List.count_le_length (a := true) (l := m.take i)
  have h2 := List.length_take (i := i) (l := m)
  omega
theorem cnt_mono (m : List Bool) {i j : Nat} (h : i ≤ j) : cnt m i ≤ cnt m j := by
  unfold cnt
  exact List.Sublist.count_le _ (List.take_sublist_take_left h)
/-- How many lie between. -/
def btw (m : List Bool) (a o : Nat) : Nat := cnt m (a + 1 + o) - cnt m (a + 1)
theorem btw_le (m : List Bool) (a o : Nat) : btw m a o ≤ a + 1 + o := by have := cnt_le m (a + 1 + o); unfold btw; omega
noncomputable def prI (m : List Bool) (x : In) (a : Nat) : In :=
  if x.f0 = 5 then ⟨x.f0, x.f1, x.f2, ((btw m a x.f3.toNat : Nat) : Int)⟩
  else if branchI x.f0 = true then ⟨x.f0, ((btw m a x.f1.toNat : Nat) : Int), ((btw m a x.f2.toNat : Nat) : Int), x.f3⟩ else x
noncomputable def prF (m : List Bool) (l : List In) : Nat → Nat → List In
  | _, 0 => []
  | a, d + 1 => (if m.getD a false = true then [prI m (l.getD a z45) a] else []) ++ prF m l (a + 1) d
noncomputable def prL (m : List Bool) (l : List In) : List In := prF m l 0 l.length
/-! The program's. -/
def nowL (m : List Bool) (a : Nat) : List Int := (List.range m.length).map fun i => if i < a then (cnt m i : Int) else 0
theorem nowL_len (m : List Bool) (a : Nat) : (nowL m a).length = m.length := by simp [nowL]
theorem nowL_set (m : List Bool) (a : Nat) : (nowL m a).set a (cnt m a : Int) = nowL m (a + 1) := by
  refine List.ext_getElem (by rw [List.length_set, nowL_len, nowL_len]) (fun i h1 h2 => ?_)
  rw [List.getElem_set]
  have hi : i < m.length := by rw [nowL_len] at h2; exact h2
  simp only [nowL, List.getElem_map, List.getElem_range]
  by_cases e : a = i
  · subst e
    rw [if_pos rfl, if_pos (by omega)]
  · rw [if_neg e]
    by_cases h : i < a
    · rw [if_pos h, if_pos (by omega)]
    · rw [if_neg h, if_neg (by omega)]
theorem rd_now (m : List Bool) (a i : Nat) (hi : i < m.length) (ha : i < a) : rd (nowL m a) (i : Int) = (cnt m i : Int) := by
  unfold rd nowL
  rw [List.getD_eq_getElem?_getD, Int.toNat_natCast, List.getElem?_map, List.getElem?_range hi]
  simp [ha]
theorem off_is (m : List Bool) (hm : m.length < 100000) (a o : Nat) (ha : m.getD a false = true) (h : a + 1 + o < m.length) : prune_off.f (nowL m m.length) (a : Int) (o : Int) = some ((btw m a o : Nat) : Int) := by
  have hc := cnt_succ m a (by omega)
  rw [if_pos ha] at hc
  have hmono := cnt_mono m (show a + 1 ≤ a + 1 + o by omega)
  have hle := cnt_le m (a + 1 + o)
  unfold prune_off.f
  rw [wS a (by omega), w64s (x := ((a + 1 : Nat) : Int) + (o : Int)) (by omega) (by omega), show ((a + 1 : Nat) : Int) + (o : Int) = ((a + 1 + o : Nat) : Int) by omega]
  rw [if_pos (by omega), if_pos (by rw [nowL_len]; omega), if_pos (by omega), if_pos (by rw [nowL_len]; omega), rd_now m _ _ h h, rd_now m _ a (by omega) (by omega)]
  rw [w64s (x := ((cnt m (a + 1 + o) : Nat) : Int) - (cnt m a : Int)) (by omega) (by omega), w64s (by omega) (by omega)]
  unfold btw
  congr 1
  omega
theorem now_from (l : List In) (m : List Bool) (hm : m.length < 100000) (r : List In × Int) (hr : Ev (fun k => prune_Prune.l1 k m [] (nowL m m.length) l (l.length : Int) 0) r) : ∀ (d a : Nat), a + d = m.length → Ev (fun k => prune_Prune.l0 k l m (cnt m a : Int) (nowL m a) m (m.length : Int) (a : Int)) r := by
  intro d
  induction d with
  | zero =>
    intro a h
    refine Ev.step (fun k => ?_) hr
    simp only [prune_Prune.l0]
    rw [if_neg (by omega), show a = m.length by omega]
  | succ d ih =>
    intro a h
    have hc := cnt_succ m a (by omega)
    have hle := cnt_le m a
    refine Ev.step (fun k => ?_) (ih (a + 1) (by omega))
    simp only [prune_Prune.l0]
    rw [if_pos (by omega), if_pos (by omega), if_pos (by omega), if_pos (by rw [nowL_len]; omega), Option.bind_some, rdB, Int.toNat_natCast, nowL_set, wS a (by omega), wS (cnt m a) (by omega)]
    cases hb : m.getD a false
    · rw [hb] at hc
      rw [if_neg Bool.false_ne_true, hc]
      simp
    · rw [hb] at hc
      rw [if_pos rfl, hc]
      simp
theorem ja_stp {l : List In} (h : Ok l) {a : Nat} (ha : a < l.length) (h5 : l[a].f0 = 5) : a + 1 + l[a].f3.toNat < l.length := by
  have g := u32_range (h.hw _ (List.getElem_mem ha)).2.2.2
  have he : endI l[a] = false := by unfold endI; rw [h5]; rfl
  exact (stp_lt h ⟨ha, _, (hit_ja he h5 _).mpr (by omega), rfl⟩).2
theorem br_stp {l : List In} (h : Ok l) {a : Nat} (ha : a < l.length) (hb : branchI l[a].f0 = true) : a + 1 + l[a].f1.toNat < l.length ∧ a + 1 + l[a].f2.toNat < l.length ∧ 0 ≤ l[a].f1 ∧ 0 ≤ l[a].f2 := by
  obtain ⟨g1, g2, g3, g4, g5, g6⟩ := good_small (sound_at l h.hw h.hs a ha).1
  have he := (br_end hb).1
  exact ⟨(stp_lt h ⟨ha, _, (hit_br he hb _).mpr (.inl (by omega)), rfl⟩).2, (stp_lt h ⟨ha, _, (hit_br he hb _).mpr (.inr (by omega)), rfl⟩).2, g1, g3⟩
theorem out_from {l : List In} (h : Ok l) (m : List Bool) (hm : m.length = l.length) : ∀ (d a : Nat) (acc : List In), a + d = l.length → acc.length ≤ a → Ev (fun k => prune_Prune.l1 k m acc (nowL m m.length) l (l.length : Int) (a : Int)) (acc ++ prF m l a d, 0) := by
  have hl := h.hl
  intro d
  induction d with
  | zero =>
    intro a acc ha hacc
    refine Ev.step (f := fun _ => some (acc, 0)) (fun k => ?_) (by rw [prF, List.append_nil]; exact Ev.now _)
    simp only [prune_Prune.l1]
    rw [if_neg (by omega)]
  | succ d ih =>
    intro a acc ha hacc
    have hal : a < l.length := by omega
    have hgd : l.getD a z45 = l[a] := by rw [List.getD_eq_getElem?_getD, List.getElem?_eq_getElem hal]; rfl
    have g := u32_range (h.hw _ (List.getElem_mem hal)).2.2.2
    rw [prF, hgd]
    cases hb : m.getD a false
    · have := ih (a + 1) acc (by omega) (by omega)
      simp only [Bool.false_eq_true, if_false, List.nil_append]
      refine Ev.step (fun k => ?_) this
      simp only [prune_Prune.l1]
      rw [if_pos (by omega), if_pos (by omega), if_pos (by omega), if_pos (by omega), rdB, hb, if_neg Bool.false_ne_true, wS a (by omega)]
    · have := ih (a + 1) (acc ++ [prI m l[a] a]) (by omega) (by rw [List.length_append]; simp; omega)
      rw [if_pos rfl, ← List.append_assoc]
      refine Ev.step (fun k => ?_) this
      simp only [prune_Prune.l1]
      rw [if_pos (by omega), if_pos (by omega), if_pos (by omega), if_pos (by omega), rdB, hb, if_pos rfl, rd_at l a hal, wS a (by omega)]
      unfold prI
      by_cases h5 : l[a].f0 = 5
      · have hs := ja_stp h hal h5
        have e := off_is m (by omega) a l[a].f3.toNat hb (by omega)
        rw [show ((l[a].f3.toNat : Nat) : Int) = l[a].f3 by omega] at e
        have hbl := btw_le m a l[a].f3.toNat
        rw [if_pos h5, w64s (x := l[a].f3) (by omega) (by omega), e, Option.bind_some, if_pos (by omega), if_pos h5, show ((btw m a l[a].f3.toNat : Nat) : Int) % 4294967296 = ((btw m a l[a].f3.toNat : Nat) : Int) by omega]
      · rw [if_neg h5, if_neg h5, branchI_is, Option.bind_some]
        cases hbr : branchI l[a].f0
        · rw [if_neg Bool.false_ne_true, if_neg Bool.false_ne_true, if_pos (by omega)]
        · obtain ⟨s1, s2, s3, s4⟩ := br_stp h hal hbr
          have e1 := off_is m (by omega) a l[a].f1.toNat hb (by omega)
          have e2 := off_is m (by omega) a l[a].f2.toNat hb (by omega)
          rw [show ((l[a].f1.toNat : Nat) : Int) = l[a].f1 by omega] at e1
          rw [show ((l[a].f2.toNat : Nat) : Int) = l[a].f2 by omega] at e2
          rw [if_pos rfl, if_pos rfl, e1, Option.bind_some, e2, Option.bind_some, if_pos (by omega)]
theorem prune_is {l : List In} (h : Ok l) : Ev (fun k => prune_Prune.f k l) (prL (metL l) l, 0) := by
  have hl := h.hl
  unfold prune_Prune.f
  refine Ev.bind (met_is h) ?_
  refine Ev.congr (fun k => by rw [if_pos rfl, if_pos (by omega), if_pos (by omega)]) ?_
  have e0 : (List.replicate ((l.length : Int) : Int).toNat 0 : List Int) = nowL (metL l) 0 := by
    refine List.ext_getElem (by rw [nowL_len, metL_len]; simp) (fun i h1 h2 => by simp [nowL])
  rw [e0]
  have := now_from l (metL l) (by rw [metL_len]; exact hl) _ (out_from h (metL l) (metL_len l) l.length 0 [] (by omega) (Nat.le_refl _)) (metL l).length 0 (by omega)
  rw [cnt_zero] at this
  exact this
theorem prune_not {l : List In} (hl : l.length < 100000) (hw : ∀ x ∈ l, Q.wfIns x) (hs : (chk l).2 ≠ 0) : Ev (fun k => prune_Prune.f k l) ([], 1) := by
  unfold prune_Prune.f
  refine Ev.bind (met_not hl hw hs) ?_
  exact Ev.congr (fun k => if_neg (show ¬ ((1 : Int) = 0) by omega)) (Ev.now _)
theorem prF_len (m : List Bool) (l : List In) : ∀ (d a : Nat), (prF m l a d).length ≤ d
  | 0, a => by simp [prF]
  | d + 1, a => by
    have := prF_len m l d (a + 1)
    unfold prF
    rw [List.length_append]
    split
    · simp; omega
    · simp; omega
end Go.Proofs.YtohpbjnihmcelaaDoor.PruB

/- What prune.Prune leaves, and what the document leaves: the same. No condition but sizes far beyond the laws'. -/
namespace Go.Proofs.YtohpbjnihmcelaaDoor.PruB
set_option linter.unusedVariables false
set_option linter.unusedSimpArgs false
open Go.RowKit Go.Proofs.YtohpbjnihmcelaaDoorW.PrintWords Go.Proofs.YtohpbjnihmcelaaDoorW.PrintLast Go.Proofs.YtohpbjnihmcelaaDoorW.PrintMore Go.Proofs.YtohpbjnihmcelaaDoor.M Go.Proofs.YtohpbjnihmcelaaDoor.InsOps Go.Proofs.YtohpbjnihmcelaaDoor.RightB Go.Proofs.YtohpbjnihmcelaaDoor.ChkB Go.Proofs.YtohpbjnihmcelaaDoor.ChkN Go.Proofs.YtohpbjnihmcelaaDoor.PruA

theorem between_from (m : List Bool) (hm : m.length < 100000) (tq : Nat) (hto : tq ≤ m.length) : ∀ (d i n : Nat), i + d = tq → n ≤ i → Ev (fun k => hurdleref23_between.l0 k m (tq : Int) (n : Int) (i : Int)) ((n + (cnt m tq - cnt m i) : Nat) : Int) := by
  intro d
  induction d with
  | zero =>
    intro i n hi hn
    have : i = tq := by omega
    subst this
    refine Ev.step (f := fun _ => some (n : Int)) (fun k => ?_) ?_
    · simp only [hurdleref23_between.l0]
      rw [if_neg (by omega)]
    · rw [Nat.sub_self, Nat.add_zero]
      exact Ev.now _
  | succ d ih =>
    intro i n hi hn
    have hc := cnt_succ m i (by omega)
    have hmono := cnt_mono m (show i + 1 ≤ tq by omega)
    cases hb : m.getD i false
    · rw [hb] at hc
      simp only [Bool.false_eq_true, if_false, Nat.add_zero] at hc
      have := ih (i + 1) n (by omega) (by omega)
      rw [hc] at this
      refine Ev.step (fun k => ?_) this
      simp only [hurdleref23_between.l0]
      rw [if_pos (by omega), if_pos (by omega), if_pos (by omega), rdB, hb, if_neg Bool.false_ne_true, wS i (by omega)]
    · rw [hb] at hc
      simp only [if_true] at hc
      have := ih (i + 1) (n + 1) (by omega) (by omega)
      rw [show n + (cnt m tq - cnt m i) = n + 1 + (cnt m tq - cnt m (i + 1)) by omega]
      refine Ev.step (fun k => ?_) this
      simp only [hurdleref23_between.l0]
      rw [if_pos (by omega), if_pos (by omega), if_pos (by omega), rdB, hb, if_pos rfl, wS i (by omega), wS n (by omega)]
theorem between_is (m : List Bool) (hm : m.length < 100000) (a o : Nat) (h : a + 1 + o ≤ m.length) : Ev (fun k => hurdleref23_between.f k m (a : Int) ((a + 1 + o : Nat) : Int)) ((btw m a o : Nat) : Int) := by
  have := between_from m hm (a + 1 + o) h o (a + 1) 0 rfl (Nat.zero_le _)
  rw [Nat.zero_add] at this
  refine Ev.congr (fun k => ?_) this
  unfold hurdleref23_between.f
  rw [wS a (by omega)]
  rfl
/-! The document's. -/
theorem rout_from {l : List In} (h : Ok l) (m : List Bool) (hm : m.length = l.length) : ∀ (d a : Nat) (acc : List In), a + d = l.length → acc.length ≤ a → Ev (fun k => hurdleref23_Prune.l0 k l m acc (a : Int)) (acc ++ prF m l a d) := by
  have hl := h.hl
  intro d
  induction d with
  | zero =>
    intro a acc ha hacc
    refine Ev.step (f := fun _ => some acc) (fun k => ?_) (by rw [prF, List.append_nil]; exact Ev.now _)
    simp only [hurdleref23_Prune.l0]
    rw [if_neg (by omega)]
  | succ d ih =>
    intro a acc ha hacc
    have hal : a < l.length := by omega
    have hgd : l.getD a z45 = l[a] := by rw [List.getD_eq_getElem?_getD, List.getElem?_eq_getElem hal]; rfl
    have g := u32_range (h.hw _ (List.getElem_mem hal)).2.2.2
    rw [prF, hgd]
    cases hb : m.getD a false
    · have := ih (a + 1) acc (by omega) (by omega)
      simp only [Bool.false_eq_true, if_false, List.nil_append]
      refine Ev.step (f := fun k => hurdleref23_Prune.j1 k l m acc (a : Int) false l[a].f0 l[a].f1 l[a].f2 l[a].f3) (fun k => ?_) ?_
      · simp only [hurdleref23_Prune.l0]
        rw [if_pos (by omega), if_pos (by omega), if_pos (by omega), rdB, hb, if_neg Bool.false_ne_true, rd_at l a hal]
      refine Ev.step (f := fun k => hurdleref23_Prune.j2 k l m acc (a : Int) l[a].f0 l[a].f1 l[a].f2 l[a].f3) (fun k => ?_) ?_
      · simp only [hurdleref23_Prune.j1]
        rw [if_neg Bool.false_ne_true]
      refine Ev.step (f := fun k => hurdleref23_Prune.j3 k l m acc (a : Int) false l[a].f0 l[a].f1 l[a].f2 l[a].f3) (fun k => ?_) ?_
      · simp only [hurdleref23_Prune.j2]
        rw [if_pos (by omega), if_pos (by omega), rdB, hb, if_neg Bool.false_ne_true]
      refine Ev.step (fun k => ?_) this
      simp only [hurdleref23_Prune.j3]
      rw [if_neg Bool.false_ne_true, if_pos (by omega), if_pos (by omega), rdB, hb, if_neg Bool.false_ne_true, wS a (by omega)]
    · have := ih (a + 1) (acc ++ [prI m l[a] a]) (by omega) (by rw [List.length_append]; simp; omega)
      rw [if_pos rfl, ← List.append_assoc]
      unfold prI at this ⊢
      by_cases h5 : l[a].f0 = 5
      · have hs := ja_stp h hal h5
        have e := between_is m (by omega) a l[a].f3.toNat (by omega)
        have hbl := btw_le m a l[a].f3.toNat
        rw [if_pos h5] at this ⊢
        refine Ev.step (f := fun k => hurdleref23_Prune.j1 k l m acc (a : Int) true l[a].f0 l[a].f1 l[a].f2 l[a].f3) (fun k => ?_) ?_
        · simp only [hurdleref23_Prune.l0]
          rw [if_pos (by omega), if_pos (by omega), if_pos (by omega), rdB, hb, if_pos rfl, rd_at l a hal, h5]
          rfl
        refine Ev.step (f := fun k => (hurdleref23_between.f k m (a : Int) ((a + 1 + l[a].f3.toNat : Nat) : Int)).bind fun t => hurdleref23_Prune.j2 k l m acc (a : Int) l[a].f0 l[a].f1 l[a].f2 (t % 4294967296)) (fun k => ?_) (Ev.bind e ?_)
        · simp only [hurdleref23_Prune.j1]
          rw [if_pos trivial, wS a (by omega), w64s (x := l[a].f3) (by omega) (by omega), w64s (x := ((a + 1 : Nat) : Int) + l[a].f3) (by omega) (by omega), show ((a + 1 : Nat) : Int) + l[a].f3 = ((a + 1 + l[a].f3.toNat : Nat) : Int) by omega]
        rw [show ((btw m a l[a].f3.toNat : Nat) : Int) % 4294967296 = ((btw m a l[a].f3.toNat : Nat) : Int) by omega]
        refine Ev.step (f := fun k => (hurdleref02_Branch.f k l[a].f0 l[a].f1 l[a].f2 ((btw m a l[a].f3.toNat : Nat) : Int)).bind fun t => hurdleref23_Prune.j3 k l m acc (a : Int) t l[a].f0 l[a].f1 l[a].f2 ((btw m a l[a].f3.toNat : Nat) : Int)) (fun k => ?_) (Ev.bind (rbranchI_is _ _ _ _) ?_)
        · simp only [hurdleref23_Prune.j2]
          rw [if_pos (by omega), if_pos (by omega), rdB, hb, if_pos rfl]
        rw [show branchI l[a].f0 = false by rw [h5]; exact branch_5]
        refine Ev.step (fun k => ?_) this
        simp only [hurdleref23_Prune.j3]
        rw [if_neg Bool.false_ne_true, if_pos (by omega), if_pos (by omega), rdB, hb, if_pos rfl, if_pos (by omega), wS a (by omega)]
      · rw [if_neg h5] at this ⊢
        refine Ev.step (f := fun k => hurdleref23_Prune.j1 k l m acc (a : Int) false l[a].f0 l[a].f1 l[a].f2 l[a].f3) (fun k => ?_) ?_
        · simp only [hurdleref23_Prune.l0]
          rw [if_pos (by omega), if_pos (by omega), if_pos (by omega), rdB, hb, if_pos rfl, rd_at l a hal, show (l[a].f0 == 5) = false from beq_eq_false_iff_ne.mpr h5]
        refine Ev.step (f := fun k => hurdleref23_Prune.j2 k l m acc (a : Int) l[a].f0 l[a].f1 l[a].f2 l[a].f3) (fun k => ?_) ?_
        · simp only [hurdleref23_Prune.j1]
          rw [if_neg Bool.false_ne_true]
        refine Ev.step (f := fun k => (hurdleref02_Branch.f k l[a].f0 l[a].f1 l[a].f2 l[a].f3).bind fun t => hurdleref23_Prune.j3 k l m acc (a : Int) t l[a].f0 l[a].f1 l[a].f2 l[a].f3) (fun k => ?_) (Ev.bind (rbranchI_is _ _ _ _) ?_)
        · simp only [hurdleref23_Prune.j2]
          rw [if_pos (by omega), if_pos (by omega), rdB, hb, if_pos rfl]
        cases hbr : branchI l[a].f0
        · rw [hbr, if_neg Bool.false_ne_true] at this
          rw [if_neg Bool.false_ne_true]
          refine Ev.step (fun k => ?_) this
          simp only [hurdleref23_Prune.j3]
          rw [if_neg Bool.false_ne_true, if_pos (by omega), if_pos (by omega), rdB, hb, if_pos rfl, if_pos (by omega), wS a (by omega)]
        · obtain ⟨s1, s2, s3, s4⟩ := br_stp h hal hbr
          rw [hbr, if_pos rfl] at this
          rw [if_pos rfl]
          refine Ev.step (f := fun k => (hurdleref23_between.f k m (a : Int) ((a + 1 + l[a].f1.toNat : Nat) : Int)).bind fun t => (hurdleref23_between.f k m (a : Int) ((a + 1 + l[a].f2.toNat : Nat) : Int)).bind fun u => hurdleref23_Prune.l0 k l m (acc ++ [(⟨l[a].f0, t, u, l[a].f3⟩ : In)]) ((a + 1 : Nat) : Int)) (fun k => ?_) (Ev.bind (between_is m (by omega) a l[a].f1.toNat (by omega)) (Ev.bind (between_is m (by omega) a l[a].f2.toNat (by omega)) this))
          simp only [hurdleref23_Prune.j3]
          rw [if_pos trivial, wS a (by omega), w64s (x := ((a + 1 : Nat) : Int) + l[a].f1) (by omega) (by omega), show ((a + 1 : Nat) : Int) + l[a].f1 = ((a + 1 + l[a].f1.toNat : Nat) : Int) by omega, w64s (x := ((a + 1 : Nat) : Int) + l[a].f2) (by omega) (by omega), show ((a + 1 : Nat) : Int) + l[a].f2 = ((a + 1 + l[a].f2.toNat : Nat) : Int) by omega]
          have c1 : (0 : Int) ≤ (a : Int) := by omega
          have c2 : (a : Int) < (m.length : Int) := by omega
          have c3 : acc.length < 4398046511104 := by omega
          simp only [if_pos c1, if_pos c2, if_pos c3, rdB, hb, if_true]
theorem rprune_is {l : List In} (h : Ok l) : Ev (fun k => hurdleref23_Prune.f k l) (prL (metL l) l) := by
  unfold hurdleref23_Prune.f
  refine Ev.bind (rmet_is h) ?_
  exact rout_from h (metL l) (metL_len l) l.length 0 [] (by omega) (Nat.le_refl _)
end Go.Proofs.YtohpbjnihmcelaaDoor.PruB

/- The document's examples of what is pruned hold. No condition. -/
namespace Go.Proofs.YtohpbjnihmcelaaDoor.PruK
open Go.RowKit Go.Proofs.YtohpbjnihmcelaaDoorW.PrintWords Go.Proofs.YtohpbjnihmcelaaDoorW.PrintLast Go.Proofs.YtohpbjnihmcelaaDoorW.PrintMore Go.Proofs.YtohpbjnihmcelaaDoor.M
theorem knows_is : Ev (fun k => hurdlelaw23_knows.f k) true := Ev.of hurdlelaw23_knows.mono (k := 80) (by decide +kernel)
end Go.Proofs.YtohpbjnihmcelaaDoor.PruK
