/- The pure statement of CheckForward is proved: from each place of a sound filter a run goes only to places behind. No condition. -/
import Derived.Test.YtacfdcgogadamaaDoorChkN
import Derived.Test.YtacfdcgogadamaaDoorChkK
import Derived.Test.YtacfdcgogadamaaDoorQCheckForward
namespace Go.Proofs.YtacfdcgogadamaaDoor.Pure
set_option linter.unusedVariables false
set_option linter.unusedSimpArgs false
open Go.RowKit Go.Proofs.YtacfdcgogadamaaDoorW.PrintWords Go.Proofs.YtacfdcgogadamaaDoorW.PrintLast Go.Proofs.YtacfdcgogadamaaDoorW.PrintMore Go.Proofs.YtacfdcgogadamaaDoor.M Go.Proofs.YtacfdcgogadamaaDoor.InsOps Go.Proofs.YtacfdcgogadamaaDoor.RightB Go.Proofs.YtacfdcgogadamaaDoor.ChkB Go.Proofs.YtacfdcgogadamaaDoor.ChkN Go.Proofs.YtacfdcgogadamaaDoor.ChkK
theorem once_len (ws : List Int) (h : ws = [] ∨ (∃ a, ws = [a]) ∨ ∃ a b, ws = [a, b]) : (once ws).length ≤ 2 ∧ ((once ws).length = 0 ↔ ws = []) := by
  rcases h with rfl | ⟨a, rfl⟩ | ⟨a, b, rfl⟩
  · simp [once]
  · simp [once]
  · unfold once
    simp only
    split <;> simp
theorem ways_nil (x : In) (i : Int) : waysI x i = [] ↔ endI x = true := by
  unfold waysI
  cases endI x
  · simp only [Bool.false_eq_true, if_false]
    split
    · simp
    · split <;> simp
  · simp
theorem inner (l : List In) (hl : l.length < 100000) (a : Nat) (ns : List Int) (hns : ns.length < 100) (hr : ∀ t ∈ ns, (a : Int) < t ∧ t < (l.length : Int)) (hp : ns.Pairwise (· < ·))
    (hend : Ev (fun k => hurdlelaw05_CheckForward.l0 k l ((a + 1 : Nat) : Int)) true) (ha : a < l.length) : ∀ (m i : Nat), i + m = ns.length → Ev (fun k => hurdlelaw05_CheckForward.l1 k l (a : Int) ns (i : Int)) true := by
  intro m
  induction m with
  | zero =>
    intro i hi
    refine Ev.step (fun k => ?_) hend
    simp only [hurdlelaw05_CheckForward.l1]
    rw [if_neg (by omega), wS a (by omega)]
  | succ m ih =>
    intro i hi
    have hin : i < ns.length := by omega
    have erd : ∀ q : Nat, ∀ h : q < ns.length, rd ns (q : Int) = ns[q] := fun q h => by simp [rd, List.getD_eq_getElem?_getD, h]
    obtain ⟨h1, h2⟩ := hr ns[i] (List.getElem_mem hin)
    refine Ev.step (fun k => ?_) (ih (i + 1) (by omega))
    simp only [hurdlelaw05_CheckForward.l1]
    rw [if_pos (by omega), if_pos (by omega), erd i hin, if_neg (by omega), if_neg (by omega), wS i (by omega)]
    by_cases h0 : (i : Int) > 0
    · have e1 : wrap64 ((i : Int) - 1) = ((i - 1 : Nat) : Int) := by rw [w64s (by omega) (by omega)]; omega
      have hlt : ns[i - 1] < ns[i] := List.pairwise_iff_getElem.mp hp (i - 1) i (by omega) hin (by omega)
      rw [if_pos h0, e1, if_pos (by omega), if_pos (by omega), erd (i - 1) (by omega), if_neg (by omega)]
    · rw [if_neg h0]
theorem outer (l : List In) (hl : l.length < 100000) (hw : ∀ x ∈ l, Q.wfIns x) (hs : (chk l).2 = 0) : ∀ (m a : Nat), a + m = l.length → Ev (fun k => hurdlelaw05_CheckForward.l0 k l (a : Int)) true := by
  intro m
  induction m with
  | zero =>
    intro a ha
    refine Ev.step (f := fun k => (hurdlelaw05_knows.f k).bind fun t => some t) (fun k => ?_) (Ev.bind knows_is (Ev.now _))
    simp only [hurdlelaw05_CheckForward.l0]
    rw [if_neg (by omega)]
  | succ m ih =>
    intro a ha
    have hal : a < l.length := by omega
    obtain ⟨hg, e⟩ := sound_at l hw hs a hal
    obtain ⟨c1, c2⟩ := once_len (waysI l[a] (a : Int)) (ways_form _ _)
    rw [e] at c1 c2
    rw [ways_nil] at c2
    refine Ev.step (fun k => by simp only [hurdlelaw05_CheckForward.l0]; rw [if_pos (by omega)]) ?_
    refine Ev.bind (next_is l hl hw hs a hal) ?_
    refine Ev.congr (fun k => by rw [if_pos (by omega), rd_at l a hal, rends_is]) ?_
    simp only [Option.bind_some]
    have hz : ((((nextL l[a] a (l.length - 1 - a)).length : Int) == 0) != endI l[a]) = false := by
      cases he : endI l[a]
      · have : ¬ (nextL l[a] a (l.length - 1 - a)).length = 0 := fun h => by have := c2.mp h; rw [he] at this; cases this
        rw [show (((nextL l[a] a (l.length - 1 - a)).length : Int) == 0) = false from beq_eq_false_iff_ne.mpr (by omega)]
        rfl
      · have := c2.mpr he
        rw [this]
        rfl
    rw [hz]
    refine Ev.congr (fun k => if_neg (by simp)) ?_
    rw [decide_eq_false (by omega)]
    refine Ev.step (fun k => by simp only [hurdlelaw05_CheckForward.j2, Bool.false_eq_true, if_false]; rfl) ?_
    obtain ⟨r1, r2⟩ := hits_range (hit l[a]) (l.length - 1 - a) 0
    refine inner l hl a _ (by omega) (fun t ht => ?_) ?_ (ih (a + 1) (by omega)) hal _ 0 (Nat.zero_add _)
    · unfold nextL at ht
      obtain ⟨c, hc, rfl⟩ := List.mem_map.1 ht
      have := r1 c hc
      omega
    · unfold nextL
      refine List.Pairwise.map _ (fun c d h => ?_) r2
      omega
theorem CheckForward : Q.CheckForward := by
  intro l _ hw
  refine Ev.rounds ?_
  unfold hurdlelaw05_CheckForward.f
  have out : Ev (fun k => hurdlelaw05_CheckForward.j0 k l true) true :=
    Ev.step (f := fun k => (hurdlelaw05_knows.f k).bind fun t => some t) (fun k => by simp [hurdlelaw05_CheckForward.j0]) (Ev.bind knows_is (Ev.now _))
  by_cases h : (l.length : Int) > 300
  · exact Ev.congr (fun k => if_pos h) out
  · refine Ev.congr (fun k => if_neg h) ?_
    have hl : l.length < 100000 := by omega
    refine Ev.bind (rsound_is l hl hw) ?_
    by_cases hs : (chk l).2 = 0
    · rw [hs]
      refine Ev.step (fun k => by simp only [hurdlelaw05_CheckForward.j0, beq_self_eq_true, Bool.not_true, Bool.false_eq_true, if_false]; rfl) ?_
      exact outer l hl hw hs l.length 0 (by omega)
    · rw [show ((chk l).2 == 0) = false from beq_eq_false_iff_ne.mpr hs]
      exact out
end Go.Proofs.YtacfdcgogadamaaDoor.Pure
