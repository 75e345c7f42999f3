/- How code grows, by the program's and the document's functions: they answer the same. Condition: no more than 100000 instructions. -/
import Derived.Test.YtnchbnnijboklaaDoorRightB
import Derived.Test.YtnchbnnijboklaaDoorM2
import Derived.Test.YtnchbnnijboklaaDoorM6
import Derived.Test.YtnchbnnijboklaaDoorM7
import Derived.Test.YtnchbnnijboklaaDoorM9
import Derived.Test.YtnchbnnijboklaaDoorM13
import Derived.Test.YtnchbnnijboklaaDoorM14
import Derived.Test.YtnchbnnijboklaaDoorM15
import Derived.Test.YtnchbnnijboklaaDoorM16
namespace Go.Proofs.YtnchbnnijboklaaDoor.CodeB
set_option linter.unusedVariables false
set_option linter.unusedSimpArgs false
open Go.RowKit Go.Proofs.YtnchbnnijboklaaDoorW.PrintWords Go.Proofs.YtnchbnnijboklaaDoorW.PrintLast Go.Proofs.YtnchbnnijboklaaDoorW.PrintMore Go.Proofs.YtnchbnnijboklaaDoor.M Go.Proofs.YtnchbnnijboklaaDoor.InsOps Go.Proofs.YtnchbnnijboklaaDoor.RightB

abbrev In := S30
abbrev Rs := List In × Int × Int
def front (c : List In) (x : In) : Rs := if 4096 ≤ c.length then (c, 0, 3) else (x :: c, (c.length : Int) + 1, 0)
def jump (c : List In) (t : Int) : Rs :=
  if 1 ≤ t ∧ t ≤ (c.length : Int) then if t = (c.length : Int) then (c, t, 0) else front c ⟨5, 0, 0, (wrap64 ((c.length : Int) - t)) % 4294967296⟩ else (c, 0, 4)
def near (c : List In) (t : Int) : Rs := if (c.length : Int) - t ≤ 254 then (c, t, 0) else jump c t
abbrev lastI (op k t f : Int) (d : List In) : In := ⟨op, wrap64 ((d.length : Int) - t), wrap64 ((d.length : Int) - f), k⟩
def last (c : List In) (op k t f : Int) (d : List In) : Rs :=
  if (front d (lastI op k t f d)).2.2 = 0 then ((front d (lastI op k t f d)).1, (front d (lastI op k t f d)).2.1, 0) else (c, 0, (front d (lastI op k t f d)).2.2)
def second (c : List In) (op k t f : Int) (d : List In) : Rs :=
  if (near d f).2.2 = 0 then last c op k t (near d f).2.1 (near d f).1 else (c, 0, (near d f).2.2)
def branch (ok : Bool) (c : List In) (op k t f : Int) : Rs :=
  if ok = true then
    if (1 ≤ t ∧ t ≤ (c.length : Int)) ∧ (1 ≤ f ∧ f ≤ (c.length : Int)) then
      if (near c t).2.2 = 0 then second c op k (near c t).2.1 f (near c t).1 else (c, 0, (near c t).2.2)
    else (c, 0, 4)
  else (c, 0, 1)
def add (ok : Bool) (c : List In) (x : In) : Rs := if ok = true then front c x else (c, 0, 1)
abbrev Sm (c : List In) : Prop := c.length < 100000

theorem w64s {x : Int} (h0 : -1000000 ≤ x) (h1 : x < 1000000) : wrap64 x = x := by simp only [wrap64]; omega
theorem label_is (c : List In) (t : Int) : code_label.f c t = some (decide (1 ≤ t ∧ t ≤ (c.length : Int))) := by
  unfold code_label.f
  by_cases h : t ≥ 1
  · rw [if_pos h]
    have : (1 ≤ t ∧ t ≤ (c.length : Int)) ↔ t ≤ (c.length : Int) := ⟨fun h => h.2, fun h2 => ⟨h, h2⟩⟩
    simp only [decide_eq_decide.mpr this]
  · rw [if_neg h, decide_eq_false (by omega)]
theorem ahead_is (c : List In) (x : In) (hc : Sm c) : code_ahead.f c [x] = some (front c x) := by
  unfold code_ahead.f front
  have hs : c.length < 100000 := hc
  have e1 : wrap64 ((c.length : Int) + (([x] : List In).length : Int)) = (c.length : Int) + 1 := by
    rw [show (([x] : List In).length : Int) = 1 from rfl]; exact w64s (by omega) (by omega)
  rw [e1]
  by_cases h : 4096 ≤ c.length
  · rw [if_pos (by omega), if_pos h]
  · rw [if_neg (by omega), if_neg h]
    simp only [Option.bind_some, List.nil_append, List.length_nil, List.length_cons]
    rw [if_pos (by omega), if_pos (by omega)]
    simp
theorem rfront_is (c : List In) (x : In) (hc : Sm c) : hurdleref12_front.f c x.f0 x.f1 x.f2 x.f3 = some (front c x) := by
  unfold hurdleref12_front.f front
  have hs : c.length < 100000 := hc
  by_cases h : 4096 ≤ c.length
  · rw [if_pos (by omega), if_pos h]
  · rw [if_neg (by omega), if_neg h]
    simp only [Option.bind_some, List.length_cons, List.length_nil]
    rw [if_pos (by omega), w64s (by omega) (by omega)]
    simp
theorem jump_is (c : List In) (t : Int) (hc : Sm c) : code_Jump.f c t = some (jump c t) := by
  unfold code_Jump.f jump
  rw [label_is]
  simp only [Option.bind_some]
  by_cases h : 1 ≤ t ∧ t ≤ (c.length : Int)
  · rw [decide_eq_true h, if_pos rfl, if_pos h]
    by_cases h2 : t = (c.length : Int)
    · rw [if_pos h2, if_pos h2]
    · rw [if_neg h2, if_neg h2, ahead_is c _ hc]
      rfl
  · rw [decide_eq_false h, if_neg (by simp), if_neg h]
theorem rjump_is (c : List In) (t : Int) (hc : Sm c) : Ev (fun k => hurdleref12_Jump.f k c t) (jump c t) := by
  have body : ∀ b : Bool, b = !decide (1 ≤ t ∧ t ≤ (c.length : Int)) → Ev (fun k => hurdleref12_Jump.j0 k c t b) (jump c t) := by
    intro b hb
    refine Ev.step (f := fun _ => some (jump c t)) (fun k => ?_) (Ev.now _)
    simp only [hurdleref12_Jump.j0]
    unfold jump
    by_cases h : 1 ≤ t ∧ t ≤ (c.length : Int)
    · rw [decide_eq_true h] at hb
      subst hb
      rw [if_neg (by simp), if_pos h]
      by_cases h2 : t = (c.length : Int)
      · rw [if_pos h2, if_pos h2]
      · rw [if_neg h2, if_neg h2]
        have := rfront_is c ⟨5, 0, 0, (wrap64 ((c.length : Int) - t)) % 4294967296⟩ hc
        simp only at this
        rw [this]
        rfl
    · rw [decide_eq_false h] at hb
      subst hb
      rw [if_pos (by simp), if_neg h]
  unfold hurdleref12_Jump.f
  by_cases h1 : t < 1
  · refine Ev.congr (fun k => if_pos h1) (body true ?_)
    rw [decide_eq_false (by omega)]; rfl
  · refine Ev.congr (fun k => if_neg h1) (body _ ?_)
    by_cases h2 : t ≤ (c.length : Int)
    · rw [decide_eq_true (show 1 ≤ t ∧ t ≤ (c.length : Int) from ⟨by omega, h2⟩), decide_eq_false (by omega)]; rfl
    · rw [decide_eq_false (show ¬ (1 ≤ t ∧ t ≤ (c.length : Int)) from fun h => h2 h.2), decide_eq_true (by omega)]; rfl
theorem near_is (c : List In) (t : Int) (hc : Sm c) (h0 : 1 ≤ t) (h1 : t ≤ 1000000) : code_closer.f c t = some (near c t) := by
  have hs : c.length < 100000 := hc
  by_cases ht : -1000000 ≤ (c.length : Int) - t
  · unfold code_closer.f near
    rw [w64s (by omega) (by omega)]
    by_cases h : (c.length : Int) - t ≤ 254
    · rw [if_pos h, if_pos h]
    · rw [if_neg h, if_neg h, jump_is c t hc]
      rfl
  · omega
theorem front_len (c : List In) (x : In) : (front c x).1.length ≤ c.length + 1 := by unfold front; split <;> simp
theorem jump_len (c : List In) (t : Int) : (jump c t).1.length ≤ c.length + 1 := by
  unfold jump
  split
  · split
    · simp
    · exact front_len _ _
  · simp
theorem near_len (c : List In) (t : Int) : (near c t).1.length ≤ c.length + 1 := by
  unfold near
  split
  · simp
  · exact jump_len _ _
theorem front_lab (c : List In) (x : In) : 0 ≤ (front c x).2.1 ∧ (front c x).2.1 ≤ (c.length : Int) + 1 := by unfold front; split <;> simp <;> omega
theorem jump_lab (c : List In) (t : Int) : 0 ≤ (jump c t).2.1 ∧ (jump c t).2.1 ≤ (c.length : Int) + 1 := by
  unfold jump
  split
  · split
    · simp only; omega
    · exact front_lab _ _
  · simp only; omega
theorem branch_is (ok : Bool) (c : List In) (op k t f : Int) (hc : Sm c) (hc2 : c.length + 10 < 100000) (h1 : ok = (branchI op && rightI op 0 0 k)) : Ev (fun n => code_Branch.f n c op k t f) (branch ok c op k t f) := by
  have hs : c.length < 100000 := hc
  have body : ∀ (b : Bool) (j f' : Int), Ev (fun n => code_Branch.j0 n c t f b op j f' k) (branch (!b) c op k t f) := by
    intro b j f'
    refine Ev.step (f := fun _ => some (branch (!b) c op k t f)) (fun n => ?_) (Ev.now _)
    simp only [code_Branch.j0]
    unfold branch
    cases b
    · rw [if_neg (by simp), if_pos (by simp), label_is, label_is]
      simp only [Option.bind_some]
      by_cases g1 : 1 ≤ t ∧ t ≤ (c.length : Int)
      · rw [decide_eq_true g1, if_pos rfl]
        by_cases g2 : 1 ≤ f ∧ f ≤ (c.length : Int)
        · rw [decide_eq_true g2, if_pos rfl, if_pos ⟨g1, g2⟩, near_is c t hc g1.1 (by omega)]
          simp only [Option.bind_some]
          by_cases g3 : (near c t).2.2 = 0
          · rw [if_pos g3, if_pos g3]
            have l1 := near_len c t
            rw [near_is (near c t).1 f (show (near c t).1.length < 100000 by omega) g2.1 (by omega)]
            unfold second
            simp only [Option.bind_some]
            by_cases g4 : (near (near c t).1 f).2.2 = 0
            · rw [if_pos g4, if_pos g4]
              have l2 := near_len (near c t).1 f
              rw [ahead_is _ _ (show (near (near c t).1 f).1.length < 100000 by omega)]
              simp only [Option.bind_some]
              exact (apply_ite some _ _ _).symm
            · rw [if_neg g4, if_neg g4]
          · rw [if_neg g3, if_neg g3]
        · rw [decide_eq_false g2, if_neg (by simp), if_neg (fun h => g2 h.2)]
      · rw [decide_eq_false g1, if_neg (by simp), if_neg (fun h => g1 h.1)]
    · rw [if_pos rfl, if_neg (by simp)]
  unfold code_Branch.f
  rw [branchI_is]
  simp only [Option.bind_some]
  cases hb : branchI op
  · simp only [Bool.false_eq_true, if_false]
    rw [hb] at h1
    subst h1
    exact body true 0 0
  · simp only [if_true]
    refine Ev.bind (rightI_is op 0 0 k) ?_
    rw [hb] at h1
    subst h1
    have := body (!(rightI op 0 0 k)) 0 0
    simpa using this
theorem rbranch_is (ok : Bool) (c : List In) (op k t f : Int) (hc : Sm c) (hc2 : c.length + 10 < 100000) (h1 : ok = (branchI op && rightI op 0 0 k)) : Ev (fun n => hurdleref12_Branch.f n c op k t f) (branch ok c op k t f) := by
  have hs : c.length < 100000 := hc
  have jump3 : ∀ (d : List In) (s : Int), Sm d → 1 ≤ s → s ≤ (d.length : Int) → (d.length : Int) - s ≤ 254 → near d s = (d, s, 0) := by
    intro d s _ _ _ h
    unfold near
    rw [if_pos h]
  have tail2 : ∀ (t' : Int) (d : List In), d.length + 5 < 100000 → 1 ≤ f → f ≤ 100000 → Ev (fun n => hurdleref12_Branch.j2 n c op k t' f d) (second c op k t' f d) := by
    intro t' d hd hf hf2
    have e : wrap64 ((d.length : Int) - 254) = (d.length : Int) - 254 := w64s (by omega) (by omega)
    unfold second
    by_cases g : (d.length : Int) - f ≤ 254
    · have en : near d f = (d, f, 0) := by unfold near; rw [if_pos g]
      rw [en]
      refine Ev.step (f := fun _ => some (last c op k t' f d)) (fun n => ?_) ?_
      · simp only [hurdleref12_Branch.j2]
        rw [e, if_neg (by omega)]
        have := rfront_is d ⟨op, wrap64 ((d.length : Int) - t'), wrap64 ((d.length : Int) - f), k⟩ (show d.length < 100000 by omega)
        simp only at this
        rw [this]
        simp only [Option.bind_some]
        exact (apply_ite some _ _ _).symm
      · simp only [if_true]; exact Ev.now _
    · have en : near d f = jump d f := by unfold near; rw [if_neg g]
      rw [en]
      refine Ev.step (fun n => by simp only [hurdleref12_Branch.j2]; rw [e, if_pos (by omega)]) ?_
      refine Ev.bind (rjump_is d f (show d.length < 100000 by omega)) ?_
      have l1 := jump_len d f
      by_cases g2 : (jump d f).2.2 = 0
      · rw [show (if (jump d f).2.2 = 0 then last c op k t' (jump d f).2.1 (jump d f).1 else (c, 0, (jump d f).2.2)) = last c op k t' (jump d f).2.1 (jump d f).1 from if_pos g2]
        refine Ev.congr (f := fun _ => some (last c op k t' (jump d f).2.1 (jump d f).1)) (fun n => ?_) (Ev.now _)
        rw [if_pos g2]
        have := rfront_is (jump d f).1 ⟨op, wrap64 (((jump d f).1.length : Int) - t'), wrap64 (((jump d f).1.length : Int) - (jump d f).2.1), k⟩ (show (jump d f).1.length < 100000 by omega)
        simp only at this
        rw [this]
        simp only [Option.bind_some]
        exact (apply_ite some _ _ _).symm
      · rw [show (if (jump d f).2.2 = 0 then last c op k t' (jump d f).2.1 (jump d f).1 else (c, 0, (jump d f).2.2)) = (c, 0, (jump d f).2.2) from if_neg g2]
        exact Ev.congr (fun n => if_neg g2) (Ev.now _)
  have tail1 : ∀ b : Bool, b = !decide ((1 ≤ t ∧ t ≤ (c.length : Int)) ∧ (1 ≤ f ∧ f ≤ (c.length : Int))) → Ev (fun n => hurdleref12_Branch.j1 n c op k t f b) (branch true c op k t f) := by
    intro b hb
    unfold branch
    rw [if_pos rfl]
    by_cases g : (1 ≤ t ∧ t ≤ (c.length : Int)) ∧ (1 ≤ f ∧ f ≤ (c.length : Int))
    · rw [decide_eq_true g] at hb
      subst hb
      rw [if_pos g]
      have e : wrap64 ((c.length : Int) - 254) = (c.length : Int) - 254 := w64s (by omega) (by omega)
      by_cases g2 : (c.length : Int) - t ≤ 254
      · have en : near c t = (c, t, 0) := by unfold near; rw [if_pos g2]
        rw [en]
        refine Ev.step (fun n => by simp only [hurdleref12_Branch.j1]; rw [if_neg (by simp), e, if_neg (by omega)]) ?_
        simp only [if_true]
        exact tail2 t c (by omega) g.2.1 (by omega)
      · have en : near c t = jump c t := by unfold near; rw [if_neg g2]
        rw [en]
        refine Ev.step (fun n => by simp only [hurdleref12_Branch.j1]; rw [if_neg (by simp), e, if_pos (by omega)]) ?_
        refine Ev.bind (rjump_is c t hc) ?_
        have l1 := jump_len c t
        by_cases g3 : (jump c t).2.2 = 0
        · rw [if_pos g3]
          exact Ev.congr (fun n => if_pos g3) (tail2 _ _ (by omega) g.2.1 (by omega))
        · rw [if_neg g3]
          exact Ev.congr (fun n => if_neg g3) (Ev.now _)
    · rw [decide_eq_false g] at hb
      subst hb
      rw [if_neg g]
      refine Ev.step (f := fun _ => some (c, 0, 4)) (fun n => ?_) (Ev.now _)
      simp only [hurdleref12_Branch.j1]
      rw [if_pos (by simp)]
  have tail0 : ∀ b : Bool, Ev (fun n => hurdleref12_Branch.j0 n c op k t f b) (branch (!b) c op k t f) := by
    intro b
    cases b
    · by_cases g1 : t < 1
      · exact Ev.step (fun n => by simp only [hurdleref12_Branch.j0]; rw [if_neg (by simp), if_pos g1]) (tail1 true (by rw [decide_eq_false (by omega)]; rfl))
      by_cases g2 : t > (c.length : Int)
      · exact Ev.step (fun n => by simp only [hurdleref12_Branch.j0]; rw [if_neg (by simp), if_neg g1, if_pos g2]) (tail1 true (by rw [decide_eq_false (by omega)]; rfl))
      by_cases g3 : f < 1
      · exact Ev.step (fun n => by simp only [hurdleref12_Branch.j0]; rw [if_neg (by simp), if_neg g1, if_neg g2, if_pos g3]) (tail1 true (by rw [decide_eq_false (by omega)]; rfl))
      refine Ev.step (fun n => by simp only [hurdleref12_Branch.j0]; rw [if_neg (by simp), if_neg g1, if_neg g2, if_neg g3]) (tail1 _ ?_)
      by_cases g4 : f > (c.length : Int)
      · rw [decide_eq_true g4, decide_eq_false (by omega)]; rfl
      · rw [decide_eq_false g4, decide_eq_true (by omega)]; rfl
    · refine Ev.step (f := fun _ => some (c, 0, 1)) (fun n => ?_) ?_
      · simp only [hurdleref12_Branch.j0]; rw [if_pos trivial]
      · unfold branch; rw [if_neg (by simp)]; exact Ev.now _
  unfold hurdleref12_Branch.f
  refine Ev.bind (rbranchI_is op 0 0 0) ?_
  cases hb : branchI op
  · simp only [Bool.false_eq_true, if_false]
    rw [hb] at h1
    subst h1
    exact tail0 true
  · simp only [if_true]
    refine Ev.bind (rrightI_is op 0 0 k) ?_
    rw [hb] at h1
    subst h1
    have := tail0 (!(rightI op 0 0 k))
    simpa using this
noncomputable def okAdd (x : In) : Bool := rightI x.f0 x.f1 x.f2 x.f3 && (x.f0 != 5 && !branchI x.f0)
theorem add_is (c : List In) (x : In) (hc : Sm c) : Ev (fun n => code_Add.f n c x.f0 x.f1 x.f2 x.f3) (add (okAdd x) c x) := by
  unfold code_Add.f add okAdd
  refine Ev.bind (rightI_is _ _ _ _) ?_
  cases rightI x.f0 x.f1 x.f2 x.f3
  · simp only [Bool.false_eq_true, if_false, Bool.false_and]; exact Ev.now _
  · simp only [if_true, Bool.true_and]
    by_cases h : x.f0 = 5
    · rw [h]; simp only [bne_self_eq_false, Bool.false_and, Bool.false_eq_true, if_false, if_true]; exact Ev.now _
    · have e : (x.f0 != 5) = true := bne_iff_ne.mpr h
      rw [e, branchI_is]
      simp only [if_neg h, Option.bind_some, Bool.true_and]
      cases branchI x.f0
      · simp only [Bool.false_eq_true, if_false, Bool.not_false, if_true]
        have := ahead_is c x hc
        rw [show (⟨x.f0, x.f1, x.f2, x.f3⟩ : In) = x from rfl, this]
        exact Ev.now _
      · simp only [if_true, Bool.not_true, Bool.false_eq_true, if_false]; exact Ev.now _
theorem radd_is (c : List In) (x : In) (hc : Sm c) : Ev (fun n => hurdleref12_Add.f n c x.f0 x.f1 x.f2 x.f3) (add (okAdd x) c x) := by
  unfold hurdleref12_Add.f add okAdd
  refine Ev.bind (rrightI_is _ _ _ _) ?_
  cases rightI x.f0 x.f1 x.f2 x.f3
  · simp only [Bool.false_eq_true, if_false, Bool.false_and]; exact Ev.now _
  · simp only [if_true, Bool.true_and]
    by_cases h : x.f0 = 5
    · rw [h]; simp only [bne_self_eq_false, Bool.false_and, Bool.false_eq_true, if_false, if_true]; exact Ev.now _
    · have e : (x.f0 != 5) = true := bne_iff_ne.mpr h
      rw [e]
      simp only [if_neg h, Bool.true_and]
      refine Ev.bind (rbranchI_is _ _ _ _) ?_
      cases branchI x.f0
      · simp only [Bool.false_eq_true, if_false, Bool.not_false, if_true]
        rw [rfront_is c x hc]
        exact Ev.now _
      · simp only [if_true, Bool.not_true, Bool.false_eq_true, if_false]; exact Ev.now _
def atI (c : List In) (n : Int) : Int := if (c.length : Int) = 0 then 0 else wrap64 (1 + Int.tmod (wrap64 n) (c.length : Int))
theorem at_is (c : List In) (n : Int) : hurdlelaw12_at.f c n = some (atI c n) := by
  unfold hurdlelaw12_at.f atI
  split <;> rfl
/-- One act. -/
noncomputable def act (c : List In) (a : S33) : Rs :=
  if a.f0 = 0 then add (okAdd a.f1) c a.f1 else if a.f0 = 1 then jump c (atI c a.f2) else branch (branchI a.f1.f0 && rightI a.f1.f0 0 0 a.f1.f3) c a.f1.f0 a.f1.f3 (atI c a.f2) (atI c a.f3)
theorem do_is (c : List In) (a : S33) (hc : c.length + 10 < 100000) : Ev (fun n => hurdlelaw12_Do.f n c a.f0 a.f1.f0 a.f1.f1 a.f1.f2 a.f1.f3 a.f2 a.f3) (act c a) := by
  unfold hurdlelaw12_Do.f act
  by_cases h0 : a.f0 = 0
  · simp only [if_pos h0]
    exact Ev.bind (add_is c a.f1 (show c.length < 100000 by omega)) (Ev.now _)
  · simp only [if_neg h0]
    by_cases h1 : a.f0 = 1
    · simp only [if_pos h1, at_is, Option.bind_some, jump_is c _ (show c.length < 100000 by omega)]
      exact Ev.now _
    · simp only [if_neg h1, at_is, Option.bind_some]
      exact Ev.bind (branch_is _ c _ _ _ _ (show c.length < 100000 by omega) hc rfl) (Ev.now _)
theorem means_is (c : List In) (a : S33) (hc : c.length + 10 < 100000) : Ev (fun n => hurdlelaw12_means.f n c a.f0 a.f1.f0 a.f1.f1 a.f1.f2 a.f1.f3 a.f2 a.f3) (act c a) := by
  unfold hurdlelaw12_means.f act
  by_cases h0 : a.f0 = 0
  · simp only [if_pos h0]
    exact Ev.bind (radd_is c a.f1 (show c.length < 100000 by omega)) (Ev.now _)
  · simp only [if_neg h0]
    by_cases h1 : a.f0 = 1
    · simp only [if_pos h1, at_is, Option.bind_some]
      exact Ev.bind (rjump_is c _ (show c.length < 100000 by omega)) (Ev.now _)
    · simp only [if_neg h1, at_is, Option.bind_some]
      exact Ev.bind (rbranch_is _ c _ _ _ _ (show c.length < 100000 by omega) hc rfl) (Ev.now _)
/-- Code that grew has what it was behind, and no more than three more. -/
def Grew (c d : List In) : Prop := ∃ m, d = m ++ c ∧ m.length ≤ 3
theorem Grew.rfl_ (c : List In) : Grew c c := ⟨[], rfl, by simp⟩
theorem front_on (c : List In) (x : In) : ∃ m, (front c x).1 = m ++ c ∧ m.length ≤ 1 := by
  unfold front; split
  · exact ⟨[], rfl, by simp⟩
  · exact ⟨[x], rfl, by simp⟩
theorem jump_on (c : List In) (t : Int) : ∃ m, (jump c t).1 = m ++ c ∧ m.length ≤ 1 := by
  unfold jump
  split
  · split
    · exact ⟨[], rfl, by simp⟩
    · exact front_on _ _
  · exact ⟨[], rfl, by simp⟩
theorem near_on (c : List In) (t : Int) : ∃ m, (near c t).1 = m ++ c ∧ m.length ≤ 1 := by
  unfold near
  split
  · exact ⟨[], rfl, by simp⟩
  · exact jump_on _ _
theorem branch_on (ok : Bool) (c : List In) (op k t f : Int) : Grew c (branch ok c op k t f).1 := by
  unfold branch
  split
  · split
    · split
      · unfold second
        split
        · unfold last
          split
          · obtain ⟨m1, e1, l1⟩ := near_on c t
            obtain ⟨m2, e2, l2⟩ := near_on (near c t).1 f
            obtain ⟨m3, e3, l3⟩ := front_on (near (near c t).1 f).1 (lastI op k (near c t).2.1 (near (near c t).1 f).2.1 (near (near c t).1 f).1)
            refine ⟨m3 ++ (m2 ++ m1), ?_, by simp only [List.length_append]; omega⟩
            simp only [List.append_assoc]
            rw [e3, e2, e1]
          · exact Grew.rfl_ c
        · exact Grew.rfl_ c
      · exact Grew.rfl_ c
    · exact Grew.rfl_ c
  · exact Grew.rfl_ c
theorem act_on (c : List In) (a : S33) : Grew c (act c a).1 := by
  unfold act
  split
  · unfold add
    split
    · obtain ⟨m, e, l⟩ := front_on c a.f1
      exact ⟨m, e, by omega⟩
    · exact Grew.rfl_ c
  · split
    · obtain ⟨m, e, l⟩ := jump_on c (atI c a.f2)
      exact ⟨m, e, by omega⟩
    · exact branch_on _ _ _ _ _ _
theorem same_from (c : List In) (hc : Sm c) : ∀ (m i : Nat), i + m = c.length → Ev (fun k => hurdleref03_Same.l0 k c c (i : Int)) true := by
  have hs : c.length < 100000 := hc
  intro m
  induction m with
  | zero =>
    intro i hi
    refine Ev.step (f := fun _ => some true) (fun k => ?_) (Ev.now _)
    simp only [hurdleref03_Same.l0]
    rw [if_neg (by omega)]
  | succ m ih =>
    intro i hi
    refine Ev.step (fun k => ?_) (ih (i + 1) (by omega))
    simp only [hurdleref03_Same.l0]
    rw [if_pos (by omega), if_pos (by omega), if_pos (by omega), if_neg (by simp), w64s (by omega) (by omega)]
    rfl
theorem same_is (c : List In) (hc : Sm c) : Ev (fun k => hurdleref03_Same.f k c c) true := by
  unfold hurdleref03_Same.f
  exact Ev.congr (fun k => if_pos rfl) (same_from c hc c.length 0 (by omega))
end Go.Proofs.YtnchbnnijboklaaDoor.CodeB
