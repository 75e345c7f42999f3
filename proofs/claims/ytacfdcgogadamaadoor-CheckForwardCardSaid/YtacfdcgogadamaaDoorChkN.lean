/- The places to which a run may go, by the program's and the document's functions: the same. No condition but sizes far beyond the laws'. -/
import Derived.Test.YtacfdcgogadamaaDoorChkB
import Derived.Test.YtacfdcgogadamaaDoorM6
import Derived.Test.YtacfdcgogadamaaDoorM16
namespace Go.Proofs.YtacfdcgogadamaaDoor.ChkN
set_option linter.unusedVariables false
set_option linter.unusedSimpArgs false
open Go.RowKit Go.Proofs.YtacfdcgogadamaaDoorW.PrintWords Go.Proofs.YtacfdcgogadamaaDoorW.PrintLast Go.Proofs.YtacfdcgogadamaaDoorW.PrintMore Go.Proofs.YtacfdcgogadamaaDoor.M Go.Proofs.YtacfdcgogadamaaDoor.InsOps Go.Proofs.YtacfdcgogadamaaDoor.RightB Go.Proofs.YtacfdcgogadamaaDoor.ChkB

def hits (p : Nat → Bool) : Nat → Nat → List Nat
  | _, 0 => []
  | o, m + 1 => if p o = true then o :: hits p (o + 1) m else hits p (o + 1) m
theorem hits_none (p : Nat → Bool) : ∀ (m o : Nat), (∀ i, o ≤ i → i < o + m → p i = false) → hits p o m = [] := by
  intro m
  induction m with
  | zero => intro o _; rfl
  | succ m ih =>
    intro o h
    unfold hits
    rw [h o (Nat.le_refl _) (by omega), if_neg (by simp)]
    exact ih (o + 1) (fun i h1 h2 => h i (by omega) (by omega))
theorem hits_one (p : Nat → Bool) (c : Nat) (hc : p c = true) : ∀ (m o : Nat), o ≤ c → c < o + m → (∀ i, o ≤ i → i < o + m → i ≠ c → p i = false) → hits p o m = [c] := by
  intro m
  induction m with
  | zero => intro o h1 h2; omega
  | succ m ih =>
    intro o h1 h2 h
    unfold hits
    by_cases e : o = c
    · subst e
      rw [if_pos hc, hits_none p m (o + 1) (fun i h1 h2 => h i (by omega) (by omega) (by omega))]
    · rw [h o (Nat.le_refl _) (by omega) e, if_neg (by simp)]
      exact ih (o + 1) (by omega) (by omega) (fun i h1 h2 h3 => h i (by omega) (by omega) h3)
theorem hits_two (p : Nat → Bool) (c d : Nat) (hcd : c < d) (hc : p c = true) (hd : p d = true) : ∀ (m o : Nat), o ≤ c → d < o + m → (∀ i, o ≤ i → i < o + m → i ≠ c → i ≠ d → p i = false) → hits p o m = [c, d] := by
  intro m
  induction m with
  | zero => intro o h1 h2; omega
  | succ m ih =>
    intro o h1 h2 h
    unfold hits
    by_cases e : o = c
    · subst e
      rw [if_pos hc, hits_one p d hd m (o + 1) (by omega) (by omega) (fun i h1 h2 h3 => h i (by omega) (by omega) (by omega) h3)]
    · rw [h o (Nat.le_refl _) (by omega) e (by omega), if_neg (by simp)]
      exact ih (o + 1) (by omega) (by omega) (fun i h1 h2 h3 h4 => h i (by omega) (by omega) h3 h4)
/-- Is so far behind a place to go to? -/
noncomputable def hit (x : In) (o : Nat) : Bool := !endI x && if branchI x.f0 = true then decide ((o : Int) = x.f1) || decide ((o : Int) = x.f2) else if x.f0 = 5 then decide ((o : Int) = x.f3) else o == 0
noncomputable def nextL (x : In) (at_ left : Nat) : List Int := (hits (hit x) 0 left).map fun o : Nat => (at_ : Int) + 1 + (o : Int)
theorem rnext_from (l : List In) (hl : l.length < 100000) (x : In) (hk : 0 ≤ x.f3 ∧ x.f3 < 4294967296) (at_ : Nat) : ∀ (m o : Nat) (acc : List Int), at_ + 1 + o + m = l.length → acc.length ≤ o → Ev (fun k => hurdleref05_Next.l0 k l (at_ : Int) acc ((at_ + 1 + o : Nat) : Int) x.f0 x.f1 x.f2 x.f3) (acc ++ (hits (hit x) o m).map fun o : Nat => (at_ : Int) + 1 + (o : Int)) := by
  intro m
  induction m with
  | zero =>
    intro o acc hi _
    refine Ev.step (f := fun _ => some (acc ++ (hits (hit x) o 0).map fun o : Nat => (at_ : Int) + 1 + (o : Int))) (fun k => ?_) (Ev.now _)
    simp only [hurdleref05_Next.l0]
    rw [if_neg (by omega)]
    simp [hits]
  | succ m ih =>
    intro o acc hi ha
    have eo : wrap64 (wrap64 (((at_ + 1 + o : Nat) : Int) - (at_ : Int)) - 1) = (o : Int) := by rw [w64s (x := ((at_ + 1 + o : Nat) : Int) - (at_ : Int)) (by omega) (by omega), w64s (by omega) (by omega)]; omega
    have en : wrap64 (((at_ + 1 + o : Nat) : Int) + 1) = ((at_ + 1 + (o + 1) : Nat) : Int) := by rw [wS _ (by omega)]; congr 1
    have no : hit x o = false → Ev (fun k => hurdleref05_Next.l0 k l (at_ : Int) acc ((at_ + 1 + (o + 1) : Nat) : Int) x.f0 x.f1 x.f2 x.f3) (acc ++ (hits (hit x) o (m + 1)).map fun o : Nat => (at_ : Int) + 1 + (o : Int)) := by
      intro h
      have := ih (o + 1) acc (by omega) (by omega)
      rw [show hits (hit x) o (m + 1) = hits (hit x) (o + 1) m from by rw [hits, h, if_neg (by simp)]]
      exact this
    have yes : hit x o = true → Ev (fun k => hurdleref05_Next.l0 k l (at_ : Int) (acc ++ [((at_ + 1 + o : Nat) : Int)]) ((at_ + 1 + (o + 1) : Nat) : Int) x.f0 x.f1 x.f2 x.f3) (acc ++ (hits (hit x) o (m + 1)).map fun o : Nat => (at_ : Int) + 1 + (o : Int)) := by
      intro h
      have := ih (o + 1) (acc ++ [((at_ + 1 + o : Nat) : Int)]) (by omega) (by rw [List.length_append]; simp; omega)
      rw [show hits (hit x) o (m + 1) = o :: hits (hit x) (o + 1) m from by rw [hits, h, if_pos rfl]]
      rw [List.append_assoc] at this
      exact this
    have hac : acc.length < 17592186044416 := by omega
    have body : ∀ b : Bool, (branchI x.f0 = false → b = if x.f0 = 5 then decide ((o : Int) = x.f3) else o == 0) → Ev (fun k => hurdleref05_Next.j1 k l (at_ : Int) acc ((at_ + 1 + o : Nat) : Int) (o : Int) b x.f0 x.f1 x.f2 x.f3) (acc ++ (hits (hit x) o (m + 1)).map fun o : Nat => (at_ : Int) + 1 + (o : Int)) := by
      intro b hb
      refine Ev.step (fun k => by simp only [hurdleref05_Next.j1, rends_is, Option.bind_some, en, if_pos hac]; rfl) ?_
      refine Ev.bind (rbranchI_is _ _ _ _) ?_
      cases hbr : branchI x.f0
      · have hb' := hb hbr
        simp only [Bool.false_eq_true, if_false]
        have hh : hit x o = (!endI x && b) := by unfold hit; rw [hbr, hb']; simp
        cases b
        · simp only [Bool.false_eq_true, if_false]
          exact no (by rw [hh]; simp)
        · simp only [if_true]
          cases he : endI x
          · simp only [Bool.false_eq_true, if_false]
            exact yes (by rw [hh, he]; rfl)
          · simp only [if_true]
            exact no (by rw [hh, he]; rfl)
      · simp only [if_true]
        by_cases c1 : (o : Int) = x.f1
        · simp only [if_pos c1]
          cases he : endI x
          · simp only [Bool.false_eq_true, if_false]
            exact yes (by unfold hit; rw [hbr, he, decide_eq_true c1]; simp)
          · simp only [if_true]
            exact no (by unfold hit; rw [he]; simp)
        · simp only [if_neg c1]
          by_cases c2 : (o : Int) = x.f2
          · simp only [if_pos c2]
            cases he : endI x
            · simp only [Bool.false_eq_true, if_false]
              exact yes (by unfold hit; rw [hbr, he, decide_eq_true c2]; simp)
            · simp only [if_true]
              exact no (by unfold hit; rw [he]; simp)
          · simp only [if_neg c2]
            exact no (by unfold hit; rw [hbr, decide_eq_false c1, decide_eq_false c2]; simp)
    by_cases h5 : x.f0 = 5
    · refine Ev.step (fun k => by simp only [hurdleref05_Next.l0]; rw [if_pos (by omega), if_pos h5, eo]) (body _ (fun _ => ?_))
      rw [if_pos h5]
      have e1 : IntKind.u64.wrap (o : Int) = (o : Int) := by rw [IntKind.wrap_u64]; omega
      have e2 : IntKind.u64.wrap x.f3 = x.f3 := by rw [IntKind.wrap_u64]; omega
      rw [e1, e2]
      exact (Bool.beq_eq_decide_eq _ _)
    · refine Ev.step (fun k => by simp only [hurdleref05_Next.l0]; rw [if_pos (by omega), if_neg h5, eo]) (body _ (fun _ => ?_))
      rw [if_neg h5]
      rw [Bool.eq_iff_iff]
      simp
theorem rnext_is (l : List In) (hl : l.length < 100000) (hw : ∀ x ∈ l, Q.wfIns x) (at_ : Nat) (ha : at_ < l.length) : Ev (fun k => hurdleref05_Next.f k l (at_ : Int)) (nextL l[at_] at_ (l.length - 1 - at_)) := by
  unfold hurdleref05_Next.f
  have hk := u32_range (hw _ (List.getElem_mem ha)).2.2.2
  refine Ev.congr (fun k => by rw [if_pos (by omega), if_pos (by omega), rd_at l at_ ha, wS at_ (by omega)]) ?_
  have := rnext_from l hl l[at_] hk at_ (l.length - 1 - at_) 0 [] (by omega) (by simp)
  simpa [nextL] using this
/-- What was left out twice over. -/
def once (ws : List Int) : List Int := match ws with
  | [a, b] => if a = b then [a] else [a, b]
  | ws => ws
theorem next_l0 (ws : List Int) (h : ws = [] ∨ (∃ a, ws = [a]) ∨ ∃ a b, ws = [a, b]) : Ev (fun k => check_Next.l0 k [] ws (ws.length : Int) 0) (once ws) := by
  have e1 : wrap64 (0 + 1) = 1 := by decide +kernel
  have e2 : wrap64 (1 + 1) = 2 := by decide +kernel
  have e3 : wrap64 (1 - 1) = 0 := by decide +kernel
  have e4 : wrap64 1 = 1 := by decide +kernel
  have e5 : wrap64 2 = 2 := by decide +kernel
  have e6 : wrap64 0 = 0 := by decide +kernel
  rcases h with rfl | ⟨a, rfl⟩ | ⟨a, b, rfl⟩
  · exact Ev.step (f := fun _ => some []) (fun k => by simp [check_Next.l0]) (Ev.now _)
  · refine Ev.step (f := fun k => check_Next.l0 k [a] [a] 1 1) (fun k => by simp [check_Next.l0, rd, e4]) ?_
    exact Ev.step (f := fun _ => some [a]) (fun k => by simp [check_Next.l0]) (Ev.now _)
  · refine Ev.step (f := fun k => check_Next.l0 k [a] [a, b] 2 1) (fun k => by simp [check_Next.l0, rd, e4]) ?_
    by_cases c : a = b
    · refine Ev.step (f := fun k => check_Next.l0 k [a] [a, b] 2 2) (fun k => by simp [check_Next.l0, rd, c, e2, e3, e4, e5, e6]) ?_
      refine Ev.step (f := fun _ => some [a]) (fun k => by simp [check_Next.l0]) ?_
      simp only [once, if_pos c]; exact Ev.now _
    · refine Ev.step (f := fun k => check_Next.l0 k [a, b] [a, b] 2 2) (fun k => by simp [check_Next.l0, rd, c, e2, e3, e4, e5, e6]) ?_
      refine Ev.step (f := fun _ => some [a, b]) (fun k => by simp [check_Next.l0]) ?_
      simp only [once, if_neg c]; exact Ev.now _
/-- What one that is no error is. -/
theorem one_zero {x : In} {left : Int} (hw : Q.wfIns x) (h : one x left = 0) : GoodI x ∧ far x left = false := by
  unfold one at h
  cases hr : rt x
  · rw [hr] at h; simp at h
  · rw [hr] at h
    simp only [if_true] at h
    split at h
    · refine ⟨good_of hw hr, ?_⟩
      cases hf : far x left
      · rfl
      · rw [hf] at h; simp at h
    · rename_i hE
      exact absurd h hE
theorem once_ways (x : In) (hg : GoodI x) (at_ left : Nat) (hf : far x (left : Int) = false) (hlast : endI x = true ∨ 0 < left) : once (waysI x (at_ : Int)) = nextL x at_ left := by
  obtain ⟨b1, b2, b3, b4, b5, b6⟩ := good_small hg
  unfold waysI nextL
  cases he : endI x
  · simp only [Bool.false_eq_true, if_false]
    have hl : 0 < left := hlast.elim (fun h => by rw [he] at h; cases h) id
    by_cases h5 : x.f0 = 5
    · have hb : branchI x.f0 = false := by rw [h5]; exact branch_5
      rw [if_pos h5]
      have hfar : x.f3 < (left : Int) := by
        unfold far at hf
        rw [if_pos h5] at hf
        have := of_decide_eq_false hf
        omega
      obtain ⟨c, hc⟩ : ∃ c : Nat, x.f3 = (c : Int) := ⟨x.f3.toNat, by omega⟩
      have hp : ∀ i : Nat, hit x i = decide ((i : Int) = x.f3) := fun i => by unfold hit; rw [he, hb, if_neg (by simp), if_pos h5]; simp
      rw [hits_one (hit x) c (by rw [hp, hc]; simp) left 0 (by omega) (by omega) (fun i _ _ h => by rw [hp, hc]; exact decide_eq_false (by omega))]
      simp [once, hc]
    · rw [if_neg h5]
      cases hb : branchI x.f0
      · simp only [Bool.false_eq_true, if_false]
        have hp : ∀ i : Nat, hit x i = (i == 0) := fun i => by unfold hit; rw [he, hb, if_neg (by simp), if_neg h5]; simp
        rw [hits_one (hit x) 0 (by rw [hp]; rfl) left 0 (by omega) (by omega) (fun i _ _ h => by rw [hp]; simpa using h)]
        simp [once]
      · simp only [if_true]
        have hp : ∀ i : Nat, hit x i = (decide ((i : Int) = x.f1) || decide ((i : Int) = x.f2)) := fun i => by unfold hit; rw [he, hb, if_pos rfl]; simp
        have hfar : x.f1 < (left : Int) ∧ x.f2 < (left : Int) := by
          unfold far at hf
          rw [if_neg h5, hb] at hf
          simp at hf
          omega
        obtain ⟨c, hc⟩ : ∃ c : Nat, x.f1 = (c : Int) := ⟨x.f1.toNat, by omega⟩
        obtain ⟨d, hd⟩ : ∃ d : Nat, x.f2 = (d : Int) := ⟨x.f2.toNat, by omega⟩
        obtain ⟨m1, m2⟩ := mn_mx x.f1 x.f2
        rw [m1, m2, hc, hd]
        rcases Nat.lt_trichotomy c d with h | h | h
        · rw [hits_two (hit x) c d h (by rw [hp, hc]; simp) (by rw [hp, hd]; simp) left 0 (by omega) (by omega) (fun i _ _ h1 h2 => by rw [hp, hc, hd, decide_eq_false (by omega), decide_eq_false (by omega)]; rfl)]
          have e1 : min (c : Int) (d : Int) = (c : Int) := by omega
          have e2 : max (c : Int) (d : Int) = (d : Int) := by omega
          rw [e1, e2]
          have ne : ¬ ((at_ : Int) + 1 + (c : Int) = (at_ : Int) + 1 + (d : Int)) := by omega
          simp only [once, if_neg ne, List.map_cons, List.map_nil]
        · subst h
          rw [hits_one (hit x) c (by rw [hp, hc]; simp) left 0 (by omega) (by omega) (fun i _ _ h1 => by rw [hp, hc, hd, decide_eq_false (by omega)]; rfl)]
          have e1 : min (c : Int) (c : Int) = (c : Int) := by omega
          have e2 : max (c : Int) (c : Int) = (c : Int) := by omega
          rw [e1, e2]
          simp [once]
        · rw [hits_two (hit x) d c h (by rw [hp, hd]; simp) (by rw [hp, hc]; simp) left 0 (by omega) (by omega) (fun i _ _ h1 h2 => by rw [hp, hc, hd, decide_eq_false (by omega), decide_eq_false (by omega)]; rfl)]
          have e1 : min (c : Int) (d : Int) = (d : Int) := by omega
          have e2 : max (c : Int) (d : Int) = (c : Int) := by omega
          rw [e1, e2]
          have ne : ¬ ((at_ : Int) + 1 + (d : Int) = (at_ : Int) + 1 + (c : Int)) := by omega
          simp only [once, if_neg ne, List.map_cons, List.map_nil]
  · simp only [if_true]
    rw [hits_none (hit x) left 0 (fun i _ _ => by unfold hit; rw [he]; rfl)]
    rfl
theorem ways_form (x : In) (i : Int) : waysI x i = [] ∨ (∃ a, waysI x i = [a]) ∨ ∃ a b, waysI x i = [a, b] := by
  unfold waysI
  split
  · exact .inl rfl
  split
  · exact .inr (.inl ⟨_, rfl⟩)
  split
  · exact .inr (.inr ⟨_, _, rfl⟩)
  · exact .inr (.inl ⟨_, rfl⟩)
/-- In a sound filter: the last one ends; each has places behind. -/
theorem sound_at (l : List In) (hw : ∀ x ∈ l, Q.wfIns x) (hs : (chk l).2 = 0) (at_ : Nat) (ha : at_ < l.length) : GoodI l[at_] ∧ once (waysI l[at_] (at_ : Int)) = nextL l[at_] at_ (l.length - 1 - at_) := by
  obtain ⟨h1, h2, h3, h4⟩ := (sound_iff l).mp hs
  obtain ⟨hg, hf⟩ := one_zero (hw _ (List.getElem_mem ha)) (h3 at_ ha)
  have e : ((l.length : Int) - 1 - (at_ : Int)) = ((l.length - 1 - at_ : Nat) : Int) := by omega
  rw [e] at hf
  refine ⟨hg, once_ways _ hg at_ _ hf ?_⟩
  by_cases hl : at_ = l.length - 1
  · left
    rw [List.getD_eq_getElem?_getD, List.getElem?_eq_getElem (by omega)] at h4
    simp only [Option.getD_some] at h4
    have : l[at_] = l[l.length - 1] := by congr 1
    rw [this]
    exact h4
  · right; omega
theorem next_is (l : List In) (hl : l.length < 100000) (hw : ∀ x ∈ l, Q.wfIns x) (hs : (chk l).2 = 0) (at_ : Nat) (ha : at_ < l.length) : Ev (fun k => check_Next.f k l (at_ : Int)) (nextL l[at_] at_ (l.length - 1 - at_)) := by
  obtain ⟨hg, e⟩ := sound_at l hw hs at_ ha
  unfold check_Next.f
  refine Ev.bind (sound_is l hl hw) ?_
  rw [hs]
  refine Ev.congr (fun k => (if_pos rfl).trans (if_neg (by omega))) ?_
  rw [decide_eq_false (by omega)]
  refine Ev.step (fun k => by simp only [check_Next.j0, Bool.false_eq_true, if_false]; rw [if_pos (by omega), if_pos (by omega), rd_at l at_ ha, ways_is _ hg at_ (by omega)]) ?_
  simp only [Option.bind_some]
  rw [← e]
  exact next_l0 _ (ways_form _ _)
theorem next_none (l : List In) (hl : l.length < 100000) (hw : ∀ x ∈ l, Q.wfIns x) (at_ : Int) (h : (chk l).2 ≠ 0 ∨ at_ < 0 ∨ (l.length : Int) ≤ at_) : Ev (fun k => check_Next.f k l at_) [] := by
  have out : Ev (fun k => check_Next.j0 k l at_ true) [] := Ev.step (f := fun _ => some []) (fun k => by simp [check_Next.j0]) (Ev.now _)
  unfold check_Next.f
  refine Ev.bind (sound_is l hl hw) ?_
  by_cases hs : (chk l).2 = 0
  · rw [hs]
    refine Ev.congr (fun k => if_pos rfl) ?_
    by_cases h1 : at_ < 0
    · exact Ev.congr (fun k => if_pos h1) out
    · refine Ev.congr (fun k => if_neg h1) ?_
      rw [decide_eq_true (show at_ ≥ (l.length : Int) from h.elim (fun h => absurd hs h) (fun h => h.elim (fun h => absurd h h1) id))]
      exact out
  · rw [show ((chk l).2 == 0) = false from beq_eq_false_iff_ne.mpr hs]
    exact Ev.congr (fun k => if_neg (by simp)) out
/-- The places: behind, in the filter, rising; none where a run ends. -/
theorem hits_range (p : Nat → Bool) : ∀ (m o : Nat), (∀ c ∈ hits p o m, o ≤ c ∧ c < o + m) ∧ (hits p o m).Pairwise (· < ·) := by
  intro m
  induction m with
  | zero => intro o; exact ⟨(fun c hc => by cases hc), List.Pairwise.nil⟩
  | succ m ih =>
    intro o
    obtain ⟨h1, h2⟩ := ih (o + 1)
    unfold hits
    split
    · refine ⟨fun c hc => ?_, List.Pairwise.cons (fun c hc => by have := h1 c hc; omega) h2⟩
      rcases List.mem_cons.1 hc with rfl | hc
      · omega
      · have := h1 c hc; omega
    · exact ⟨fun c hc => by have := h1 c hc; omega, h2⟩
end Go.Proofs.YtacfdcgogadamaaDoor.ChkN
