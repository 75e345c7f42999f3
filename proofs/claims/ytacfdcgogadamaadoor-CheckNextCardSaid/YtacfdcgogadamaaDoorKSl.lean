import Derived.Test.YtacfdcgogadamaaDoorKBase
import Derived.Test.YtacfdcgogadamaaDoorKWf
import Derived.Deep.Slices
/-! Slices that came in, opened: what the printed contracts want of them. -/
namespace Go.Proofs.YtacfdcgogadamaaDoor.LB
open Go.ChangeShapes Go.WideShapes Go.ChangeAt Go.RowKit Go.Deep Go.Joins Go.Proofs.YtacfdcgogadamaaDoor.M Go.Proofs.YtacfdcgogadamaaDoorW.PrintWords Go.Proofs.YtacfdcgogadamaaDoorW.PrintLast Go.Proofs.YtacfdcgogadamaaDoorW.PrintMore
set_option linter.unusedVariables false

theorem list_choose {α : Type} {n : Nat} {p : Nat → α → Prop} (h : ∀ i, i < n → ∃ x, p i x) : ∃ xs : List α, xs.length = n ∧ ∀ i x, xs[i]? = some x → p i x := by
  induction n with
  | zero => exact ⟨[], rfl, fun i x hx => by simp at hx⟩
  | succ n ih =>
    obtain ⟨xs, hl, hx⟩ := ih (fun i hi => h i (by omega))
    obtain ⟨x, hp⟩ := h n (by omega)
    refine ⟨xs ++ [x], by simp [hl], fun i y hy => ?_⟩
    by_cases hi : i < n
    · rw [List.getElem?_append_left (by omega)] at hy
      exact hx i y hy
    · rw [List.getElem?_append_right (by omega)] at hy
      have : i - xs.length = 0 := by
        by_cases h0 : i - xs.length = 0
        · exact h0
        · rw [List.getElem?_eq_none (by simp; omega)] at hy; cases hy
      rw [this] at hy
      have hin : i = n := by omega
      simp at hy
      subst hy
      rw [hin]
      exact hp

/-- A slice that came in, opened: its elements, each by its own opening. -/
theorem open_sl {α : Type} {d : Kd α} {Wf : α → Prop} {H : Type} {enc : TypeId × Value → H} {P : Program} {w : World} {base b0 : Nat} {sp : Nat → Bool} {held : Bool} {r : Reach} {t e : TypeId} {v : Value} {D : DataW H} {p : List MemPlace}
    (ht : P.underlying t = some (.slice e)) (hsz : P.cellsOf e = d.sz) (hv : Value.okWide P w r b0 t v)
    (one : ∀ n cs y, DataW.trod enc P w base sp held n e cs = some y → ∃ x : α, d.K w x cs ∧ Wf x)
    (h : DataW.Trod enc P w base sp held t v D p) :
    ∃ (A : Option Addr) (cap : Nat) (xs : List α), v = .slice A xs.length cap ∧ d.C w A xs.length xs ∧ xs.length ≤ cap ∧ (∀ x ∈ xs, Wf x) ∧ xs.length ≤ maxLen ∧ cap ≤ maxLen ∧ (xs = [] ∨ ∃ el spr, D = .slice el spr ∧ el.length = xs.length) := by
  obtain ⟨a, len, cap, rfl⟩ := okWide_slice ht hv
  obtain ⟨m, hm⟩ := h
  rcases open_slice ht hm with ⟨hc, _⟩ | ⟨a', len', cap', m', n, De, Pl, hc, hb, hl, hmx, hmm, hx, hall⟩
  · simp [Value.cells] at hc
    obtain ⟨rfl, rfl, rfl⟩ := hc
    exact ⟨none, 0, [], rfl, ⟨rfl, by simp, fun h => absurd h (by simp)⟩, by simp, by simp, by simp, by simp, .inl rfl⟩
  · simp [Value.cells] at hc
    obtain ⟨rfl, rfl, rfl⟩ := hc
    have hle : len ≤ m' := by rw [hmm]; split <;> omega
    obtain ⟨xs, hxl, hxs⟩ := list_choose (α := α) (n := len) (p := fun i x => (∃ cs, w.cells? base (a'.add (i * P.cellsOf e)) (P.cellsOf e) = some cs ∧ d.K w x cs) ∧ Wf x) (fun i hi => by
      obtain ⟨cs, h1, h2⟩ := hall i (by omega)
      obtain ⟨x, k, wf⟩ := one _ _ _ h2
      exact ⟨x, ⟨cs, h1, k⟩, wf⟩)
    subst hxl
    refine ⟨some a', cap, xs, rfl, ⟨rfl, by simp only [maxLen] at hmx; omega, fun _ => ⟨a', rfl, fun j x hj => ?_⟩⟩, hl, ?_, by omega, hmx, .inr ⟨_, _, (Prod.ext_iff.1 hx).1, by simp⟩⟩
    · obtain ⟨⟨cs, h1, k⟩, wf⟩ := hxs j x hj
      obtain ⟨_, g2, g3⟩ := World.cells?_some h1
      refine ⟨cs, by rw [g2, hsz], k, fun i u hu => ?_⟩
      have hi : i < cs.length := (List.getElem?_eq_some_iff.1 hu).1
      rw [← hu, ← g3 i (by omega), Deep.add_add, hsz]
    · intro x hx
      obtain ⟨i, hi, e⟩ := List.getElem_of_mem hx
      exact (hxs i x (by rw [List.getElem?_eq_getElem hi, e])).2
/-- One number among those of a slice. -/
theorem one_int {H : Type} {enc : TypeId × Value → H} {w : World} {base : Nat} {sp : Nat → Bool} {held : Bool} {n : Nat} {cs : List Value} {y : DataW H × List MemPlace} {e : TypeId} {k : IntKind} (he : Tryd.prog.underlying e = some (.int k))
    (h : DataW.trod enc Tryd.prog w base sp held n e cs = some y) : ∃ x : Int, (Kd.int k).K w x cs ∧ (fun x : Int => (Lit.int k x).wf = true) x := by
  obtain ⟨n0, rfl, _, w0⟩ := DataW.trod_int he h
  exact ⟨n0, rfl, w0⟩
/-- One instruction among those of a slice. -/
theorem one_ins {H : Type} {enc : TypeId × Value → H} {w : World} {base : Nat} {sp : Nat → Bool} {held : Bool} {n : Nat} {cs : List Value} {y : DataW H × List MemPlace}
    (h : DataW.trod enc Tryd.prog w base sp held n 36 cs = some y) : ∃ x : S36, k36.K w x cs ∧ Q.wfIns x := by
  obtain ⟨f0, f1, f2, f3, hu, hone, e0, e1, e2, e3⟩ := fieldTypes
  obtain ⟨y0, y1, y2, y3, n, hx, hl, t0, t1, t2, t3⟩ := trod_struct4 hu h
  obtain ⟨o0, k0⟩ := hone_of hone 0 f0 rfl
  obtain ⟨o1, k1⟩ := hone_of hone 1 f1 rfl
  obtain ⟨o2, k2⟩ := hone_of hone 2 f2 rfl
  obtain ⟨o3, k3⟩ := hone_of hone 3 f3 rfl
  have hl' : cs.length = 4 := hl.trans (by kernel_rfl)
  obtain ⟨c0, c1, c2, c3, rfl⟩ : ∃ c0 c1 c2 c3, cs = [c0, c1, c2, c3] := by
    match cs, hl' with
    | [c0, c1, c2, c3], _ => exact ⟨c0, c1, c2, c3, rfl⟩
  rw [o0, k0] at t0; rw [o1, k1] at t1; rw [o2, k2] at t2; rw [o3, k3] at t3; simp only [List.drop_succ_cons, List.drop_zero, List.take_succ_cons, List.take_zero] at t0 t1 t2 t3
  rw [e0] at t0; rw [e1] at t1; rw [e2] at t2; rw [e3] at t3
  obtain ⟨n0, q0, _, w0⟩ := DataW.trod_int Tryd.underlying3 t0
  obtain ⟨n1, q1, _, w1⟩ := DataW.trod_int Tryd.underlying3 t1
  obtain ⟨n2, q2, _, w2⟩ := DataW.trod_int Tryd.underlying3 t2
  obtain ⟨n3, q3, _, w3⟩ := DataW.trod_int Tryd.underlying34 t3
  cases q0; cases q1; cases q2; cases q3
  exact ⟨⟨n0, n1, n2, n3⟩, k36_mk w ⟨n0, n1, n2, n3⟩, w0, w1, w2, w3⟩
end Go.Proofs.YtacfdcgogadamaaDoor.LB
