import Derived.Test.YtnchbnnijboklaaDoorKSl
import Derived.Test.YtnchbnnijboklaaDoorKActWf
/-! Acts of a slice that came in, opened. -/
namespace Go.Proofs.YtnchbnnijboklaaDoor.LB
open Go.ChangeShapes Go.WideShapes Go.ChangeAt Go.RowKit Go.Deep Go.Joins Go.Proofs.YtnchbnnijboklaaDoor.M Go.Proofs.YtnchbnnijboklaaDoorW.PrintWords Go.Proofs.YtnchbnnijboklaaDoorW.PrintLast Go.Proofs.YtnchbnnijboklaaDoorW.PrintMore
theorem actTypes : ∃ f0 f1 f2 f3 : Field, Tryd.prog.underlying 33 = some (.struct #[f0, f1, f2, f3]) ∧ (f0.type = 3 ∧ f0.offset = 0) ∧ (f1.type = 30 ∧ f1.offset = 1) ∧ (f2.type = 31 ∧ f2.offset = 5) ∧ (f3.type = 31 ∧ f3.offset = 6) :=
  ⟨_, _, _, _, Tryd.underlying33, ⟨rfl, rfl⟩, ⟨rfl, rfl⟩, ⟨rfl, rfl⟩, rfl, rfl⟩
theorem cells_ins {H : Type} {enc : TypeId × Value → H} {w : World} {base : Nat} {sp : Nat → Bool} {held : Bool} {n : Nat} {cs : List Value} {y : DataW H × List MemPlace}
    (h : DataW.trod enc Tryd.prog w base sp held n 30 cs = some y) : ∃ x : S30, cs = [.int .i64 x.f0, .int .i64 x.f1, .int .i64 x.f2, .int .u32 x.f3] ∧ Q.wfIns x := by
  obtain ⟨x, hk, hw⟩ := one_ins h
  exact ⟨x, k30_open hk, hw⟩
/-- One act among those of a slice. -/
theorem one_act {H : Type} {enc : TypeId × Value → H} {w : World} {base : Nat} {sp : Nat → Bool} {held : Bool} {n : Nat} {cs : List Value} {y : DataW H × List MemPlace}
    (h : DataW.trod enc Tryd.prog w base sp held n 33 cs = some y) : ∃ x : S33, k33.K w x cs ∧ Q.wfAct x := by
  obtain ⟨f0, f1, f2, f3, hu, ⟨e0, o0⟩, ⟨e1, o1⟩, ⟨e2, o2⟩, ⟨e3, o3⟩⟩ := actTypes
  obtain ⟨y0, y1, y2, y3, n, hx, hl, t0, t1, t2, t3⟩ := trod_struct4 hu h
  have hl' : cs.length = 7 := hl.trans (by kernel_rfl)
  obtain ⟨c0, c1, c2, c3, c4, c5, c6, rfl⟩ : ∃ c0 c1 c2 c3 c4 c5 c6, cs = [c0, c1, c2, c3, c4, c5, c6] := by
    match cs, hl' with
    | [c0, c1, c2, c3, c4, c5, c6], _ => exact ⟨c0, c1, c2, c3, c4, c5, c6, rfl⟩
  have k0 : Tryd.prog.cellsOf 3 = 1 := by kernel_rfl
  have k1 : Tryd.prog.cellsOf 30 = 4 := by kernel_rfl
  have k2 : Tryd.prog.cellsOf 31 = 1 := by kernel_rfl
  rw [e0, o0, k0] at t0; rw [e1, o1, k1] at t1; rw [e2, o2, k2] at t2; rw [e3, o3, k2] at t3
  simp only [List.drop_succ_cons, List.drop_zero, List.take_succ_cons, List.take_zero] at t0 t1 t2 t3
  obtain ⟨n0, q0, _, w0⟩ := DataW.trod_int Tryd.underlying3 t0
  obtain ⟨x, q1, w1⟩ := cells_ins t1
  obtain ⟨n2, q2, _, w2⟩ := DataW.trod_int Tryd.underlying31 t2
  obtain ⟨n3, q3, _, w3⟩ := DataW.trod_int Tryd.underlying31 t3
  cases q0; cases q2; cases q3
  simp only [List.cons.injEq, and_true] at q1
  obtain ⟨rfl, rfl, rfl, rfl⟩ := q1
  exact ⟨⟨n0, x, n2, n3⟩, k33_mk w ⟨n0, x, n2, n3⟩, w0, w1, w2, w3⟩
end Go.Proofs.YtnchbnnijboklaaDoor.LB
