/- Plain facts for what follows. No condition. -/
import Derived.Test.YtahacmdhhfmhiaaDoorM0
import Derived.Test.YtahacmdhhfmhiaaDoorCards
import Derived.Test.YtahacmdhhfmhiaaDoorTie
import Derived.WalkKit
import Derived.ProofKit
import Derived.OpenShut
import Derived.ShutString
import Derived.ChangeOld
import Derived.Below
import Derived.SizedLaws
import Derived.Deep.DeepHandedRow
import Derived.Deep.Fields
import Derived.Lib.LaidTab
import Derived.Lib.SmallJoins
import Derived.Test.YtahacmdhhfmhiaaDoorMA
import Derived.Deep.Slices
import Derived.Deep.Strs
namespace Go.Proofs.YtahacmdhhfmhiaaDoor.LB
open Go.ChangeShapes Go.WideShapes Go.ChangeAt Go.RowKit Go.Deep Go.Joins Go.Proofs.YtahacmdhhfmhiaaDoor.M
set_option maxRecDepth 100000 in
theorem own : ownKnob Tryd.prog.godebug = none := by kernel_rfl
set_option maxRecDepth 100000 in
theorem laidOut : laidOutB Tryd.prog = true := by kernel_rfl
def shapeData {H : Type} (s : Int × ByteArray × Bool × Bool) : DataW H := .agg [.lit (.int .i64 s.1), .lit (.string s.2.1.data.toList), .lit (.bool s.2.2.1), .lit (.bool s.2.2.2)]
theorem bytes_inj {a b : ByteArray} (h : a.data.toList = b.data.toList) : a = b := by
 cases a; cases b; simpa using h
theorem row_of_trod {H : Type} {enc : TypeId × Value → H} {P : Program} {w : World} {base : Nat} {sp : Nat → Bool} {held : Bool} {fuel : Nat} {e : TypeId} {f0 f1 f2 f3 : Field} {cs : List Value} {p : List MemPlace} {s : Int × ByteArray × Bool × Bool}
  (he : P.underlying e = some (.struct #[f0, f1, f2, f3])) (hone : oneCellFields P #[f0, f1, f2, f3] = true) (hce : P.cellsOf e = 4)
  (h0 : P.underlying f0.type = some (.int .i64)) (h1 : P.underlying f1.type = some .string) (h2 : P.underlying f2.type = some .bool) (h3 : P.underlying f3.type = some .bool)
  (h : DataW.trod enc P w base sp held fuel e cs = some (shapeData s, p)) : cs = shapeRow s := by
 obtain ⟨y0, y1, y2, y3, n, hx, hl, t0, t1, t2, t3⟩ := trod_struct4 he h
 obtain ⟨o0, k0⟩ := hone_of hone 0 f0 rfl
 obtain ⟨o1, k1⟩ := hone_of hone 1 f1 rfl
 obtain ⟨o2, k2⟩ := hone_of hone 2 f2 rfl
 obtain ⟨o3, k3⟩ := hone_of hone 3 f3 rfl
 rw [hce] at hl
 obtain ⟨c0, c1, c2, c3, rfl⟩ : ∃ c0 c1 c2 c3, cs = [c0, c1, c2, c3] := by
  match cs, hl with
  | [c0, c1, c2, c3], _ => exact ⟨c0, c1, c2, c3, rfl⟩
 rw [o0, k0] at t0; rw [o1, k1] at t1; rw [o2, k2] at t2; rw [o3, k3] at t3; simp only [List.drop_succ_cons, List.drop_zero, List.take_succ_cons, List.take_zero] at t0 t1 t2 t3
 obtain ⟨n0, e0, rfl, _⟩ := DataW.trod_int h0 t0
 obtain ⟨n1, e1, rfl, _⟩ := DataW.trod_string h1 t1
 obtain ⟨n2, e2, rfl⟩ := DataW.trod_bool h2 t2
 obtain ⟨n3, e3, rfl⟩ := DataW.trod_bool h3 t3
 simp [shapeData] at hx e0 e1 e2 e3
 obtain ⟨⟨x0, x1, x2, x3⟩, _⟩ := hx
 subst e0 e1 e2 e3
 have x1' : s.2.1 = n1 := bytes_inj (by simpa using x1)
 simp [shapeRow, x0, x1', x2, x3]
theorem cells_of_shapes {H : Type} {enc : TypeId × Value → H} {P : Program} {w : World} {base : Nat} {sp : Nat → Bool} {held : Bool} {fuel : Nat} {t e : TypeId} {f0 f1 f2 f3 : Field} {cs : List Value} {p : List MemPlace}
  (ht : P.underlying t = some (.array 39 e)) (he : P.underlying e = some (.struct #[f0, f1, f2, f3])) (hone : oneCellFields P #[f0, f1, f2, f3] = true) (hce : P.cellsOf e = 4) (hct : P.cellsOf t = 156)
  (h0 : P.underlying f0.type = some (.int .i64)) (h1 : P.underlying f1.type = some .string) (h2 : P.underlying f2.type = some .bool) (h3 : P.underlying f3.type = some .bool)
  (h : DataW.trod enc P w base sp held fuel t cs = some (.agg (shapeT.map shapeData), p)) : cs = shapeCells := by
 cases fuel with
 | zero => simp [DataW.trod] at h
 | succ fuel =>
  simp only [DataW.trod, ht, hce, hct] at h
  split at h
  ·rename_i hl
   obtain ⟨xs, hm, hx⟩ := Option.map_eq_some_iff.1 h
   have hxs : xs.map (·.1) = shapeT.map (shapeData (H := H)) := by
    have := congrArg Prod.fst hx
    simpa using this
   have hcl : cs.length = 156 := by simpa using hl
   apply List.ext_getElem?
   intro i
   by_cases hi : i < 156
   ·have hj : i / 4 < 39 := by omega
    obtain ⟨b, hb, hf⟩ := Lib.mapM_at hm (i / 4) (i / 4) (by simp [hj])
    have hd : b.1 = shapeData (shapeT.getD (i / 4) shapeZ) := by
     have h2 : (xs.map (·.1))[i / 4]? = some b.1 := by simp [hb]
     rw [hxs] at h2
     have hs : i / 4 < shapeT.length := by rw [shape_len]; exact hj
     rw [List.getElem?_map, List.getElem?_eq_getElem hs] at h2
     rw [List.getD_eq_getElem?_getD, List.getElem?_eq_getElem hs]
     exact (Option.some.inj h2).symm
    obtain ⟨b1, b2⟩ := b
    have hr := row_of_trod he hone hce h0 h1 h2 h3 (show _ = some (shapeData (shapeT.getD (i / 4) shapeZ), b2) from hf.trans (by rw [show b1 = _ from hd]))
    have hF := flat4 shapeT shapeRow (fun _ => rfl) (i / 4) shapeZ (by rw [shape_len]; exact hj)
    have hE := hr.trans hF.symm
    have hI := congrArg (·[i % 4]?) hE
    simp only [List.getElem?_take, List.getElem?_drop] at hI
    rw [if_pos (Nat.mod_lt _ (by decide)), if_pos (Nat.mod_lt _ (by decide)), show i / 4 * 4 + i % 4 = i by omega] at hI
    exact hI
   ·rw [List.getElem?_eq_none (by omega), List.getElem?_eq_none (by have : shapeCells.length = 156 := rfl; omega)]
  ·cases h
set_option maxRecDepth 100000 in
theorem gTab : Tryd.prog.globalNamed "hurdle/ins.shapes" = some 0 := by kernel_rfl
set_option maxRecDepth 100000 in
theorem gTabType : (Tryd.prog.globals[0]?).map (·.type) = some 102 := by kernel_rfl
set_option maxRecDepth 100000 in
theorem glob {W : World} (h : laidMet Tryd.prog [("hurdle/ins.shapes", .agg (shapeT.map shapeData))] W) : Glob W := by
 obtain ⟨ps, ⟨g', t', cs, fuel, p, q, hg', ht', hvar, hd, _, _⟩, _⟩ := h
 obtain rfl := Option.some.inj (gTab.symm.trans hg')
 obtain rfl := Option.some.inj (gTabType.symm.trans ht')
 have hc := cells_of_shapes Tryd.underlying102 Tryd.underlying95 (by kernel_rfl) (by kernel_rfl) (by kernel_rfl) (by kernel_rfl) (by kernel_rfl) (by kernel_rfl) (by kernel_rfl) hd
 intro j v hv
 have := World.var?_cell gTab hvar j
 rw [← hc] at hv
 simpa [← hv] using this
noncomputable def laidWorld (os : Os) : World :=
 { World.holding Tryd.prog os ⟨#[], #[], []⟩ with heap := (World.holding Tryd.prog os ⟨#[], #[], []⟩).heap.modify 0 fun
   | .cells _ t frozen => .cells shapeCells.toArray t frozen
   | o => o }
set_option maxRecDepth 100000 in
theorem laid_met (os : Os) (args : Array Value) : laidMetH Tryd.prog [("hurdle/ins.shapes", Rows.laid_hurdle_ins_shapes)] ((laidWorld os).forCall (fun _ _ => 0) ⟨#[], args, []⟩).memory :=
 laidMet_of_run' 8 (by kernel_rfl) (by kernel_rfl)
set_option maxRecDepth 100000 in
theorem globH {W : World} (h : laidMetH Tryd.prog [("hurdle/ins.shapes", Rows.laid_hurdle_ins_shapes)] W) : Glob W := by
 have e : (Rows.laid_hurdle_ins_shapes : DataW Unit) = .agg (shapeT.map shapeData) := by kernel_rfl
 rw [e] at h
 exact glob h
set_option maxRecDepth 100000 in
theorem fieldTypes : ∃ f0 f1 f2 f3 : Field, Tryd.prog.underlying 59 = some (.struct #[f0, f1, f2, f3]) ∧ oneCellFields Tryd.prog #[f0, f1, f2, f3] = true ∧ f0.type = 3 ∧ f1.type = 3 ∧ f2.type = 3 ∧ f3.type = 40 :=
 ⟨_, _, _, _, Tryd.underlying59, by kernel_rfl, rfl, rfl, rfl, rfl⟩
end Go.Proofs.YtahacmdhhfmhiaaDoor.LB
namespace Go.Proofs.YtahacmdhhfmhiaaDoor.Q
open Go.RowKit
def wfIns (x : Go.Proofs.YtahacmdhhfmhiaaDoor.M.S59) : Prop := (Lit.int .i64 x.f0).wf = true ∧ (Lit.int .i64 x.f1).wf = true ∧ (Lit.int .i64 x.f2).wf = true ∧ (Lit.int .u32 x.f3).wf = true
end Go.Proofs.YtahacmdhhfmhiaaDoor.Q
namespace Go.Proofs.YtahacmdhhfmhiaaDoor.LB
open Go.ChangeShapes Go.WideShapes Go.ChangeAt Go.RowKit Go.Deep Go.Joins Go.Proofs.YtahacmdhhfmhiaaDoor.M Go.Proofs.YtahacmdhhfmhiaaDoorW.PrintWords Go.Proofs.YtahacmdhhfmhiaaDoorW.PrintLast Go.Proofs.YtahacmdhhfmhiaaDoorW.PrintMore
set_option linter.unusedVariables false
theorem list_choose {α : Type} {n : Nat} {p : Nat → α → Prop} (h : ∀ i, i < n → ∃ x, p i x) : ∃ xs : List α, xs.length = n ∧ ∀ i x, xs[i]? = some x → p i x := by
 induction n with
 | zero => exact ⟨[], rfl, fun i x hx => by simp at hx⟩
 | succ n ih =>
  obtain ⟨xs, hl, hx⟩ := ih (fun i hi => h i (by omega))
  obtain ⟨x, hp⟩ := h n (by omega)
  refine ⟨xs ++ [x], by simp [hl], fun i y hy => ?_⟩
  by_cases hi : i < n
  ·rw [List.getElem?_append_left (by omega)] at hy
   exact hx i y hy
  ·rw [List.getElem?_append_right (by omega)] at hy
   have : i - xs.length = 0 := by
    by_cases h0 : i - xs.length = 0
    ·exact h0
    ·rw [List.getElem?_eq_none (by simp; omega)] at hy; cases hy
   rw [this] at hy
   have hin : i = n := by omega
   simp at hy
   subst hy
   rw [hin]
   exact hp
theorem open_sl {α : Type} {d : Kd α} {Wf : α → Prop} {H : Type} {enc : TypeId × Value → H} {P : Program} {w : World} {base b0 : Nat} {sp : Nat → Bool} {held : Bool} {r : Reach} {t e : TypeId} {v : Value} {D : DataW H} {p : List MemPlace}
  (ht : P.underlying t = some (.slice e)) (hsz : P.cellsOf e = d.sz) (hv : Value.okWide P w r b0 t v)
  (one : ∀ n cs y, DataW.trod enc P w base sp held n e cs = some y → ∃ x : α, d.K w x cs ∧ Wf x)
  (h : DataW.Trod enc P w base sp held t v D p) :
  ∃ (A : Option Addr) (cap : Nat) (xs : List α), v = .slice A xs.length cap ∧ d.C w A xs.length xs ∧ xs.length ≤ cap ∧ (∀ x ∈ xs, Wf x) ∧ xs.length ≤ maxLen ∧ cap ≤ maxLen ∧ (xs = [] ∨ ∃ el spr, D = .slice el spr ∧ el.length = xs.length) := by
 obtain ⟨a, len, cap, rfl⟩ := okWide_slice ht hv
 obtain ⟨m, hm⟩ := h
 rcases open_slice ht hm with ⟨hc, _⟩ | ⟨a', len', cap', m', n, De, Pl, hc, hb, hl, hmx, hmm, hx, hall⟩
 ·simp [Value.cells] at hc
  obtain ⟨rfl, rfl, rfl⟩ := hc
  exact ⟨none, 0, [], rfl, ⟨rfl, by simp, fun h => absurd h (by simp)⟩, by simp, by simp, by simp, by simp, .inl rfl⟩
 ·simp [Value.cells] at hc
  obtain ⟨rfl, rfl, rfl⟩ := hc
  have hle : len ≤ m' := by rw [hmm]; split <;> omega
  obtain ⟨xs, hxl, hxs⟩ := list_choose (α := α) (n := len) (p := fun i x => (∃ cs, w.cells? base (a'.add (i * P.cellsOf e)) (P.cellsOf e) = some cs ∧ d.K w x cs) ∧ Wf x) (fun i hi => by
   obtain ⟨cs, h1, h2⟩ := hall i (by omega)
   obtain ⟨x, k, wf⟩ := one _ _ _ h2
   exact ⟨x, ⟨cs, h1, k⟩, wf⟩)
  subst hxl
  refine ⟨some a', cap, xs, rfl, ⟨rfl, by simp only [maxLen] at hmx; omega, fun _ => ⟨a', rfl, fun j x hj => ?_⟩⟩, hl, ?_, by omega, hmx, .inr ⟨_, _, (Prod.ext_iff.1 hx).1, by simp⟩⟩
  ·obtain ⟨⟨cs, h1, k⟩, wf⟩ := hxs j x hj
   obtain ⟨_, g2, g3⟩ := World.cells?_some h1
   refine ⟨cs, by rw [g2, hsz], k, fun i u hu => ?_⟩
   have hi : i < cs.length := (List.getElem?_eq_some_iff.1 hu).1
   rw [← hu, ← g3 i (by omega), Deep.add_add, hsz]
  ·intro x hx
   obtain ⟨i, hi, e⟩ := List.getElem_of_mem hx
   exact (hxs i x (by rw [List.getElem?_eq_getElem hi, e])).2
set_option maxRecDepth 100000 in
theorem one_ins {H : Type} {enc : TypeId × Value → H} {w : World} {base : Nat} {sp : Nat → Bool} {held : Bool} {n : Nat} {cs : List Value} {y : DataW H × List MemPlace}
  (h : DataW.trod enc Tryd.prog w base sp held n 59 cs = some y) : ∃ x : S59, k59.K w x cs ∧ Q.wfIns x := by
 obtain ⟨f0, f1, f2, f3, hu, hone, e0, e1, e2, e3⟩ := fieldTypes
 obtain ⟨y0, y1, y2, y3, n, hx, hl, t0, t1, t2, t3⟩ := trod_struct4 hu h
 obtain ⟨o0, k0⟩ := hone_of hone 0 f0 rfl
 obtain ⟨o1, k1⟩ := hone_of hone 1 f1 rfl
 obtain ⟨o2, k2⟩ := hone_of hone 2 f2 rfl
 obtain ⟨o3, k3⟩ := hone_of hone 3 f3 rfl
 have hl' : cs.length = 4 := hl.trans (by kernel_rfl)
 obtain ⟨c0, c1, c2, c3, rfl⟩ : ∃ c0 c1 c2 c3, cs = [c0, c1, c2, c3] := by
  match cs, hl' with
  | [c0, c1, c2, c3], _ => exact ⟨c0, c1, c2, c3, rfl⟩
 rw [o0, k0] at t0; rw [o1, k1] at t1; rw [o2, k2] at t2; rw [o3, k3] at t3; simp only [List.drop_succ_cons, List.drop_zero, List.take_succ_cons, List.take_zero] at t0 t1 t2 t3
 rw [e0] at t0; rw [e1] at t1; rw [e2] at t2; rw [e3] at t3
 obtain ⟨n0, q0, _, w0⟩ := DataW.trod_int Tryd.underlying3 t0
 obtain ⟨n1, q1, _, w1⟩ := DataW.trod_int Tryd.underlying3 t1
 obtain ⟨n2, q2, _, w2⟩ := DataW.trod_int Tryd.underlying3 t2
 obtain ⟨n3, q3, _, w3⟩ := DataW.trod_int Tryd.underlying40 t3
 cases q0; cases q1; cases q2; cases q3
 exact ⟨⟨n0, n1, n2, n3⟩, k59_mk w ⟨n0, n1, n2, n3⟩, w0, w1, w2, w3⟩
end Go.Proofs.YtahacmdhhfmhiaaDoor.LB
namespace Go.Proofs.YtahacmdhhfmhiaaDoor.Q
open Go.RowKit
def wfRule (x : Go.Proofs.YtahacmdhhfmhiaaDoor.M.S42) : Prop := (x.f0.length ≤ maxLen ∧ ∀ y ∈ x.f0, wfIns y) ∧ (x.f1.length ≤ maxLen ∧ ∀ y ∈ x.f1, wfIns y) ∧ (Lit.int .u32 x.f2).wf = true
end Go.Proofs.YtahacmdhhfmhiaaDoor.Q
namespace Go.Proofs.YtahacmdhhfmhiaaDoor.LB
open Go.ChangeShapes Go.WideShapes Go.ChangeAt Go.RowKit Go.Deep Go.Joins Go.Proofs.YtahacmdhhfmhiaaDoor.M Go.Proofs.YtahacmdhhfmhiaaDoorW.PrintWords Go.Proofs.YtahacmdhhfmhiaaDoorW.PrintLast Go.Proofs.YtahacmdhhfmhiaaDoorW.PrintMore
set_option linter.unusedVariables false
theorem open_in {α : Type} {d : Kd α} {Wf : α → Prop} {H : Type} {enc : TypeId × Value → H} {P : Program} {w : World} {base : Nat} {sp : Nat → Bool} {held : Bool} {n : Nat} {t e : TypeId} {cs : List Value} {y : DataW H × List MemPlace}
  (ht : P.underlying t = some (.slice e)) (hsz : P.cellsOf e = d.sz)
  (one : ∀ n cs y, DataW.trod enc P w base sp held n e cs = some y → ∃ x : α, d.K w x cs ∧ Wf x)
  (h : DataW.trod enc P w base sp held n t cs = some y) :
  ∃ (A : Option Addr) (cap : Nat) (xs : List α), cs = [.slice A xs.length cap] ∧ d.C w A xs.length xs ∧ xs.length ≤ cap ∧ (∀ x ∈ xs, Wf x) ∧ xs.length ≤ maxLen := by
 rcases open_slice ht h with ⟨rfl, _⟩ | ⟨a', len', cap', m', n, De, Pl, rfl, hb, hl, hmx, hmm, hx, hall⟩
 ·exact ⟨none, 0, [], rfl, ⟨rfl, by simp, fun h => absurd h (by simp)⟩, by simp, by simp, by simp⟩
 ·have hle : len' ≤ m' := by rw [hmm]; split <;> omega
  obtain ⟨xs, hxl, hxs⟩ := list_choose (α := α) (n := len') (p := fun i x => (∃ cs, w.cells? base (a'.add (i * P.cellsOf e)) (P.cellsOf e) = some cs ∧ d.K w x cs) ∧ Wf x) (fun i hi => by
   obtain ⟨cs, h1, h2⟩ := hall i (by omega)
   obtain ⟨x, k, wf⟩ := one _ _ _ h2
   exact ⟨x, ⟨cs, h1, k⟩, wf⟩)
  subst hxl
  refine ⟨some a', cap', xs, rfl, ⟨rfl, by simp only [maxLen] at hmx; omega, fun _ => ⟨a', rfl, fun j x hj => ?_⟩⟩, hl, ?_, by omega⟩
  ·obtain ⟨⟨cs, h1, k⟩, wf⟩ := hxs j x hj
   obtain ⟨_, g2, g3⟩ := World.cells?_some h1
   refine ⟨cs, by rw [g2, hsz], k, fun i u hu => ?_⟩
   have hi : i < cs.length := (List.getElem?_eq_some_iff.1 hu).1
   rw [← hu, ← g3 i (by omega), Deep.add_add, hsz]
  ·intro x hx
   obtain ⟨i, hi, e⟩ := List.getElem_of_mem hx
   exact (hxs i x (by rw [List.getElem?_eq_getElem hi, e])).2
theorem ruleTypes : ∃ f0 f1 f2 : Field, Tryd.prog.underlying 42 = some (.struct #[f0, f1, f2]) ∧ (f0.type = 39 ∧ f0.offset = 0) ∧ (f1.type = 39 ∧ f1.offset = 1) ∧ (f2.type = 40 ∧ f2.offset = 2) :=
 ⟨_, _, _, Tryd.underlying42, ⟨rfl, rfl⟩, ⟨rfl, rfl⟩, rfl, rfl⟩
set_option maxRecDepth 100000 in
theorem one_rule {H : Type} {enc : TypeId × Value → H} {w : World} {base : Nat} {sp : Nat → Bool} {held : Bool} {n : Nat} {cs : List Value} {y : DataW H × List MemPlace}
  (h : DataW.trod enc Tryd.prog w base sp held n 42 cs = some y) : ∃ x : S42, k42.K w x cs ∧ Q.wfRule x := by
 obtain ⟨f0, f1, f2, hu, ⟨e0, o0⟩, ⟨e1, o1⟩, ⟨e2, o2⟩⟩ := ruleTypes
 obtain ⟨y0, y1, y2, n, hx, hl, t0, t1, t2⟩ := trod_struct3 hu h
 have hl' : cs.length = 3 := hl.trans (by kernel_rfl)
 obtain ⟨c0, c1, c2, rfl⟩ : ∃ c0 c1 c2, cs = [c0, c1, c2] := by
  match cs, hl' with
  | [c0, c1, c2], _ => exact ⟨c0, c1, c2, rfl⟩
 have k0 : Tryd.prog.cellsOf 39 = 1 := by kernel_rfl
 have k2 : Tryd.prog.cellsOf 40 = 1 := by kernel_rfl
 rw [e0, o0, k0] at t0; rw [e1, o1, k0] at t1; rw [e2, o2, k2] at t2
 simp only [List.drop_succ_cons, List.drop_zero, List.take_succ_cons, List.take_zero] at t0 t1 t2
 obtain ⟨A0, p0, l0, q0, g0, b0, w0, m0⟩ := open_in (d := k59) (Wf := Q.wfIns) Tryd.underlying39 (by kernel_rfl) (fun n cs y h => one_ins h) t0
 obtain ⟨A1, p1, l1, q1, g1, b1, w1, m1⟩ := open_in (d := k59) (Wf := Q.wfIns) Tryd.underlying39 (by kernel_rfl) (fun n cs y h => one_ins h) t1
 obtain ⟨n2, q2, _, w2⟩ := DataW.trod_int Tryd.underlying40 t2
 cases q0; cases q1; cases q2
 exact ⟨⟨l0, l1, n2⟩, k42_mk w ⟨l0, l1, n2⟩ b0 g0 b1 g1, ⟨m0, w0⟩, ⟨m1, w1⟩, w2⟩
set_option maxRecDepth 100000 in
theorem open_rule {H : Type} {enc : TypeId × Value → H} {w : World} {base b0 : Nat} {sp : Nat → Bool} {held : Bool} {r : Reach} {v : Value} {d : DataW H} {p : List MemPlace}
  (hv : Value.okWide Tryd.prog w r b0 42 v) (h : DataW.Trod enc Tryd.prog w base sp held 42 v d p) :
  ∃ (A0 : Option Addr) (c0 : Nat) (l0 : List S59) (A1 : Option Addr) (c1 : Nat) (l1 : List S59) (a2 : Int), v = .agg #[.slice A0 l0.length c0, .slice A1 l1.length c1, .int .u32 a2] ∧
   k59.C w A0 l0.length l0 ∧ l0.length ≤ c0 ∧ l0.length ≤ maxLen ∧ (∀ y ∈ l0, Q.wfIns y) ∧ k59.C w A1 l1.length l1 ∧ l1.length ≤ c1 ∧ l1.length ≤ maxLen ∧ (∀ y ∈ l1, Q.wfIns y) ∧ (Lit.int .u32 a2).wf = true := by
 obtain ⟨f0, f1, f2, hu, ⟨e0, o0⟩, ⟨e1, o1⟩, ⟨e2, o2⟩⟩ := ruleTypes
 obtain ⟨cs, rfl, hsz⟩ := okWide_struct hu hv
 obtain ⟨fuel, hf⟩ := h
 obtain ⟨y0, y1, y2, n, hx, hl, t0, t1, t2⟩ := trod_struct3 hu hf
 have hl' : cs.toList.length = 3 := by rw [Array.length_toList, hsz]; kernel_rfl
 obtain ⟨x0, x1, x2, hcs⟩ : ∃ x0 x1 x2, cs.toList = [x0, x1, x2] := by
  match cs.toList, hl' with
  | [x0, x1, x2], _ => exact ⟨x0, x1, x2, rfl⟩
 have hc : cs = #[x0, x1, x2] := Array.ext' (by rw [hcs])
 subst hc
 have k0 : Tryd.prog.cellsOf 39 = 1 := by kernel_rfl
 have k2 : Tryd.prog.cellsOf 40 = 1 := by kernel_rfl
 rw [e0, o0, k0] at t0; rw [e1, o1, k0] at t1; rw [e2, o2, k2] at t2
 have t0 : DataW.trod enc Tryd.prog w base sp held n 39 [x0] = some y0 := t0
 have t1 : DataW.trod enc Tryd.prog w base sp held n 39 [x1] = some y1 := t1
 have t2 : DataW.trod enc Tryd.prog w base sp held n 40 [x2] = some y2 := t2
 obtain ⟨A0, p0, l0, q0, g0, b0, w0, m0⟩ := open_in (d := k59) (Wf := Q.wfIns) Tryd.underlying39 (by kernel_rfl) (fun n cs y h => one_ins h) t0
 obtain ⟨A1, p1, l1, q1, g1, b1, w1, m1⟩ := open_in (d := k59) (Wf := Q.wfIns) Tryd.underlying39 (by kernel_rfl) (fun n cs y h => one_ins h) t1
 obtain ⟨n2, q2, _, w2⟩ := DataW.trod_int Tryd.underlying40 t2
 cases q0; cases q1; cases q2
 exact ⟨A0, p0, l0, A1, p1, l1, n2, rfl, g0, b0, m0, w0, g1, b1, m1, w1, w2⟩
end Go.Proofs.YtahacmdhhfmhiaaDoor.LB
