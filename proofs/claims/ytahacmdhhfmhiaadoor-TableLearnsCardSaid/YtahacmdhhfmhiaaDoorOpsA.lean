/- What the program's and the document's functions answer of an operation: row by row of the table, or that it is none. No condition. -/
import Derived.Test.YtahacmdhhfmhiaaDoorMA
import Derived.Test.YtahacmdhhfmhiaaDoorMF
import Derived.Test.YtahacmdhhfmhiaaDoorMB
namespace Go.Proofs.YtahacmdhhfmhiaaDoor.InsOps
set_option linter.unusedVariables false
set_option linter.unusedSimpArgs false
open Go.RowKit Go.Proofs.YtahacmdhhfmhiaaDoorW.PrintWords Go.Proofs.YtahacmdhhfmhiaaDoorW.PrintLast Go.Proofs.YtahacmdhhfmhiaaDoorW.PrintMore Go.Proofs.YtahacmdhhfmhiaaDoor.M
def opsL : List Int := shapeT.map (·.1)
theorem ops_is : r02_Ops.f = some opsL := by decide +kernel
theorem op_cases (a : Int) : (∃ i, i < 39 ∧ opsL[i]? = some a) ∨ a ∉ opsL := by
 by_cases h : a ∈ opsL
 ·obtain ⟨i, hi, e⟩ := List.getElem_of_mem h
  exact .inl ⟨i, by simpa [opsL, shape_len] using hi, by rw [List.getElem?_eq_getElem hi, e]⟩
 ·exact .inr h
theorem of_none {a : Int} (h : a ∉ opsL) : ins_of.f a = some (0, ⟨#[]⟩, false, false, false) := by
 unfold ins_of.f ofRest
 have : shapeT.find? (fun s => s.1 == a) = none := by
  rw [List.find?_eq_none]
  intro s hs he
  exact h (List.mem_map.2 ⟨s, hs, by simpa using he⟩)
 rw [this]
theorem w64n {n : Nat} (h : n < 9223372036854775807) : wrap64 ((n : Int) + 1) = ((n + 1 : Nat) : Int) := by
 simp only [wrap64]
 omega
theorem place_from {a : Int} (h : a ∉ opsL) : ∀ (m i : Nat), i + m = 39 → Ev (fun k => r02_place.l0 k a opsL (i : Int)) (-1) := by
 have hl : opsL.length = 39 := rfl
 intro m
 induction m with
 | zero =>
  intro i hi
  refine Ev.step (f := fun _ => some (-1)) (fun k => ?_) (Ev.now _)
  simp only [r02_place.l0, hl]
  rw [if_neg (by omega)]
 | succ m ih =>
  intro i hi
  refine Ev.step (fun k => ?_) (ih (i + 1) (by omega))
  simp only [r02_place.l0, hl]
  rw [if_pos (by omega), if_pos (by omega), if_neg, w64n (by omega)]
  intro he
  apply h
  rw [← he]
  have hi' : i < opsL.length := by omega
  simp only [rd, Int.toNat_natCast, List.getD_eq_getElem?_getD, List.getElem?_eq_getElem hi', Option.getD_some]
  exact List.getElem_mem hi'
theorem place_none {a : Int} (h : a ∉ opsL) : Ev (fun k => r02_place.f k a) (-1) := by
 unfold r02_place.f
 rw [ops_is]
 exact place_from h 39 0 rfl
theorem place_some {a : Int} {i : Nat} (hi : i < 39) (h : opsL[i]? = some a) : Ev (fun k => r02_place.f k a) (i : Int) := by
 have all : ∀ i : Nat, i < 39 → r02_place.f 60 (opsL.getD i 0) = some (i : Int) := by decide +kernel
 have e : opsL.getD i 0 = a := by rw [List.getD_eq_getElem?_getD, h]; rfl
 exact Ev.of (r02_place.mono a) (k := 60) (by rw [← e]; exact all i hi)
theorem of_some {a : Int} {i : Nat} (hi : i < 39) (h : opsL[i]? = some a) : ins_of.f a = some (a, (shapeT.getD i shapeZ).2.1, (shapeT.getD i shapeZ).2.2.1, (shapeT.getD i shapeZ).2.2.2, true) := by
 have all : ∀ i : Nat, i < 39 → ins_of.f (opsL.getD i 0) = some (opsL.getD i 0, (shapeT.getD i shapeZ).2.1, (shapeT.getD i shapeZ).2.2.1, (shapeT.getD i shapeZ).2.2.2, true) := fun i hi =>
  match i, hi with
  | 0, _ => rfl
  | 1, _ => rfl
  | 2, _ => rfl
  | 3, _ => rfl
  | 4, _ => rfl
  | 5, _ => rfl
  | 6, _ => rfl
  | 7, _ => rfl
  | 8, _ => rfl
  | 9, _ => rfl
  | 10, _ => rfl
  | 11, _ => rfl
  | 12, _ => rfl
  | 13, _ => rfl
  | 14, _ => rfl
  | 15, _ => rfl
  | 16, _ => rfl
  | 17, _ => rfl
  | 18, _ => rfl
  | 19, _ => rfl
  | 20, _ => rfl
  | 21, _ => rfl
  | 22, _ => rfl
  | 23, _ => rfl
  | 24, _ => rfl
  | 25, _ => rfl
  | 26, _ => rfl
  | 27, _ => rfl
  | 28, _ => rfl
  | 29, _ => rfl
  | 30, _ => rfl
  | 31, _ => rfl
  | 32, _ => rfl
  | 33, _ => rfl
  | 34, _ => rfl
  | 35, _ => rfl
  | 36, _ => rfl
  | 37, _ => rfl
  | 38, _ => rfl
  | n + 39, h => absurd h (by omega)
 have e : opsL.getD i 0 = a := by rw [List.getD_eq_getElem?_getD, h]; rfl
 rw [← e]; exact all i hi
def hasK (i : Nat) : Bool := (shapeT.getD i shapeZ).2.2.1
def hasW (i : Nat) : Bool := (shapeT.getD i shapeZ).2.2.2
theorem plain_is {i : Nat} (hi : i < 39) : r02_plain.f (i : Int) = some (!hasK i) := by
 have all : ∀ i : Nat, i < 39 → r02_plain.f (i : Int) = some (!hasK i) := by decide +kernel
 exact all i hi
theorem branch_is {i : Nat} (hi : i < 39) : r02_branch.f (i : Int) = some (hasW i) := by
 have all : ∀ i : Nat, i < 39 → r02_branch.f (i : Int) = some (hasW i) := by decide +kernel
 exact all i hi
end Go.Proofs.YtahacmdhhfmhiaaDoor.InsOps
/- Which instructions are right, by the program's and the document's functions; which are branches. No condition. -/
namespace Go.Proofs.YtahacmdhhfmhiaaDoor.RightB
set_option linter.unusedVariables false
set_option linter.unusedSimpArgs false
open Go.RowKit Go.Proofs.YtahacmdhhfmhiaaDoorW.PrintWords Go.Proofs.YtahacmdhhfmhiaaDoorW.PrintLast Go.Proofs.YtahacmdhhfmhiaaDoorW.PrintMore Go.Proofs.YtahacmdhhfmhiaaDoor.M Go.Proofs.YtahacmdhhfmhiaaDoor.InsOps
def right (i : Nat) (jt jf k : Int) : Bool :=
 (hasK i || k == 0) && if hasW i then decide (0 ≤ jt) && decide (jt ≤ 255) && (decide (0 ≤ jf) && decide (jf ≤ 255)) else jt == 0 && jf == 0
theorem right_is {a : Int} {i : Nat} (hi : i < 39) (h : opsL[i]? = some a) (jt jf k : Int) : Ev (fun n => ins_Right.f n a jt jf k) (right i jt jf k) := by
 unfold ins_Right.f
 rw [of_some hi h]
 simp only [Option.bind_some, if_true]
 have h1 : (shapeT.getD i shapeZ).2.2.1 = hasK i := rfl
 have h2 : (shapeT.getD i shapeZ).2.2.2 = hasW i := rfl
 rw [h1, h2]
 have tail : ∀ (b : Bool) (w : ByteArray), Ev (fun n => ins_Right.j0 n b a jt jf k a w (hasK i) (hasW i)) (!b && if hasW i then decide (0 ≤ jt) && decide (jt ≤ 255) && (decide (0 ≤ jf) && decide (jf ≤ 255)) else jt == 0 && jf == 0) := by
  intro b w
  refine Ev.step (f := fun _ => some (!b && if hasW i then decide (0 ≤ jt) && decide (jt ≤ 255) && (decide (0 ≤ jf) && decide (jf ≤ 255)) else jt == 0 && jf == 0)) (fun n => ?_) (Ev.now _)
  simp only [ins_Right.j0]
  cases b <;> cases hasW i <;> simp <;> (repeat' split) <;> simp_all <;> omega
 cases hh : hasK i
 ·have := tail (k != 0) (shapeT.getD i shapeZ).2.1
  rw [hh] at this
  simp only [Bool.false_eq_true, if_false]
  have e : right i jt jf k = (!(k != 0) && if hasW i then decide (0 ≤ jt) && decide (jt ≤ 255) && (decide (0 ≤ jf) && decide (jf ≤ 255)) else jt == 0 && jf == 0) := by simp [right, hh, bne]
  rw [e]
  exact this
 ·have := tail false (shapeT.getD i shapeZ).2.1
  rw [hh] at this
  simp only [if_true]
  have e : right i jt jf k = (!false && if hasW i then decide (0 ≤ jt) && decide (jt ≤ 255) && (decide (0 ≤ jf) && decide (jf ≤ 255)) else jt == 0 && jf == 0) := by simp [right, hh]
  rw [e]
  exact this
theorem right_none {a : Int} (h : a ∉ opsL) (jt jf k : Int) : Ev (fun n => ins_Right.f n a jt jf k) false := by
 unfold ins_Right.f
 rw [of_none h]
 simp only [Option.bind_some, Bool.false_eq_true, if_false]
 exact Ev.step (f := fun _ => some false) (fun n => by simp [ins_Right.j0]) (Ev.now _)
theorem rright_is {a : Int} {i : Nat} (hi : i < 39) (h : opsL[i]? = some a) (jt jf k : Int) : Ev (fun n => r02_Right.f n a jt jf k) (right i jt jf k) := by
 unfold r02_Right.f
 refine Ev.bind (place_some hi h) ?_
 simp only [if_neg (show ¬ ((i : Int) < 0) by omega), plain_is hi, Option.bind_some]
 have tail : ∀ (b : Bool), Ev (fun n => r02_Right.j0 n (i : Int) b a jt jf k) (!b && if hasW i then decide (0 ≤ jt) && decide (jt ≤ 255) && (decide (0 ≤ jf) && decide (jf ≤ 255)) else jt == 0 && jf == 0) := by
  intro b
  refine Ev.step (f := fun _ => some (!b && if hasW i then decide (0 ≤ jt) && decide (jt ≤ 255) && (decide (0 ≤ jf) && decide (jf ≤ 255)) else jt == 0 && jf == 0)) (fun n => ?_) (Ev.now _)
  have e1 : (jt < 256) = (jt ≤ 255) := by apply propext; omega
  have e2 : (jf < 256) = (jf ≤ 255) := by apply propext; omega
  simp only [r02_Right.j0, branch_is hi, Option.bind_some, e1, e2]
  cases b <;> cases hasW i <;> simp <;> (repeat' split) <;> simp_all <;> omega
 cases hh : hasK i
 ·have := tail (k != 0)
  simp only [Bool.not_false, if_true]
  have e : right i jt jf k = (!(k != 0) && if hasW i then decide (0 ≤ jt) && decide (jt ≤ 255) && (decide (0 ≤ jf) && decide (jf ≤ 255)) else jt == 0 && jf == 0) := by simp [right, hh, bne]
  rw [e]
  exact this
 ·have := tail false
  simp only [Bool.not_true, Bool.false_eq_true, if_false]
  have e : right i jt jf k = (!false && if hasW i then decide (0 ≤ jt) && decide (jt ≤ 255) && (decide (0 ≤ jf) && decide (jf ≤ 255)) else jt == 0 && jf == 0) := by simp [right, hh]
  rw [e]
  exact this
theorem rright_none {a : Int} (h : a ∉ opsL) (jt jf k : Int) : Ev (fun n => r02_Right.f n a jt jf k) false := by
 unfold r02_Right.f
 refine Ev.bind (place_none h) ?_
 simp only [if_pos (show ((-1 : Int) < 0) by omega)]
 exact Ev.step (f := fun _ => some false) (fun n => by simp [r02_Right.j0]) (Ev.now _)
theorem right_fields {i : Nat} {jt jf k : Int} (hk : (Lit.int .u32 k).wf = true) (h : right i jt jf k = true) : ∃ a b c : Nat, jt = (a : Int) ∧ jf = (b : Int) ∧ k = (c : Int) ∧ a < 256 ∧ b < 256 ∧ c < 4294967296 := by
 have h3 : 0 ≤ k ∧ k < 4294967296 := by
  simp only [Lit.wf, IntKind.min, IntKind.max, IntKind.signed, IntKind.bits, Bool.and_eq_true, decide_eq_true_eq] at hk
  have h1 : 0 ≤ k := by simpa using hk.1
  have h2 : k ≤ 4294967295 := by simpa using hk.2
  omega
 have h4 : 0 ≤ jt ∧ jt ≤ 255 ∧ 0 ≤ jf ∧ jf ≤ 255 := by
  unfold right at h
  cases hw : hasW i
  ·rw [hw] at h
   simp at h
   omega
  ·rw [hw] at h
   simp at h
   omega
 exact ⟨jt.toNat, jf.toNat, k.toNat, by omega, by omega, by omega, by omega, by omega, by omega⟩
open Classical in
noncomputable def rightI (a jt jf k : Int) : Bool := if h : ∃ i, i < 39 ∧ opsL[i]? = some a then right h.choose jt jf k else false
open Classical in
noncomputable def branchI (a : Int) : Bool := if h : ∃ i, i < 39 ∧ opsL[i]? = some a then hasW h.choose else false
theorem rightI_row {a : Int} {i : Nat} (hi : i < 39) (h : opsL[i]? = some a) (jt jf k : Int) : rightI a jt jf k = right i jt jf k ∧ branchI a = hasW i := by
 have hx : ∃ i, i < 39 ∧ opsL[i]? = some a := ⟨i, hi, h⟩
 have e : hx.choose = i := by
  have n : opsL.Nodup := by decide
  obtain ⟨g1, g2⟩ := List.getElem?_eq_some_iff.1 h
  obtain ⟨g3, g4⟩ := List.getElem?_eq_some_iff.1 hx.choose_spec.2
  exact ((List.getElem_inj n).1 (g2.trans g4.symm)).symm
 unfold rightI branchI
 rw [dif_pos hx, dif_pos hx, e]
 exact ⟨rfl, rfl⟩
theorem rightI_none {a : Int} (h : a ∉ opsL) (jt jf k : Int) : rightI a jt jf k = false ∧ branchI a = false := by
 have hx : ¬ ∃ i, i < 39 ∧ opsL[i]? = some a := fun ⟨i, _, e⟩ => h (List.mem_of_getElem? e)
 unfold rightI branchI
 rw [dif_neg hx, dif_neg hx]
 exact ⟨rfl, rfl⟩
theorem rightI_is (a jt jf k : Int) : Ev (fun n => ins_Right.f n a jt jf k) (rightI a jt jf k) := by
 rcases op_cases a with ⟨i, hi, h⟩ | h
 ·rw [(rightI_row hi h jt jf k).1]; exact right_is hi h jt jf k
 ·rw [(rightI_none h jt jf k).1]; exact right_none h jt jf k
theorem rrightI_is (a jt jf k : Int) : Ev (fun n => r02_Right.f n a jt jf k) (rightI a jt jf k) := by
 rcases op_cases a with ⟨i, hi, h⟩ | h
 ·rw [(rightI_row hi h jt jf k).1]; exact rright_is hi h jt jf k
 ·rw [(rightI_none h jt jf k).1]; exact rright_none h jt jf k
end Go.Proofs.YtahacmdhhfmhiaaDoor.RightB
/- Which instructions are branches, by the program's and the document's functions. No condition. -/
namespace Go.Proofs.YtahacmdhhfmhiaaDoor.RightB
set_option linter.unusedVariables false
set_option linter.unusedSimpArgs false
open Go.RowKit Go.Proofs.YtahacmdhhfmhiaaDoorW.PrintWords Go.Proofs.YtahacmdhhfmhiaaDoorW.PrintLast Go.Proofs.YtahacmdhhfmhiaaDoorW.PrintMore Go.Proofs.YtahacmdhhfmhiaaDoor.M Go.Proofs.YtahacmdhhfmhiaaDoor.InsOps
theorem branchI_is (a b c d : Int) : ins_Branch.f a b c d = some (branchI a) := by
 rcases op_cases a with ⟨i, hi, h⟩ | h
 ·rw [(rightI_row hi h 0 0 0).2]
  have all : ∀ i : Nat, i < 39 → ins_Branch.f (opsL.getD i 0) 0 0 0 = some (hasW i) := by decide +kernel
  have e : opsL.getD i 0 = a := by rw [List.getD_eq_getElem?_getD, h]; rfl
  rw [← e]; exact all i hi
 ·rw [(rightI_none h 0 0 0).2]
  simp [ins_Branch.f, of_none h]
theorem rbranchI_is (a b c d : Int) : Ev (fun n => r02_Branch.f n a b c d) (branchI a) := by
 rcases op_cases a with ⟨i, hi, h⟩ | h
 ·rw [(rightI_row hi h 0 0 0).2]
  refine Ev.bind (place_some hi h) ?_
  exact Ev.congr (f := fun _ => some (hasW i)) (fun n => by simp [branch_is hi]) (Ev.now _)
 ·rw [(rightI_none h 0 0 0).2]
  refine Ev.bind (place_none h) ?_
  exact Ev.congr (f := fun _ => some false) (fun k => by simp [r02_branch.f]) (Ev.now _)
end Go.Proofs.YtahacmdhhfmhiaaDoor.RightB
