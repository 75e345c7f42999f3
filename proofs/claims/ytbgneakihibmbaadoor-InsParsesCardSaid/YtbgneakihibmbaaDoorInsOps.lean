/- What the program's and the document's functions answer of an operation: row by row of the table, or that it is none. No condition. -/
import Derived.Test.YtbgneakihibmbaaDoorM3
import Derived.Test.YtbgneakihibmbaaDoorM11
namespace Go.Proofs.YtbgneakihibmbaaDoor.InsOps
set_option linter.unusedVariables false
set_option linter.unusedSimpArgs false
open Go.RowKit Go.Proofs.YtbgneakihibmbaaDoorW.PrintWords Go.Proofs.YtbgneakihibmbaaDoorW.PrintLast Go.Proofs.YtbgneakihibmbaaDoorW.PrintMore Go.Proofs.YtbgneakihibmbaaDoor.M


def opsL : List Int := shapeT.map (·.1)
theorem ops_is : hurdleref02_Ops.f = some opsL := by decide +kernel
theorem op_cases (a : Int) : (∃ i, i < 39 ∧ opsL[i]? = some a) ∨ a ∉ opsL := by
  by_cases h : a ∈ opsL
  · obtain ⟨i, hi, e⟩ := List.getElem_of_mem h
    exact .inl ⟨i, by simpa [opsL, shape_len] using hi, by rw [List.getElem?_eq_getElem hi, e]⟩
  · exact .inr h
theorem of_none {a : Int} (h : a ∉ opsL) : ins_of.f a = some (0, ⟨#[]⟩, false, false, false) := by
  unfold ins_of.f ofRest
  have : shapeT.find? (fun s => s.1 == a) = none := by
    rw [List.find?_eq_none]
    intro s hs he
    exact h (List.mem_map.2 ⟨s, hs, by simpa using he⟩)
  rw [this]
theorem w64n {n : Nat} (h : n < 9223372036854775807) : wrap64 ((n : Int) + 1) = ((n + 1 : Nat) : Int) := by
  simp only [wrap64]
  omega
theorem place_from {a : Int} (h : a ∉ opsL) : ∀ (m i : Nat), i + m = 39 → Ev (fun k => hurdleref02_place.l0 k a opsL (i : Int)) (-1) := by
  have hl : opsL.length = 39 := rfl
  intro m
  induction m with
  | zero =>
    intro i hi
    refine Ev.step (f := fun _ => some (-1)) (fun k => ?_) (Ev.now _)
    simp only [hurdleref02_place.l0, hl]
    rw [if_neg (by omega)]
  | succ m ih =>
    intro i hi
    refine Ev.step (fun k => ?_) (ih (i + 1) (by omega))
    simp only [hurdleref02_place.l0, hl]
    rw [if_pos (by omega), if_pos (by omega), if_neg, w64n (by omega)]
    intro he
    apply h
    rw [← he]
    have hi' : i < opsL.length := by omega
    simp only [rd, Int.toNat_natCast, List.getD_eq_getElem?_getD, List.getElem?_eq_getElem hi', Option.getD_some]
    exact List.getElem_mem hi'
theorem place_none {a : Int} (h : a ∉ opsL) : Ev (fun k => hurdleref02_place.f k a) (-1) := by
  unfold hurdleref02_place.f
  rw [ops_is]
  exact place_from h 39 0 rfl
/-- Each operation, by name. -/
theorem op_each {P : Int → Prop} (h : ∀ i : Nat, i < 39 → P (opsL.getD i 0)) (a : Int) (ha : a ∈ opsL) : P a := by
  obtain ⟨i, hi, e⟩ := List.getElem_of_mem ha
  have := h i (by simpa [opsL, shape_len] using hi)
  rwa [List.getD_eq_getElem?_getD, List.getElem?_eq_getElem hi, Option.getD_some, e] at this
theorem place_some {a : Int} {i : Nat} (hi : i < 39) (h : opsL[i]? = some a) : Ev (fun k => hurdleref02_place.f k a) (i : Int) := by
  have all : ∀ i : Nat, i < 39 → hurdleref02_place.f 60 (opsL.getD i 0) = some (i : Int) := by decide +kernel
  have e : opsL.getD i 0 = a := by rw [List.getD_eq_getElem?_getD, h]; rfl
  exact Ev.of (hurdleref02_place.mono a) (k := 60) (by rw [← e]; exact all i hi)
theorem of_some {a : Int} {i : Nat} (hi : i < 39) (h : opsL[i]? = some a) : ins_of.f a = some (a, (shapeT.getD i shapeZ).2.1, (shapeT.getD i shapeZ).2.2.1, (shapeT.getD i shapeZ).2.2.2, true) := by
  have all : ∀ i : Nat, i < 39 → ins_of.f (opsL.getD i 0) = some (opsL.getD i 0, (shapeT.getD i shapeZ).2.1, (shapeT.getD i shapeZ).2.2.1, (shapeT.getD i shapeZ).2.2.2, true) := fun i hi =>
    match i, hi with
    | 0, _ => rfl
    | 1, _ => rfl
    | 2, _ => rfl
    | 3, _ => rfl
    | 4, _ => rfl
    | 5, _ => rfl
    | 6, _ => rfl
    | 7, _ => rfl
    | 8, _ => rfl
    | 9, _ => rfl
    | 10, _ => rfl
    | 11, _ => rfl
    | 12, _ => rfl
    | 13, _ => rfl
    | 14, _ => rfl
    | 15, _ => rfl
    | 16, _ => rfl
    | 17, _ => rfl
    | 18, _ => rfl
    | 19, _ => rfl
    | 20, _ => rfl
    | 21, _ => rfl
    | 22, _ => rfl
    | 23, _ => rfl
    | 24, _ => rfl
    | 25, _ => rfl
    | 26, _ => rfl
    | 27, _ => rfl
    | 28, _ => rfl
    | 29, _ => rfl
    | 30, _ => rfl
    | 31, _ => rfl
    | 32, _ => rfl
    | 33, _ => rfl
    | 34, _ => rfl
    | 35, _ => rfl
    | 36, _ => rfl
    | 37, _ => rfl
    | 38, _ => rfl
    | n + 39, h => absurd h (by omega)
  have e : opsL.getD i 0 = a := by rw [List.getD_eq_getElem?_getD, h]; rfl
  rw [← e]; exact all i hi
def hasK (i : Nat) : Bool := (shapeT.getD i shapeZ).2.2.1
def hasW (i : Nat) : Bool := (shapeT.getD i shapeZ).2.2.2
def wordB (i : Nat) : ByteArray := (shapeT.getD i shapeZ).2.1
theorem plain_is {i : Nat} (hi : i < 39) : hurdleref02_plain.f (i : Int) = some (!hasK i) := by
  have all : ∀ i : Nat, i < 39 → hurdleref02_plain.f (i : Int) = some (!hasK i) := by decide +kernel
  exact all i hi
theorem branch_is {i : Nat} (hi : i < 39) : hurdleref02_branch.f (i : Int) = some (hasW i) := by
  have all : ∀ i : Nat, i < 39 → hurdleref02_branch.f (i : Int) = some (hasW i) := by decide +kernel
  exact all i hi
end Go.Proofs.YtbgneakihibmbaaDoor.InsOps
