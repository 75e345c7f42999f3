/- What the document's function that turns a bit computes, in plain numbers. No condition but that the bytes are bytes and the bit is one of theirs. -/
import Derived.Test.YtoaflnpjmpijgaaM5
import Derived.Test.YtoaflnpjmpijgaaCrcB
namespace Go.Proofs.Ytoaflnpjmpijgaa.CrcT
set_option linter.unusedVariables false
set_option linter.unusedSimpArgs false
open Go.RowKit Go.Proofs.YtoaflnpjmpijgaaW.PrintWords Go.Proofs.YtoaflnpjmpijgaaW.PrintLast Go.Proofs.YtoaflnpjmpijgaaW.PrintMore Go.Proofs.Ytoaflnpjmpijgaa.M Go.Proofs.Ytoaflnpjmpijgaa.CrcPlain Go.Proofs.Ytoaflnpjmpijgaa.CrcB

def tb : List Nat → Nat → List Nat
  | [], _ => []
  | x :: l, p => if p < 8 then (x ^^^ 2 ^ p) :: l else x :: tb l (p - 8)
theorem tb_length (l : List Nat) (p : Nat) : (tb l p).length = l.length := by
  induction l generalizing p with
  | nil => rfl
  | cons x l ih => unfold tb; split <;> simp [ih]
theorem tb_le (l : List Nat) (p : Nat) (h : p < 8 * l.length) : le (tb l p) = le l ^^^ 2 ^ p := by
  induction l generalizing p with
  | nil => simp at h
  | cons x l ih =>
    unfold tb
    split
    · rw [le, le, Nat.xor_assoc, Nat.xor_comm (2 ^ p), ← Nat.xor_assoc]
    · rw [le, le, ih (p - 8) (by simp only [List.length_cons] at h; omega), show (256 : Nat) = 2 ^ 8 from rfl, mul_xor, ← Nat.pow_add, show 8 + (p - 8) = p by omega, Nat.xor_assoc]
theorem tb_bs {l : List Nat} (hl : Bs l) (p : Nat) : Bs (tb l p) := by
  induction l generalizing p with
  | nil => exact hl
  | cons x l ih =>
    unfold tb
    split
    · intro y hy
      rcases List.mem_cons.1 hy with rfl | hy
      · refine Nat.xor_lt_two_pow (n := 8) (hl x List.mem_cons_self) ?_
        exact Nat.pow_lt_pow_right (by decide) (by omega)
      · exact hl y (List.mem_cons_of_mem _ hy)
    · intro y hy
      rcases List.mem_cons.1 hy with rfl | hy
      · exact hl _ List.mem_cons_self
      · exact ih (fun z hz => hl z (List.mem_cons_of_mem _ hz)) _ y hy
theorem tb_set (l : List Nat) (p : Nat) (h : p < 8 * l.length) : tb l p = l.set (p / 8) ((l.getD (p / 8) 0) ^^^ 2 ^ (p % 8)) := by
  induction l generalizing p with
  | nil => simp at h
  | cons x l ih =>
    unfold tb
    split
    · rename_i hp
      rw [show p / 8 = 0 by omega, show p % 8 = p by omega]
      rfl
    · rename_i hp
      rw [ih (p - 8) (by simp only [List.length_cons] at h; omega), show p / 8 = (p - 8) / 8 + 1 by omega, show (p - 8) % 8 = p % 8 by omega]
      simp
theorem turn_bit : ∀ b : Nat, b < 256 → ∀ q : Nat, q < 8 → (if b / 2 ^ q % 256 % 2 = 1 then ((b : Int) - (2 ^ q : Nat)) % 256 else ((b : Int) + (2 ^ q : Nat)) % 256) = ((b ^^^ 2 ^ q : Nat) : Int) := by decide +kernel
theorem w64n {x : Int} (h0 : 0 ≤ x) (h1 : x < 9223372036854775808) : wrap64 x = x := w64 h0 h1
theorem turn_from (l : List Nat) (hl : Bs l) (p : Nat) (hp : p < 8 * l.length) (hn : l.length < 1000000) : ∀ (m i : Nat), i + m = p % 8 → Ev (fun k => hurdleref20_Turn.l0 k (p : Int) (I l) ((2 ^ i : Nat) : Int) (i : Int)) (I (tb l p)) := by
  have em : Int.tmod (p : Int) 8 = ((p % 8 : Nat) : Int) := by rw [Int.tmod_eq_emod_of_nonneg (by omega)]; omega
  have ed : Int.tdiv (p : Int) 8 = ((p / 8 : Nat) : Int) := by rw [Int.tdiv_eq_ediv_of_nonneg (by omega)]; omega
  have hj : p / 8 < l.length := by omega
  intro m
  induction m with
  | zero =>
    intro i hi
    have hi' : i = p % 8 := by omega
    subst hi'
    refine Ev.step (f := fun _ => some (I (tb l p))) (fun k => ?_) (Ev.now _)
    have hb : l[p / 8] < 256 := hl _ (List.getElem_mem hj)
    have hq : p % 8 < 8 := Nat.mod_lt _ (by decide)
    have hpow : 0 < 2 ^ (p % 8) := Nat.two_pow_pos _
    simp only [hurdleref20_Turn.l0, em, ed]
    have ew : wrap64 ((p / 8 : Nat) : Int) = ((p / 8 : Nat) : Int) := w64n (by omega) (by omega)
    rw [ew, if_neg (by omega), if_pos (by omega), if_pos (by rw [I_length]; omega), if_neg (by omega), I_rd l _ hj]
    have ediv : Int.tdiv ((l[p / 8] : Nat) : Int) ((2 ^ (p % 8) : Nat) : Int) = ((l[p / 8] / 2 ^ (p % 8) : Nat) : Int) := by
      rw [Int.tdiv_eq_ediv_of_nonneg (by omega)]; exact (Int.natCast_ediv _ _).symm
    rw [ediv, Int.toNat_natCast]
    have T := turn_bit _ hb _ hq
    have e : I (tb l p) = (I l).set (p / 8) ((l[p / 8] ^^^ 2 ^ (p % 8) : Nat) : Int) := by
      rw [tb_set l p hp, List.getD_eq_getElem?_getD, List.getElem?_eq_getElem hj, Option.getD_some]
      simp [I, List.map_set]
    rw [e, ← T]
    by_cases c : l[p / 8] / 2 ^ (p % 8) % 256 % 2 = 1
    · rw [if_pos (by omega), if_pos c]
    · rw [if_neg (by omega), if_neg c]
  | succ m ih =>
    intro i hi
    refine Ev.step (fun k => ?_) (ih (i + 1) (by omega))
    simp only [hurdleref20_Turn.l0, em]
    have hq : p % 8 < 8 := Nat.mod_lt _ (by decide)
    have hs : 2 ^ i * 2 < 256 := by
      have : 2 ^ (i + 1) ≤ 2 ^ 7 := Nat.pow_le_pow_right (by decide) (by omega)
      rw [Nat.pow_succ] at this
      omega
    rw [if_pos (by omega), w64n (by omega) (by omega)]
    have e2 : (((2 ^ i : Nat) : Int) * 2) % 256 = ((2 ^ (i + 1) : Nat) : Int) := by rw [Nat.pow_succ]; omega
    rw [e2]
    rfl
theorem turn_is (l : List Nat) (hl : Bs l) (p : Nat) (hp : p < 8 * l.length) (hn : l.length < 1000000) : Ev (fun k => hurdleref20_Turn.f k (I l) (p : Int)) (I (tb l p)) := by
  unfold hurdleref20_Turn.f
  refine Ev.congr (fun k => ?_) (turn_from l hl p hp hn (p % 8) 0 (by omega))
  simp only [Option.bind_some, List.length_nil, List.nil_append]
  rw [if_pos (by rw [I_length]; omega)]
  rfl
end Go.Proofs.Ytoaflnpjmpijgaa.CrcT
