/- Numbers as hexadecimal texts, and texts as lists of numbers: plain facts, with no program in sight. No condition. -/
import Derived.Laws.BitsAllLaws
import Derived.Lib.Bytes
import Derived.Test.YtbgneakihibmbaaDoorM0
namespace Go.Proofs.YtbgneakihibmbaaDoor.Hex
set_option linter.unusedVariables false
set_option linter.unusedSimpArgs false
open Go.RowKit Go.Proofs.YtbgneakihibmbaaDoorW.PrintWords

/-! ### texts as lists -/
def str (l : List Nat) : ByteArray := ⟨(l.map UInt8.ofNat).toArray⟩
def Bs (l : List Nat) : Prop := ∀ x ∈ l, x < 256
def numsL (s : ByteArray) : List Nat := s.data.toList.map UInt8.toNat
theorem bytes_bs (s : ByteArray) : Bs (numsL s) := by
  intro x hx
  obtain ⟨b, _, rfl⟩ := List.mem_map.1 hx
  exact b.toNat_lt
theorem str_bytes (s : ByteArray) : str (numsL s) = s := by
  obtain ⟨⟨l⟩⟩ := s
  simp only [str, numsL, List.map_map]
  have : (UInt8.ofNat ∘ UInt8.toNat) = id := funext fun b => by simp
  rw [this, List.map_id]
theorem bytes_str {l : List Nat} (h : Bs l) : numsL (str l) = l := by
  induction l with
  | nil => rfl
  | cons x l ih =>
    have hx := h x List.mem_cons_self
    have hi := ih (fun y hy => h y (List.mem_cons_of_mem _ hy))
    simp only [numsL, str, List.map_cons, List.map_map] at hi ⊢
    simp only [List.cons.injEq]
    exact ⟨by simp [Nat.mod_eq_of_lt hx], hi⟩
theorem str_inj {a b : List Nat} (ha : Bs a) (hb : Bs b) : str a = str b ↔ a = b :=
  ⟨fun h => by rw [← bytes_str ha, ← bytes_str hb, h], fun h => by rw [h]⟩
theorem str_size (l : List Nat) : (str l).size = l.length := by simp [str, ByteArray.size]
theorem str_append (a b : List Nat) : str (a ++ b) = str a ++ str b := by
  apply ByteArray.ext
  simp [str]
theorem bs_append {a b : List Nat} : Bs (a ++ b) ↔ Bs a ∧ Bs b := by
  simp only [Bs, List.mem_append]
  exact ⟨fun h => ⟨fun x hx => h x (.inl hx), fun x hx => h x (.inr hx)⟩, fun h x hx => hx.elim (h.1 x) (h.2 x)⟩
theorem toList_inj {a b : ByteArray} : a.toList = b.toList ↔ a = b := by
  rw [ByteArray.toList_eq, ByteArray.toList_eq]
  constructor
  · intro h
    cases a; cases b
    simpa using h
  · intro h; rw [h]
theorem strOfNums_str (l : List Nat) : strOfNums (l.map fun n : Nat => (n : Int)) = str l := by
  simp [strOfNums, str, Function.comp_def]

/-! ### digits -/
def chr (d : Nat) : Nat := if d < 10 then 48 + d else 87 + d
def digs (n : Nat) : List Nat := if n < 16 then [n] else digs (n / 16) ++ [n % 16]
termination_by n
decreasing_by omega
theorem digs_small {n : Nat} (h : n < 16) : digs n = [n] := by rw [digs, if_pos h]
theorem digs_big {n : Nat} (h : 16 ≤ n) : digs n = digs (n / 16) ++ [n % 16] := by rw [digs, if_neg (by omega)]
theorem digs_snoc {n v : Nat} (hn : 0 < n) (hv : v < 16) : digs (n * 16 + v) = digs n ++ [v] := by
  rw [digs_big (by omega), show (n * 16 + v) / 16 = n by omega, show (n * 16 + v) % 16 = v by omega]
theorem digs_lt (n : Nat) : ∀ d ∈ digs n, d < 16 := by
  induction n using Nat.strongRecOn with
  | ind n ih =>
    by_cases h : n < 16
    · rw [digs_small h]; intro d hd; simp at hd; omega
    · rw [digs_big (by omega)]
      intro d hd
      rcases List.mem_append.1 hd with hd | hd
      · exact ih (n / 16) (by omega) d hd
      · simp at hd; omega
theorem digs_len (n j : Nat) (h : n < 16 ^ (j + 1)) : (digs n).length ≤ j + 1 := by
  induction j generalizing n with
  | zero => rw [digs_small (by omega)]; simp
  | succ j ih =>
    by_cases h2 : n < 16
    · rw [digs_small h2]; simp
    · rw [digs_big (by omega), List.length_append]
      have := ih (n / 16) (by rw [Nat.pow_succ] at h; omega)
      simp only [List.length_cons, List.length_nil]
      omega
theorem digs_pos (n : Nat) : 0 < (digs n).length := by
  by_cases h : n < 16
  · rw [digs_small h]; simp
  · rw [digs_big (by omega)]; simp
theorem digs_head (n : Nat) (h : 0 < n) : ∃ d r, digs n = d :: r ∧ 0 < d := by
  induction n using Nat.strongRecOn with
  | ind n ih =>
    by_cases h2 : n < 16
    · exact ⟨n, [], digs_small h2, h⟩
    · obtain ⟨d, r, e, hd⟩ := ih (n / 16) (by omega) (by omega)
      exact ⟨d, r ++ [n % 16], by rw [digs_big (by omega), e]; rfl, hd⟩
theorem chr_lt {d : Nat} (h : d < 16) : chr d < 256 := by unfold chr; split <;> omega
theorem chr_ne {d : Nat} (h : d < 16) : chr d ≠ 32 := by unfold chr; split <;> omega
def hexL (n : Nat) : List Nat := 48 :: 120 :: (digs n).map chr
def htext (n : Nat) : ByteArray := str (hexL n)
theorem hexL_bs (n : Nat) : Bs (hexL n) := by
  intro x hx
  simp only [hexL, List.mem_cons, List.mem_map] at hx
  rcases hx with rfl | rfl | ⟨d, hd, rfl⟩
  · omega
  · omega
  · exact chr_lt (digs_lt n d hd)
theorem hexL_ne (n : Nat) : ∀ x ∈ hexL n, x ≠ 32 := by
  intro x hx
  simp only [hexL, List.mem_cons, List.mem_map] at hx
  rcases hx with rfl | rfl | ⟨d, hd, rfl⟩
  · omega
  · omega
  · exact chr_ne (digs_lt n d hd)
theorem hexL_len {n : Nat} (h : n < 18446744073709551616) : (hexL n).length ≤ 18 := by
  have := digs_len n 15 (by omega)
  simp only [hexL, List.length_cons, List.length_map]
  omega
theorem hexL_len3 (n : Nat) : 3 ≤ (hexL n).length := by
  have := digs_pos n
  simp only [hexL, List.length_cons, List.length_map]
  omega

/-! ### digits of a set width -/
def fw : Nat → Nat → List Nat
  | 0, n => [n % 16]
  | j + 1, n => n / 16 ^ (j + 1) % 16 :: fw j n
def st : Nat → Nat → List Nat
  | 0, n => [n % 16]
  | j + 1, n => if 0 < n / 16 ^ (j + 1) % 16 then fw (j + 1) n else st j n
theorem fw_snoc (j n : Nat) : fw (j + 1) n = fw j (n / 16) ++ [n % 16] := by
  induction j with
  | zero => simp [fw]
  | succ j ih =>
    rw [fw, ih, fw, List.cons_append]
    congr 2
    rw [Nat.pow_succ 16 (j + 1), Nat.mul_comm, ← Nat.div_div_eq_div_mul]
theorem fw_digs (j n : Nat) (h1 : n < 16 ^ (j + 1)) (h2 : 16 ^ j ≤ n ∨ j = 0) : fw j n = digs n := by
  induction j generalizing n with
  | zero => rw [fw, digs_small (by omega), Nat.mod_eq_of_lt (by omega)]
  | succ j ih =>
    have hp : 0 < 16 ^ j := Nat.pow_pos (by omega)
    have hge : 16 ^ (j + 1) ≤ n := by rcases h2 with h | h; exact h; omega
    have e1 : 16 ^ (j + 1) = 16 ^ j * 16 := Nat.pow_succ 16 j
    have e2 : 16 ^ (j + 1 + 1) = 16 ^ (j + 1) * 16 := Nat.pow_succ 16 (j + 1)
    rw [fw_snoc, ih (n / 16) (by omega) (by left; omega), digs_big (n := n) (by omega)]
theorem st_digs (j n : Nat) (h : n < 16 ^ (j + 1)) : st j n = digs n := by
  induction j with
  | zero => rw [st, digs_small (by omega), Nat.mod_eq_of_lt (by omega)]
  | succ j ih =>
    have hp : 0 < 16 ^ (j + 1) := Nat.pow_pos (by omega)
    have e2 : 16 ^ (j + 1 + 1) = 16 ^ (j + 1) * 16 := Nat.pow_succ 16 (j + 1)
    have hq : n / 16 ^ (j + 1) < 16 := by rw [Nat.div_lt_iff_lt_mul hp]; omega
    rw [st, Nat.mod_eq_of_lt hq]
    by_cases h0 : 0 < n / 16 ^ (j + 1)
    · rw [if_pos h0]
      exact fw_digs (j + 1) n h (.inl (Nat.le_of_not_lt (fun hlt => by rw [Nat.div_eq_of_lt hlt] at h0; omega)))
    · rw [if_neg h0]
      refine ih ?_
      have : n / 16 ^ (j + 1) = 0 := Nat.eq_zero_of_not_pos h0
      rcases Nat.div_eq_zero_iff.1 this with h | h
      · omega
      · exact h
end Go.Proofs.YtbgneakihibmbaaDoor.Hex
