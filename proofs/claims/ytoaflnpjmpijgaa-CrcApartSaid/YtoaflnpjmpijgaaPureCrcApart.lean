/- The pure statement of CrcApart is proved: bytes that are unlike within 32 bits have unlike sums. No condition. -/
import Derived.Test.YtoaflnpjmpijgaaM6
import Derived.Test.YtoaflnpjmpijgaaCrcL
import Derived.Test.YtoaflnpjmpijgaaCrcT
namespace Go.Proofs.Ytoaflnpjmpijgaa.Pure
set_option linter.unusedVariables false
set_option linter.unusedSimpArgs false
open Go.RowKit Go.Proofs.Ytoaflnpjmpijgaa.M Go.Proofs.YtoaflnpjmpijgaaW.PrintWords Go.Proofs.YtoaflnpjmpijgaaW.PrintLast Go.Proofs.Ytoaflnpjmpijgaa.CrcPlain Go.Proofs.Ytoaflnpjmpijgaa.CrcB Go.Proofs.Ytoaflnpjmpijgaa.CrcL Go.Proofs.Ytoaflnpjmpijgaa.CrcT

theorem apart_end (l t : List Nat) (hl : Bs l) (ht : Bs t) (hlen : t.length = l.length) (hn : l.length ≤ 2000) (a m : Nat) (hm : m < 4294967296) (e : le t = le l ^^^ 2 ^ a * m) (at_ tu i : Int) :
    Ev (fun k => hurdlelaw20_CrcApart.j2 k (I l) at_ tu (I t) (decide (m ≠ 0)) i false) true := by
  refine Ev.step (fun k => by simp only [hurdlelaw20_CrcApart.j2, Bool.false_eq_true, if_false]; rfl) ?_
  refine Ev.bind (sum_is t ht (by omega)) (Ev.bind (sum_is l hl (by omega)) ?_)
  have key : ((((crc t : Nat) : Int) != ((crc l : Nat) : Int)) == decide (m ≠ 0)) = true := by
    have h := crc_xor t l hlen
    rw [e, Nat.xor_comm (le l), Nat.xor_assoc, Nat.xor_self, Nat.xor_zero] at h
    by_cases h0 : m = 0
    · subst h0
      rw [Nat.mul_zero, sts_zero] at h
      have : crc t = crc l := by
        by_cases g : crc t = crc l
        · exact g
        · exact absurd h (xor_ne_zero g)
      rw [this]
      simp
    · have hne : crc t ≠ crc l := by
        intro g
        rw [g, Nat.xor_self] at h
        exact sts_burst _ _ m hm h0 h.symm
      have h1 : (((crc t : Nat) : Int) != ((crc l : Nat) : Int)) = true := bne_iff_ne.mpr (by omega)
      rw [h1]
      simp [h0]
  rw [key]
  exact Ev.congr (fun k => if_pos rfl) (Ev.bind knows_is (Ev.now _))
theorem apart_from (l : List Nat) (hl : Bs l) (hn : l.length ≤ 2000) (a : Nat) (ha : a < 8 * l.length) : ∀ (d i : Nat), i + d = 32 → ∀ (m : Nat) (t : List Nat) (tu : Int), m < 2 ^ i → Bs t → t.length = l.length → le t = le l ^^^ 2 ^ a * m →
    Ev (fun k => hurdlelaw20_CrcApart.l0 k (I l) (a : Int) tu (I t) (decide (m ≠ 0)) (i : Int)) true := by
  intro d
  induction d with
  | zero =>
    intro i hi m t tu hm ht hlen e
    have hi' : i = 32 := by omega
    subst hi'
    refine Ev.step (fun k => ?_) (apart_end l t hl ht hlen hn a m (by simpa using hm) e (a : Int) tu 32)
    simp only [hurdlelaw20_CrcApart.l0]
    rw [if_neg (by omega)]
    rfl
  | succ d ih =>
    intro i hi
    have hi2 : (i : Int) < 32 := by omega
    have hd2 : (i + 1) + d = 32 := by omega
    have e8 : wrap64 (8 * ((I l).length : Int)) = ((8 * l.length : Nat) : Int) := by rw [I_length, w64 (by omega) (by omega)]; rfl
    have e1 : wrap64 ((a : Int) + (i : Int)) = ((a + i : Nat) : Int) := by rw [w64 (by omega) (by omega)]; rfl
    have ei : wrap64 ((i : Int) + 1) = ((i + 1 : Nat) : Int) := by rw [w64 (by omega) (by omega)]; rfl
    have p1 : 2 ^ i < 2 ^ (i + 1) := Nat.pow_lt_pow_right (by decide) (by omega)
    have p2 : 2 ^ i ≤ 2 ^ 31 := Nat.pow_le_pow_right (n := 2) (j := 31) (by decide) (by omega)
    by_cases hin : a + i < 8 * l.length
    · have d1 : decide (((a + i : Nat) : Int) < ((8 * l.length : Nat) : Int)) = true := decide_eq_true (by omega)
      intro m t tu hm ht hlen e
      have hin2 : a + i < 8 * t.length := by rw [hlen]; exact hin
      have ht2 : t.length < 1000000 := by rw [hlen]; omega
      refine Ev.step (fun k => by simp only [hurdlelaw20_CrcApart.l0]; rw [if_pos hi2, e1, e8, d1]) ?_
      by_cases hb : Int.tmod tu 2 = 1
      · refine Ev.step (f := fun k => (hurdleref20_Turn.f k (I t) ((a + i : Nat) : Int)).bind fun t196 => hurdlelaw20_CrcApart.l0 k (I l) (a : Int) ((Int.tdiv tu 2) % 4294967296) t196 true ((i + 1 : Nat) : Int)) (fun k => by simp only [hurdlelaw20_CrcApart.j2]; rw [if_pos trivial, if_pos hb, e1, ei]) ?_
        refine Ev.bind (turn_is t ht (a + i) hin2 ht2) ?_
        have hne : m ^^^ 2 ^ i ≠ 0 := xor_ne_zero (Nat.ne_of_lt hm)
        have := ih (i + 1) hd2 (m ^^^ 2 ^ i) (tb t (a + i)) ((Int.tdiv tu 2) % 4294967296)
          (Nat.xor_lt_two_pow (Nat.lt_trans hm p1) p1) (tb_bs ht _) ((tb_length _ _).trans hlen)
          (by rw [tb_le t (a + i) hin2, e, Nat.pow_add, mul_xor, Nat.xor_assoc])
        rw [decide_eq_true hne] at this
        exact this
      · refine Ev.step (f := fun k => hurdlelaw20_CrcApart.l0 k (I l) (a : Int) ((Int.tdiv tu 2) % 4294967296) (I t) (decide (m ≠ 0)) ((i + 1 : Nat) : Int)) (fun k => by simp only [hurdlelaw20_CrcApart.j2]; rw [if_pos trivial, if_neg hb, ei]) ?_
        exact ih (i + 1) hd2 m t _ (Nat.lt_trans hm p1) ht hlen e
    · have d1 : decide (((a + i : Nat) : Int) < ((8 * l.length : Nat) : Int)) = false := decide_eq_false (by omega)
      intro m t tu hm ht hlen e
      refine Ev.step (fun k => ?_) (apart_end l t hl ht hlen hn a m (Nat.lt_of_lt_of_le hm (Nat.le_trans p2 (by decide))) e (a : Int) tu (i : Int))
      simp only [hurdlelaw20_CrcApart.l0]
      rw [if_pos hi2, e1, e8, d1]
theorem CrcApart : hurdlelaw20_CrcApart.Pure := by
  intro l0 at_ tu _ hn hw hat _
  obtain ⟨l, rfl, hl⟩ := I_of l0 hw
  rw [I_length] at hn
  refine Ev.rounds ?_
  unfold hurdlelaw20_CrcApart.f
  have out : Ev (fun k => hurdlelaw20_CrcApart.j0 k (I l) at_ tu true) true :=
    Ev.step (f := fun k => (hurdlelaw20_knows.f k).bind fun t => some t) (fun k => by simp [hurdlelaw20_CrcApart.j0]) (Ev.bind knows_is (Ev.now _))
  by_cases h1 : ((I l).length : Int) > 2000
  · exact Ev.congr (fun k => if_pos h1) out
  · refine Ev.congr (fun k => if_neg h1) ?_
    rw [I_length] at h1
    by_cases h2 : at_ < 0
    · exact Ev.congr (fun k => if_pos h2) out
    · refine Ev.congr (fun k => if_neg h2) ?_
      have e8 : wrap64 (8 * ((I l).length : Int)) = ((8 * l.length : Nat) : Int) := by rw [I_length, w64 (by omega) (by omega)]; rfl
      rw [e8]
      by_cases h3 : at_ ≥ ((8 * l.length : Nat) : Int)
      · rw [decide_eq_true h3]
        exact out
      · rw [decide_eq_false h3]
        refine Ev.step (fun k => by simp only [hurdlelaw20_CrcApart.j0, Bool.false_eq_true, if_false]; rfl) ?_
        obtain ⟨a, rfl⟩ : ∃ a : Nat, at_ = (a : Int) := ⟨at_.toNat, by omega⟩
        exact apart_from l hl (by omega) a (by omega) 32 0 (by omega) 0 l tu (by decide) hl rfl (by simp)
end Go.Proofs.Ytoaflnpjmpijgaa.Pure
