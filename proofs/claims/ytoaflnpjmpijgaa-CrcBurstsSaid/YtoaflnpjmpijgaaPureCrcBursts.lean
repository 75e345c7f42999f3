/- The pure statement of CrcBursts is proved: if bits of sealed bytes are turned within 32, that is told. No condition. -/
import Derived.Test.YtoaflnpjmpijgaaMB
import Derived.Test.YtoaflnpjmpijgaaCrcL
import Derived.Test.YtoaflnpjmpijgaaCrcT
namespace Go.Proofs.Ytoaflnpjmpijgaa.Pure
set_option linter.unusedVariables false
set_option linter.unusedSimpArgs false
open Go.RowKit Go.Proofs.Ytoaflnpjmpijgaa.M Go.Proofs.YtoaflnpjmpijgaaW.PrintWords Go.Proofs.YtoaflnpjmpijgaaW.PrintLast Go.Proofs.Ytoaflnpjmpijgaa.CrcPlain Go.Proofs.Ytoaflnpjmpijgaa.CrcB Go.Proofs.Ytoaflnpjmpijgaa.CrcL Go.Proofs.Ytoaflnpjmpijgaa.CrcT

theorem seal_big (l : List Nat) (hl : Bs l) (hn : l.length < 140737488355000) : Ev (fun k => crc_Seal.f k (I l)) (I (l ++ four (crc l))) := by
  refine Ev.bind (sum_is l hl (by omega)) ?_
  refine Ev.congr (f := fun _ => some (I (l ++ four (crc l)))) (fun k => ?_) (Ev.now _)
  have hc := crc_lt l hl
  simp only [Option.bind_some, List.nil_append, List.length_nil]
  rw [if_pos (by rw [I_length]; omega), if_pos (by rw [I_length]; simp; omega), I_append]
  congr 2
/-- What opening comes to: sealed bytes are read; others are not. -/
theorem bursts_opened (l t : List Nat) (hl : Bs l) (ht : Bs t) (hlen : t.length = l.length + 4) (a m : Nat) (hm : m < 4294967296) (e : le t = le (l ++ four (crc l)) ^^^ 2 ^ a * m) :
    (m = 0 → (opened t).2 = 0) ∧ (m ≠ 0 → (opened t).2 = 10) := by
  have hs := seal_bs hl
  have hsl : (l ++ four (crc l)).length = l.length + 4 := by rw [List.length_append, four_len]
  have hx := crc_xor t (l ++ four (crc l)) (by rw [hlen, hsl])
  rw [e, Nat.xor_comm (le (l ++ four (crc l))), Nat.xor_assoc, Nat.xor_self, Nat.xor_zero] at hx
  constructor
  · intro h0
    subst h0
    rw [Nat.mul_zero, Nat.xor_zero] at e
    have : t = l ++ four (crc l) := le_inj t _ (by rw [hlen, hsl]) ht hs e
    rw [this]
    unfold opened
    rw [if_neg (by omega), hsl]
    have htk : (l ++ four (crc l)).take (l.length + 4 - 4) = l := by simp
    rw [htk, if_pos rfl]
  · intro h0
    unfold opened
    rw [if_neg (by omega)]
    split
    · rename_i hc
      exfalso
      -- both are sealed: their sums are the same
      have key : ∀ x : List Nat, Bs x → le (x ++ four (crc x)) = le x ^^^ 2 ^ (8 * x.length) * crc x := fun x hxb => by rw [le_append, le_four _ (crc_lt x hxb)]
      have hu := take_bs ht (t.length - 4)
      have hul : (t.take (t.length - 4)).length = l.length := by rw [List.length_take]; omega
      have hsum : crc t = crc (l ++ four (crc l)) := by
        rw [← hc]
        have r : ∀ x : List Nat, Bs x → crc (x ++ four (crc x)) = 4294967295 ^^^ run (run 4294967295 x) (four (crc x)) := fun x _ => by
          unfold crc run
          rw [List.foldl_append]
        have z : ∀ x : List Nat, Bs x → run (run 4294967295 x) (four (crc x)) = sts 32 4294967295 := fun x hxb => by
          rw [run_eq, four_len, le_four _ (crc_lt x hxb)]
          have : run 4294967295 x ^^^ crc x = 4294967295 := by
            unfold crc
            rw [Nat.xor_comm 4294967295, ← Nat.xor_assoc, Nat.xor_self, Nat.zero_xor]
          rw [this]
        rw [r _ hu, z _ hu, r _ hl, z _ hl]
      rw [hsum, Nat.xor_self] at hx
      exact sts_burst _ _ m hm h0 hx.symm
    · rfl
theorem bursts_end (l t : List Nat) (hl : Bs l) (ht : Bs t) (hlen : t.length = l.length + 4) (hn : l.length ≤ 2000) (a m : Nat) (hm : m < 4294967296) (e : le t = le (l ++ four (crc l)) ^^^ 2 ^ a * m) (at_ tu i : Int) (s : List Int) :
    Ev (fun k => hurdlelaw20_CrcBursts.j2 k at_ tu s (I t) (decide (m ≠ 0)) i false) true := by
  obtain ⟨h1, h2⟩ := bursts_opened l t hl ht hlen a m hm e
  refine Ev.step (fun k => by simp only [hurdlelaw20_CrcBursts.j2, Bool.false_eq_true, if_false]; rfl) ?_
  refine Ev.bind (open_is t ht (by omega)) ?_
  by_cases h0 : m = 0
  · rw [h1 h0, decide_eq_false (fun h => h h0)]
    refine Ev.congr (fun k => (if_pos (by rfl)).trans ((if_neg (by simp)).trans (if_pos (by rfl)))) (Ev.bind knows_is (Ev.now _))
  · rw [h2 h0, decide_eq_true h0]
    exact Ev.congr (fun k => (if_pos (by rfl)).trans (if_pos rfl)) (Ev.bind knows_is (Ev.now _))
theorem bursts_from (l : List Nat) (hl : Bs l) (hn : l.length ≤ 2000) (a : Nat) (ha : a < 8 * (l.length + 4)) : ∀ (d i : Nat), i + d = 32 → ∀ (m : Nat) (t : List Nat) (tu : Int), m < 2 ^ i → Bs t → t.length = l.length + 4 → le t = le (l ++ four (crc l)) ^^^ 2 ^ a * m →
    Ev (fun k => hurdlelaw20_CrcBursts.l0 k (a : Int) tu (I (l ++ four (crc l))) (I t) (decide (m ≠ 0)) (i : Int)) true := by
  have hsl : (l ++ four (crc l)).length = l.length + 4 := by rw [List.length_append, four_len]
  have e8 : wrap64 (8 * ((I (l ++ four (crc l))).length : Int)) = ((8 * (l.length + 4) : Nat) : Int) := by rw [I_length, hsl, w64 (by omega) (by omega)]; omega
  intro d
  induction d with
  | zero =>
    intro i hi m t tu hm ht hlen e
    have hi' : i = 32 := by omega
    subst hi'
    refine Ev.step (fun k => ?_) (bursts_end l t hl ht hlen hn a m (by simpa using hm) e (a : Int) tu 32 (I (l ++ four (crc l))))
    simp only [hurdlelaw20_CrcBursts.l0]
    rw [if_neg (by omega)]
    rfl
  | succ d ih =>
    intro i hi
    have hi2 : (i : Int) < 32 := by omega
    have hd2 : (i + 1) + d = 32 := by omega
    have e1 : wrap64 ((a : Int) + (i : Int)) = ((a + i : Nat) : Int) := by rw [w64 (by omega) (by omega)]; rfl
    have ei : wrap64 ((i : Int) + 1) = ((i + 1 : Nat) : Int) := by rw [w64 (by omega) (by omega)]; rfl
    have p1 : 2 ^ i < 2 ^ (i + 1) := Nat.pow_lt_pow_right (by decide) (by omega)
    have p2 : 2 ^ i ≤ 2 ^ 31 := Nat.pow_le_pow_right (n := 2) (j := 31) (by decide) (by omega)
    by_cases hin : a + i < 8 * (l.length + 4)
    · have d1 : decide (((a + i : Nat) : Int) < ((8 * (l.length + 4) : Nat) : Int)) = true := decide_eq_true (by omega)
      intro m t tu hm ht hlen e
      have hin2 : a + i < 8 * t.length := by rw [hlen]; exact hin
      have ht2 : t.length < 1000000 := by rw [hlen]; omega
      refine Ev.step (fun k => by simp only [hurdlelaw20_CrcBursts.l0]; rw [if_pos hi2, e1, e8, d1]) ?_
      by_cases hb : Int.tmod tu 2 = 1
      · refine Ev.step (f := fun k => (hurdleref20_Turn.f k (I t) ((a + i : Nat) : Int)).bind fun t196 => hurdlelaw20_CrcBursts.l0 k (a : Int) ((Int.tdiv tu 2) % 4294967296) (I (l ++ four (crc l))) t196 true ((i + 1 : Nat) : Int)) (fun k => by simp only [hurdlelaw20_CrcBursts.j2]; rw [if_pos trivial, if_pos hb, e1, ei]) ?_
        refine Ev.bind (turn_is t ht (a + i) hin2 ht2) ?_
        have hne : m ^^^ 2 ^ i ≠ 0 := xor_ne_zero (Nat.ne_of_lt hm)
        have := ih (i + 1) hd2 (m ^^^ 2 ^ i) (tb t (a + i)) ((Int.tdiv tu 2) % 4294967296)
          (Nat.xor_lt_two_pow (Nat.lt_trans hm p1) p1) (tb_bs ht _) ((tb_length _ _).trans hlen)
          (by rw [tb_le t (a + i) hin2, e, Nat.pow_add, mul_xor, Nat.xor_assoc])
        rw [decide_eq_true hne] at this
        exact this
      · refine Ev.step (f := fun k => hurdlelaw20_CrcBursts.l0 k (a : Int) ((Int.tdiv tu 2) % 4294967296) (I (l ++ four (crc l))) (I t) (decide (m ≠ 0)) ((i + 1 : Nat) : Int)) (fun k => by simp only [hurdlelaw20_CrcBursts.j2]; rw [if_pos trivial, if_neg hb, ei]) ?_
        exact ih (i + 1) hd2 m t _ (Nat.lt_trans hm p1) ht hlen e
    · have d1 : decide (((a + i : Nat) : Int) < ((8 * (l.length + 4) : Nat) : Int)) = false := decide_eq_false (by omega)
      intro m t tu hm ht hlen e
      refine Ev.step (fun k => ?_) (bursts_end l t hl ht hlen hn a m (Nat.lt_of_lt_of_le hm (Nat.le_trans p2 (by decide))) e (a : Int) tu (i : Int) (I (l ++ four (crc l))))
      simp only [hurdlelaw20_CrcBursts.l0]
      rw [if_pos hi2, e1, e8, d1]
theorem CrcBursts : hurdlelaw20_CrcBursts.Pure := by
  intro l0 at_ tu _ hn hw hat _
  obtain ⟨l, rfl, hl⟩ := I_of l0 hw
  rw [I_length] at hn
  refine Ev.rounds ?_
  unfold hurdlelaw20_CrcBursts.f
  refine Ev.bind (seal_big l hl (by omega)) ?_
  unfold hurdlelaw20_CrcBursts.g
  have hsl : (l ++ four (crc l)).length = l.length + 4 := by rw [List.length_append, four_len]
  have out : Ev (fun k => hurdlelaw20_CrcBursts.j0 k at_ tu (I (l ++ four (crc l))) true) true :=
    Ev.step (f := fun k => (hurdlelaw20_knows.f k).bind fun t => some t) (fun k => by simp [hurdlelaw20_CrcBursts.j0]) (Ev.bind knows_is (Ev.now _))
  by_cases h1 : ((I l).length : Int) > 2000
  · exact Ev.congr (fun k => if_pos h1) out
  · refine Ev.congr (fun k => if_neg h1) ?_
    rw [I_length] at h1
    by_cases h2 : at_ < 0
    · exact Ev.congr (fun k => if_pos h2) out
    · refine Ev.congr (fun k => if_neg h2) ?_
      have e8 : wrap64 (8 * ((I (l ++ four (crc l))).length : Int)) = ((8 * (l.length + 4) : Nat) : Int) := by rw [I_length, hsl, w64 (by omega) (by omega)]; omega
      rw [e8]
      by_cases h3 : at_ ≥ ((8 * (l.length + 4) : Nat) : Int)
      · rw [decide_eq_true h3]
        exact out
      · rw [decide_eq_false h3]
        refine Ev.step (fun k => by simp only [hurdlelaw20_CrcBursts.j0, Bool.false_eq_true, if_false]; rfl) ?_
        obtain ⟨a, rfl⟩ : ∃ a : Nat, at_ = (a : Int) := ⟨at_.toNat, by omega⟩
        exact bursts_from l hl (by omega) a (by omega) 32 0 (by omega) 0 (l ++ four (crc l)) tu (by decide) (seal_bs hl) hsl (by simp)
end Go.Proofs.Ytoaflnpjmpijgaa.Pure
