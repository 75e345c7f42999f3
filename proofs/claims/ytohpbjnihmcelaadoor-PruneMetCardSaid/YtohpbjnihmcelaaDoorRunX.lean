/- The document's step of a run comes to an end, whatever the state and the record. No condition but that the numbers are of their kinds. -/
import Derived.Test.YtohpbjnihmcelaaDoorOpsA
import Derived.Test.YtohpbjnihmcelaaDoorM19
import Derived.Test.YtohpbjnihmcelaaDoorM24
import Derived.Test.YtohpbjnihmcelaaDoorM25
import Derived.Test.YtohpbjnihmcelaaDoorPruD
import Derived.Test.YtohpbjnihmcelaaDoorM20
import Derived.Test.YtohpbjnihmcelaaDoorM26
import Derived.Test.YtohpbjnihmcelaaDoorM27
namespace Go.Proofs.YtohpbjnihmcelaaDoor.RunT
set_option linter.unusedVariables false
set_option linter.unusedSimpArgs false
open Go.RowKit Go.Proofs.YtohpbjnihmcelaaDoorW.PrintWords Go.Proofs.YtohpbjnihmcelaaDoorW.PrintLast Go.Proofs.YtohpbjnihmcelaaDoorW.PrintMore Go.Proofs.YtohpbjnihmcelaaDoor.M Go.Proofs.YtohpbjnihmcelaaDoor.InsOps Go.Proofs.YtohpbjnihmcelaaDoor.RightB
def U (x : Int) : Prop := 0 ≤ x ∧ x < 4294967296
theorem U_mod (x : Int) : U (x % 4294967296) := by unfold U; omega
theorem pw_small : ∀ i : Nat, i < 32 → (0 : Int) < 2 ^ i ∧ (2 : Int) ^ i ≤ 2147483648 := by decide
theorem pw_wrap (i : Nat) (h : i < 32) : IntKind.u64.wrap ((2 : Int) ^ i * 2) = (2 : Int) ^ (i + 1) := by
 have := pw_small i h
 rw [IntKind.wrap_u64, Int.pow_succ]
 omega
theorem power_from (n : Int) : ∀ (d i : Nat), i + d = (Int.tmod n 32).toNat → i + d < 32 → Ev (fun k => r01_power.l0 k n ((2 : Int) ^ i) (i : Int)) ((2 : Int) ^ (Int.tmod n 32).toNat) := by
 intro d
 induction d with
 | zero =>
  intro i h h2
  refine Ev.step (f := fun _ => some ((2 : Int) ^ i)) (fun k => ?_) (by rw [← h]; exact Ev.now _)
  simp only [r01_power.l0]
  rw [if_neg (by omega)]
 | succ d ih =>
  intro i h h2
  refine Ev.step (fun k => ?_) (ih (i + 1) (by omega) (by omega))
  simp only [r01_power.l0]
  rw [if_pos (by omega), pw_wrap i (by omega), show ((i : Int) + 1) % 4294967296 = ((i + 1 : Nat) : Int) by omega]
theorem tmod_lt (n : Int) : Int.tmod n 32 < 32 := Int.tmod_lt_of_pos n (by omega)
theorem power_is (n : Int) : ∃ r : Int, 0 < r ∧ r ≤ 2147483648 ∧ Ev (fun k => r01_power.f k n) r := by
 have h := tmod_lt n
 have hs := pw_small (Int.tmod n 32).toNat (by omega)
 exact ⟨_, hs.1, hs.2, power_from n (Int.tmod n 32).toNat 0 (by omega) (by omega)⟩
theorem u64_nonneg (x : Int) : 0 ≤ IntKind.u64.wrap x := by rw [IntKind.wrap_u64]; omega
theorem bit_is (a i : Int) : ∃ r : Int, 0 ≤ r ∧ r ≤ 1 ∧ Ev (fun k => r01_bit.f k a i) r := by
 obtain ⟨p, h1, h2, hp⟩ := power_is i
 have hz := u64_nonneg (Int.tdiv (IntKind.u64.wrap a) p)
 refine ⟨(Int.tmod (IntKind.u64.wrap (Int.tdiv (IntKind.u64.wrap a) p)) 2) % 4294967296, ?_, ?_, ?_⟩
 ·omega
 ·rw [Int.tmod_eq_emod_of_nonneg hz]; omega
 ·unfold r01_bit.f
  exact Ev.bind hp (Ev.congr (fun k => if_neg (by omega)) (Ev.now _))
theorem bits_from (a b : Int) (l : List Int) (hl : l.length = 4) : ∀ (d i : Nat) (x : Int), i + d = 32 → U x → ∃ r, U r ∧ Ev (fun k => r01_bits.l0 k a b l x (i : Int)) r := by
 intro d
 induction d with
 | zero =>
  intro i x h hx
  refine ⟨x, hx, Ev.step (f := fun _ => some x) (fun k => ?_) (Ev.now _)⟩
  simp only [r01_bits.l0]
  rw [if_neg (by omega)]
 | succ d ih =>
  intro i x h hx
  obtain ⟨p, p1, p2, hp⟩ := bit_is a (i : Int)
  obtain ⟨q, q1, q2, hq⟩ := bit_is b (i : Int)
  obtain ⟨w, w1, w2, hw⟩ := power_is (i : Int)
  obtain ⟨r, hr, er⟩ := ih (i + 1) _ (by omega) (U_mod (x + ((rd l (((2 * p) % 4294967296 + q) % 4294967296)) * (w % 4294967296)) % 4294967296))
  refine ⟨r, hr, Ev.step (fun k => by simp only [r01_bits.l0]; rw [if_pos (by omega)]) (Ev.bind hp (Ev.bind hq ?_))⟩
  have c1 : 0 ≤ ((2 * p) % 4294967296 + q) % 4294967296 := by omega
  have c2 : ((2 * p) % 4294967296 + q) % 4294967296 < (l.length : Int) := by omega
  simp only [if_pos c1, if_pos c2]
  refine Ev.bind hw (Ev.congr (fun k => ?_) er)
  rw [show ((i : Int) + 1) % 4294967296 = ((i + 1 : Nat) : Int) by omega]
theorem bits_is (a b : Int) (l : List Int) (hl : l.length = 4) : ∃ r, U r ∧ Ev (fun k => r01_bits.f k a b l) r := bits_from a b l hl 32 0 0 (by omega) (by unfold U; omega)
theorem do_is (c a b : Int) (hb : U b) : ∃ r o, U r ∧ Ev (fun k => r01_Do.f k c a b) (r, o) := by
 obtain ⟨r1, h1, e1⟩ := bits_is a b [0, 1, 1, 1] rfl
 obtain ⟨r2, h2, e2⟩ := bits_is a b [0, 0, 0, 1] rfl
 obtain ⟨r3, h3, e3⟩ := bits_is a b [0, 1, 1, 0] rfl
 obtain ⟨p, p1, p2, hp⟩ := power_is b
 have hz : U 0 := by unfold U; omega
 unfold r01_Do.f
 by_cases c1 : c = 4
 ·simp only [if_pos c1]; exact ⟨_, _, U_mod _, Ev.now _⟩
 simp only [if_neg c1]
 by_cases c2 : c = 20
 ·simp only [if_pos c2]; exact ⟨_, _, U_mod _, Ev.now _⟩
 simp only [if_neg c2]
 by_cases c3 : c = 36
 ·simp only [if_pos c3]; exact ⟨_, _, U_mod _, Ev.now _⟩
 simp only [if_neg c3]
 by_cases c4 : c = 52
 ·simp only [if_pos c4]
  by_cases hb0 : b = 0
  ·simp only [if_pos hb0]; exact ⟨_, _, hz, Ev.now _⟩
  ·have : ¬ IntKind.u64.wrap b = 0 := by rw [IntKind.wrap_u64]; unfold U at hb; omega
   simp only [if_neg hb0, if_neg this]
   exact ⟨_, _, U_mod _, Ev.now _⟩
 simp only [if_neg c4]
 by_cases c5 : c = 68
 ·simp only [if_pos c5]; exact ⟨r1, true, h1, Ev.bind e1 (Ev.now _)⟩
 simp only [if_neg c5]
 by_cases c6 : c = 84
 ·simp only [if_pos c6]; exact ⟨r2, true, h2, Ev.bind e2 (Ev.now _)⟩
 simp only [if_neg c6]
 by_cases c7 : c = 100
 ·simp only [if_pos c7]; exact ⟨_, true, U_mod _, Ev.bind hp (Ev.now _)⟩
 simp only [if_neg c7]
 by_cases c8 : c = 116
 ·simp only [if_pos c8]
  exact ⟨_, true, U_mod _, Ev.bind hp (Ev.congr (fun k => if_neg (by omega)) (Ev.now _))⟩
 simp only [if_neg c8]
 by_cases c9 : c = 164
 ·simp only [if_pos c9]; exact ⟨r3, true, h3, Ev.bind e3 (Ev.now _)⟩
 simp only [if_neg c9]
 exact ⟨_, _, hz, Ev.now _⟩
theorem low_from (many : Nat) (hm : many < 100) : ∀ (d i : Nat) (v : Int) (acc : List Int), i + d = many → acc.length = i → ∃ r, r.length = many ∧ Ev (fun k => r04_low.l0 k v (many : Int) acc (i : Int)) r := by
 intro d
 induction d with
 | zero =>
  intro i v acc h ha
  refine ⟨acc, by omega, Ev.step (f := fun _ => some acc) (fun k => ?_) (Ev.now _)⟩
  simp only [r04_low.l0]
  rw [if_neg (by omega)]
 | succ d ih =>
  intro i v acc h ha
  obtain ⟨r, hr, er⟩ := ih (i + 1) (IntKind.u64.wrap (Int.tdiv v 256)) (acc ++ [(Int.tmod v 256) % 256]) (by omega) (by rw [List.length_append]; simp; omega)
  refine ⟨r, hr, Ev.step (fun k => ?_) er⟩
  simp only [r04_low.l0]
  rw [if_pos (by omega), if_pos (by omega), show wrap64 ((i : Int) + 1) = ((i + 1 : Nat) : Int) by unfold wrap64; omega]
theorem low_is (v : Int) (many : Nat) (hm : many < 100) : ∃ r, r.length = many ∧ Ev (fun k => r04_low.f k v (many : Int)) r := low_from many hm many 0 v [] (by omega) rfl
theorem bytes_from (n r p : Int) (q : List Int) : ∀ (d i : Nat) (acc : List Int), i + d = 6 → acc.length = 16 + 8 * i → ∃ b, b.length = 64 ∧ Ev (fun k => r04_Bytes.l0 k acc (i : Int) n r p q) b := by
 intro d
 induction d with
 | zero =>
  intro i acc h ha
  refine ⟨acc, by omega, Ev.step (f := fun _ => some acc) (fun k => ?_) (Ev.now _)⟩
  simp only [r04_Bytes.l0]
  rw [if_neg (by omega)]
 | succ d ih =>
  intro i acc h ha
  obtain ⟨t, ht, et⟩ := low_is (rd q (i : Int)) 8 (by omega)
  obtain ⟨b, hb, eb⟩ := ih (i + 1) (acc ++ t) (by omega) (by rw [List.length_append]; omega)
  have et : Ev (fun k => r04_low.f k (rd q (i : Int)) 8) t := et
  refine ⟨b, hb, Ev.step (fun k => by simp only [r04_Bytes.l0]; rw [if_pos (by omega), if_pos (by omega)]) (Ev.bind et ?_)⟩
  have c1 : acc.length + t.length < 140737488355328 := by omega
  simp only [if_pos c1]
  refine Ev.congr (fun k => ?_) eb
  rw [show wrap64 ((i : Int) + 1) = ((i + 1 : Nat) : Int) by unfold wrap64; omega]
theorem bytes_is (n r p : Int) (q : List Int) : ∃ b, b.length = 64 ∧ Ev (fun k => r04_Bytes.f k n r p q) b := by
 obtain ⟨t1, h1, e1⟩ := low_is (IntKind.u64.wrap n) 4 (by omega)
 obtain ⟨t2, h2, e2⟩ := low_is (IntKind.u64.wrap r) 4 (by omega)
 obtain ⟨t3, h3, e3⟩ := low_is p 8 (by omega)
 obtain ⟨b, hb, eb⟩ := bytes_from n r p q 6 0 ((t1 ++ t2) ++ t3) (by omega) (by simp only [List.length_append]; omega)
 refine ⟨b, hb, ?_⟩
 unfold r04_Bytes.f
 have e1 : Ev (fun k => r04_low.f k (IntKind.u64.wrap n) 4) t1 := e1
 have e2 : Ev (fun k => r04_low.f k (IntKind.u64.wrap r) 4) t2 := e2
 have e3 : Ev (fun k => r04_low.f k p 8) t3 := e3
 refine Ev.bind e1 (Ev.bind e2 ?_)
 have c1 : t1.length + t2.length < 140737488355328 := by omega
 simp only [if_pos c1, Option.bind_some]
 refine Ev.bind e3 ?_
 have c2 : (t1 ++ t2).length + t3.length < 140737488355328 := by rw [List.length_append]; omega
 simp only [if_pos c2]
 exact eb
theorem number_from (l : List Int) (hl : l.length < 100) : ∀ (i : Nat) (v : Int), i ≤ l.length → ∃ r, Ev (fun k => r04_number.l0 k l v ((i : Int) - 1)) r := by
 intro i
 induction i with
 | zero =>
  intro v h
  refine ⟨v, Ev.step (f := fun _ => some v) (fun k => ?_) (Ev.now _)⟩
  simp only [r04_number.l0]
  rw [if_neg (by omega)]
 | succ i ih =>
  intro v h
  obtain ⟨r, er⟩ := ih (IntKind.u64.wrap ((IntKind.u64.wrap (v * 256)) + (IntKind.u64.wrap (rd l (((i + 1 : Nat) : Int) - 1))))) (by omega)
  refine ⟨r, Ev.step (fun k => ?_) er⟩
  simp only [r04_number.l0]
  rw [if_pos (by omega), if_pos (by omega), if_pos (by omega), show wrap64 (((i + 1 : Nat) : Int) - 1 - 1) = (i : Int) - 1 by unfold wrap64; omega]
theorem number_is (l : List Int) (hl : l.length < 100) : ∃ r, Ev (fun k => r04_number.f k l) r := by
 obtain ⟨r, er⟩ := number_from l hl l.length 0 (Nat.le_refl _)
 refine ⟨r, Ev.congr (fun k => ?_) er⟩
 unfold r04_number.f
 rw [show wrap64 ((l.length : Int) - 1) = (l.length : Int) - 1 by unfold wrap64; omega]
theorem word_is (n r p : Int) (q : List Int) (a : Int) (ha : U a) : ∃ w o, U w ∧ Ev (fun k => r04_Word.f k n r p q a) (w, o) := by
 have hz : U 0 := by unfold U; omega
 have no : Ev (fun k => r04_Word.j0 k a true n r p q) (0, false) := Ev.step (f := fun _ => some (0, false)) (fun k => by simp [r04_Word.j0]) (Ev.now _)
 unfold r04_Word.f
 by_cases h4 : Int.tmod a 4 = 0
 ·simp only [if_pos h4]
  by_cases h64 : a ≥ 64
  ·rw [decide_eq_true h64]; exact ⟨_, _, hz, no⟩
  ·rw [decide_eq_false h64]
   unfold U at ha
   obtain ⟨b, hb, eb⟩ := bytes_is n r p q
   obtain ⟨x, ex⟩ := number_is ((b.take (a + 4 : Int).toNat).drop (a : Int).toNat) (by rw [List.length_drop, List.length_take]; omega)
   have e4 : Int.tmod a 4 = a % 4 := Int.tmod_eq_emod_of_nonneg ha.1
   have w1 : wrap64 a = a := by unfold wrap64; omega
   have w2 : wrap64 (a + 4) = a + 4 := by unfold wrap64; omega
   refine ⟨x % 4294967296, true, U_mod _, Ev.step (fun k => by simp only [r04_Word.j0]; rw [if_neg Bool.false_ne_true, w1, w2]) (Ev.bind eb ?_)⟩
   have c1 : 0 ≤ a := ha.1
   have c2 : a ≤ a + 4 := by omega
   have c3 : a + 4 ≤ (b.length : Int) := by omega
   simp only [if_pos c1, if_pos c2, if_pos c3]
   exact Ev.bind ex (Ev.now _)
 ·simp only [if_neg h4]
  exact ⟨_, _, hz, no⟩
structure Sok (a x : Int) (m : List Int) : Prop where
 a : U a
 x : U x
 m : ∀ i, U (rd m i)
theorem arU_U (n : Nat) (i v : Int) (m : List Int) (hv : U v) (hm : ∀ i, U (rd m i)) (j : Int) : U (rd (arU n i v m) j) := by
 unfold rd arU
 rw [List.getD_eq_getElem?_getD, List.getElem?_map]
 by_cases h : j.toNat < n
 ·rw [List.getElem?_range h]
  simp only [Option.map_some, Option.getD_some]
  split
  ·exact hv
  ·exact hm _
 ·rw [List.getElem?_eq_none (by simpa using h)]
  simp only [Option.map_none, Option.getD_none]
  unfold U; omega
theorem alu_is (i0 i1 i2 i3 : Int) : ∃ v b o, Ev (fun k => r02_Alu.f k i0 i1 i2 i3) (v, b, o) := by
 have pl : ∃ t, Ev (fun k => r02_place.f k i0) t := by
  rcases op_cases i0 with ⟨i, hi, ho⟩ | ho
  ·exact ⟨_, place_some hi ho⟩
  ·exact ⟨_, place_none ho⟩
 obtain ⟨t, et⟩ := pl
 have j : ∀ c : Bool, ∃ v b o, Ev (fun k => r02_Alu.j0 k t c i0 i1 i2 i3) (v, b, o) := by
  intro c
  cases c
  ·by_cases h1 : t ≥ 13
   ·by_cases h2 : t ≤ 21
    ·exact ⟨_, _, _, Ev.step (f := fun _ => some (wrap64 (i0 - 8), true, true)) (fun k => by simp [r02_Alu.j0, h1, h2]) (Ev.now _)⟩
    ·exact ⟨_, _, _, Ev.step (f := fun _ => some (0, false, false)) (fun k => by simp only [r02_Alu.j0]; rw [if_neg Bool.false_ne_true, if_pos h1, if_neg h2]) (Ev.now _)⟩
   ·exact ⟨_, _, _, Ev.step (f := fun _ => some (0, false, false)) (fun k => by simp only [r02_Alu.j0]; rw [if_neg Bool.false_ne_true, if_neg h1]) (Ev.now _)⟩
  ·exact ⟨_, _, _, Ev.step (f := fun _ => some (i0, false, true)) (fun k => by simp [r02_Alu.j0]) (Ev.now _)⟩
 unfold r02_Alu.f
 by_cases h : t ≥ 4
 ·obtain ⟨v, b, o, e⟩ := j (decide (t ≤ 12))
  exact ⟨v, b, o, Ev.bind et (Ev.congr (fun k => if_pos h) e)⟩
 ·obtain ⟨v, b, o, e⟩ := j false
  exact ⟨v, b, o, Ev.bind et (Ev.congr (fun k => if_neg h) e)⟩
theorem neg_is (a : Int) : ∃ r, U r ∧ r01_Neg.f a = some r := ⟨_, U_mod _, rfl⟩
theorem last_is (c a x : Int) (m : List Int) (h : Sok a x m) (hc : U c) (i0 i1 i2 i3 : Int) (hk : U i3) (n r p : Int) (q : List Int) : ∃ a' x' m' o, Sok a' x' m' ∧ Ev (fun k => r06_Step.l0 k c 16 a x m i0 i1 i2 i3 n r p q) (a', x', m', o) := by
 obtain ⟨ha, hx, hm⟩ := h
 obtain ⟨w, wo, hw, ew⟩ := word_is n r p q i3 hk
 obtain ⟨g, hg, eg⟩ := neg_is a
 have go : ∀ {f : Nat → Option (Int × Int × List Int × Bool)} {z : Int × Int × List Int × Bool}, (∀ k, r06_Step.l0 (k + 1) c 16 a x m i0 i1 i2 i3 n r p q = f k) → Ev f z → Ev (fun k => r06_Step.l0 k c 16 a x m i0 i1 i2 i3 n r p q) z := fun h e => Ev.step h e
 have t : ∀ k, r06_Step.l0 (k + 1) c 16 a x m i0 i1 i2 i3 n r p q = _ := fun k => by rw [r06_Step.l0, if_neg (by omega)]
 by_cases c0 : i0 = 0
 ·exact ⟨_, _, _, _, ⟨hk, hx, hm⟩, go (fun k => (t k).trans (by rw [if_pos c0])) (Ev.now _)⟩
 by_cases c1 : i0 = 1
 ·exact ⟨_, _, _, _, ⟨ha, hk, hm⟩, go (fun k => (t k).trans (by rw [if_neg c0, if_pos c1])) (Ev.now _)⟩
 by_cases c2 : i0 = 32
 ·exact ⟨_, _, _, _, ⟨hw, hx, hm⟩, go (fun k => (t k).trans (by rw [if_neg c0, if_neg c1, if_pos c2])) (Ev.bind ew (Ev.now _))⟩
 by_cases c3 : i0 = 96
 ·exact ⟨_, _, _, _, ⟨hc, hx, hm⟩, go (fun k => (t k).trans (by rw [if_neg c0, if_neg c1, if_neg c2, if_pos c3])) (Ev.now _)⟩
 by_cases c4 : i0 = 97
 ·exact ⟨_, _, _, _, ⟨ha, hc, hm⟩, go (fun k => (t k).trans (by rw [if_neg c0, if_neg c1, if_neg c2, if_neg c3, if_pos c4])) (Ev.now _)⟩
 by_cases c5 : i0 = 7
 ·exact ⟨_, _, _, _, ⟨ha, ha, hm⟩, go (fun k => (t k).trans (by rw [if_neg c0, if_neg c1, if_neg c2, if_neg c3, if_neg c4, if_pos c5])) (Ev.now _)⟩
 by_cases c6 : i0 = 135
 ·exact ⟨_, _, _, _, ⟨hx, hx, hm⟩, go (fun k => (t k).trans (by rw [if_neg c0, if_neg c1, if_neg c2, if_neg c3, if_neg c4, if_neg c5, if_pos c6])) (Ev.now _)⟩
 by_cases c7 : i0 = 132
 ·exact ⟨_, _, _, _, ⟨hg, hx, hm⟩, go (fun k => (t k).trans (by rw [if_neg c0, if_neg c1, if_neg c2, if_neg c3, if_neg c4, if_neg c5, if_neg c6, if_pos c7, eg]; rfl)) (Ev.now _)⟩
 exact ⟨_, _, _, _, ⟨ha, hx, hm⟩, go (fun k => (t k).trans (by rw [if_neg c0, if_neg c1, if_neg c2, if_neg c3, if_neg c4, if_neg c5, if_neg c6, if_neg c7])) (Ev.now _)⟩
theorem loop_is (i0 i1 i2 i3 : Int) (hk : U i3) (n r p : Int) (q : List Int) : ∀ (d i : Nat) (c a x : Int) (m : List Int), i + d = 16 → Sok a x m → U c → ∃ a' x' m' o, Sok a' x' m' ∧ Ev (fun k => r06_Step.l0 k c (i : Int) a x m i0 i1 i2 i3 n r p q) (a', x', m', o) := by
 intro d
 induction d with
 | zero =>
  intro i c a x m h hs hc
  have : i = 16 := by omega
  subst this
  exact last_is c a x m hs hc i0 i1 i2 i3 hk n r p q
 | succ d ih =>
  intro i c a x m h hs hc
  have w : wrap64 ((i : Int) + 1) = ((i + 1 : Nat) : Int) := by unfold wrap64; omega
  by_cases e : ((i : Int) % 4294967296) = i3
  ·have j2 : ∀ (c : Int) (m : List Int), Sok a x m → U c → ∃ a' x' m' o, Sok a' x' m' ∧ Ev (fun k => r06_Step.j2 k c (i : Int) a x m i0 i1 i2 i3 n r p q) (a', x', m', o) := by
    intro c m hs hc
    by_cases c3 : i0 = 3
    ·obtain ⟨a', x', m', o, h1, h2⟩ := ih (i + 1) c a x (arU 16 (i : Int) x m) (by omega) ⟨hs.a, hs.x, arU_U _ _ _ _ hs.x hs.m⟩ hc
     refine ⟨a', x', m', o, h1, Ev.step (fun k => ?_) h2⟩
     rw [r06_Step.j2, if_pos c3, if_pos (by omega), if_pos (by omega), w]
    ·obtain ⟨a', x', m', o, h1, h2⟩ := ih (i + 1) c a x m (by omega) hs hc
     refine ⟨a', x', m', o, h1, Ev.step (fun k => ?_) h2⟩
     rw [r06_Step.j2, if_neg c3, w]
   by_cases c2 : i0 = 2
   ·obtain ⟨a', x', m', o, h1, h2⟩ := j2 (rd m (i : Int)) (arU 16 (i : Int) a m) ⟨hs.a, hs.x, arU_U _ _ _ _ hs.a hs.m⟩ (hs.m _)
    refine ⟨a', x', m', o, h1, Ev.step (fun k => ?_) h2⟩
    rw [r06_Step.l0, if_pos (by omega), if_pos e, if_pos (by omega), if_pos c2]
   ·obtain ⟨a', x', m', o, h1, h2⟩ := j2 (rd m (i : Int)) m hs (hs.m _)
    refine ⟨a', x', m', o, h1, Ev.step (fun k => ?_) h2⟩
    rw [r06_Step.l0, if_pos (by omega), if_pos e, if_pos (by omega), if_neg c2]
  ·obtain ⟨a', x', m', o, h1, h2⟩ := ih (i + 1) c a x m (by omega) hs hc
   refine ⟨a', x', m', o, h1, Ev.step (fun k => ?_) h2⟩
   rw [r06_Step.l0, if_pos (by omega), if_neg e, w]
theorem step_is (a x : Int) (m : List Int) (hs : Sok a x m) (i0 i1 i2 i3 : Int) (hk : U i3) (n r p : Int) (q : List Int) : ∃ a' x' m' o, Sok a' x' m' ∧ Ev (fun k => r06_Step.f k a x m i0 i1 i2 i3 n r p q) (a', x', m', o) := by
 obtain ⟨v, b, o, e⟩ := alu_is i0 i1 i2 i3
 have j0 : ∀ y, U y → ∃ a' x' m' o, Sok a' x' m' ∧ Ev (fun k => r06_Step.j0 k v y a x m) (a', x', m', o) := by
  intro y hy
  obtain ⟨z, go, hz, ez⟩ := do_is v a y hy
  cases go
  ·refine ⟨_, _, _, _, hs, Ev.step (fun k => by rw [r06_Step.j0]) (Ev.bind ez (Ev.congr (fun k => if_neg Bool.false_ne_true) (Ev.now _)))⟩
  ·refine ⟨_, _, _, _, ⟨hz, hs.x, hs.m⟩, Ev.step (fun k => by rw [r06_Step.j0]) (Ev.bind ez (Ev.congr (fun k => if_pos rfl) (Ev.now _)))⟩
 unfold r06_Step.f
 cases o
 ·obtain ⟨a', x', m', o, h1, h2⟩ := loop_is i0 i1 i2 i3 hk n r p q 16 0 0 a x m (by omega) hs (by unfold U; omega)
  exact ⟨a', x', m', o, h1, Ev.bind e (Ev.congr (fun k => if_neg Bool.false_ne_true) h2)⟩
 ·cases b
  ·obtain ⟨a', x', m', o, h1, h2⟩ := j0 i3 hk
   exact ⟨a', x', m', o, h1, Ev.bind e (Ev.congr (fun k => by rw [if_pos rfl, if_neg Bool.false_ne_true]) h2)⟩
  ·obtain ⟨a', x', m', o, h1, h2⟩ := j0 x hs.x
   exact ⟨a', x', m', o, h1, Ev.bind e (Ev.congr (fun k => by rw [if_pos rfl, if_pos rfl]) h2)⟩
end Go.Proofs.YtohpbjnihmcelaaDoor.RunT
/- A run of what is pruned goes as the run of the whole, and comes to the same by as many instructions; and these are no more than what is left. No condition but sizes far beyond the laws'. -/
namespace Go.Proofs.YtohpbjnihmcelaaDoor.PruF
set_option linter.unusedVariables false
set_option linter.unusedSimpArgs false
open Go.RowKit Go.Proofs.YtohpbjnihmcelaaDoorW.PrintWords Go.Proofs.YtohpbjnihmcelaaDoorW.PrintLast Go.Proofs.YtohpbjnihmcelaaDoorW.PrintMore Go.Proofs.YtohpbjnihmcelaaDoor.M Go.Proofs.YtohpbjnihmcelaaDoor.InsOps Go.Proofs.YtohpbjnihmcelaaDoor.RightB Go.Proofs.YtohpbjnihmcelaaDoor.ChkB Go.Proofs.YtohpbjnihmcelaaDoor.ChkN Go.Proofs.YtohpbjnihmcelaaDoor.PruA Go.Proofs.YtohpbjnihmcelaaDoor.PruB Go.Proofs.YtohpbjnihmcelaaDoor.PruS Go.Proofs.YtohpbjnihmcelaaDoor.RunT
theorem takes_is (a x : Int) (m : List Int) (hs : Sok a x m) (i0 i1 i2 i3 : Int) (hk : U i3) : ∃ b, Ev (fun k => r06_Takes.f k a x m i0 i1 i2 i3) b := by
 have j : ∀ y o, U y → ∃ b, Ev (fun k => r06_Takes.j0 k y o a x m) b := by
  intro y o hy
  obtain ⟨r, g, _, e⟩ := do_is 84 a y hy
  by_cases h1 : o = 21
  ·exact ⟨_, Ev.step (fun k => by rw [r06_Takes.j0, if_pos h1]) (Ev.now _)⟩
  by_cases h2 : o = 37
  ·exact ⟨_, Ev.step (fun k => by rw [r06_Takes.j0, if_neg h1, if_pos h2]) (Ev.now _)⟩
  by_cases h3 : o = 53
  ·exact ⟨_, Ev.step (fun k => by rw [r06_Takes.j0, if_neg h1, if_neg h2, if_pos h3]) (Ev.now _)⟩
  exact ⟨_, Ev.step (fun k => by rw [r06_Takes.j0, if_neg h1, if_neg h2, if_neg h3]) (Ev.bind e (Ev.now _))⟩
 unfold r06_Takes.f
 cases hb : branchI i0
 ·refine ⟨false, Ev.bind (rbranchI_is i0 i1 i2 i3) ?_⟩
  rw [hb]
  exact Ev.congr (fun k => if_neg Bool.false_ne_true) (Ev.now _)
 ·by_cases h : Int.tmod i0 16 = 13
  ·obtain ⟨b, e⟩ := j x (wrap64 (i0 - 8)) hs.x
   refine ⟨b, Ev.bind (rbranchI_is i0 i1 i2 i3) ?_⟩
   rw [hb]
   exact Ev.congr (fun k => by rw [if_pos rfl, if_pos h]) e
  ·obtain ⟨b, e⟩ := j i3 i0 hk
   refine ⟨b, Ev.bind (rbranchI_is i0 i1 i2 i3) ?_⟩
   rw [hb]
   exact Ev.congr (fun k => by rw [if_pos rfl, if_neg h]) e
def Goes (o : Int) : Prop := o = 5 ∨ branchI o = true
theorem goes_row {o : Int} (h : Goes o) : ∃ i, i < 39 ∧ opsL[i]? = some o ∧ (hasW i = true ∨ opsL.getD i 0 = 5) := by
 rcases op_cases o with ⟨i, hi, ho⟩ | ho
 ·refine ⟨i, hi, ho, ?_⟩
  have e : opsL.getD i 0 = o := by rw [List.getD_eq_getElem?_getD, ho]; rfl
  rcases h with rfl | hb
  ·exact .inr e
  ·exact .inl (by rw [← (rightI_row hi ho 0 0 0).2]; exact hb)
 ·exfalso
  rcases h with rfl | hb
  ·exact ho (by decide)
  ·rw [(rightI_none ho 0 0 0).2] at hb; cases hb
theorem goes_not {o : Int} (h : Goes o) : (o ≠ 0 ∧ o ≠ 1 ∧ o ≠ 2 ∧ o ≠ 3 ∧ o ≠ 7 ∧ o ≠ 32) ∧ o ≠ 96 ∧ o ≠ 97 ∧ o ≠ 132 ∧ o ≠ 135 := by
 obtain ⟨i, hi, ho, hc⟩ := goes_row h
 have all : ∀ i, i < 39 → (hasW i = true ∨ opsL.getD i 0 = 5) → (opsL.getD i 0 ≠ 0 ∧ opsL.getD i 0 ≠ 1 ∧ opsL.getD i 0 ≠ 2 ∧ opsL.getD i 0 ≠ 3 ∧ opsL.getD i 0 ≠ 7 ∧ opsL.getD i 0 ≠ 32) ∧ opsL.getD i 0 ≠ 96 ∧ opsL.getD i 0 ≠ 97 ∧ opsL.getD i 0 ≠ 132 ∧ opsL.getD i 0 ≠ 135 := by decide
 have e : opsL.getD i 0 = o := by rw [List.getD_eq_getElem?_getD, ho]; rfl
 rw [← e]
 exact all i hi hc
theorem alu_not {o : Int} (h : Goes o) (i1 i2 i3 : Int) : Ev (fun k => r02_Alu.f k o i1 i2 i3) (0, false, false) := by
 obtain ⟨i, hi, ho, hc⟩ := goes_row h
 have all : ∀ i, i < 39 → (hasW i = true ∨ opsL.getD i 0 = 5) → i < 4 ∨ 21 < i := by decide
 have hr := all i hi hc
 unfold r02_Alu.f
 refine Ev.bind (place_some hi ho) ?_
 have j : Ev (fun k => r02_Alu.j0 k (i : Int) false o i1 i2 i3) (0, false, false) := by
  by_cases h1 : (i : Int) ≥ 13
  ·exact Ev.step (f := fun _ => some (0, false, false)) (fun k => by rw [r02_Alu.j0, if_neg Bool.false_ne_true, if_pos h1, if_neg (by omega)]) (Ev.now _)
  ·exact Ev.step (f := fun _ => some (0, false, false)) (fun k => by rw [r02_Alu.j0, if_neg Bool.false_ne_true, if_neg h1]) (Ev.now _)
 by_cases h4 : (i : Int) ≥ 4
 ·rw [decide_eq_false (show ¬ (i : Int) ≤ 12 by omega)]
  exact Ev.congr (fun k => if_pos h4) j
 ·exact Ev.congr (fun k => if_neg h4) j
theorem loop_same {o : Int} (h : Goes o) (a x : Int) (m : List Int) (i1 i2 i3 n r p : Int) (q : List Int) : ∀ (d i : Nat) (c : Int), i + d = 16 → Ev (fun k => r06_Step.l0 k c (i : Int) a x m o i1 i2 i3 n r p q) (a, x, m, true) := by
 obtain ⟨⟨n0, n1, n2, n3, n7, n32⟩, n96, n97, n132, n135⟩ := goes_not h
 intro d
 induction d with
 | zero =>
  intro i c hi
  refine Ev.step (f := fun _ => some (a, x, m, true)) (fun k => ?_) (Ev.now _)
  rw [r06_Step.l0, if_neg (by omega), if_neg n0, if_neg n1, if_neg n32, if_neg n96, if_neg n97, if_neg n7, if_neg n135, if_neg n132]
 | succ d ih =>
  intro i c hi
  have w : wrap64 ((i : Int) + 1) = ((i + 1 : Nat) : Int) := by unfold wrap64; omega
  by_cases e : ((i : Int) % 4294967296) = i3
  ·refine Ev.step (fun k => ?_) (Ev.step (f := fun k => r06_Step.l0 k (rd m (i : Int)) ((i + 1 : Nat) : Int) a x m o i1 i2 i3 n r p q) (g := fun k => r06_Step.j2 k (rd m (i : Int)) (i : Int) a x m o i1 i2 i3 n r p q) (fun k => ?_) (ih (i + 1) _ (by omega)))
   ·rw [r06_Step.l0, if_pos (by omega), if_pos e, if_pos (by omega), if_neg n2]
   ·rw [r06_Step.j2, if_neg n3, w]
  ·refine Ev.step (fun k => ?_) (ih (i + 1) c (by omega))
   rw [r06_Step.l0, if_pos (by omega), if_neg e, w]
theorem step_same {o : Int} (h : Goes o) (a x : Int) (m : List Int) (i1 i2 i3 n r p : Int) (q : List Int) : Ev (fun k => r06_Step.f k a x m o i1 i2 i3 n r p q) (a, x, m, true) := by
 unfold r06_Step.f
 exact Ev.bind (alu_not h i1 i2 i3) (Ev.congr (fun k => if_neg Bool.false_ne_true) (loop_same h a x m i1 i2 i3 n r p q 16 0 0 (by omega)))
theorem ev_unbind {α β : Type} {g : Nat → Option α} {f : Nat → α → Option β} {a : α} {r : β} (h : Ev g a) (k : Ev (fun n => (g n).bind (f n)) r) : Ev (fun n => f n a) r := by
 obtain ⟨k1, h⟩ := h
 obtain ⟨k2, k⟩ := k
 refine ⟨max k1 k2, fun n hn => ?_⟩
 have e1 := h n (by omega)
 have e2 := k n (by omega)
 simp only [e1, Option.bind_some] at e2
 exact e2
theorem takes_any {a x : Int} {m : List Int} {i0 i1 i2 i3 j1 j2 : Int} {b : Bool} (h : Ev (fun k => r06_Takes.f k a x m i0 i1 i2 i3) b) : Ev (fun k => r06_Takes.f k a x m i0 j1 j2 i3) b := by
 unfold r06_Takes.f at h ⊢
 have h2 := ev_unbind (f := fun n (t : Bool) => if t = true then if Int.tmod i0 16 = 13 then r06_Takes.j0 n x (wrap64 (i0 - 8)) a x m else r06_Takes.j0 n i3 i0 a x m else some false) (rbranchI_is i0 i1 i2 i3) h
 exact Ev.bind (f := fun n (t : Bool) => if t = true then if Int.tmod i0 16 = 13 then r06_Takes.j0 n x (wrap64 (i0 - 8)) a x m else r06_Takes.j0 n i3 i0 a x m else some false) (rbranchI_is i0 j1 j2 i3) h2
section
variable {l : List In} (h : Ok l) (n r p : Int) (q : List Int)
include h
theorem from_pr : ∀ (d i : Nat) (a x : Int) (m : List Int), l.length ≤ i + d → Rc l 0 i → Sok a x m →
  ∃ v u, 1 ≤ u ∧ u ≤ (cnt (metL l) l.length : Int) - (cnt (metL l) i : Int) ∧ Ev (fun k => r06_From.f k l a x m (i : Int) n r p q) (v, u) ∧ Ev (fun k => r06_From.f k (prL (metL l) l) a x m ((cnt (metL l) i : Nat) : Int) n r p q) (v, u) := by
 intro d
 induction d with
 | zero => intro i a x m h1 h2; have := (met_lt h h2).1; omega
 | succ d ih =>
  intro i a x m hd hi0 hs
  have hl := h.hl
  obtain ⟨hi, hcl⟩ := met_lt h hi0
  have hg := (sound_at l h.hw h.hs i hi).1
  obtain ⟨g1, g2, g3, g4, g5, g6⟩ := good_small hg
  have hk : U l[i].f3 := ⟨g5, g6⟩
  have hglen := g_len h
  have hcle := cnt_le (metL l) l.length
  obtain ⟨_, hgg⟩ := g_get h hi0
  obtain ⟨hq, eg⟩ := List.getElem?_eq_some_iff.1 hgg
  have ra := rd_at l i hi
  have rb : rd_T45 (prL (metL l) l) ((cnt (metL l) i : Nat) : Int) = prI (metL l) l[i] i := (rd_at _ _ hq).trans eg
  have hX0 := prI_f0 (metL l) l[i] i
  generalize hG : prL (metL l) l = G at *
  have big : ((cnt (metL l) i : Nat) : Int) < (G.length : Int) := by omega
  -- from the step on
  have tail : ∀ (o' : Nat) (a' x' : Int) (m' : List Int) (o : Bool), hit l[i] o' = true → Sok a' x' m' → Ev (fun k => r06_Step.f k a x m l[i].f0 l[i].f1 l[i].f2 l[i].f3 n r p q) (a', x', m', o) → Ev (fun k => r06_Step.f k a x m (prI (metL l) l[i] i).f0 (prI (metL l) l[i] i).f1 (prI (metL l) l[i] i).f2 (prI (metL l) l[i] i).f3 n r p q) (a', x', m', o) →
    ∃ v u, 1 ≤ u ∧ u ≤ (cnt (metL l) l.length : Int) - (cnt (metL l) i : Int) ∧ Ev (fun k => r06_From.j1 k l ((i + 1 + o' : Nat) : Int) a x m n r p q l[i].f0 l[i].f1 l[i].f2 l[i].f3) (v, u) ∧ Ev (fun k => r06_From.j1 k G ((cnt (metL l) i + 1 + btw (metL l) i o' : Nat) : Int) a x m n r p q (prI (metL l) l[i] i).f0 (prI (metL l) l[i] i).f1 (prI (metL l) l[i] i).f2 (prI (metL l) l[i] i).f3) (v, u) := by
   intro o' a' x' m' o ho hs' es eg
   have st : Stp l i (i + 1 + o') := ⟨hi, o', ho, rfl⟩
   have hc := cnt_step h hi0 st
   cases o
   ·exact ⟨0, 1, by omega, by omega, Ev.step (fun k => by rw [r06_From.j1]) (Ev.bind es (Ev.congr (fun k => if_neg Bool.false_ne_true) (Ev.now _))), Ev.step (fun k => by rw [r06_From.j1]) (Ev.bind eg (Ev.congr (fun k => if_neg Bool.false_ne_true) (Ev.now _)))⟩
   ·obtain ⟨v, u, u1, u2, f1, f2⟩ := ih (i + 1 + o') a' x' m' (by omega) (rc_snoc hi0 st) hs'
    have w : wrap64 (u + 1) = u + 1 := by unfold wrap64; omega
    rw [hc] at f2
    refine ⟨v, u + 1, by omega, by omega, Ev.step (fun k => by rw [r06_From.j1]) (Ev.bind es (Ev.congr (fun k => if_pos rfl) (Ev.bind f1 ?_))), Ev.step (fun k => by rw [r06_From.j1]) (Ev.bind eg (Ev.congr (fun k => if_pos rfl) (Ev.bind f2 ?_)))⟩
    ·simp only [w]; exact Ev.now _
    ·simp only [w]; exact Ev.now _
  by_cases e6 : l[i].f0 = 6
  ·have hX : prI (metL l) l[i] i = l[i] := by unfold prI; rw [if_neg (by omega), if_neg (by rw [e6, branch_6]; exact Bool.false_ne_true)]
   rw [hX] at rb
   exact ⟨l[i].f3, 1, by omega, by omega, Ev.step (fun k => by rw [r06_From.f, if_pos (by omega), if_pos (by omega), ra, if_pos e6]) (Ev.now _), Ev.step (fun k => by rw [r06_From.f, if_pos (by omega), if_pos big, rb, if_pos e6]) (Ev.now _)⟩
  by_cases e22 : l[i].f0 = 22
  ·have hX : prI (metL l) l[i] i = l[i] := by unfold prI; rw [if_neg (by omega), if_neg (by rw [e22, branch_22]; exact Bool.false_ne_true)]
   rw [hX] at rb
   exact ⟨a, 1, by omega, by omega, Ev.step (fun k => by rw [r06_From.f, if_pos (by omega), if_pos (by omega), ra, if_neg e6, if_pos e22]) (Ev.now _), Ev.step (fun k => by rw [r06_From.f, if_pos (by omega), if_pos big, rb, if_neg e6, if_pos e22]) (Ev.now _)⟩
  have he : endI l[i] = false := by
   unfold endI
   rw [beq_eq_false_iff_ne.mpr e6, beq_eq_false_iff_ne.mpr e22]
   rfl
  have x6 : ¬ (prI (metL l) l[i] i).f0 = 6 := by rw [hX0]; exact e6
  have x22 : ¬ (prI (metL l) l[i] i).f0 = 22 := by rw [hX0]; exact e22
  cases hb : branchI l[i].f0
  ·by_cases h5 : l[i].f0 = 5
   ·have s1 := step_same (.inl h5) a x m l[i].f1 l[i].f2 l[i].f3 n r p q
    have s2 := step_same (.inl (hX0.trans h5)) a x m (prI (metL l) l[i] i).f1 (prI (metL l) l[i] i).f2 (prI (metL l) l[i] i).f3 n r p q
    have ho := (hit_ja he h5 l[i].f3.toNat).mpr (by omega)
    obtain ⟨v, u, u1, u2, f1, f2⟩ := tail l[i].f3.toNat a x m true ho hs s1 s2
    have hX3 : (prI (metL l) l[i] i).f3 = ((btw (metL l) i l[i].f3.toNat : Nat) : Int) := by unfold prI; rw [if_pos h5]
    have hbt := btw_o (metL l) i l[i].f3.toNat
    refine ⟨v, u, u1, u2, Ev.step (fun k => by rw [r06_From.f, if_pos (by omega), if_pos (by omega), ra, if_neg e6, if_neg e22, if_pos h5]) (Ev.step (fun k => by rw [r06_From.j0]) (Ev.bind (rbranchI_is _ _ _ _) ?_)), Ev.step (fun k => by rw [r06_From.f, if_pos (by omega), if_pos big, rb, if_neg x6, if_neg x22, if_pos (hX0.trans h5)]) (Ev.step (fun k => by rw [r06_From.j0]) (Ev.bind (rbranchI_is _ _ _ _) ?_))⟩
    ·rw [hb, w64s (x := l[i].f3) (by omega) (by omega), w64s (x := (i : Int) + 1) (by omega) (by omega), w64s (x := (i : Int) + 1 + l[i].f3) (by omega) (by omega), show (i : Int) + 1 + l[i].f3 = ((i + 1 + l[i].f3.toNat : Nat) : Int) by omega]
     exact Ev.congr (fun k => if_neg Bool.false_ne_true) f1
    ·rw [hX0, hb, hX3, w64s (x := ((btw (metL l) i l[i].f3.toNat : Nat) : Int)) (by omega) (by omega), w64s (x := ((cnt (metL l) i : Nat) : Int) + 1) (by omega) (by omega), w64s (x := ((cnt (metL l) i : Nat) : Int) + 1 + ((btw (metL l) i l[i].f3.toNat : Nat) : Int)) (by omega) (by omega), show ((cnt (metL l) i : Nat) : Int) + 1 + ((btw (metL l) i l[i].f3.toNat : Nat) : Int) = ((cnt (metL l) i + 1 + btw (metL l) i l[i].f3.toNat : Nat) : Int) by omega]
     rw [hX0, hX3] at f2
     exact Ev.congr (fun k => if_neg Bool.false_ne_true) f2
   ·have hX : prI (metL l) l[i] i = l[i] := by unfold prI; rw [if_neg h5, hb, if_neg Bool.false_ne_true]
    obtain ⟨a', x', m', o, hs', es⟩ := step_is a x m hs l[i].f0 l[i].f1 l[i].f2 l[i].f3 hk n r p q
    have ho := (hit_on he h5 hb 0).mpr rfl
    obtain ⟨v, u, u1, u2, f1, f2⟩ := tail 0 a' x' m' o ho hs' es (by rw [hX]; exact es)
    rw [hX] at rb f2
    have hb0 : btw (metL l) i 0 = 0 := by have := btw_o (metL l) i 0; omega
    rw [hb0] at f2
    refine ⟨v, u, u1, u2, Ev.step (fun k => by rw [r06_From.f, if_pos (by omega), if_pos (by omega), ra, if_neg e6, if_neg e22, if_neg h5]) (Ev.step (fun k => by rw [r06_From.j0]) (Ev.bind (rbranchI_is _ _ _ _) ?_)), Ev.step (fun k => by rw [r06_From.f, if_pos (by omega), if_pos big, rb, if_neg e6, if_neg e22, if_neg h5]) (Ev.step (fun k => by rw [r06_From.j0]) (Ev.bind (rbranchI_is _ _ _ _) ?_))⟩
    ·rw [hb, wS i (by omega)]
     exact Ev.congr (fun k => if_neg Bool.false_ne_true) f1
    ·rw [hb, wS (cnt (metL l) i) (by omega)]
     exact Ev.congr (fun k => if_neg Bool.false_ne_true) f2
  ·have h5 := (br_end hb).2
   have x5 : ¬ (prI (metL l) l[i] i).f0 = 5 := by rw [hX0]; exact h5
   have s1 := step_same (.inr hb) a x m l[i].f1 l[i].f2 l[i].f3 n r p q
   have s2 := step_same (.inr (show branchI (prI (metL l) l[i] i).f0 = true by rw [hX0]; exact hb)) a x m (prI (metL l) l[i] i).f1 (prI (metL l) l[i] i).f2 (prI (metL l) l[i] i).f3 n r p q
   obtain ⟨t, et⟩ := takes_is a x m hs l[i].f0 l[i].f1 l[i].f2 l[i].f3 hk
   have hX1 : prI (metL l) l[i] i = ⟨l[i].f0, ((btw (metL l) i l[i].f1.toNat : Nat) : Int), ((btw (metL l) i l[i].f2.toNat : Nat) : Int), l[i].f3⟩ := by unfold prI; rw [if_neg h5, if_pos hb]
   have et2 : Ev (fun k => r06_Takes.f k a x m (prI (metL l) l[i] i).f0 (prI (metL l) l[i] i).f1 (prI (metL l) l[i] i).f2 (prI (metL l) l[i] i).f3) t := by rw [hX1]; exact takes_any et
   have pick : ∃ o : Nat, (o : Int) = (if t = true then l[i].f1 else l[i].f2) ∧ hit l[i] o = true ∧ ((btw (metL l) i o : Nat) : Int) = (if t = true then (prI (metL l) l[i] i).f1 else (prI (metL l) l[i] i).f2) ∧ o < 100000 := by
    have b1 := br_stp h hi hb
    cases t
    ·exact ⟨l[i].f2.toNat, by simp; omega, (hit_br he hb l[i].f2.toNat).mpr (.inr (by omega)), by rw [hX1, if_neg Bool.false_ne_true], by omega⟩
    ·exact ⟨l[i].f1.toNat, by simp; omega, (hit_br he hb l[i].f1.toNat).mpr (.inl (by omega)), by rw [hX1, if_pos rfl], by omega⟩
   obtain ⟨o, ho, hho, hob, hos⟩ := pick
   have hbt := btw_o (metL l) i o
   obtain ⟨v, u, u1, u2, f1, f2⟩ := tail o a x m true hho hs s1 s2
   refine ⟨v, u, u1, u2, Ev.step (fun k => by rw [r06_From.f, if_pos (by omega), if_pos (by omega), ra, if_neg e6, if_neg e22, if_neg h5]) (Ev.step (fun k => by rw [r06_From.j0]) (Ev.bind (rbranchI_is _ _ _ _) ?_)), Ev.step (fun k => by rw [r06_From.f, if_pos (by omega), if_pos big, rb, if_neg x6, if_neg x22, if_neg x5]) (Ev.step (fun k => by rw [r06_From.j0]) (Ev.bind (rbranchI_is _ _ _ _) ?_))⟩
   ·rw [hb]
    refine Ev.congr (fun k => if_pos rfl) (Ev.bind et ?_)
    rw [wS i (by omega)]
    cases t
    ·refine Ev.congr (fun k => if_neg Bool.false_ne_true) ?_
     rw [if_neg Bool.false_ne_true] at ho
     rw [← ho, w64s (by omega) (by omega), show ((i + 1 : Nat) : Int) + (o : Int) = ((i + 1 + o : Nat) : Int) by omega, ho]
     exact f1
    ·refine Ev.congr (fun k => if_pos rfl) ?_
     rw [if_pos rfl] at ho
     rw [← ho, w64s (by omega) (by omega), show ((i + 1 : Nat) : Int) + (o : Int) = ((i + 1 + o : Nat) : Int) by omega, ho]
     exact f1
   ·rw [hX0, hb]
    refine Ev.congr (fun k => if_pos rfl) (Ev.bind (by rw [← hX0]; exact et2) ?_)
    rw [wS (cnt (metL l) i) (by omega)]
    rw [hX0] at f2
    cases t
    ·refine Ev.congr (fun k => if_neg Bool.false_ne_true) ?_
     rw [if_neg Bool.false_ne_true] at hob
     rw [← hob, w64s (by omega) (by omega), show ((cnt (metL l) i + 1 : Nat) : Int) + ((btw (metL l) i o : Nat) : Int) = ((cnt (metL l) i + 1 + btw (metL l) i o : Nat) : Int) by omega, hob]
     exact f2
    ·refine Ev.congr (fun k => if_pos rfl) ?_
     rw [if_pos rfl] at hob
     rw [← hob, w64s (by omega) (by omega), show ((cnt (metL l) i + 1 : Nat) : Int) + ((btw (metL l) i o : Nat) : Int) = ((cnt (metL l) i + 1 + btw (metL l) i o : Nat) : Int) by omega, hob]
     exact f2
end
end Go.Proofs.YtohpbjnihmcelaaDoor.PruF
/- A run of a sound filter comes to an end, by no more instructions than there are places that are come to; and of what is pruned it comes to the same. No condition but sizes far beyond the laws'. -/
namespace Go.Proofs.YtohpbjnihmcelaaDoor.PruG
set_option linter.unusedVariables false
set_option linter.unusedSimpArgs false
open Go.RowKit Go.Proofs.YtohpbjnihmcelaaDoorW.PrintWords Go.Proofs.YtohpbjnihmcelaaDoorW.PrintLast Go.Proofs.YtohpbjnihmcelaaDoorW.PrintMore Go.Proofs.YtohpbjnihmcelaaDoor.M Go.Proofs.YtohpbjnihmcelaaDoor.InsOps Go.Proofs.YtohpbjnihmcelaaDoor.RightB Go.Proofs.YtohpbjnihmcelaaDoor.ChkB Go.Proofs.YtohpbjnihmcelaaDoor.ChkN Go.Proofs.YtohpbjnihmcelaaDoor.PruA Go.Proofs.YtohpbjnihmcelaaDoor.PruB Go.Proofs.YtohpbjnihmcelaaDoor.PruS Go.Proofs.YtohpbjnihmcelaaDoor.RunT Go.Proofs.YtohpbjnihmcelaaDoor.PruF
theorem run_pr {l : List In} (h : Ok l) (n r p : Int) (q : List Int) : ∃ v u, u ≤ (cnt (metL l) l.length : Int) ∧ Ev (fun k => r06_Run.f k l n r p q) (v, u) ∧ Ev (fun k => r06_Run.f k (prL (metL l) l) n r p q) (v, u) := by
 have hz : U 0 := by unfold U; omega
 obtain ⟨v, u, _, u2, e1, e2⟩ := from_pr h n r p q l.length 0 0 0 [] (by omega) (.refl 0) ⟨hz, hz, fun i => (by unfold rd; rw [List.getD_nil]; exact hz)⟩
 rw [cnt_zero] at u2 e2
 refine ⟨v, u, by omega, ?_, ?_⟩
 ·unfold r06_Run.f
  exact Ev.bind (a := (v, u)) e1 (Ev.now _)
 ·unfold r06_Run.f
  exact Ev.bind (a := (v, u)) e2 (Ev.now _)
end Go.Proofs.YtohpbjnihmcelaaDoor.PruG
