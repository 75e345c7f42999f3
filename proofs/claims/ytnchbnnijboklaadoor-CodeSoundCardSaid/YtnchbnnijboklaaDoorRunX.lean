/- Places of a sound filter, and where a run goes on from them. No condition. -/
import Derived.Test.YtnchbnnijboklaaDoorChkA
import Derived.Test.YtnchbnnijboklaaDoorOpsA
import Derived.Test.YtnchbnnijboklaaDoorM18
import Derived.Test.YtnchbnnijboklaaDoorM23
import Derived.Test.YtnchbnnijboklaaDoorM24
import Derived.Test.YtnchbnnijboklaaDoorM19
import Derived.Test.YtnchbnnijboklaaDoorM25
import Derived.Test.YtnchbnnijboklaaDoorM2
import Derived.Test.YtnchbnnijboklaaDoorM6
import Derived.Test.YtnchbnnijboklaaDoorM7
import Derived.Test.YtnchbnnijboklaaDoorM9
import Derived.Test.YtnchbnnijboklaaDoorKA
import Derived.Test.YtnchbnnijboklaaDoorM26
namespace Go.Proofs.YtnchbnnijboklaaDoor.RunO
set_option linter.unusedVariables false
set_option linter.unusedSimpArgs false
open Go.RowKit Go.Proofs.YtnchbnnijboklaaDoorW.PrintWords Go.Proofs.YtnchbnnijboklaaDoorW.PrintLast Go.Proofs.YtnchbnnijboklaaDoorW.PrintMore Go.Proofs.YtnchbnnijboklaaDoor.M Go.Proofs.YtnchbnnijboklaaDoor.InsOps Go.Proofs.YtnchbnnijboklaaDoor.RightB Go.Proofs.YtnchbnnijboklaaDoor.ChkB Go.Proofs.YtnchbnnijboklaaDoor.ChkN
def Stp (l : List In) (s j : Nat) : Prop := ∃ h : s < l.length, ∃ o, hit l[s] o = true ∧ j = s + 1 + o
structure Ok (l : List In) : Prop where
 hl : l.length < 100000
 hw : ∀ x ∈ l, Q.wfIns x
 hs : (chk l).2 = 0
theorem hit_cases {x : In} {o : Nat} (h : hit x o = true) : endI x = false ∧ ((branchI x.f0 = true ∧ ((o : Int) = x.f1 ∨ (o : Int) = x.f2)) ∨ (branchI x.f0 = false ∧ x.f0 = 5 ∧ (o : Int) = x.f3) ∨ (branchI x.f0 = false ∧ x.f0 ≠ 5 ∧ o = 0)) := by
 unfold hit at h
 simp only [Bool.and_eq_true, Bool.not_eq_true'] at h
 refine ⟨h.1, ?_⟩
 have h2 := h.2
 cases hb : branchI x.f0
 ·rw [hb] at h2
  simp only [Bool.false_eq_true, if_false] at h2
  by_cases h5 : x.f0 = 5
  ·rw [if_pos h5] at h2
   exact .inr (.inl ⟨rfl, h5, of_decide_eq_true h2⟩)
  ·rw [if_neg h5] at h2
   exact .inr (.inr ⟨rfl, h5, by simpa using h2⟩)
 ·rw [hb] at h2
  simp only [if_true, Bool.or_eq_true, decide_eq_true_eq] at h2
  exact .inl ⟨rfl, h2⟩
theorem hit_ja {x : In} (he : endI x = false) (h5 : x.f0 = 5) (o : Nat) : hit x o = true ↔ (o : Int) = x.f3 := by
 have hb : branchI x.f0 = false := by rw [h5]; exact branch_5
 unfold hit
 rw [he, hb]
 simp [h5]
theorem hit_br {x : In} (he : endI x = false) (hb : branchI x.f0 = true) (o : Nat) : hit x o = true ↔ (o : Int) = x.f1 ∨ (o : Int) = x.f2 := by
 unfold hit
 rw [he, hb]
 simp
theorem hit_on {x : In} (he : endI x = false) (h5 : x.f0 ≠ 5) (hb : branchI x.f0 = false) (o : Nat) : hit x o = true ↔ o = 0 := by
 unfold hit
 rw [he, hb]
 simp [h5]
theorem br_end {x : In} (hb : branchI x.f0 = true) : endI x = false ∧ x.f0 ≠ 5 := by
 refine ⟨?_, fun h => by rw [h, branch_5] at hb; cases hb⟩
 unfold endI
 simp only [Bool.or_eq_false_iff, beq_eq_false_iff_ne]
 exact ⟨fun h => (by rw [h, branch_6] at hb; cases hb), fun h => (by rw [h, branch_22] at hb; cases hb)⟩
theorem stp_lt {l : List In} (h : Ok l) {s j : Nat} (t : Stp l s j) : s < j ∧ j < l.length := by
 obtain ⟨hs, o, ho, rfl⟩ := t
 refine ⟨by omega, ?_⟩
 obtain ⟨h1, h2, h3, h4⟩ := (sound_iff l).mp h.hs
 obtain ⟨hg, hf⟩ := one_zero (h.hw _ (List.getElem_mem hs)) (h3 s hs)
 obtain ⟨he, hc⟩ := hit_cases ho
 unfold far at hf
 rcases hc with ⟨hb, hc⟩ | ⟨hb, h5, hc⟩ | ⟨hb, h5, hc⟩
 ·rw [if_neg (br_end hb).2, hb] at hf
  simp only [Bool.true_and, Bool.or_eq_false_iff, decide_eq_false_iff_not] at hf
  omega
 ·rw [if_pos h5] at hf
  simp only [decide_eq_false_iff_not] at hf
  omega
 ·by_cases hl : s = l.length - 1
  ·exfalso
   rw [List.getD_eq_getElem?_getD, List.getElem?_eq_getElem (by omega)] at h4
   simp only [Option.getD_some] at h4
   have : l[s] = l[l.length - 1] := by congr 1
   rw [this, h4] at he
   cases he
  ·omega
end Go.Proofs.YtnchbnnijboklaaDoor.RunO
/- The document's step of a run comes to an end, whatever the state and the record. No condition but that the numbers are of their kinds. -/
namespace Go.Proofs.YtnchbnnijboklaaDoor.RunT
set_option linter.unusedVariables false
set_option linter.unusedSimpArgs false
open Go.RowKit Go.Proofs.YtnchbnnijboklaaDoorW.PrintWords Go.Proofs.YtnchbnnijboklaaDoorW.PrintLast Go.Proofs.YtnchbnnijboklaaDoorW.PrintMore Go.Proofs.YtnchbnnijboklaaDoor.M Go.Proofs.YtnchbnnijboklaaDoor.InsOps Go.Proofs.YtnchbnnijboklaaDoor.RightB
def U (x : Int) : Prop := 0 ≤ x ∧ x < 4294967296
theorem U_mod (x : Int) : U (x % 4294967296) := by unfold U; omega
theorem pw_small : ∀ i : Nat, i < 32 → (0 : Int) < 2 ^ i ∧ (2 : Int) ^ i ≤ 2147483648 := by decide
theorem pw_wrap (i : Nat) (h : i < 32) : IntKind.u64.wrap ((2 : Int) ^ i * 2) = (2 : Int) ^ (i + 1) := by
 have := pw_small i h
 rw [IntKind.wrap_u64, Int.pow_succ]
 omega
theorem power_from (n : Int) : ∀ (d i : Nat), i + d = (Int.tmod n 32).toNat → i + d < 32 → Ev (fun k => hurdleref01_power.l0 k n ((2 : Int) ^ i) (i : Int)) ((2 : Int) ^ (Int.tmod n 32).toNat) := by
 intro d
 induction d with
 | zero =>
  intro i h h2
  refine Ev.step (f := fun _ => some ((2 : Int) ^ i)) (fun k => ?_) (by rw [← h]; exact Ev.now _)
  simp only [hurdleref01_power.l0]
  rw [if_neg (by omega)]
 | succ d ih =>
  intro i h h2
  refine Ev.step (fun k => ?_) (ih (i + 1) (by omega) (by omega))
  simp only [hurdleref01_power.l0]
  rw [if_pos (by omega), pw_wrap i (by omega), show ((i : Int) + 1) % 4294967296 = ((i + 1 : Nat) : Int) by omega]
theorem tmod_lt (n : Int) : Int.tmod n 32 < 32 := Int.tmod_lt_of_pos n (by omega)
theorem power_is (n : Int) : ∃ r : Int, 0 < r ∧ r ≤ 2147483648 ∧ Ev (fun k => hurdleref01_power.f k n) r := by
 have h := tmod_lt n
 have hs := pw_small (Int.tmod n 32).toNat (by omega)
 exact ⟨_, hs.1, hs.2, power_from n (Int.tmod n 32).toNat 0 (by omega) (by omega)⟩
theorem u64_nonneg (x : Int) : 0 ≤ IntKind.u64.wrap x := by rw [IntKind.wrap_u64]; omega
theorem bit_is (a i : Int) : ∃ r : Int, 0 ≤ r ∧ r ≤ 1 ∧ Ev (fun k => hurdleref01_bit.f k a i) r := by
 obtain ⟨p, h1, h2, hp⟩ := power_is i
 have hz := u64_nonneg (Int.tdiv (IntKind.u64.wrap a) p)
 refine ⟨(Int.tmod (IntKind.u64.wrap (Int.tdiv (IntKind.u64.wrap a) p)) 2) % 4294967296, ?_, ?_, ?_⟩
 ·omega
 ·rw [Int.tmod_eq_emod_of_nonneg hz]; omega
 ·unfold hurdleref01_bit.f
  exact Ev.bind hp (Ev.congr (fun k => if_neg (by omega)) (Ev.now _))
theorem bits_from (a b : Int) (l : List Int) (hl : l.length = 4) : ∀ (d i : Nat) (x : Int), i + d = 32 → U x → ∃ r, U r ∧ Ev (fun k => hurdleref01_bits.l0 k a b l x (i : Int)) r := by
 intro d
 induction d with
 | zero =>
  intro i x h hx
  refine ⟨x, hx, Ev.step (f := fun _ => some x) (fun k => ?_) (Ev.now _)⟩
  simp only [hurdleref01_bits.l0]
  rw [if_neg (by omega)]
 | succ d ih =>
  intro i x h hx
  obtain ⟨p, p1, p2, hp⟩ := bit_is a (i : Int)
  obtain ⟨q, q1, q2, hq⟩ := bit_is b (i : Int)
  obtain ⟨w, w1, w2, hw⟩ := power_is (i : Int)
  obtain ⟨r, hr, er⟩ := ih (i + 1) _ (by omega) (U_mod (x + ((rd l (((2 * p) % 4294967296 + q) % 4294967296)) * (w % 4294967296)) % 4294967296))
  refine ⟨r, hr, Ev.step (fun k => by simp only [hurdleref01_bits.l0]; rw [if_pos (by omega)]) (Ev.bind hp (Ev.bind hq ?_))⟩
  have c1 : 0 ≤ ((2 * p) % 4294967296 + q) % 4294967296 := by omega
  have c2 : ((2 * p) % 4294967296 + q) % 4294967296 < (l.length : Int) := by omega
  simp only [if_pos c1, if_pos c2]
  refine Ev.bind hw (Ev.congr (fun k => ?_) er)
  rw [show ((i : Int) + 1) % 4294967296 = ((i + 1 : Nat) : Int) by omega]
theorem bits_is (a b : Int) (l : List Int) (hl : l.length = 4) : ∃ r, U r ∧ Ev (fun k => hurdleref01_bits.f k a b l) r := bits_from a b l hl 32 0 0 (by omega) (by unfold U; omega)
theorem do_is (c a b : Int) (hb : U b) : ∃ r o, U r ∧ Ev (fun k => hurdleref01_Do.f k c a b) (r, o) := by
 obtain ⟨r1, h1, e1⟩ := bits_is a b [0, 1, 1, 1] rfl
 obtain ⟨r2, h2, e2⟩ := bits_is a b [0, 0, 0, 1] rfl
 obtain ⟨r3, h3, e3⟩ := bits_is a b [0, 1, 1, 0] rfl
 obtain ⟨p, p1, p2, hp⟩ := power_is b
 have hz : U 0 := by unfold U; omega
 unfold hurdleref01_Do.f
 by_cases c1 : c = 4
 ·simp only [if_pos c1]; exact ⟨_, _, U_mod _, Ev.now _⟩
 simp only [if_neg c1]
 by_cases c2 : c = 20
 ·simp only [if_pos c2]; exact ⟨_, _, U_mod _, Ev.now _⟩
 simp only [if_neg c2]
 by_cases c3 : c = 36
 ·simp only [if_pos c3]; exact ⟨_, _, U_mod _, Ev.now _⟩
 simp only [if_neg c3]
 by_cases c4 : c = 52
 ·simp only [if_pos c4]
  by_cases hb0 : b = 0
  ·simp only [if_pos hb0]; exact ⟨_, _, hz, Ev.now _⟩
  ·have : ¬ IntKind.u64.wrap b = 0 := by rw [IntKind.wrap_u64]; unfold U at hb; omega
   simp only [if_neg hb0, if_neg this]
   exact ⟨_, _, U_mod _, Ev.now _⟩
 simp only [if_neg c4]
 by_cases c5 : c = 68
 ·simp only [if_pos c5]; exact ⟨r1, true, h1, Ev.bind e1 (Ev.now _)⟩
 simp only [if_neg c5]
 by_cases c6 : c = 84
 ·simp only [if_pos c6]; exact ⟨r2, true, h2, Ev.bind e2 (Ev.now _)⟩
 simp only [if_neg c6]
 by_cases c7 : c = 100
 ·simp only [if_pos c7]; exact ⟨_, true, U_mod _, Ev.bind hp (Ev.now _)⟩
 simp only [if_neg c7]
 by_cases c8 : c = 116
 ·simp only [if_pos c8]
  exact ⟨_, true, U_mod _, Ev.bind hp (Ev.congr (fun k => if_neg (by omega)) (Ev.now _))⟩
 simp only [if_neg c8]
 by_cases c9 : c = 164
 ·simp only [if_pos c9]; exact ⟨r3, true, h3, Ev.bind e3 (Ev.now _)⟩
 simp only [if_neg c9]
 exact ⟨_, _, hz, Ev.now _⟩
theorem low_from (many : Nat) (hm : many < 100) : ∀ (d i : Nat) (v : Int) (acc : List Int), i + d = many → acc.length = i → ∃ r, r.length = many ∧ Ev (fun k => hurdleref04_low.l0 k v (many : Int) acc (i : Int)) r := by
 intro d
 induction d with
 | zero =>
  intro i v acc h ha
  refine ⟨acc, by omega, Ev.step (f := fun _ => some acc) (fun k => ?_) (Ev.now _)⟩
  simp only [hurdleref04_low.l0]
  rw [if_neg (by omega)]
 | succ d ih =>
  intro i v acc h ha
  obtain ⟨r, hr, er⟩ := ih (i + 1) (IntKind.u64.wrap (Int.tdiv v 256)) (acc ++ [(Int.tmod v 256) % 256]) (by omega) (by rw [List.length_append]; simp; omega)
  refine ⟨r, hr, Ev.step (fun k => ?_) er⟩
  simp only [hurdleref04_low.l0]
  rw [if_pos (by omega), if_pos (by omega), show wrap64 ((i : Int) + 1) = ((i + 1 : Nat) : Int) by unfold wrap64; omega]
theorem low_is (v : Int) (many : Nat) (hm : many < 100) : ∃ r, r.length = many ∧ Ev (fun k => hurdleref04_low.f k v (many : Int)) r := low_from many hm many 0 v [] (by omega) rfl
theorem bytes_from (n r p : Int) (q : List Int) : ∀ (d i : Nat) (acc : List Int), i + d = 6 → acc.length = 16 + 8 * i → ∃ b, b.length = 64 ∧ Ev (fun k => hurdleref04_Bytes.l0 k acc (i : Int) n r p q) b := by
 intro d
 induction d with
 | zero =>
  intro i acc h ha
  refine ⟨acc, by omega, Ev.step (f := fun _ => some acc) (fun k => ?_) (Ev.now _)⟩
  simp only [hurdleref04_Bytes.l0]
  rw [if_neg (by omega)]
 | succ d ih =>
  intro i acc h ha
  obtain ⟨t, ht, et⟩ := low_is (rd q (i : Int)) 8 (by omega)
  obtain ⟨b, hb, eb⟩ := ih (i + 1) (acc ++ t) (by omega) (by rw [List.length_append]; omega)
  have et : Ev (fun k => hurdleref04_low.f k (rd q (i : Int)) 8) t := et
  refine ⟨b, hb, Ev.step (fun k => by simp only [hurdleref04_Bytes.l0]; rw [if_pos (by omega), if_pos (by omega)]) (Ev.bind et ?_)⟩
  have c1 : acc.length + t.length < 140737488355328 := by omega
  simp only [if_pos c1]
  refine Ev.congr (fun k => ?_) eb
  rw [show wrap64 ((i : Int) + 1) = ((i + 1 : Nat) : Int) by unfold wrap64; omega]
theorem bytes_is (n r p : Int) (q : List Int) : ∃ b, b.length = 64 ∧ Ev (fun k => hurdleref04_Bytes.f k n r p q) b := by
 obtain ⟨t1, h1, e1⟩ := low_is (IntKind.u64.wrap n) 4 (by omega)
 obtain ⟨t2, h2, e2⟩ := low_is (IntKind.u64.wrap r) 4 (by omega)
 obtain ⟨t3, h3, e3⟩ := low_is p 8 (by omega)
 obtain ⟨b, hb, eb⟩ := bytes_from n r p q 6 0 ((t1 ++ t2) ++ t3) (by omega) (by simp only [List.length_append]; omega)
 refine ⟨b, hb, ?_⟩
 unfold hurdleref04_Bytes.f
 have e1 : Ev (fun k => hurdleref04_low.f k (IntKind.u64.wrap n) 4) t1 := e1
 have e2 : Ev (fun k => hurdleref04_low.f k (IntKind.u64.wrap r) 4) t2 := e2
 have e3 : Ev (fun k => hurdleref04_low.f k p 8) t3 := e3
 refine Ev.bind e1 (Ev.bind e2 ?_)
 have c1 : t1.length + t2.length < 140737488355328 := by omega
 simp only [if_pos c1, Option.bind_some]
 refine Ev.bind e3 ?_
 have c2 : (t1 ++ t2).length + t3.length < 140737488355328 := by rw [List.length_append]; omega
 simp only [if_pos c2]
 exact eb
theorem number_from (l : List Int) (hl : l.length < 100) : ∀ (i : Nat) (v : Int), i ≤ l.length → ∃ r, Ev (fun k => hurdleref04_number.l0 k l v ((i : Int) - 1)) r := by
 intro i
 induction i with
 | zero =>
  intro v h
  refine ⟨v, Ev.step (f := fun _ => some v) (fun k => ?_) (Ev.now _)⟩
  simp only [hurdleref04_number.l0]
  rw [if_neg (by omega)]
 | succ i ih =>
  intro v h
  obtain ⟨r, er⟩ := ih (IntKind.u64.wrap ((IntKind.u64.wrap (v * 256)) + (IntKind.u64.wrap (rd l (((i + 1 : Nat) : Int) - 1))))) (by omega)
  refine ⟨r, Ev.step (fun k => ?_) er⟩
  simp only [hurdleref04_number.l0]
  rw [if_pos (by omega), if_pos (by omega), if_pos (by omega), show wrap64 (((i + 1 : Nat) : Int) - 1 - 1) = (i : Int) - 1 by unfold wrap64; omega]
theorem number_is (l : List Int) (hl : l.length < 100) : ∃ r, Ev (fun k => hurdleref04_number.f k l) r := by
 obtain ⟨r, er⟩ := number_from l hl l.length 0 (Nat.le_refl _)
 refine ⟨r, Ev.congr (fun k => ?_) er⟩
 unfold hurdleref04_number.f
 rw [show wrap64 ((l.length : Int) - 1) = (l.length : Int) - 1 by unfold wrap64; omega]
theorem word_is (n r p : Int) (q : List Int) (a : Int) (ha : U a) : ∃ w o, U w ∧ Ev (fun k => hurdleref04_Word.f k n r p q a) (w, o) := by
 have hz : U 0 := by unfold U; omega
 have no : Ev (fun k => hurdleref04_Word.j0 k a true n r p q) (0, false) := Ev.step (f := fun _ => some (0, false)) (fun k => by simp [hurdleref04_Word.j0]) (Ev.now _)
 unfold hurdleref04_Word.f
 by_cases h4 : Int.tmod a 4 = 0
 ·simp only [if_pos h4]
  by_cases h64 : a ≥ 64
  ·rw [decide_eq_true h64]; exact ⟨_, _, hz, no⟩
  ·rw [decide_eq_false h64]
   unfold U at ha
   obtain ⟨b, hb, eb⟩ := bytes_is n r p q
   obtain ⟨x, ex⟩ := number_is ((b.take (a + 4 : Int).toNat).drop (a : Int).toNat) (by rw [List.length_drop, List.length_take]; omega)
   have e4 : Int.tmod a 4 = a % 4 := Int.tmod_eq_emod_of_nonneg ha.1
   have w1 : wrap64 a = a := by unfold wrap64; omega
   have w2 : wrap64 (a + 4) = a + 4 := by unfold wrap64; omega
   refine ⟨x % 4294967296, true, U_mod _, Ev.step (fun k => by simp only [hurdleref04_Word.j0]; rw [if_neg Bool.false_ne_true, w1, w2]) (Ev.bind eb ?_)⟩
   have c1 : 0 ≤ a := ha.1
   have c2 : a ≤ a + 4 := by omega
   have c3 : a + 4 ≤ (b.length : Int) := by omega
   simp only [if_pos c1, if_pos c2, if_pos c3]
   exact Ev.bind ex (Ev.now _)
 ·simp only [if_neg h4]
  exact ⟨_, _, hz, no⟩
structure Sok (a x : Int) (m : List Int) : Prop where
 a : U a
 x : U x
 m : ∀ i, U (rd m i)
theorem arU_U (n : Nat) (i v : Int) (m : List Int) (hv : U v) (hm : ∀ i, U (rd m i)) (j : Int) : U (rd (arU n i v m) j) := by
 unfold rd arU
 rw [List.getD_eq_getElem?_getD, List.getElem?_map]
 by_cases h : j.toNat < n
 ·rw [List.getElem?_range h]
  simp only [Option.map_some, Option.getD_some]
  split
  ·exact hv
  ·exact hm _
 ·rw [List.getElem?_eq_none (by simpa using h)]
  simp only [Option.map_none, Option.getD_none]
  unfold U; omega
theorem alu_is (i0 i1 i2 i3 : Int) : ∃ v b o, Ev (fun k => hurdleref02_Alu.f k i0 i1 i2 i3) (v, b, o) := by
 have pl : ∃ t, Ev (fun k => hurdleref02_place.f k i0) t := by
  rcases op_cases i0 with ⟨i, hi, ho⟩ | ho
  ·exact ⟨_, place_some hi ho⟩
  ·exact ⟨_, place_none ho⟩
 obtain ⟨t, et⟩ := pl
 have j : ∀ c : Bool, ∃ v b o, Ev (fun k => hurdleref02_Alu.j0 k t c i0 i1 i2 i3) (v, b, o) := by
  intro c
  cases c
  ·by_cases h1 : t ≥ 13
   ·by_cases h2 : t ≤ 21
    ·exact ⟨_, _, _, Ev.step (f := fun _ => some (wrap64 (i0 - 8), true, true)) (fun k => by simp [hurdleref02_Alu.j0, h1, h2]) (Ev.now _)⟩
    ·exact ⟨_, _, _, Ev.step (f := fun _ => some (0, false, false)) (fun k => by simp only [hurdleref02_Alu.j0]; rw [if_neg Bool.false_ne_true, if_pos h1, if_neg h2]) (Ev.now _)⟩
   ·exact ⟨_, _, _, Ev.step (f := fun _ => some (0, false, false)) (fun k => by simp only [hurdleref02_Alu.j0]; rw [if_neg Bool.false_ne_true, if_neg h1]) (Ev.now _)⟩
  ·exact ⟨_, _, _, Ev.step (f := fun _ => some (i0, false, true)) (fun k => by simp [hurdleref02_Alu.j0]) (Ev.now _)⟩
 unfold hurdleref02_Alu.f
 by_cases h : t ≥ 4
 ·obtain ⟨v, b, o, e⟩ := j (decide (t ≤ 12))
  exact ⟨v, b, o, Ev.bind et (Ev.congr (fun k => if_pos h) e)⟩
 ·obtain ⟨v, b, o, e⟩ := j false
  exact ⟨v, b, o, Ev.bind et (Ev.congr (fun k => if_neg h) e)⟩
theorem neg_is (a : Int) : ∃ r, U r ∧ hurdleref01_Neg.f a = some r := ⟨_, U_mod _, rfl⟩
theorem last_is (c a x : Int) (m : List Int) (h : Sok a x m) (hc : U c) (i0 i1 i2 i3 : Int) (hk : U i3) (n r p : Int) (q : List Int) : ∃ a' x' m' o, Sok a' x' m' ∧ Ev (fun k => hurdleref06_Step.l0 k c 16 a x m i0 i1 i2 i3 n r p q) (a', x', m', o) := by
 obtain ⟨ha, hx, hm⟩ := h
 obtain ⟨w, wo, hw, ew⟩ := word_is n r p q i3 hk
 obtain ⟨g, hg, eg⟩ := neg_is a
 have go : ∀ {f : Nat → Option (Int × Int × List Int × Bool)} {z : Int × Int × List Int × Bool}, (∀ k, hurdleref06_Step.l0 (k + 1) c 16 a x m i0 i1 i2 i3 n r p q = f k) → Ev f z → Ev (fun k => hurdleref06_Step.l0 k c 16 a x m i0 i1 i2 i3 n r p q) z := fun h e => Ev.step h e
 have t : ∀ k, hurdleref06_Step.l0 (k + 1) c 16 a x m i0 i1 i2 i3 n r p q = _ := fun k => by rw [hurdleref06_Step.l0, if_neg (by omega)]
 by_cases c0 : i0 = 0
 ·exact ⟨_, _, _, _, ⟨hk, hx, hm⟩, go (fun k => (t k).trans (by rw [if_pos c0])) (Ev.now _)⟩
 by_cases c1 : i0 = 1
 ·exact ⟨_, _, _, _, ⟨ha, hk, hm⟩, go (fun k => (t k).trans (by rw [if_neg c0, if_pos c1])) (Ev.now _)⟩
 by_cases c2 : i0 = 32
 ·exact ⟨_, _, _, _, ⟨hw, hx, hm⟩, go (fun k => (t k).trans (by rw [if_neg c0, if_neg c1, if_pos c2])) (Ev.bind ew (Ev.now _))⟩
 by_cases c3 : i0 = 96
 ·exact ⟨_, _, _, _, ⟨hc, hx, hm⟩, go (fun k => (t k).trans (by rw [if_neg c0, if_neg c1, if_neg c2, if_pos c3])) (Ev.now _)⟩
 by_cases c4 : i0 = 97
 ·exact ⟨_, _, _, _, ⟨ha, hc, hm⟩, go (fun k => (t k).trans (by rw [if_neg c0, if_neg c1, if_neg c2, if_neg c3, if_pos c4])) (Ev.now _)⟩
 by_cases c5 : i0 = 7
 ·exact ⟨_, _, _, _, ⟨ha, ha, hm⟩, go (fun k => (t k).trans (by rw [if_neg c0, if_neg c1, if_neg c2, if_neg c3, if_neg c4, if_pos c5])) (Ev.now _)⟩
 by_cases c6 : i0 = 135
 ·exact ⟨_, _, _, _, ⟨hx, hx, hm⟩, go (fun k => (t k).trans (by rw [if_neg c0, if_neg c1, if_neg c2, if_neg c3, if_neg c4, if_neg c5, if_pos c6])) (Ev.now _)⟩
 by_cases c7 : i0 = 132
 ·exact ⟨_, _, _, _, ⟨hg, hx, hm⟩, go (fun k => (t k).trans (by rw [if_neg c0, if_neg c1, if_neg c2, if_neg c3, if_neg c4, if_neg c5, if_neg c6, if_pos c7, eg]; rfl)) (Ev.now _)⟩
 exact ⟨_, _, _, _, ⟨ha, hx, hm⟩, go (fun k => (t k).trans (by rw [if_neg c0, if_neg c1, if_neg c2, if_neg c3, if_neg c4, if_neg c5, if_neg c6, if_neg c7])) (Ev.now _)⟩
theorem loop_is (i0 i1 i2 i3 : Int) (hk : U i3) (n r p : Int) (q : List Int) : ∀ (d i : Nat) (c a x : Int) (m : List Int), i + d = 16 → Sok a x m → U c → ∃ a' x' m' o, Sok a' x' m' ∧ Ev (fun k => hurdleref06_Step.l0 k c (i : Int) a x m i0 i1 i2 i3 n r p q) (a', x', m', o) := by
 intro d
 induction d with
 | zero =>
  intro i c a x m h hs hc
  have : i = 16 := by omega
  subst this
  exact last_is c a x m hs hc i0 i1 i2 i3 hk n r p q
 | succ d ih =>
  intro i c a x m h hs hc
  have w : wrap64 ((i : Int) + 1) = ((i + 1 : Nat) : Int) := by unfold wrap64; omega
  by_cases e : ((i : Int) % 4294967296) = i3
  ·have j2 : ∀ (c : Int) (m : List Int), Sok a x m → U c → ∃ a' x' m' o, Sok a' x' m' ∧ Ev (fun k => hurdleref06_Step.j2 k c (i : Int) a x m i0 i1 i2 i3 n r p q) (a', x', m', o) := by
    intro c m hs hc
    by_cases c3 : i0 = 3
    ·obtain ⟨a', x', m', o, h1, h2⟩ := ih (i + 1) c a x (arU 16 (i : Int) x m) (by omega) ⟨hs.a, hs.x, arU_U _ _ _ _ hs.x hs.m⟩ hc
     refine ⟨a', x', m', o, h1, Ev.step (fun k => ?_) h2⟩
     rw [hurdleref06_Step.j2, if_pos c3, if_pos (by omega), if_pos (by omega), w]
    ·obtain ⟨a', x', m', o, h1, h2⟩ := ih (i + 1) c a x m (by omega) hs hc
     refine ⟨a', x', m', o, h1, Ev.step (fun k => ?_) h2⟩
     rw [hurdleref06_Step.j2, if_neg c3, w]
   by_cases c2 : i0 = 2
   ·obtain ⟨a', x', m', o, h1, h2⟩ := j2 (rd m (i : Int)) (arU 16 (i : Int) a m) ⟨hs.a, hs.x, arU_U _ _ _ _ hs.a hs.m⟩ (hs.m _)
    refine ⟨a', x', m', o, h1, Ev.step (fun k => ?_) h2⟩
    rw [hurdleref06_Step.l0, if_pos (by omega), if_pos e, if_pos (by omega), if_pos c2]
   ·obtain ⟨a', x', m', o, h1, h2⟩ := j2 (rd m (i : Int)) m hs (hs.m _)
    refine ⟨a', x', m', o, h1, Ev.step (fun k => ?_) h2⟩
    rw [hurdleref06_Step.l0, if_pos (by omega), if_pos e, if_pos (by omega), if_neg c2]
  ·obtain ⟨a', x', m', o, h1, h2⟩ := ih (i + 1) c a x m (by omega) hs hc
   refine ⟨a', x', m', o, h1, Ev.step (fun k => ?_) h2⟩
   rw [hurdleref06_Step.l0, if_pos (by omega), if_neg e, w]
theorem step_is (a x : Int) (m : List Int) (hs : Sok a x m) (i0 i1 i2 i3 : Int) (hk : U i3) (n r p : Int) (q : List Int) : ∃ a' x' m' o, Sok a' x' m' ∧ Ev (fun k => hurdleref06_Step.f k a x m i0 i1 i2 i3 n r p q) (a', x', m', o) := by
 obtain ⟨v, b, o, e⟩ := alu_is i0 i1 i2 i3
 have j0 : ∀ y, U y → ∃ a' x' m' o, Sok a' x' m' ∧ Ev (fun k => hurdleref06_Step.j0 k v y a x m) (a', x', m', o) := by
  intro y hy
  obtain ⟨z, go, hz, ez⟩ := do_is v a y hy
  cases go
  ·refine ⟨_, _, _, _, hs, Ev.step (fun k => by rw [hurdleref06_Step.j0]) (Ev.bind ez (Ev.congr (fun k => if_neg Bool.false_ne_true) (Ev.now _)))⟩
  ·refine ⟨_, _, _, _, ⟨hz, hs.x, hs.m⟩, Ev.step (fun k => by rw [hurdleref06_Step.j0]) (Ev.bind ez (Ev.congr (fun k => if_pos rfl) (Ev.now _)))⟩
 unfold hurdleref06_Step.f
 cases o
 ·obtain ⟨a', x', m', o, h1, h2⟩ := loop_is i0 i1 i2 i3 hk n r p q 16 0 0 a x m (by omega) hs (by unfold U; omega)
  exact ⟨a', x', m', o, h1, Ev.bind e (Ev.congr (fun k => if_neg Bool.false_ne_true) h2)⟩
 ·cases b
  ·obtain ⟨a', x', m', o, h1, h2⟩ := j0 i3 hk
   exact ⟨a', x', m', o, h1, Ev.bind e (Ev.congr (fun k => by rw [if_pos rfl, if_neg Bool.false_ne_true]) h2)⟩
  ·obtain ⟨a', x', m', o, h1, h2⟩ := j0 x hs.x
   exact ⟨a', x', m', o, h1, Ev.bind e (Ev.congr (fun k => by rw [if_pos rfl, if_pos rfl]) h2)⟩
end Go.Proofs.YtnchbnnijboklaaDoor.RunT
/- A run of a sound filter comes to an end, by no more instructions than there are; and with anything ahead of the filter it comes to the same. No condition but sizes far beyond the laws'. -/
namespace Go.Proofs.YtnchbnnijboklaaDoor.RunF
set_option linter.unusedVariables false
set_option linter.unusedSimpArgs false
open Go.RowKit Go.Proofs.YtnchbnnijboklaaDoorW.PrintWords Go.Proofs.YtnchbnnijboklaaDoorW.PrintLast Go.Proofs.YtnchbnnijboklaaDoorW.PrintMore Go.Proofs.YtnchbnnijboklaaDoor.M Go.Proofs.YtnchbnnijboklaaDoor.InsOps Go.Proofs.YtnchbnnijboklaaDoor.RightB Go.Proofs.YtnchbnnijboklaaDoor.ChkB Go.Proofs.YtnchbnnijboklaaDoor.ChkN Go.Proofs.YtnchbnnijboklaaDoor.RunO Go.Proofs.YtnchbnnijboklaaDoor.RunT
theorem takes_is (a x : Int) (m : List Int) (hs : Sok a x m) (i0 i1 i2 i3 : Int) (hk : U i3) : ∃ b, Ev (fun k => hurdleref06_Takes.f k a x m i0 i1 i2 i3) b := by
 have j : ∀ y o, U y → ∃ b, Ev (fun k => hurdleref06_Takes.j0 k y o a x m) b := by
  intro y o hy
  obtain ⟨r, g, _, e⟩ := do_is 84 a y hy
  by_cases h1 : o = 21
  ·exact ⟨_, Ev.step (fun k => by rw [hurdleref06_Takes.j0, if_pos h1]) (Ev.now _)⟩
  by_cases h2 : o = 37
  ·exact ⟨_, Ev.step (fun k => by rw [hurdleref06_Takes.j0, if_neg h1, if_pos h2]) (Ev.now _)⟩
  by_cases h3 : o = 53
  ·exact ⟨_, Ev.step (fun k => by rw [hurdleref06_Takes.j0, if_neg h1, if_neg h2, if_pos h3]) (Ev.now _)⟩
  exact ⟨_, Ev.step (fun k => by rw [hurdleref06_Takes.j0, if_neg h1, if_neg h2, if_neg h3]) (Ev.bind e (Ev.now _))⟩
 unfold hurdleref06_Takes.f
 cases hb : branchI i0
 ·refine ⟨false, Ev.bind (rbranchI_is i0 i1 i2 i3) ?_⟩
  rw [hb]
  exact Ev.congr (fun k => if_neg Bool.false_ne_true) (Ev.now _)
 ·by_cases h : Int.tmod i0 16 = 13
  ·obtain ⟨b, e⟩ := j x (wrap64 (i0 - 8)) hs.x
   refine ⟨b, Ev.bind (rbranchI_is i0 i1 i2 i3) ?_⟩
   rw [hb]
   exact Ev.congr (fun k => by rw [if_pos rfl, if_pos h]) e
  ·obtain ⟨b, e⟩ := j i3 i0 hk
   refine ⟨b, Ev.bind (rbranchI_is i0 i1 i2 i3) ?_⟩
   rw [hb]
   exact Ev.congr (fun k => by rw [if_pos rfl, if_neg h]) e
section
variable {c : List In} (h : Ok c) (n r p : Int) (q : List Int)
include h
theorem from_both (z : List In) (hz : z.length + c.length < 100000) : ∀ (d i : Nat) (a x : Int) (m : List Int), c.length ≤ i + d → i < c.length → Sok a x m →
  ∃ v u, 1 ≤ u ∧ u ≤ (c.length : Int) - (i : Int) ∧ Ev (fun k => hurdleref06_From.f k c a x m (i : Int) n r p q) (v, u) ∧ Ev (fun k => hurdleref06_From.f k (z ++ c) a x m ((z.length + i : Nat) : Int) n r p q) (v, u) := by
 intro d
 induction d with
 | zero => intro i a x m h1 h2; omega
 | succ d ih =>
  intro i a x m hd hi hs
  have hl := h.hl
  have hg := (sound_at c h.hw h.hs i hi).1
  obtain ⟨g1, g2, g3, g4, g5, g6⟩ := good_small hg
  have hk : U c[i].f3 := ⟨g5, g6⟩
  have hzi : (z ++ c)[z.length + i]'(by rw [List.length_append]; omega) = c[i] := by rw [List.getElem_append_right (by omega)]; congr 1; omega
  have ra := rd_at c i hi
  have rb : rd_T30 (z ++ c) ((z.length + i : Nat) : Int) = c[i] := (rd_at (z ++ c) (z.length + i) (by rw [List.length_append]; omega)).trans hzi
  have hlen : (z ++ c).length = z.length + c.length := List.length_append
  have big : ((z.length + i : Nat) : Int) < ((z ++ c).length : Int) := by rw [hlen]; omega
  by_cases e6 : c[i].f0 = 6
  ·refine ⟨c[i].f3, 1, by omega, by omega, Ev.step (fun k => by rw [hurdleref06_From.f, if_pos (by omega), if_pos (by omega), ra, if_pos e6]) (Ev.now _), Ev.step (fun k => by rw [hurdleref06_From.f, if_pos (by omega), if_pos big, rb, if_pos e6]) (Ev.now _)⟩
  by_cases e22 : c[i].f0 = 22
  ·refine ⟨a, 1, by omega, by omega, Ev.step (fun k => by rw [hurdleref06_From.f, if_pos (by omega), if_pos (by omega), ra, if_neg e6, if_pos e22]) (Ev.now _), Ev.step (fun k => by rw [hurdleref06_From.f, if_pos (by omega), if_pos big, rb, if_neg e6, if_pos e22]) (Ev.now _)⟩
  have he : endI c[i] = false := by
   unfold endI
   rw [beq_eq_false_iff_ne.mpr e6, beq_eq_false_iff_ne.mpr e22]
   rfl
  obtain ⟨a', x', m', o, hs', es⟩ := step_is a x m hs c[i].f0 c[i].f1 c[i].f2 c[i].f3 hk n r p q
  -- from the step on
  have tail : ∀ j : Nat, i < j → j < c.length → ∃ v u, 1 ≤ u ∧ u ≤ (c.length : Int) - (i : Int) ∧ Ev (fun k => hurdleref06_From.j1 k c (j : Int) a x m n r p q c[i].f0 c[i].f1 c[i].f2 c[i].f3) (v, u) ∧ Ev (fun k => hurdleref06_From.j1 k (z ++ c) ((z.length + j : Nat) : Int) a x m n r p q c[i].f0 c[i].f1 c[i].f2 c[i].f3) (v, u) := by
   intro j hij hj
   cases o
   ·exact ⟨0, 1, by omega, by omega, Ev.step (fun k => by rw [hurdleref06_From.j1]) (Ev.bind es (Ev.congr (fun k => if_neg Bool.false_ne_true) (Ev.now _))), Ev.step (fun k => by rw [hurdleref06_From.j1]) (Ev.bind es (Ev.congr (fun k => if_neg Bool.false_ne_true) (Ev.now _)))⟩
   ·obtain ⟨v, u, u1, u2, f1, f2⟩ := ih j a' x' m' (by omega) hj hs'
    have w : wrap64 (u + 1) = u + 1 := by unfold wrap64; omega
    refine ⟨v, u + 1, by omega, by omega, Ev.step (fun k => by rw [hurdleref06_From.j1]) (Ev.bind es (Ev.congr (fun k => if_pos rfl) (Ev.bind f1 ?_))), Ev.step (fun k => by rw [hurdleref06_From.j1]) (Ev.bind es (Ev.congr (fun k => if_pos rfl) (Ev.bind f2 ?_)))⟩
    ·simp only [w]; exact Ev.now _
    ·simp only [w]; exact Ev.now _
  cases hb : branchI c[i].f0
  ·by_cases h5 : c[i].f0 = 5
   ·have hj := (stp_lt h ⟨hi, _, (hit_ja he h5 c[i].f3.toNat).mpr (by omega), rfl⟩).2
    obtain ⟨v, u, u1, u2, f1, f2⟩ := tail (i + 1 + c[i].f3.toNat) (by omega) hj
    refine ⟨v, u, u1, u2, Ev.step (fun k => by rw [hurdleref06_From.f, if_pos (by omega), if_pos (by omega), ra, if_neg e6, if_neg e22, if_pos h5]) (Ev.step (fun k => by rw [hurdleref06_From.j0]) (Ev.bind (rbranchI_is _ _ _ _) ?_)), Ev.step (fun k => by rw [hurdleref06_From.f, if_pos (by omega), if_pos big, rb, if_neg e6, if_neg e22, if_pos h5]) (Ev.step (fun k => by rw [hurdleref06_From.j0]) (Ev.bind (rbranchI_is _ _ _ _) ?_))⟩
    ·rw [hb, w64s (x := c[i].f3) (by omega) (by omega), w64s (x := (i : Int) + 1) (by omega) (by omega), w64s (x := (i : Int) + 1 + c[i].f3) (by omega) (by omega), show (i : Int) + 1 + c[i].f3 = ((i + 1 + c[i].f3.toNat : Nat) : Int) by omega]
     exact Ev.congr (fun k => if_neg Bool.false_ne_true) f1
    ·rw [hb, w64s (x := c[i].f3) (by omega) (by omega), w64s (x := ((z.length + i : Nat) : Int) + 1) (by omega) (by omega), w64s (x := ((z.length + i : Nat) : Int) + 1 + c[i].f3) (by omega) (by omega), show ((z.length + i : Nat) : Int) + 1 + c[i].f3 = ((z.length + (i + 1 + c[i].f3.toNat) : Nat) : Int) by omega]
     exact Ev.congr (fun k => if_neg Bool.false_ne_true) f2
   ·have hj := (stp_lt h ⟨hi, _, (hit_on he h5 hb 0).mpr rfl, rfl⟩).2
    obtain ⟨v, u, u1, u2, f1, f2⟩ := tail (i + 1) (by omega) (by omega)
    refine ⟨v, u, u1, u2, Ev.step (fun k => by rw [hurdleref06_From.f, if_pos (by omega), if_pos (by omega), ra, if_neg e6, if_neg e22, if_neg h5]) (Ev.step (fun k => by rw [hurdleref06_From.j0]) (Ev.bind (rbranchI_is _ _ _ _) ?_)), Ev.step (fun k => by rw [hurdleref06_From.f, if_pos (by omega), if_pos big, rb, if_neg e6, if_neg e22, if_neg h5]) (Ev.step (fun k => by rw [hurdleref06_From.j0]) (Ev.bind (rbranchI_is _ _ _ _) ?_))⟩
    ·rw [hb, wS i (by omega)]
     exact Ev.congr (fun k => if_neg Bool.false_ne_true) f1
    ·rw [hb, wS (z.length + i) (by omega), show z.length + i + 1 = z.length + (i + 1) by omega]
     exact Ev.congr (fun k => if_neg Bool.false_ne_true) f2
  ·have h5 := (br_end hb).2
   obtain ⟨t, et⟩ := takes_is a x m hs c[i].f0 c[i].f1 c[i].f2 c[i].f3 hk
   have pick : ∃ o : Nat, (o : Int) = (if t = true then c[i].f1 else c[i].f2) ∧ i + 1 + o < c.length := by
    cases t
    ·exact ⟨c[i].f2.toNat, by simp; omega, (stp_lt h ⟨hi, _, (hit_br he hb c[i].f2.toNat).mpr (.inr (by omega)), rfl⟩).2⟩
    ·exact ⟨c[i].f1.toNat, by simp; omega, (stp_lt h ⟨hi, _, (hit_br he hb c[i].f1.toNat).mpr (.inl (by omega)), rfl⟩).2⟩
   obtain ⟨o, ho, hj⟩ := pick
   obtain ⟨v, u, u1, u2, f1, f2⟩ := tail (i + 1 + o) (by omega) hj
   refine ⟨v, u, u1, u2, Ev.step (fun k => by rw [hurdleref06_From.f, if_pos (by omega), if_pos (by omega), ra, if_neg e6, if_neg e22, if_neg h5]) (Ev.step (fun k => by rw [hurdleref06_From.j0]) (Ev.bind (rbranchI_is _ _ _ _) ?_)), Ev.step (fun k => by rw [hurdleref06_From.f, if_pos (by omega), if_pos big, rb, if_neg e6, if_neg e22, if_neg h5]) (Ev.step (fun k => by rw [hurdleref06_From.j0]) (Ev.bind (rbranchI_is _ _ _ _) ?_))⟩
   ·rw [hb]
    refine Ev.congr (fun k => if_pos rfl) (Ev.bind et ?_)
    rw [wS i (by omega)]
    cases t
    ·refine Ev.congr (fun k => if_neg Bool.false_ne_true) ?_
     rw [if_neg Bool.false_ne_true] at ho
     rw [w64s (by omega) (by omega), show ((i + 1 : Nat) : Int) + c[i].f2 = ((i + 1 + o : Nat) : Int) by omega]
     exact f1
    ·refine Ev.congr (fun k => if_pos rfl) ?_
     rw [if_pos rfl] at ho
     rw [w64s (by omega) (by omega), show ((i + 1 : Nat) : Int) + c[i].f1 = ((i + 1 + o : Nat) : Int) by omega]
     exact f1
   ·rw [hb]
    refine Ev.congr (fun k => if_pos rfl) (Ev.bind et ?_)
    rw [wS (z.length + i) (by omega)]
    have eo : ((z.length + i + 1 : Nat) : Int) + (o : Int) = ((z.length + (i + 1 + o) : Nat) : Int) := by omega
    cases t
    ·refine Ev.congr (fun k => if_neg Bool.false_ne_true) ?_
     rw [if_neg Bool.false_ne_true] at ho
     rw [w64s (by omega) (by omega), show ((z.length + i + 1 : Nat) : Int) + c[i].f2 = ((z.length + (i + 1 + o) : Nat) : Int) by omega]
     exact f2
    ·refine Ev.congr (fun k => if_pos rfl) ?_
     rw [if_pos rfl] at ho
     rw [w64s (by omega) (by omega), show ((z.length + i + 1 : Nat) : Int) + c[i].f1 = ((z.length + (i + 1 + o) : Nat) : Int) by omega]
     exact f2
end
end Go.Proofs.YtnchbnnijboklaaDoor.RunF
/- A jump, and a branch, leave the state as it was. No condition but that the numbers are of their kinds. -/
namespace Go.Proofs.YtnchbnnijboklaaDoor.RunS
set_option linter.unusedVariables false
set_option linter.unusedSimpArgs false
open Go.RowKit Go.Proofs.YtnchbnnijboklaaDoorW.PrintWords Go.Proofs.YtnchbnnijboklaaDoorW.PrintLast Go.Proofs.YtnchbnnijboklaaDoorW.PrintMore Go.Proofs.YtnchbnnijboklaaDoor.M Go.Proofs.YtnchbnnijboklaaDoor.InsOps Go.Proofs.YtnchbnnijboklaaDoor.RightB Go.Proofs.YtnchbnnijboklaaDoor.ChkB Go.Proofs.YtnchbnnijboklaaDoor.ChkN Go.Proofs.YtnchbnnijboklaaDoor.RunO Go.Proofs.YtnchbnnijboklaaDoor.RunT Go.Proofs.YtnchbnnijboklaaDoor.RunF
def Goes (o : Int) : Prop := o = 5 ∨ branchI o = true
theorem goes_row {o : Int} (h : Goes o) : ∃ i, i < 39 ∧ opsL[i]? = some o ∧ (hasW i = true ∨ opsL.getD i 0 = 5) := by
 rcases op_cases o with ⟨i, hi, ho⟩ | ho
 ·refine ⟨i, hi, ho, ?_⟩
  have e : opsL.getD i 0 = o := by rw [List.getD_eq_getElem?_getD, ho]; rfl
  rcases h with rfl | hb
  ·exact .inr e
  ·exact .inl (by rw [← (rightI_row hi ho 0 0 0).2]; exact hb)
 ·exfalso
  rcases h with rfl | hb
  ·exact ho (by decide)
  ·rw [(rightI_none ho 0 0 0).2] at hb; cases hb
theorem goes_not {o : Int} (h : Goes o) : (o ≠ 0 ∧ o ≠ 1 ∧ o ≠ 2 ∧ o ≠ 3 ∧ o ≠ 7 ∧ o ≠ 32) ∧ o ≠ 96 ∧ o ≠ 97 ∧ o ≠ 132 ∧ o ≠ 135 := by
 obtain ⟨i, hi, ho, hc⟩ := goes_row h
 have all : ∀ i, i < 39 → (hasW i = true ∨ opsL.getD i 0 = 5) → (opsL.getD i 0 ≠ 0 ∧ opsL.getD i 0 ≠ 1 ∧ opsL.getD i 0 ≠ 2 ∧ opsL.getD i 0 ≠ 3 ∧ opsL.getD i 0 ≠ 7 ∧ opsL.getD i 0 ≠ 32) ∧ opsL.getD i 0 ≠ 96 ∧ opsL.getD i 0 ≠ 97 ∧ opsL.getD i 0 ≠ 132 ∧ opsL.getD i 0 ≠ 135 := by decide
 have e : opsL.getD i 0 = o := by rw [List.getD_eq_getElem?_getD, ho]; rfl
 rw [← e]
 exact all i hi hc
theorem alu_not {o : Int} (h : Goes o) (i1 i2 i3 : Int) : Ev (fun k => hurdleref02_Alu.f k o i1 i2 i3) (0, false, false) := by
 obtain ⟨i, hi, ho, hc⟩ := goes_row h
 have all : ∀ i, i < 39 → (hasW i = true ∨ opsL.getD i 0 = 5) → i < 4 ∨ 21 < i := by decide
 have hr := all i hi hc
 unfold hurdleref02_Alu.f
 refine Ev.bind (place_some hi ho) ?_
 have j : Ev (fun k => hurdleref02_Alu.j0 k (i : Int) false o i1 i2 i3) (0, false, false) := by
  by_cases h1 : (i : Int) ≥ 13
  ·exact Ev.step (f := fun _ => some (0, false, false)) (fun k => by rw [hurdleref02_Alu.j0, if_neg Bool.false_ne_true, if_pos h1, if_neg (by omega)]) (Ev.now _)
  ·exact Ev.step (f := fun _ => some (0, false, false)) (fun k => by rw [hurdleref02_Alu.j0, if_neg Bool.false_ne_true, if_neg h1]) (Ev.now _)
 by_cases h4 : (i : Int) ≥ 4
 ·rw [decide_eq_false (show ¬ (i : Int) ≤ 12 by omega)]
  exact Ev.congr (fun k => if_pos h4) j
 ·exact Ev.congr (fun k => if_neg h4) j
theorem loop_same {o : Int} (h : Goes o) (a x : Int) (m : List Int) (i1 i2 i3 n r p : Int) (q : List Int) : ∀ (d i : Nat) (c : Int), i + d = 16 → Ev (fun k => hurdleref06_Step.l0 k c (i : Int) a x m o i1 i2 i3 n r p q) (a, x, m, true) := by
 obtain ⟨⟨n0, n1, n2, n3, n7, n32⟩, n96, n97, n132, n135⟩ := goes_not h
 intro d
 induction d with
 | zero =>
  intro i c hi
  refine Ev.step (f := fun _ => some (a, x, m, true)) (fun k => ?_) (Ev.now _)
  rw [hurdleref06_Step.l0, if_neg (by omega), if_neg n0, if_neg n1, if_neg n32, if_neg n96, if_neg n97, if_neg n7, if_neg n135, if_neg n132]
 | succ d ih =>
  intro i c hi
  have w : wrap64 ((i : Int) + 1) = ((i + 1 : Nat) : Int) := by unfold wrap64; omega
  by_cases e : ((i : Int) % 4294967296) = i3
  ·refine Ev.step (fun k => ?_) (Ev.step (f := fun k => hurdleref06_Step.l0 k (rd m (i : Int)) ((i + 1 : Nat) : Int) a x m o i1 i2 i3 n r p q) (g := fun k => hurdleref06_Step.j2 k (rd m (i : Int)) (i : Int) a x m o i1 i2 i3 n r p q) (fun k => ?_) (ih (i + 1) _ (by omega)))
   ·rw [hurdleref06_Step.l0, if_pos (by omega), if_pos e, if_pos (by omega), if_neg n2]
   ·rw [hurdleref06_Step.j2, if_neg n3, w]
  ·refine Ev.step (fun k => ?_) (ih (i + 1) c (by omega))
   rw [hurdleref06_Step.l0, if_pos (by omega), if_neg e, w]
theorem step_same {o : Int} (h : Goes o) (a x : Int) (m : List Int) (i1 i2 i3 n r p : Int) (q : List Int) : Ev (fun k => hurdleref06_Step.f k a x m o i1 i2 i3 n r p q) (a, x, m, true) := by
 unfold hurdleref06_Step.f
 exact Ev.bind (alu_not h i1 i2 i3) (Ev.congr (fun k => if_neg Bool.false_ne_true) (loop_same h a x m i1 i2 i3 n r p q 16 0 0 (by omega)))
end Go.Proofs.YtnchbnnijboklaaDoor.RunS
/- Code that is sound is sound with an instruction ahead that may stand there; and what a label comes to. No condition but sizes far beyond the laws'. -/
namespace Go.Proofs.YtnchbnnijboklaaDoor.RunV
set_option linter.unusedVariables false
set_option linter.unusedSimpArgs false
open Go.RowKit Go.Proofs.YtnchbnnijboklaaDoorW.PrintWords Go.Proofs.YtnchbnnijboklaaDoorW.PrintLast Go.Proofs.YtnchbnnijboklaaDoorW.PrintMore Go.Proofs.YtnchbnnijboklaaDoor.M Go.Proofs.YtnchbnnijboklaaDoor.InsOps Go.Proofs.YtnchbnnijboklaaDoor.RightB Go.Proofs.YtnchbnnijboklaaDoor.ChkB Go.Proofs.YtnchbnnijboklaaDoor.ChkN Go.Proofs.YtnchbnnijboklaaDoor.RunO Go.Proofs.YtnchbnnijboklaaDoor.RunT Go.Proofs.YtnchbnnijboklaaDoor.RunF Go.Proofs.YtnchbnnijboklaaDoor.RunS
theorem one_more (x : In) (a b : Int) (h : a ≤ b) (h0 : one x a = 0) : one x b = 0 := by
 unfold one at h0 ⊢
 split at h0
 ·rename_i h1
  rw [if_pos h1]
  split at h0
  ·rename_i h2
   rw [if_pos h2]
   have hf : far x a = false := by
    cases hf : far x a
    ·rfl
    ·rw [hf] at h0; simp at h0
   have hg : far x b = false := by
    unfold far at hf ⊢
    split at hf
    ·rename_i h5
     rw [if_pos h5]
     have := of_decide_eq_false hf
     exact decide_eq_false (by omega)
    ·rename_i h5
     rw [if_neg h5]
     cases hb : branchI x.f0
     ·rfl
     ·rw [hb] at hf
      simp at hf ⊢
      omega
   rw [hg]
   rfl
  ·rename_i h2
   exact absurd h0 h2
 ·exact absurd h0 (by decide)
theorem ok_cons {c : List In} (h : Ok c) (x : In) (hw : Q.wfIns x) (h1 : one x (c.length : Int) = 0) (hl : c.length < 4096) : Ok (x :: c) := by
 obtain ⟨a1, a2, a3, a4⟩ := (sound_iff c).mp h.hs
 have hlen : (x :: c).length = c.length + 1 := rfl
 refine ⟨by rw [hlen]; omega, fun y hy => ?_, (sound_iff (x :: c)).mpr ⟨by rw [hlen]; omega, by rw [hlen]; omega, fun q hq => ?_, ?_⟩⟩
 ·rcases List.mem_cons.1 hy with rfl | hy
  ·exact hw
  ·exact h.hw y hy
 ·cases q with
  | zero =>
   have e : (((x :: c).length : Nat) : Int) - 1 - ((0 : Nat) : Int) = (c.length : Int) := by rw [hlen]; omega
   rw [e]
   exact h1
  | succ q =>
   have e : (((x :: c).length : Nat) : Int) - 1 - ((q + 1 : Nat) : Int) = (c.length : Int) - 1 - (q : Int) := by rw [hlen]; omega
   rw [e]
   exact a3 q (by rw [hlen] at hq; omega)
 ·have e : (x :: c).getD ((x :: c).length - 1) z30 = c.getD (c.length - 1) z30 := by
   rw [List.getD_eq_getElem?_getD, List.getD_eq_getElem?_getD, hlen, show c.length + 1 - 1 = (c.length - 1) + 1 by omega, List.getElem?_cons_succ]
  rw [e]
  exact a4
section
variable (a x : Int) (m : List Int) (n r p : Int) (q : List Int)
def Val (c : List In) (t v : Int) : Prop := ∃ u, Ev (fun k => hurdleref06_From.f k c a x m ((c.length : Int) - t) n r p q) (v, u)
variable {a x m n r p q}
theorem val_ex (hs : Sok a x m) {c : List In} (h : Ok c) (z : List In) (hz : z.length + c.length < 100000) {t : Int} (t1 : 1 ≤ t) (t2 : t ≤ c.length) : ∃ v, Val a x m n r p q c t v ∧ Val a x m n r p q (z ++ c) t v := by
 obtain ⟨v, u, _, _, e1, e2⟩ := from_both h n r p q z hz c.length (c.length - t.toNat) a x m (by omega) (by omega) hs
 refine ⟨v, ⟨u, ?_⟩, ⟨u, ?_⟩⟩
 ·rw [show ((c.length - t.toNat : Nat) : Int) = (c.length : Int) - t by omega] at e1
  exact e1
 ·rw [show ((z.length + (c.length - t.toNat) : Nat) : Int) = ((z ++ c).length : Int) - t by rw [List.length_append]; omega] at e2
  exact e2
theorem ev_one {α : Type} {g : Nat → Option α} {y z : α} (h1 : Ev g y) (h2 : Ev g z) : y = z := by
 obtain ⟨k1, h1⟩ := h1
 obtain ⟨k2, h2⟩ := h2
 have e1 := h1 (max k1 k2) (by omega)
 have e2 := h2 (max k1 k2) (by omega)
 rw [e1] at e2
 exact Option.some.inj e2
theorem val_one {c : List In} {t v w : Int} (h1 : Val a x m n r p q c t v) (h2 : Val a x m n r p q c t w) : v = w := by
 obtain ⟨u, h1⟩ := h1
 obtain ⟨u2, h2⟩ := h2
 exact congrArg Prod.fst (ev_one h1 h2)
theorem val_app (hs : Sok a x m) {c : List In} (h : Ok c) (z : List In) (hz : z.length + c.length < 100000) {t v : Int} (t1 : 1 ≤ t) (t2 : t ≤ c.length) (hv : Val a x m n r p q c t v) : Val a x m n r p q (z ++ c) t v := by
 obtain ⟨w, h1, h2⟩ := val_ex (n := n) (r := r) (p := p) (q := q) hs h z hz t1 t2
 rw [val_one hv h1]
 exact h2
theorem val_ja (hs : Sok a x m) {c : List In} (h : Ok c) {t v : Int} (t1 : 1 ≤ t) (t2 : t ≤ c.length) (hv : Val a x m n r p q c t v) (j : In) (j0 : j.f0 = 5) (j3 : j.f3 = (c.length : Int) - t) : Val a x m n r p q (j :: c) ((c.length : Int) + 1) v := by
 have hl := h.hl
 have h4 := ((sound_iff c).mp h.hs).2.1
 obtain ⟨u, hu2⟩ := val_app hs h [j] (by rw [List.length_singleton]; omega) t1 t2 hv
 have hlen : (([j] ++ c).length : Int) = (c.length : Int) + 1 := by rw [List.length_append, List.length_singleton]; omega
 have hr : rd_T30 (j :: c) 0 = j := rfl
 refine ⟨wrap64 (u + 1), ?_⟩
 rw [show (((j :: c).length : Nat) : Int) - ((c.length : Int) + 1) = 0 by rw [List.length_cons]; omega]
 refine Ev.step (fun k => by rw [hurdleref06_From.f, if_pos (Int.le_refl 0), if_pos (show (0 : Int) < ((j :: c).length : Int) by rw [List.length_cons]; omega), hr, if_neg (show ¬ j.f0 = 6 by omega), if_neg (show ¬ j.f0 = 22 by omega), if_pos j0]) (Ev.step (fun k => by rw [hurdleref06_From.j0]) (Ev.bind (rbranchI_is _ _ _ _) ?_))
 rw [j0, branch_5]
 refine Ev.congr (fun k => if_neg Bool.false_ne_true) (Ev.step (fun k => by rw [hurdleref06_From.j1]) (Ev.bind (step_same (.inl rfl) a x m _ _ _ n r p q) (Ev.congr (fun k => if_pos rfl) ?_)))
 refine Ev.bind (a := (v, u)) ?_ (Ev.now _)
 rw [j3, w64s (x := (c.length : Int) - t) (by omega) (by omega), show wrap64 (0 + 1) = 1 by decide +kernel, w64s (by omega) (by omega), show (1 : Int) + ((c.length : Int) - t) = (([j] ++ c).length : Int) - t by rw [hlen]; omega]
 exact hu2
end
end Go.Proofs.YtnchbnnijboklaaDoor.RunV
/- What a branch at the front of code comes to. No condition but sizes far beyond the laws'. -/
namespace Go.Proofs.YtnchbnnijboklaaDoor.RunW
set_option linter.unusedVariables false
set_option linter.unusedSimpArgs false
open Go.RowKit Go.Proofs.YtnchbnnijboklaaDoorW.PrintWords Go.Proofs.YtnchbnnijboklaaDoorW.PrintLast Go.Proofs.YtnchbnnijboklaaDoorW.PrintMore Go.Proofs.YtnchbnnijboklaaDoor.M Go.Proofs.YtnchbnnijboklaaDoor.InsOps Go.Proofs.YtnchbnnijboklaaDoor.RightB Go.Proofs.YtnchbnnijboklaaDoor.ChkB Go.Proofs.YtnchbnnijboklaaDoor.ChkN Go.Proofs.YtnchbnnijboklaaDoor.RunO Go.Proofs.YtnchbnnijboklaaDoor.RunT Go.Proofs.YtnchbnnijboklaaDoor.RunF Go.Proofs.YtnchbnnijboklaaDoor.RunS Go.Proofs.YtnchbnnijboklaaDoor.RunV
theorem ev_unbind {α β : Type} {g : Nat → Option α} {f : Nat → α → Option β} {a : α} {r : β} (h : Ev g a) (k : Ev (fun n => (g n).bind (f n)) r) : Ev (fun n => f n a) r := by
 obtain ⟨k1, h⟩ := h
 obtain ⟨k2, k⟩ := k
 refine ⟨max k1 k2, fun n hn => ?_⟩
 have e1 := h n (by omega)
 have e2 := k n (by omega)
 simp only [e1, Option.bind_some] at e2
 exact e2
section
variable {a x : Int} {m : List Int} {n r p : Int} {q : List Int}
theorem takes_any {i0 i1 i2 i3 j1 j2 : Int} {b : Bool} (h : Ev (fun k => hurdleref06_Takes.f k a x m i0 i1 i2 i3) b) : Ev (fun k => hurdleref06_Takes.f k a x m i0 j1 j2 i3) b := by
 unfold hurdleref06_Takes.f at h ⊢
 have h2 := ev_unbind (f := fun n (t : Bool) => if t = true then if Int.tmod i0 16 = 13 then hurdleref06_Takes.j0 n x (wrap64 (i0 - 8)) a x m else hurdleref06_Takes.j0 n i3 i0 a x m else some false) (rbranchI_is i0 i1 i2 i3) h
 exact Ev.bind (f := fun n (t : Bool) => if t = true then if Int.tmod i0 16 = 13 then hurdleref06_Takes.j0 n x (wrap64 (i0 - 8)) a x m else hurdleref06_Takes.j0 n i3 i0 a x m else some false) (rbranchI_is i0 j1 j2 i3) h2
theorem val_br (hs : Sok a x m) {c : List In} (h : Ok c) {t f v : Int} (t1 : 1 ≤ t) (t2 : t ≤ c.length) (f1 : 1 ≤ f) (f2 : f ≤ c.length) (j : In) (jb : branchI j.f0 = true) (j1 : j.f1 = (c.length : Int) - t) (j2 : j.f2 = (c.length : Int) - f) {b : Bool} (hb : Ev (fun k => hurdleref06_Takes.f k a x m j.f0 j.f1 j.f2 j.f3) b)
  (hv : Val a x m n r p q c (if b = true then t else f) v) : Val a x m n r p q (j :: c) ((c.length : Int) + 1) v := by
 have hl := h.hl
 have h4 := ((sound_iff c).mp h.hs).2.1
 have he := br_end jb
 have hend : j.f0 ≠ 6 ∧ j.f0 ≠ 22 := by
  have := he.1
  unfold endI at this
  simp only [Bool.or_eq_false_iff, beq_eq_false_iff_ne] at this
  exact this
 have g1 : 1 ≤ (if b = true then t else f) := by split <;> omega
 have g2 : (if b = true then t else f) ≤ c.length := by split <;> omega
 obtain ⟨u, hu2⟩ := val_app hs h [j] (by rw [List.length_singleton]; omega) g1 g2 hv
 have hlen : (([j] ++ c).length : Int) = (c.length : Int) + 1 := by rw [List.length_append, List.length_singleton]; omega
 have hr : rd_T30 (j :: c) 0 = j := rfl
 refine ⟨wrap64 (u + 1), ?_⟩
 rw [show (((j :: c).length : Nat) : Int) - ((c.length : Int) + 1) = 0 by rw [List.length_cons]; omega]
 refine Ev.step (fun k => by rw [hurdleref06_From.f, if_pos (Int.le_refl 0), if_pos (show (0 : Int) < ((j :: c).length : Int) by rw [List.length_cons]; omega), hr, if_neg hend.1, if_neg hend.2, if_neg he.2]) (Ev.step (fun k => by rw [hurdleref06_From.j0]) (Ev.bind (rbranchI_is _ _ _ _) ?_))
 rw [jb]
 refine Ev.congr (fun k => if_pos rfl) (Ev.bind hb ?_)
 have tail : ∀ w : Int, w = (([j] ++ c).length : Int) - (if b = true then t else f) → Ev (fun k => hurdleref06_From.j1 k (j :: c) w a x m n r p q j.f0 j.f1 j.f2 j.f3) (v, wrap64 (u + 1)) := by
  intro w hw
  refine Ev.step (fun k => by rw [hurdleref06_From.j1]) (Ev.bind (step_same (.inr jb) a x m _ _ _ n r p q) (Ev.congr (fun k => if_pos rfl) ?_))
  refine Ev.bind (a := (v, u)) ?_ (Ev.now _)
  rw [hw]
  exact hu2
 have w1 : wrap64 (0 + 1) = 1 := by decide +kernel
 cases b
 ·refine Ev.congr (fun k => if_neg Bool.false_ne_true) (tail _ ?_)
  rw [if_neg Bool.false_ne_true, w1, j2, w64s (by omega) (by omega), hlen]
  omega
 ·refine Ev.congr (fun k => if_pos rfl) (tail _ ?_)
  rw [if_pos rfl, w1, j1, w64s (by omega) (by omega), hlen]
  omega
end
end Go.Proofs.YtnchbnnijboklaaDoor.RunW
/- How code grows, by the program's and the document's functions: they answer the same. Condition: no more than 100000 instructions. -/
namespace Go.Proofs.YtnchbnnijboklaaDoor.CodeB
set_option linter.unusedVariables false
set_option linter.unusedSimpArgs false
open Go.RowKit Go.Proofs.YtnchbnnijboklaaDoorW.PrintWords Go.Proofs.YtnchbnnijboklaaDoorW.PrintLast Go.Proofs.YtnchbnnijboklaaDoorW.PrintMore Go.Proofs.YtnchbnnijboklaaDoor.M Go.Proofs.YtnchbnnijboklaaDoor.InsOps Go.Proofs.YtnchbnnijboklaaDoor.RightB
abbrev In := S30
abbrev Rs := List In × Int × Int
def front (c : List In) (x : In) : Rs := if 4096 ≤ c.length then (c, 0, 3) else (x :: c, (c.length : Int) + 1, 0)
def jump (c : List In) (t : Int) : Rs :=
 if 1 ≤ t ∧ t ≤ (c.length : Int) then if t = (c.length : Int) then (c, t, 0) else front c ⟨5, 0, 0, (wrap64 ((c.length : Int) - t)) % 4294967296⟩ else (c, 0, 4)
def near (c : List In) (t : Int) : Rs := if (c.length : Int) - t ≤ 254 then (c, t, 0) else jump c t
abbrev lastI (op k t f : Int) (d : List In) : In := ⟨op, wrap64 ((d.length : Int) - t), wrap64 ((d.length : Int) - f), k⟩
def last (c : List In) (op k t f : Int) (d : List In) : Rs :=
 if (front d (lastI op k t f d)).2.2 = 0 then ((front d (lastI op k t f d)).1, (front d (lastI op k t f d)).2.1, 0) else (c, 0, (front d (lastI op k t f d)).2.2)
def second (c : List In) (op k t f : Int) (d : List In) : Rs :=
 if (near d f).2.2 = 0 then last c op k t (near d f).2.1 (near d f).1 else (c, 0, (near d f).2.2)
def branch (ok : Bool) (c : List In) (op k t f : Int) : Rs :=
 if ok = true then
  if (1 ≤ t ∧ t ≤ (c.length : Int)) ∧ (1 ≤ f ∧ f ≤ (c.length : Int)) then
   if (near c t).2.2 = 0 then second c op k (near c t).2.1 f (near c t).1 else (c, 0, (near c t).2.2)
  else (c, 0, 4)
 else (c, 0, 1)
def add (ok : Bool) (c : List In) (x : In) : Rs := if ok = true then front c x else (c, 0, 1)
abbrev Sm (c : List In) : Prop := c.length < 100000
theorem w64s {x : Int} (h0 : -1000000 ≤ x) (h1 : x < 1000000) : wrap64 x = x := by simp only [wrap64]; omega
theorem label_is (c : List In) (t : Int) : code_label.f c t = some (decide (1 ≤ t ∧ t ≤ (c.length : Int))) := by
 unfold code_label.f
 by_cases h : t ≥ 1
 ·rw [if_pos h]
  have : (1 ≤ t ∧ t ≤ (c.length : Int)) ↔ t ≤ (c.length : Int) := ⟨fun h => h.2, fun h2 => ⟨h, h2⟩⟩
  simp only [decide_eq_decide.mpr this]
 ·rw [if_neg h, decide_eq_false (by omega)]
theorem ahead_is (c : List In) (x : In) (hc : Sm c) : code_ahead.f c [x] = some (front c x) := by
 unfold code_ahead.f front
 have hs : c.length < 100000 := hc
 have e1 : wrap64 ((c.length : Int) + (([x] : List In).length : Int)) = (c.length : Int) + 1 := by
  rw [show (([x] : List In).length : Int) = 1 from rfl]; exact w64s (by omega) (by omega)
 rw [e1]
 by_cases h : 4096 ≤ c.length
 ·rw [if_pos (by omega), if_pos h]
 ·rw [if_neg (by omega), if_neg h]
  simp only [Option.bind_some, List.nil_append, List.length_nil, List.length_cons]
  rw [if_pos (by omega), if_pos (by omega)]
  simp
theorem jump_is (c : List In) (t : Int) (hc : Sm c) : code_Jump.f c t = some (jump c t) := by
 unfold code_Jump.f jump
 rw [label_is]
 simp only [Option.bind_some]
 by_cases h : 1 ≤ t ∧ t ≤ (c.length : Int)
 ·rw [decide_eq_true h, if_pos rfl, if_pos h]
  by_cases h2 : t = (c.length : Int)
  ·rw [if_pos h2, if_pos h2]
  ·rw [if_neg h2, if_neg h2, ahead_is c _ hc]
   rfl
 ·rw [decide_eq_false h, if_neg (by simp), if_neg h]
theorem near_is (c : List In) (t : Int) (hc : Sm c) (h0 : 1 ≤ t) (h1 : t ≤ 1000000) : code_closer.f c t = some (near c t) := by
 have hs : c.length < 100000 := hc
 by_cases ht : -1000000 ≤ (c.length : Int) - t
 ·unfold code_closer.f near
  rw [w64s (by omega) (by omega)]
  by_cases h : (c.length : Int) - t ≤ 254
  ·rw [if_pos h, if_pos h]
  ·rw [if_neg h, if_neg h, jump_is c t hc]
   rfl
 ·omega
theorem front_len (c : List In) (x : In) : (front c x).1.length ≤ c.length + 1 := by unfold front; split <;> simp
theorem jump_len (c : List In) (t : Int) : (jump c t).1.length ≤ c.length + 1 := by
 unfold jump
 split
 ·split
  ·simp
  ·exact front_len _ _
 ·simp
theorem near_len (c : List In) (t : Int) : (near c t).1.length ≤ c.length + 1 := by
 unfold near
 split
 ·simp
 ·exact jump_len _ _
theorem front_lab (c : List In) (x : In) : 0 ≤ (front c x).2.1 ∧ (front c x).2.1 ≤ (c.length : Int) + 1 := by unfold front; split <;> simp <;> omega
theorem jump_lab (c : List In) (t : Int) : 0 ≤ (jump c t).2.1 ∧ (jump c t).2.1 ≤ (c.length : Int) + 1 := by
 unfold jump
 split
 ·split
  ·simp only; omega
  ·exact front_lab _ _
 ·simp only; omega
theorem branch_is (ok : Bool) (c : List In) (op k t f : Int) (hc : Sm c) (hc2 : c.length + 10 < 100000) (h1 : ok = (branchI op && rightI op 0 0 k)) : Ev (fun n => code_Branch.f n c op k t f) (branch ok c op k t f) := by
 have hs : c.length < 100000 := hc
 have body : ∀ (b : Bool) (j f' : Int), Ev (fun n => code_Branch.j0 n c t f b op j f' k) (branch (!b) c op k t f) := by
  intro b j f'
  refine Ev.step (f := fun _ => some (branch (!b) c op k t f)) (fun n => ?_) (Ev.now _)
  simp only [code_Branch.j0]
  unfold branch
  cases b
  ·rw [if_neg (by simp), if_pos (by simp), label_is, label_is]
   simp only [Option.bind_some]
   by_cases g1 : 1 ≤ t ∧ t ≤ (c.length : Int)
   ·rw [decide_eq_true g1, if_pos rfl]
    by_cases g2 : 1 ≤ f ∧ f ≤ (c.length : Int)
    ·rw [decide_eq_true g2, if_pos rfl, if_pos ⟨g1, g2⟩, near_is c t hc g1.1 (by omega)]
     simp only [Option.bind_some]
     by_cases g3 : (near c t).2.2 = 0
     ·rw [if_pos g3, if_pos g3]
      have l1 := near_len c t
      rw [near_is (near c t).1 f (show (near c t).1.length < 100000 by omega) g2.1 (by omega)]
      unfold second
      simp only [Option.bind_some]
      by_cases g4 : (near (near c t).1 f).2.2 = 0
      ·rw [if_pos g4, if_pos g4]
       have l2 := near_len (near c t).1 f
       rw [ahead_is _ _ (show (near (near c t).1 f).1.length < 100000 by omega)]
       simp only [Option.bind_some]
       exact (apply_ite some _ _ _).symm
      ·rw [if_neg g4, if_neg g4]
     ·rw [if_neg g3, if_neg g3]
    ·rw [decide_eq_false g2, if_neg (by simp), if_neg (fun h => g2 h.2)]
   ·rw [decide_eq_false g1, if_neg (by simp), if_neg (fun h => g1 h.1)]
  ·rw [if_pos rfl, if_neg (by simp)]
 unfold code_Branch.f
 rw [branchI_is]
 simp only [Option.bind_some]
 cases hb : branchI op
 ·simp only [Bool.false_eq_true, if_false]
  rw [hb] at h1
  subst h1
  exact body true 0 0
 ·simp only [if_true]
  refine Ev.bind (rightI_is op 0 0 k) ?_
  rw [hb] at h1
  subst h1
  have := body (!(rightI op 0 0 k)) 0 0
  simpa using this
noncomputable def okAdd (x : In) : Bool := rightI x.f0 x.f1 x.f2 x.f3 && (x.f0 != 5 && !branchI x.f0)
theorem add_is (c : List In) (x : In) (hc : Sm c) : Ev (fun n => code_Add.f n c x.f0 x.f1 x.f2 x.f3) (add (okAdd x) c x) := by
 unfold code_Add.f add okAdd
 refine Ev.bind (rightI_is _ _ _ _) ?_
 cases rightI x.f0 x.f1 x.f2 x.f3
 ·simp only [Bool.false_eq_true, if_false, Bool.false_and]; exact Ev.now _
 ·simp only [if_true, Bool.true_and]
  by_cases h : x.f0 = 5
  ·rw [h]; simp only [bne_self_eq_false, Bool.false_and, Bool.false_eq_true, if_false, if_true]; exact Ev.now _
  ·have e : (x.f0 != 5) = true := bne_iff_ne.mpr h
   rw [e, branchI_is]
   simp only [if_neg h, Option.bind_some, Bool.true_and]
   cases branchI x.f0
   ·simp only [Bool.false_eq_true, if_false, Bool.not_false, if_true]
    have := ahead_is c x hc
    rw [show (⟨x.f0, x.f1, x.f2, x.f3⟩ : In) = x from rfl, this]
    exact Ev.now _
   ·simp only [if_true, Bool.not_true, Bool.false_eq_true, if_false]; exact Ev.now _
def atI (c : List In) (n : Int) : Int := if (c.length : Int) = 0 then 0 else wrap64 (1 + Int.tmod (wrap64 n) (c.length : Int))
theorem at_is (c : List In) (n : Int) : hurdlelaw12_at.f c n = some (atI c n) := by
 unfold hurdlelaw12_at.f atI
 split <;> rfl
noncomputable def act (c : List In) (a : S33) : Rs :=
 if a.f0 = 0 then add (okAdd a.f1) c a.f1 else if a.f0 = 1 then jump c (atI c a.f2) else branch (branchI a.f1.f0 && rightI a.f1.f0 0 0 a.f1.f3) c a.f1.f0 a.f1.f3 (atI c a.f2) (atI c a.f3)
theorem do_is (c : List In) (a : S33) (hc : c.length + 10 < 100000) : Ev (fun n => hurdlelaw12_Do.f n c a.f0 a.f1.f0 a.f1.f1 a.f1.f2 a.f1.f3 a.f2 a.f3) (act c a) := by
 unfold hurdlelaw12_Do.f act
 by_cases h0 : a.f0 = 0
 ·simp only [if_pos h0]
  exact Ev.bind (add_is c a.f1 (show c.length < 100000 by omega)) (Ev.now _)
 ·simp only [if_neg h0]
  by_cases h1 : a.f0 = 1
  ·simp only [if_pos h1, at_is, Option.bind_some, jump_is c _ (show c.length < 100000 by omega)]
   exact Ev.now _
  ·simp only [if_neg h1, at_is, Option.bind_some]
   exact Ev.bind (branch_is _ c _ _ _ _ (show c.length < 100000 by omega) hc rfl) (Ev.now _)
def Grew (c d : List In) : Prop := ∃ m, d = m ++ c ∧ m.length ≤ 3
theorem Grew.rfl_ (c : List In) : Grew c c := ⟨[], rfl, by simp⟩
theorem front_on (c : List In) (x : In) : ∃ m, (front c x).1 = m ++ c ∧ m.length ≤ 1 := by
 unfold front; split
 ·exact ⟨[], rfl, by simp⟩
 ·exact ⟨[x], rfl, by simp⟩
theorem jump_on (c : List In) (t : Int) : ∃ m, (jump c t).1 = m ++ c ∧ m.length ≤ 1 := by
 unfold jump
 split
 ·split
  ·exact ⟨[], rfl, by simp⟩
  ·exact front_on _ _
 ·exact ⟨[], rfl, by simp⟩
theorem near_on (c : List In) (t : Int) : ∃ m, (near c t).1 = m ++ c ∧ m.length ≤ 1 := by
 unfold near
 split
 ·exact ⟨[], rfl, by simp⟩
 ·exact jump_on _ _
theorem branch_on (ok : Bool) (c : List In) (op k t f : Int) : Grew c (branch ok c op k t f).1 := by
 unfold branch
 split
 ·split
  ·split
   ·unfold second
    split
    ·unfold last
     split
     ·obtain ⟨m1, e1, l1⟩ := near_on c t
      obtain ⟨m2, e2, l2⟩ := near_on (near c t).1 f
      obtain ⟨m3, e3, l3⟩ := front_on (near (near c t).1 f).1 (lastI op k (near c t).2.1 (near (near c t).1 f).2.1 (near (near c t).1 f).1)
      refine ⟨m3 ++ (m2 ++ m1), ?_, by simp only [List.length_append]; omega⟩
      simp only [List.append_assoc]
      rw [e3, e2, e1]
     ·exact Grew.rfl_ c
    ·exact Grew.rfl_ c
   ·exact Grew.rfl_ c
  ·exact Grew.rfl_ c
 ·exact Grew.rfl_ c
theorem act_on (c : List In) (a : S33) : Grew c (act c a).1 := by
 unfold act
 split
 ·unfold add
  split
  ·obtain ⟨m, e, l⟩ := front_on c a.f1
   exact ⟨m, e, by omega⟩
  ·exact Grew.rfl_ c
 ·split
  ·obtain ⟨m, e, l⟩ := jump_on c (atI c a.f2)
   exact ⟨m, e, by omega⟩
  ·exact branch_on _ _ _ _ _ _
end Go.Proofs.YtnchbnnijboklaaDoor.CodeB
/- A jump at the front of code: what is made is sound, and its label comes to what the old one came to. No condition but sizes far beyond the laws'. -/
namespace Go.Proofs.YtnchbnnijboklaaDoor.RunJ
set_option linter.unusedVariables false
set_option linter.unusedSimpArgs false
open Go.RowKit Go.Proofs.YtnchbnnijboklaaDoorW.PrintWords Go.Proofs.YtnchbnnijboklaaDoorW.PrintLast Go.Proofs.YtnchbnnijboklaaDoorW.PrintMore Go.Proofs.YtnchbnnijboklaaDoor.M Go.Proofs.YtnchbnnijboklaaDoor.InsOps Go.Proofs.YtnchbnnijboklaaDoor.RightB Go.Proofs.YtnchbnnijboklaaDoor.RunO Go.Proofs.YtnchbnnijboklaaDoor.RunT Go.Proofs.YtnchbnnijboklaaDoor.RunF Go.Proofs.YtnchbnnijboklaaDoor.RunS Go.Proofs.YtnchbnnijboklaaDoor.RunV Go.Proofs.YtnchbnnijboklaaDoor.RunW
theorem right_ja (k : Int) : rightI 5 0 0 k = true := by
 obtain ⟨i, hi, ho, hk, hw⟩ : ∃ i, i < 39 ∧ opsL[i]? = some 5 ∧ hasK i = true ∧ hasW i = false := ⟨opsL.idxOf 5, by decide, by decide, by decide, by decide⟩
 rw [(rightI_row hi ho _ _ _).1]
 unfold right
 rw [hk, hw]
 rfl
theorem one_ja (k left : Int) (h : k < left) : ChkB.one ⟨5, 0, 0, k⟩ left = 0 := by
 unfold ChkB.one ChkB.rt
 rw [if_pos (right_ja k), if_pos (show check_ruleE 5 k = 0 by unfold check_ruleE; simp)]
 have : ChkB.far (⟨5, 0, 0, k⟩ : ChkB.In) left = false := by
  unfold ChkB.far
  rw [if_pos rfl]
  exact decide_eq_false (by show ¬ left ≤ k; omega)
 rw [this, if_neg Bool.false_ne_true]
theorem wf_u (k : Int) (h : U k) : (Lit.int .u32 k).wf = true := by
 unfold U at h
 simp [Lit.wf, IntKind.min, IntKind.max, IntKind.signed, IntKind.bits]
 omega
theorem jump_val {a x : Int} {m : List Int} {n r p : Int} {q : List Int} (hs : Sok a x m) {c : List ChkB.In} (h : Ok c) {t : Int} (t1 : 1 ≤ t) (t2 : t ≤ c.length) (e : (CodeB.jump c t).2.2 = 0) :
  Ok (CodeB.jump c t).1 ∧ 1 ≤ (CodeB.jump c t).2.1 ∧ (CodeB.jump c t).2.1 ≤ (CodeB.jump c t).1.length ∧ (∀ v, Val a x m n r p q c t v → Val a x m n r p q (CodeB.jump c t).1 (CodeB.jump c t).2.1 v) := by
 have hl := h.hl
 unfold CodeB.jump at e ⊢
 rw [if_pos ⟨t1, t2⟩] at e ⊢
 by_cases ht : t = (c.length : Int)
 ·rw [if_pos ht]
  exact ⟨h, t1, t2, fun v hv => hv⟩
 ·rw [if_neg ht] at e ⊢
  unfold CodeB.front at e ⊢
  by_cases hc : 4096 ≤ c.length
  ·rw [if_pos hc] at e
   exact absurd e (show ¬ ((3 : Int) = 0) by decide)
  ·rw [if_neg hc]
   have w : (wrap64 ((c.length : Int) - t)) % 4294967296 = (c.length : Int) - t := by unfold wrap64; omega
   rw [w]
   have z5 : (Lit.int .i64 5).wf = true := by decide
   have z0 : (Lit.int .i64 0).wf = true := by decide
   have zk : U ((c.length : Int) - t) := by unfold U; omega
   refine ⟨ok_cons h _ ⟨z5, z0, z0, wf_u _ zk⟩ (one_ja _ _ (by omega)) (by omega), show 1 ≤ (c.length : Int) + 1 by omega, by show (c.length : Int) + 1 ≤ ((c.length + 1 : Nat) : Int); omega, fun v hv => ?_⟩
   exact val_ja hs h t1 t2 hv _ rfl rfl
end Go.Proofs.YtnchbnnijboklaaDoor.RunJ
/- A branch put in at the front of code: what is made is sound, and its label comes to what the label that is taken came to. No condition but sizes far beyond the laws'. -/
namespace Go.Proofs.YtnchbnnijboklaaDoor.RunB
set_option linter.unusedVariables false
set_option linter.unusedSimpArgs false
open Go.RowKit Go.Proofs.YtnchbnnijboklaaDoorW.PrintWords Go.Proofs.YtnchbnnijboklaaDoorW.PrintLast Go.Proofs.YtnchbnnijboklaaDoorW.PrintMore Go.Proofs.YtnchbnnijboklaaDoor.M Go.Proofs.YtnchbnnijboklaaDoor.InsOps Go.Proofs.YtnchbnnijboklaaDoor.RightB Go.Proofs.YtnchbnnijboklaaDoor.RunO Go.Proofs.YtnchbnnijboklaaDoor.RunT Go.Proofs.YtnchbnnijboklaaDoor.RunF Go.Proofs.YtnchbnnijboklaaDoor.RunS Go.Proofs.YtnchbnnijboklaaDoor.RunV Go.Proofs.YtnchbnnijboklaaDoor.RunW Go.Proofs.YtnchbnnijboklaaDoor.RunJ
theorem near_val {a x : Int} {m : List Int} {n r p : Int} {q : List Int} (hs : Sok a x m) {c : List ChkB.In} (h : Ok c) {t : Int} (t1 : 1 ≤ t) (t2 : t ≤ c.length) (e : (CodeB.near c t).2.2 = 0) :
  Ok (CodeB.near c t).1 ∧ 1 ≤ (CodeB.near c t).2.1 ∧ (CodeB.near c t).2.1 ≤ (CodeB.near c t).1.length ∧ ((CodeB.near c t).1.length : Int) - (CodeB.near c t).2.1 ≤ 254 ∧ (∀ v, Val a x m n r p q c t v → Val a x m n r p q (CodeB.near c t).1 (CodeB.near c t).2.1 v) := by
 unfold CodeB.near at e ⊢
 by_cases hn : (c.length : Int) - t ≤ 254
 ·rw [if_pos hn]
  exact ⟨h, t1, t2, hn, fun v hv => hv⟩
 ·rw [if_neg hn] at e ⊢
  obtain ⟨j1, j2, j3, j4⟩ := jump_val (n := n) (r := r) (p := p) (q := q) hs h t1 t2 e
  refine ⟨j1, j2, j3, ?_, j4⟩
  unfold CodeB.jump at e ⊢
  rw [if_pos ⟨t1, t2⟩, if_neg (by omega)] at e ⊢
  unfold CodeB.front at e ⊢
  by_cases hc : 4096 ≤ c.length
  ·rw [if_pos hc] at e
   exact absurd e (show ¬ ((3 : Int) = 0) by decide)
  ·rw [if_neg hc]
   show ((c.length + 1 : Nat) : Int) - ((c.length : Int) + 1) ≤ 254
   omega
theorem one_br {o k jt jf left : Int} (hb : branchI o = true) (hr : rightI o 0 0 k = true) (h1 : 0 ≤ jt) (h2 : jt ≤ 255) (h3 : 0 ≤ jf) (h4 : jf ≤ 255) (l1 : jt < left) (l2 : jf < left) : ChkB.one ⟨o, jt, jf, k⟩ left = 0 := by
 rcases op_cases o with ⟨i, hi, ho⟩ | ho
 ·have hW : hasW i = true := by rw [← (rightI_row hi ho 0 0 0).2]; exact hb
  have hrt : ChkB.rt ⟨o, jt, jf, k⟩ = true := by
   unfold ChkB.rt
   show rightI o jt jf k = true
   rw [(rightI_row hi ho _ _ _).1] at hr ⊢
   unfold right at hr ⊢
   rw [hW] at hr ⊢
   simp only [Bool.and_eq_true, if_true, decide_eq_true_eq] at hr ⊢
   exact ⟨hr.1, ⟨h1, h2⟩, h3, h4⟩
  have hE : check_ruleE o k = 0 := by
   have all : ∀ i, i < 39 → hasW i = true → ruleN (opsL.getD i 0) = none := by decide
   have e : opsL.getD i 0 = o := by rw [List.getD_eq_getElem?_getD, ho]; rfl
   exact ruleE_none (by rw [← e]; exact all i hi hW)
  unfold ChkB.one
  rw [if_pos hrt, if_pos (show check_ruleE o k = 0 from hE)]
  have : ChkB.far (⟨o, jt, jf, k⟩ : ChkB.In) left = false := by
   unfold ChkB.far
   rw [if_neg (show ¬ o = 5 from fun h => by rw [h, ChkB.branch_5] at hb; cases hb)]
   show (branchI o && (decide (left ≤ jt) || decide (left ≤ jf))) = false
   rw [hb, decide_eq_false (by omega), decide_eq_false (by omega)]
   rfl
  rw [this, if_neg Bool.false_ne_true]
 ·rw [(rightI_none ho 0 0 0).2] at hb
  cases hb
theorem branch_val {a x : Int} {m : List Int} {n r p : Int} {q : List Int} (hs : Sok a x m) {c : List ChkB.In} (h : Ok c) {o k t f : Int} (ho : (Lit.int .i64 o).wf = true) (hk : U k) (hb : branchI o = true) (hr : rightI o 0 0 k = true) (t1 : 1 ≤ t) (t2 : t ≤ c.length) (f1 : 1 ≤ f) (f2 : f ≤ c.length) (e : (CodeB.branch true c o k t f).2.2 = 0)
  {b : Bool} (tk : Ev (fun j => hurdleref06_Takes.f j a x m o 0 0 k) b) :
  Ok (CodeB.branch true c o k t f).1 ∧ 1 ≤ (CodeB.branch true c o k t f).2.1 ∧ (CodeB.branch true c o k t f).2.1 ≤ (CodeB.branch true c o k t f).1.length ∧ (∀ v, Val a x m n r p q c (if b = true then t else f) v → Val a x m n r p q (CodeB.branch true c o k t f).1 (CodeB.branch true c o k t f).2.1 v) := by
 unfold CodeB.branch at e ⊢
 rw [if_pos rfl, if_pos ⟨⟨t1, t2⟩, f1, f2⟩] at e ⊢
 by_cases e1 : (CodeB.near c t).2.2 = 0
 ·rw [if_pos e1] at e ⊢
  obtain ⟨a1, a2, a3, a4, a5⟩ := near_val (n := n) (r := r) (p := p) (q := q) hs h t1 t2 e1
  obtain ⟨z1, hz1, hl1⟩ := CodeB.near_on c t
  generalize CodeB.near c t = N1 at *
  obtain ⟨c1, l1, er1⟩ := N1
  simp only at a1 a2 a3 a4 a5 hz1 e ⊢
  unfold CodeB.second at e ⊢
  have g2 : f ≤ (c1.length : Int) := by rw [hz1, List.length_append]; omega
  by_cases e2 : (CodeB.near c1 f).2.2 = 0
  ·rw [if_pos e2] at e ⊢
   obtain ⟨b1, b2, b3, b4, b5⟩ := near_val (n := n) (r := r) (p := p) (q := q) hs a1 f1 g2 e2
   obtain ⟨z2, hz2, hl2⟩ := CodeB.near_on c1 f
   generalize CodeB.near c1 f = N2 at *
   obtain ⟨c2, l2, er2⟩ := N2
   simp only at b1 b2 b3 b4 b5 hz2 e ⊢
   have hlen2 : c2.length = z2.length + c1.length := by rw [hz2, List.length_append]
   have hlen1 : c1.length = z1.length + c.length := by rw [hz1, List.length_append]
   have hsm := ((ChkB.sound_iff c).mp h.hs).2.1
   unfold CodeB.last CodeB.front at e ⊢
   by_cases hc : 4096 ≤ c2.length
   ·simp only [if_pos hc] at e
    exact absurd e (by simp)
   ·simp only [if_neg hc, if_true]
    have w1 : wrap64 ((c2.length : Int) - l1) = (c2.length : Int) - l1 := by unfold wrap64; omega
    have w2 : wrap64 ((c2.length : Int) - l2) = (c2.length : Int) - l2 := by unfold wrap64; omega
    simp only [CodeB.lastI, w1, w2]
    have hO := one_br (left := (c2.length : Int)) hb hr (show 0 ≤ (c2.length : Int) - l1 by omega) (by omega) (show 0 ≤ (c2.length : Int) - l2 by omega) (by omega) (by omega) (by omega)
    have wf : ∀ y : Int, 0 ≤ y → y < 100000 → (Lit.int .i64 y).wf = true := by
     intro y y1 y2
     simp [Lit.wf, IntKind.min, IntKind.max, IntKind.signed, IntKind.bits]
     omega
    refine ⟨ok_cons b1 _ ⟨ho, wf _ (by show 0 ≤ (c2.length : Int) - l1; omega) (by show (c2.length : Int) - l1 < 100000; omega), wf _ (by show 0 ≤ (c2.length : Int) - l2; omega) (by show (c2.length : Int) - l2 < 100000; omega), wf_u k hk⟩ hO (by omega), by omega, by rw [List.length_cons]; omega, fun v hv => ?_⟩
    refine val_br hs b1 (t := l1) (f := l2) (by omega) (by omega) (by omega) (by omega) _ hb rfl rfl (takes_any tk) ?_
    cases b
    ·rw [if_neg Bool.false_ne_true] at hv ⊢
     have := val_app hs h z1 (by omega) f1 f2 hv
     rw [← hz1] at this
     exact b5 v this
    ·rw [if_pos rfl] at hv ⊢
     have := val_app hs a1 z2 (by omega) a2 a3 (a5 v hv)
     rw [← hz2] at this
     exact this
  ·rw [if_neg e2] at e
   exact absurd e e2
 ·rw [if_neg e1] at e
  exact absurd e e1
end Go.Proofs.YtnchbnnijboklaaDoor.RunB
/- An instruction put in at the front of code that is sound, by what loads, stores and divides soundly: the code is sound. No condition but sizes far beyond the laws'. -/
namespace Go.Proofs.YtnchbnnijboklaaDoor.RunA
set_option linter.unusedVariables false
set_option linter.unusedSimpArgs false
open Go.RowKit Go.Proofs.YtnchbnnijboklaaDoorW.PrintWords Go.Proofs.YtnchbnnijboklaaDoorW.PrintLast Go.Proofs.YtnchbnnijboklaaDoorW.PrintMore Go.Proofs.YtnchbnnijboklaaDoor.M Go.Proofs.YtnchbnnijboklaaDoor.InsOps Go.Proofs.YtnchbnnijboklaaDoor.RightB Go.Proofs.YtnchbnnijboklaaDoor.RunO Go.Proofs.YtnchbnnijboklaaDoor.RunT Go.Proofs.YtnchbnnijboklaaDoor.RunF Go.Proofs.YtnchbnnijboklaaDoor.RunS Go.Proofs.YtnchbnnijboklaaDoor.RunV Go.Proofs.YtnchbnnijboklaaDoor.RunW Go.Proofs.YtnchbnnijboklaaDoor.RunJ Go.Proofs.YtnchbnnijboklaaDoor.RunB
theorem add_ok {c : List ChkB.In} (h : Ok c) (y : ChkB.In) (hw : Q.wfIns y) (h1 : ChkB.one y 1 = 0) (e : (CodeB.add (CodeB.okAdd y) c y).2.2 = 0) :
  Ok (CodeB.add (CodeB.okAdd y) c y).1 ∧ 1 ≤ (CodeB.add (CodeB.okAdd y) c y).2.1 ∧ (CodeB.add (CodeB.okAdd y) c y).2.1 ≤ (CodeB.add (CodeB.okAdd y) c y).1.length := by
 have h0 := ((ChkB.sound_iff c).mp h.hs).1
 unfold CodeB.add at e ⊢
 by_cases ho : CodeB.okAdd y = true
 ·rw [if_pos ho] at e ⊢
  unfold CodeB.front at e ⊢
  by_cases hc : 4096 ≤ c.length
  ·rw [if_pos hc] at e
   exact absurd e (show ¬ ((3 : Int) = 0) by decide)
  ·rw [if_neg hc]
   exact ⟨ok_cons h y hw (one_more y 1 (c.length : Int) (by omega) h1) (by omega), show 1 ≤ (c.length : Int) + 1 by omega, by show (c.length : Int) + 1 ≤ ((c.length + 1 : Nat) : Int); omega⟩
 ·rw [if_neg ho] at e
  exact absurd e (show ¬ ((1 : Int) = 0) by decide)
theorem at_range (c : List ChkB.In) (h0 : c.length ≠ 0) (hl : c.length < 100000) (k : Int) (h1 : 0 ≤ k) (h2 : k < 65536) : 1 ≤ CodeB.atI c k ∧ CodeB.atI c k ≤ (c.length : Int) := by
 unfold CodeB.atI
 rw [if_neg (by omega)]
 have w : wrap64 k = k := by unfold wrap64; omega
 have m0 := Int.emod_nonneg k (show (c.length : Int) ≠ 0 by omega)
 have m1 := Int.emod_lt_of_pos k (show 0 < (c.length : Int) by omega)
 rw [w, Int.tmod_eq_emod_of_nonneg h1, show wrap64 (1 + k % (c.length : Int)) = 1 + k % (c.length : Int) by unfold wrap64; omega]
 omega
end Go.Proofs.YtnchbnnijboklaaDoor.RunA
/- The document's examples of code hold. No condition. -/
namespace Go.Proofs.YtnchbnnijboklaaDoor.CodeB
open Go.RowKit Go.Proofs.YtnchbnnijboklaaDoorW.PrintWords Go.Proofs.YtnchbnnijboklaaDoorW.PrintLast Go.Proofs.YtnchbnnijboklaaDoorW.PrintMore Go.Proofs.YtnchbnnijboklaaDoor.M
theorem knows_is : Ev (fun k => hurdlelaw12_knows.f k) true := Ev.of hurdlelaw12_knows.mono (k := 60) (by decide +kernel)
end Go.Proofs.YtnchbnnijboklaaDoor.CodeB
/- The law CodeSound's rounds. No condition but sizes far beyond the laws'. -/
namespace Go.Proofs.YtnchbnnijboklaaDoor.CodeS
set_option linter.unusedVariables false
set_option linter.unusedSimpArgs false
open Go.RowKit Go.Proofs.YtnchbnnijboklaaDoorW.PrintWords Go.Proofs.YtnchbnnijboklaaDoorW.PrintLast Go.Proofs.YtnchbnnijboklaaDoorW.PrintMore Go.Proofs.YtnchbnnijboklaaDoor.M Go.Proofs.YtnchbnnijboklaaDoor.InsOps Go.Proofs.YtnchbnnijboklaaDoor.RightB Go.Proofs.YtnchbnnijboklaaDoor.RunO Go.Proofs.YtnchbnnijboklaaDoor.RunT Go.Proofs.YtnchbnnijboklaaDoor.RunF Go.Proofs.YtnchbnnijboklaaDoor.RunS Go.Proofs.YtnchbnnijboklaaDoor.RunV Go.Proofs.YtnchbnnijboklaaDoor.RunW Go.Proofs.YtnchbnnijboklaaDoor.RunJ Go.Proofs.YtnchbnnijboklaaDoor.RunB Go.Proofs.YtnchbnnijboklaaDoor.RunA
section
variable {a x : Int} {m : List Int} {n r p : Int} {q : List Int}
theorem j6_is (hs : Sok a x m) (l : List S33) (i : Int) (y : S33) {c d : List ChkB.In} {lb t : Int} (hc : Ok c) (hd : Ok d) (b1 : 1 ≤ lb) (b2 : lb ≤ d.length) (t1 : 1 ≤ t) (t2 : t ≤ c.length)
  (hv : y.f0 ≠ 0 → ∀ v, Val a x m n r p q c t v → Val a x m n r p q d lb v) (next : Ev (fun k => hurdlelaw12_CodeSound.l0 k d l (wrap64 (i + 1)) a x m n r p q) true) :
  Ev (fun k => hurdlelaw12_CodeSound.j6 k c l i d lb t a x m n r p q y.f0 y.f1.f0 y.f1.f1 y.f1.f2 y.f1.f3 y.f2 y.f3) true := by
 have h1 := hc.hl
 have h2 := hd.hl
 obtain ⟨v, ⟨u, e1⟩, _⟩ := val_ex (n := n) (r := r) (p := p) (q := q) hs hc [] (by simp; omega) t1 t2
 obtain ⟨w, ⟨s, e2⟩, _⟩ := val_ex (n := n) (r := r) (p := p) (q := q) hs hd [] (by simp; omega) b1 b2
 have w1 : wrap64 ((d.length : Int) - lb) = (d.length : Int) - lb := by unfold wrap64; omega
 have w2 : wrap64 ((c.length : Int) - t) = (c.length : Int) - t := by unfold wrap64; omega
 refine Ev.step (fun k => by rw [hurdlelaw12_CodeSound.j6, w1, w2]) (Ev.bind e2 (Ev.bind e1 ?_))
 by_cases h0 : y.f0 = 0
 ·exact Ev.congr (fun k => if_pos h0) next
 ·refine Ev.congr (fun k => if_neg h0) (Ev.congr (fun k => if_pos ?_) next)
  exact val_one ⟨s, e2⟩ (hv h0 v ⟨u, e1⟩)
theorem u16_range {k : Int} (h : (Lit.int .u16 k).wf = true) : 0 ≤ k ∧ k < 65536 := by
 simp [Lit.wf, IntKind.min, IntKind.max, IntKind.signed, IntKind.bits] at h
 omega
theorem j3_is (hs : Sok a x m) (l : List S33) (i : Nat) (hi : i < 20) (y : S33) (hy : Q.wfAct y) {c : List ChkB.In} (hc : Ok c) (hlen : c.length ≤ 500 + 3 * i) (h1 : y.f0 = 0 → ChkB.one y.f1 1 = 0)
  (next : ∀ d, Ok d → d.length ≤ 500 + 3 * (i + 1) → Ev (fun k => hurdlelaw12_CodeSound.l0 k d l (wrap64 ((i : Int) + 1)) a x m n r p q) true) :
  Ev (fun k => hurdlelaw12_CodeSound.j3 k c l (i : Int) false a x m n r p q y.f0 y.f1.f0 y.f1.f1 y.f1.f2 y.f1.f3 y.f2 y.f3) true := by
 obtain ⟨y0, y1, y2, y3⟩ := hy
 obtain ⟨t0, t9⟩ := u16_range y2
 obtain ⟨f0, f9⟩ := u16_range y3
 have hne := ((ChkB.sound_iff c).mp hc.hs).1
 obtain ⟨t1, t2⟩ := at_range c hne hc.hl y.f2 t0 t9
 obtain ⟨f1, f2⟩ := at_range c hne hc.hl y.f3 f0 f9
 have hU : U y.f1.f3 := ChkB.u32_range y1.2.2.2
 refine Ev.step (fun k => by rw [hurdlelaw12_CodeSound.j3, if_neg Bool.false_ne_true]) (Ev.bind (CodeB.do_is c y (by omega)) ?_)
 by_cases e : (CodeB.act c y).2.2 = 0
 ·refine Ev.congr (fun k => if_pos e) ?_
  obtain ⟨z, hz, hz3⟩ := CodeB.act_on c y
  have hdl : (CodeB.act c y).1.length ≤ 500 + 3 * (i + 1) := by rw [hz, List.length_append]; omega
  have start : Ok (CodeB.act c y).1 → 1 ≤ (CodeB.act c y).2.1 → (CodeB.act c y).2.1 ≤ ((CodeB.act c y).1.length : Int) → Ev (fun k => hurdlelaw12_CodeSound.j4 k c l (i : Int) (CodeB.act c y).1 (CodeB.act c y).2.1 false a x m n r p q y.f0 y.f1.f0 y.f1.f1 y.f1.f2 y.f1.f3 y.f2 y.f3) true →
    Ev (fun k => (check_Sound.f k (CodeB.act c y).1).bind fun t356 => (if t356 = true then (if (CodeB.act c y).2.1 < 1 then (hurdlelaw12_CodeSound.j4 k c l (i : Int) (CodeB.act c y).1 (CodeB.act c y).2.1 true a x m n r p q y.f0 y.f1.f0 y.f1.f1 y.f1.f2 y.f1.f3 y.f2 y.f3) else (hurdlelaw12_CodeSound.j4 k c l (i : Int) (CodeB.act c y).1 (CodeB.act c y).2.1 (decide ((CodeB.act c y).2.1 > ((CodeB.act c y).1.length : Int))) a x m n r p q y.f0 y.f1.f0 y.f1.f1 y.f1.f2 y.f1.f3 y.f2 y.f3)) else (hurdlelaw12_CodeSound.j4 k c l (i : Int) (CodeB.act c y).1 (CodeB.act c y).2.1 true a x m n r p q y.f0 y.f1.f0 y.f1.f1 y.f1.f2 y.f1.f3 y.f2 y.f3))) true := by
   intro hD b1 b2 h
   refine Ev.bind (ChkB.sound_is _ hD.hl hD.hw) ?_
   rw [hD.hs]
   exact Ev.congr (fun k => (if_pos rfl).trans ((if_neg (by omega)).trans (by rw [decide_eq_false (by omega)]))) h
  have fin : ∀ t : Int, 1 ≤ t → t ≤ c.length → Ok (CodeB.act c y).1 → 1 ≤ (CodeB.act c y).2.1 → (CodeB.act c y).2.1 ≤ ((CodeB.act c y).1.length : Int) → (y.f0 ≠ 0 → ∀ v, Val a x m n r p q c t v → Val a x m n r p q (CodeB.act c y).1 (CodeB.act c y).2.1 v) → Ev (fun k => hurdlelaw12_CodeSound.j6 k c l (i : Int) (CodeB.act c y).1 (CodeB.act c y).2.1 t a x m n r p q y.f0 y.f1.f0 y.f1.f1 y.f1.f2 y.f1.f3 y.f2 y.f3) true :=
   fun t g1 g2 hD b1 b2 hv => j6_is hs l (i : Int) y hc hD b1 b2 g1 g2 hv (next _ hD hdl)
  have five : ∀ t : Int, Ev (fun k => hurdlelaw12_CodeSound.j6 k c l (i : Int) (CodeB.act c y).1 (CodeB.act c y).2.1 t a x m n r p q y.f0 y.f1.f0 y.f1.f1 y.f1.f2 y.f1.f3 y.f2 y.f3) true → Ev (fun k => hurdlelaw12_CodeSound.j5 k c l (i : Int) (CodeB.act c y).1 (CodeB.act c y).2.1 t false a x m n r p q y.f0 y.f1.f0 y.f1.f1 y.f1.f2 y.f1.f3 y.f2 y.f3) true :=
   fun t h => Ev.step (fun k => by rw [hurdlelaw12_CodeSound.j5, if_neg Bool.false_ne_true]) h
  by_cases h0 : y.f0 = 0
  ·have hA : CodeB.act c y = CodeB.add (CodeB.okAdd y.f1) c y.f1 := by unfold CodeB.act; rw [if_pos h0]
   obtain ⟨a1, a2, a3⟩ := add_ok hc y.f1 y1 (h1 h0) (by rw [← hA]; exact e)
   rw [← hA] at a1 a2 a3
   refine start a1 a2 a3 (Ev.step (fun k => by rw [hurdlelaw12_CodeSound.j4, if_neg Bool.false_ne_true, CodeB.at_is, Option.bind_some, if_pos h0]) (five _ (fin _ t1 t2 a1 a2 a3 (fun h => absurd h0 h))))
  ·by_cases h9 : y.f0 = 1
   ·have hA : CodeB.act c y = CodeB.jump c (CodeB.atI c y.f2) := by unfold CodeB.act; rw [if_neg h0, if_pos h9]
    obtain ⟨a1, a2, a3, a4⟩ := jump_val (n := n) (r := r) (p := p) (q := q) hs hc t1 t2 (by rw [← hA]; exact e)
    rw [← hA] at a1 a2 a3 a4
    exact start a1 a2 a3 (Ev.step (fun k => by rw [hurdlelaw12_CodeSound.j4, if_neg Bool.false_ne_true, CodeB.at_is, Option.bind_some, if_neg h0, if_pos h9]) (five _ (fin _ t1 t2 a1 a2 a3 (fun _ => a4))))
   ·have hA : CodeB.act c y = CodeB.branch (branchI y.f1.f0 && rightI y.f1.f0 0 0 y.f1.f3) c y.f1.f0 y.f1.f3 (CodeB.atI c y.f2) (CodeB.atI c y.f3) := by unfold CodeB.act; rw [if_neg h0, if_neg h9]
    have hok : branchI y.f1.f0 = true ∧ rightI y.f1.f0 0 0 y.f1.f3 = true := by
     cases hb : (branchI y.f1.f0 && rightI y.f1.f0 0 0 y.f1.f3)
     ·exfalso
      rw [hA, hb] at e
      unfold CodeB.branch at e
      rw [if_neg Bool.false_ne_true] at e
      exact absurd e (show ¬ ((1 : Int) = 0) by decide)
     ·exact Bool.and_eq_true_iff.mp hb
    rw [hok.1, hok.2, Bool.and_true] at hA
    obtain ⟨b, tk⟩ := takes_is a x m hs y.f1.f0 0 0 y.f1.f3 hU
    obtain ⟨a1, a2, a3, a4⟩ := branch_val (n := n) (r := r) (p := p) (q := q) hs hc y1.1 hU hok.1 hok.2 t1 t2 f1 f2 (by rw [← hA]; exact e) tk
    rw [show CodeB.branch true c y.f1.f0 y.f1.f3 (CodeB.atI c y.f2) (CodeB.atI c y.f3) = CodeB.act c y from hA.symm] at a1 a2 a3 a4
    refine start a1 a2 a3 (Ev.step (fun k => by rw [hurdlelaw12_CodeSound.j4, if_neg Bool.false_ne_true, CodeB.at_is, Option.bind_some, if_neg h0, if_neg h9]) (Ev.bind tk ?_))
    cases b
    ·rw [if_neg Bool.false_ne_true] at a4
     exact Ev.step (fun k => by rw [hurdlelaw12_CodeSound.j5, Bool.not_false, if_pos rfl, CodeB.at_is, Option.bind_some]) (fin _ f1 f2 a1 a2 a3 (fun _ => a4))
    ·rw [if_pos rfl] at a4
     exact five _ (fin _ t1 t2 a1 a2 a3 (fun _ => a4))
 ·exact Ev.congr (fun k => if_neg e) (next c hc (by omega))
theorem rd_act (l : List S33) (i : Nat) (h : i < l.length) : rd_T33 l (i : Int) = l[i] := by
 unfold rd_T33
 rw [List.getD_eq_getElem?_getD, Int.toNat_natCast, List.getElem?_eq_getElem h]
 rfl
theorem l0_is (hs : Sok a x m) (l : List S33) (hl : ∀ y ∈ l, Q.wfAct y) : ∀ (d i : Nat) (c : List ChkB.In), 20 ≤ i + d → i ≤ 20 → Ok c → c.length ≤ 500 + 3 * i → Ev (fun k => hurdlelaw12_CodeSound.l0 k c l (i : Int) a x m n r p q) true := by
 have out : ∀ (c : List ChkB.In) (i : Int), Ev (fun k => hurdlelaw12_CodeSound.j2 k c l i false a x m n r p q) true := fun c i =>
  Ev.step (f := fun k => (hurdlelaw12_knows.f k).bind fun t => some t) (fun k => by rw [hurdlelaw12_CodeSound.j2, if_neg Bool.false_ne_true]) (Ev.bind CodeB.knows_is (Ev.now _))
 intro d
 induction d with
 | zero =>
  intro i c h1 h2 hc hlen
  by_cases hi : (i : Int) < (l.length : Int)
  ·refine Ev.step (fun k => ?_) (out c (i : Int))
   rw [hurdlelaw12_CodeSound.l0, if_pos hi, decide_eq_false (by omega)]
  ·exact Ev.step (fun k => by rw [hurdlelaw12_CodeSound.l0, if_neg hi]) (out c (i : Int))
 | succ d ih =>
  intro i c h1 h2 hc hlen
  by_cases hi : (i : Int) < (l.length : Int)
  ·by_cases h20 : i < 20
   ·have hil : i < l.length := by omega
    have hy := hl _ (List.getElem_mem hil)
    have w : wrap64 ((i : Int) + 1) = ((i + 1 : Nat) : Int) := by unfold wrap64; omega
    have next : ∀ d, Ok d → d.length ≤ 500 + 3 * (i + 1) → Ev (fun k => hurdlelaw12_CodeSound.l0 k d l (wrap64 ((i : Int) + 1)) a x m n r p q) true := fun d hd hdl => by
     rw [w]
     exact ih (i + 1) d (by omega) (by omega) hd hdl
    refine Ev.step (fun k => by rw [hurdlelaw12_CodeSound.l0, if_pos hi, decide_eq_true (show (i : Int) < 20 by omega)]) (Ev.step (fun k => by rw [hurdlelaw12_CodeSound.j2, if_pos rfl, if_pos (by omega), if_pos hi, rd_act l i hil]) ?_)
    by_cases h0 : l[i].f0 = 0
    ·have ho := ChkB.one_is l[i].f1 hy.2.1 0 2 (by omega) (by omega)
     have ho : Ev (fun k => hurdleref05_One.f k l[i].f1.f0 l[i].f1.f1 l[i].f1.f2 l[i].f1.f3 0 2) (ChkB.one l[i].f1 1) := ho
     refine Ev.congr (fun k => if_pos h0) (Ev.bind ho ?_)
     by_cases h9 : ChkB.one l[i].f1 1 = 0
     ·rw [h9]
      exact j3_is hs l i h20 l[i] hy hc hlen (fun _ => h9) next
     ·rw [bne_iff_ne.mpr h9]
      exact Ev.step (fun k => by rw [hurdlelaw12_CodeSound.j3, if_pos rfl]) (next c hc (by omega))
    ·exact Ev.congr (fun k => if_neg h0) (j3_is hs l i h20 l[i] hy hc hlen (fun h => absurd h h0) next)
   ·refine Ev.step (fun k => ?_) (out c (i : Int))
    rw [hurdlelaw12_CodeSound.l0, if_pos hi, decide_eq_false (by omega)]
  ·exact Ev.step (fun k => by rw [hurdlelaw12_CodeSound.l0, if_neg hi]) (out c (i : Int))
end
end Go.Proofs.YtnchbnnijboklaaDoor.CodeS
