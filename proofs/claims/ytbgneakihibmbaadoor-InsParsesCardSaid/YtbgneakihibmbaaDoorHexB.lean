/- What the program's and the document's functions of number texts compute. No condition but that the number is one of 64 bits. -/
import Derived.Test.YtbgneakihibmbaaDoorM4
import Derived.Test.YtbgneakihibmbaaDoorM12
import Derived.Test.YtbgneakihibmbaaDoorHex
namespace Go.Proofs.YtbgneakihibmbaaDoor.HexB
set_option linter.unusedVariables false
set_option linter.unusedSimpArgs false
open Go.RowKit Go.Proofs.YtbgneakihibmbaaDoorW.PrintWords Go.Proofs.YtbgneakihibmbaaDoorW.PrintLast Go.Proofs.YtbgneakihibmbaaDoorW.PrintMore Go.Proofs.YtbgneakihibmbaaDoor.M Go.Proofs.YtbgneakihibmbaaDoor.Hex

def I (l : List Nat) : List Int := l.map fun n : Nat => (n : Int)
theorem I_append (a b : List Nat) : I (a ++ b) = I a ++ I b := by simp [I]
theorem I_length (a : List Nat) : (I a).length = a.length := by simp [I]
theorem pow4 (j : Nat) : 2 ^ (4 * j) = 16 ^ j := by rw [Nat.pow_mul]
theorem shr_is (n j : Nat) (hj : j ≤ 15) : shr .u64 (n : Int) ((4 * j : Nat) : Int) = ((n / 16 ^ j : Nat) : Int) := by
  unfold shr
  rw [Int.toNat_natCast, Nat.min_eq_left (show 4 * j ≤ IntKind.u64.bits from by simp only [IntKind.bits]; omega), Int.natCast_ediv, ← pow4 j]
  congr 1
theorem digit_is (n j : Nat) (hn : n < 18446744073709551616) (hj : j ≤ 15) : Go.bits .and .u64 (shr .u64 (n : Int) ((4 * j : Nat) : Int)) 15 = ((n / 16 ^ j % 16 : Nat) : Int) := by
  rw [shr_is n j hj]
  have hq : n / 16 ^ j < 18446744073709551616 := Nat.lt_of_le_of_lt (Nat.div_le_self _ _) hn
  have := u64_and_nat (n / 16 ^ j) 15 hq (by omega)
  rw [show (15 : Int) = ((15 : Nat) : Int) from rfl, this, Nat.and_two_pow_sub_one_eq_mod _ 4]
theorem bt_chr {d : Nat} (h : d < 16) : bt (⟨#[48, 49, 50, 51, 52, 53, 54, 55, 56, 57, 97, 98, 99, 100, 101, 102]⟩ : ByteArray) (d : Int) = ((chr d : Nat) : Int) := by
  have all : ∀ d : Nat, d < 16 → bt (⟨#[48, 49, 50, 51, 52, 53, 54, 55, 56, 57, 97, 98, 99, 100, 101, 102]⟩ : ByteArray) (d : Int) = ((chr d : Nat) : Int) := by decide +kernel
  exact all d h
theorem w64_4 {j : Nat} (h : j ≤ 15) : wrap64 (((4 * (j + 1) : Nat) : Int) - 4) = ((4 * j : Nat) : Int) := by simp only [wrap64]; omega
theorem text_end (n : Nat) (x : List Int) (b : Bool) : Ev (fun k => word_Text.l0 k (n : Int) x b (wrap64 (((4 * 0 : Nat) : Int) - 4))) (strOfNums x) := by
  have e : wrap64 (((4 * 0 : Nat) : Int) - 4) = -4 := by simp only [wrap64]; omega
  rw [e]
  exact Ev.step (f := fun _ => some (strOfNums x)) (fun k => by simp [word_Text.l0]) (Ev.now _)
theorem text_on (n : Nat) (hn : n < 18446744073709551616) : ∀ (j : Nat) (x : List Nat), j ≤ 15 → x.length < 1000 + (15 - j) → Ev (fun k => word_Text.l0 k (n : Int) (I x) true ((4 * j : Nat) : Int)) (str (x ++ (fw j n).map chr)) := by
  intro j
  induction j with
  | zero =>
    intro x hj hx
    have hd : n / 16 ^ 0 % 16 < 16 := Nat.mod_lt _ (by omega)
    have := text_end n (I x ++ [((chr (n / 16 ^ 0 % 16) : Nat) : Int)]) true
    rw [show I x ++ [((chr (n / 16 ^ 0 % 16) : Nat) : Int)] = I (x ++ (fw 0 n).map chr) by simp [I, fw], show strOfNums (I (x ++ (fw 0 n).map chr)) = str (x ++ (fw 0 n).map chr) from strOfNums_str _] at this
    refine Ev.step (fun k => ?_) this
    simp only [word_Text.l0, digit_is n 0 hn (by omega)]
    rw [if_pos (by omega), if_pos (by omega), if_pos trivial, if_pos (by omega), if_pos (by omega), if_pos (by rw [I_length]; omega), bt_chr hd]
    simp [I, fw]
  | succ j ih =>
    intro x hj hx
    have hd : n / 16 ^ (j + 1) % 16 < 16 := Nat.mod_lt _ (by omega)
    have := ih (x ++ [chr (n / 16 ^ (j + 1) % 16)]) (by omega) (by rw [List.length_append]; simp only [List.length_cons, List.length_nil]; omega)
    rw [show x ++ [chr (n / 16 ^ (j + 1) % 16)] ++ (fw j n).map chr = x ++ (fw (j + 1) n).map chr by simp [fw]] at this
    refine Ev.step (fun k => ?_) this
    simp only [word_Text.l0, digit_is n (j + 1) hn (by omega)]
    rw [if_pos (by omega), if_pos (by omega), if_pos trivial, if_pos (by omega), if_pos (by omega), if_pos (by rw [I_length]; omega), bt_chr hd, w64_4 (by omega)]
    simp [I]
theorem text_off (n : Nat) (hn : n < 18446744073709551616) : ∀ (j : Nat) (x : List Nat), j ≤ 15 → x.length < 1000 → Ev (fun k => word_Text.l0 k (n : Int) (I x) false ((4 * j : Nat) : Int)) (str (x ++ (st j n).map chr)) := by
  intro j
  induction j with
  | zero =>
    intro x hj hx
    have hd : n / 16 ^ 0 % 16 < 16 := Nat.mod_lt _ (by omega)
    have key : ∀ b, Ev (fun k => word_Text.l0 k (n : Int) (I x ++ [((chr (n / 16 ^ 0 % 16) : Nat) : Int)]) b (wrap64 (((4 * 0 : Nat) : Int) - 4))) (str (x ++ (st 0 n).map chr)) := by
      intro b
      have := text_end n (I x ++ [((chr (n / 16 ^ 0 % 16) : Nat) : Int)]) b
      rw [show I x ++ [((chr (n / 16 ^ 0 % 16) : Nat) : Int)] = I (x ++ (st 0 n).map chr) by simp [I, st], show strOfNums (I (x ++ (st 0 n).map chr)) = str (x ++ (st 0 n).map chr) from strOfNums_str _] at this
      rw [show I x ++ [((chr (n / 16 ^ 0 % 16) : Nat) : Int)] = I (x ++ (st 0 n).map chr) by simp [I, st]]
      exact this
    by_cases h0 : 0 < n / 16 ^ 0 % 16
    · refine Ev.step (fun k => ?_) (key true)
      simp only [word_Text.l0, digit_is n 0 hn (by omega)]
      rw [if_pos (by omega), if_pos (by omega), if_neg (by simp), if_pos (by omega), if_pos (by omega), if_pos (by omega), if_pos (by rw [I_length]; omega), bt_chr hd]
    · refine Ev.step (fun k => ?_) (key true)
      simp only [word_Text.l0, digit_is n 0 hn (by omega)]
      rw [if_pos (by omega), if_pos (by omega), if_neg (by simp), if_neg (by omega), if_pos (by omega), if_pos (by omega), if_pos (by omega), if_pos (by rw [I_length]; omega), bt_chr hd]
      simp [I]
  | succ j ih =>
    intro x hj hx
    have hd : n / 16 ^ (j + 1) % 16 < 16 := Nat.mod_lt _ (by omega)
    by_cases h0 : 0 < n / 16 ^ (j + 1) % 16
    · have := text_on n hn j (x ++ [chr (n / 16 ^ (j + 1) % 16)]) (by omega) (by rw [List.length_append]; simp only [List.length_cons, List.length_nil]; omega)
      rw [show x ++ [chr (n / 16 ^ (j + 1) % 16)] ++ (fw j n).map chr = x ++ (st (j + 1) n).map chr by simp [st, fw, h0]] at this
      refine Ev.step (fun k => ?_) this
      simp only [word_Text.l0, digit_is n (j + 1) hn (by omega)]
      rw [if_pos (by omega), if_pos (by omega), if_neg (by simp), if_pos (by omega), if_pos (by omega), if_pos (by omega), if_pos (by rw [I_length]; omega), bt_chr hd, w64_4 (by omega)]
      simp [I]
    · have := ih x (by omega) hx
      rw [show st j n = st (j + 1) n by simp [st, h0]] at this
      refine Ev.step (fun k => ?_) this
      simp only [word_Text.l0, digit_is n (j + 1) hn (by omega)]
      rw [if_pos (by omega), if_pos (by omega), if_neg (by simp), if_neg (by omega), if_neg (by omega), w64_4 (by omega)]
      have e : (((4 * (j + 1) : Nat) : Int) == 0) = false := by
        rw [beq_eq_false_iff_ne]; omega
      rw [e]
theorem text_is (n : Nat) (hn : n < 18446744073709551616) : Ev (fun k => word_Text.f k (n : Int)) (htext n) := by
  have := text_off n hn 15 [48, 120] (by omega) (by simp)
  rw [st_digs 15 n (by omega)] at this
  exact this
theorem w8 {d : Nat} (h : d < 256) : (IntKind.u64.wrap (d : Int)) % 256 = (d : Int) := by
  simp only [IntKind.wrap, IntKind.bits, IntKind.signed]
  simp
  omega
theorem digits_is (n : Nat) (hn : n < 18446744073709551616) : Ev (fun k => hurdleref01_digits.f k (n : Int)) (str ((digs n).map chr)) := by
  induction n using Nat.strongRecOn with
  | ind n ih =>
    have hd : n % 16 < 16 := Nat.mod_lt _ (by omega)
    have e1 : Int.tmod (n : Int) 16 = ((n % 16 : Nat) : Int) := by
      rw [Int.tmod_eq_emod_of_nonneg (by omega)]; omega
    have e2 : IntKind.u64.wrap (Int.tdiv (n : Int) 16) = ((n / 16 : Nat) : Int) := by
      rw [Int.tdiv_eq_ediv_of_nonneg (by omega)]
      simp only [IntKind.wrap, IntKind.bits, IntKind.signed]
      simp
      omega
    have e3 : n % 16 ≤ 9 → (IntKind.u64.wrap (48 + ((n % 16 : Nat) : Int))) % 256 = ((chr (n % 16) : Nat) : Int) := by
      intro h9
      have : (48 + ((n % 16 : Nat) : Int)) = ((48 + n % 16 : Nat) : Int) := by omega
      rw [this, w8 (by omega), chr, if_pos (by omega)]
    have e4 : ¬ n % 16 ≤ 9 → (IntKind.u64.wrap (87 + ((n % 16 : Nat) : Int))) % 256 = ((chr (n % 16) : Nat) : Int) := by
      intro h9
      have : (87 + ((n % 16 : Nat) : Int)) = ((87 + n % 16 : Nat) : Int) := by omega
      rw [this, w8 (by omega), chr, if_neg (by omega)]
    have es : strOfNums [((chr (n % 16) : Nat) : Int)] = str [chr (n % 16)] := strOfNums_str [chr (n % 16)]
    by_cases h : n < 16
    · rw [digs_small h]
      refine Ev.step (f := fun _ => some (str ([n].map chr))) (fun k => ?_) (Ev.now _)
      simp only [hurdleref01_digits.f, e1, e2, Option.bind_some]
      by_cases h9 : n % 16 ≤ 9
      · rw [if_neg (by omega), if_pos (by omega), e3 h9, es, Nat.mod_eq_of_lt h]; rfl
      · rw [if_pos (by omega), if_pos (by omega), e4 h9, es, Nat.mod_eq_of_lt h]; rfl
    · rw [digs_big (by omega)]
      have hl := digs_len (n / 16) 15 (by omega)
      refine Ev.step (f := fun k => (hurdleref01_digits.f k ((n / 16 : Nat) : Int)).bind fun t => if t.size + (str [chr (n % 16)]).size ≤ 9223372036854775807 then some (t ++ str [chr (n % 16)]) else none) (fun k => ?_) (Ev.bind (ih (n / 16) (by omega) (by omega)) ?_)
      · simp only [hurdleref01_digits.f, e1, e2, Option.bind_some]
        by_cases h9 : n % 16 ≤ 9
        · rw [if_neg (by omega), if_neg (by omega), e3 h9, es]
        · rw [if_pos (by omega), if_neg (by omega), e4 h9, es]
      · rw [str_size, str_size, List.length_map]
        simp only [List.length_cons, List.length_nil]
        rw [if_pos (by omega), ← str_append, List.map_append]
        exact Ev.now _
theorem rtext_is (n : Nat) (hn : n < 18446744073709551616) : Ev (fun k => hurdleref01_Text.f k (n : Int)) (htext n) := by
  refine Ev.bind (digits_is n hn) ?_
  have hl := digs_len n 15 (by omega)
  rw [str_size, List.length_map, if_pos (by omega)]
  have : (⟨#[48, 120]⟩ : ByteArray) = str [48, 120] := rfl
  rw [this, ← str_append]
  exact Ev.now _
end Go.Proofs.YtbgneakihibmbaaDoor.HexB
