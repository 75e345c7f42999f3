/- Numbers as hexadecimal texts, and texts as lists of numbers: plain facts, with no program in sight. No condition. -/
import Derived.Laws.BitsAllLaws
import Derived.Lib.Bytes
import Derived.Test.YtidlcpflfokehaaDoorM0
import Derived.Test.YtidlcpflfokehaaDoorM15
import Derived.Test.YtidlcpflfokehaaDoorM6
namespace Go.Proofs.YtidlcpflfokehaaDoor.Hex
set_option linter.unusedVariables false
set_option linter.unusedSimpArgs false
open Go.RowKit Go.Proofs.YtidlcpflfokehaaDoorW.PrintWords

/-! ### texts as lists -/
def str (l : List Nat) : ByteArray := ⟨(l.map UInt8.ofNat).toArray⟩
def Bs (l : List Nat) : Prop := ∀ x ∈ l, x < 256
def numsL (s : ByteArray) : List Nat := s.data.toList.map UInt8.toNat
theorem bytes_bs (s : ByteArray) : Bs (numsL s) := by
  intro x hx
  obtain ⟨b, _, rfl⟩ := List.mem_map.1 hx
  exact b.toNat_lt
theorem str_bytes (s : ByteArray) : str (numsL s) = s := by
  obtain ⟨⟨l⟩⟩ := s
  simp only [str, numsL, List.map_map]
  have : (UInt8.ofNat ∘ UInt8.toNat) = id := funext fun b => by simp
  rw [this, List.map_id]
theorem bytes_str {l : List Nat} (h : Bs l) : numsL (str l) = l := by
  induction l with
  | nil => rfl
  | cons x l ih =>
    have hx := h x List.mem_cons_self
    have hi := ih (fun y hy => h y (List.mem_cons_of_mem _ hy))
    simp only [numsL, str, List.map_cons, List.map_map] at hi ⊢
    simp only [List.cons.injEq]
    exact ⟨by simp [Nat.mod_eq_of_lt hx], hi⟩
theorem str_inj {a b : List Nat} (ha : Bs a) (hb : Bs b) : str a = str b ↔ a = b :=
  ⟨fun h => by rw [← bytes_str ha, ← bytes_str hb, h], fun h => by rw [h]⟩
theorem str_size (l : List Nat) : (str l).size = l.length := by simp [str, ByteArray.size]
theorem str_append (a b : List Nat) : str (a ++ b) = str a ++ str b := by
  apply ByteArray.ext
  simp [str]
theorem bs_append {a b : List Nat} : Bs (a ++ b) ↔ Bs a ∧ Bs b := by
  simp only [Bs, List.mem_append]
  exact ⟨fun h => ⟨fun x hx => h x (.inl hx), fun x hx => h x (.inr hx)⟩, fun h x hx => hx.elim (h.1 x) (h.2 x)⟩
theorem toList_inj {a b : ByteArray} : a.toList = b.toList ↔ a = b := by
  rw [ByteArray.toList_eq, ByteArray.toList_eq]
  constructor
  · intro h
    cases a; cases b
    simpa using h
  · intro h; rw [h]
theorem strOfNums_str (l : List Nat) : strOfNums (l.map fun n : Nat => (n : Int)) = str l := by
  simp [strOfNums, str, Function.comp_def]

/-! ### digits -/
def chr (d : Nat) : Nat := if d < 10 then 48 + d else 87 + d
def digs (n : Nat) : List Nat := if n < 16 then [n] else digs (n / 16) ++ [n % 16]
termination_by n
decreasing_by omega
theorem digs_small {n : Nat} (h : n < 16) : digs n = [n] := by rw [digs, if_pos h]
theorem digs_big {n : Nat} (h : 16 ≤ n) : digs n = digs (n / 16) ++ [n % 16] := by rw [digs, if_neg (by omega)]
theorem digs_snoc {n v : Nat} (hn : 0 < n) (hv : v < 16) : digs (n * 16 + v) = digs n ++ [v] := by
  rw [digs_big (by omega), show (n * 16 + v) / 16 = n by omega, show (n * 16 + v) % 16 = v by omega]
theorem digs_lt (n : Nat) : ∀ d ∈ digs n, d < 16 := by
  induction n using Nat.strongRecOn with
  | ind n ih =>
    by_cases h : n < 16
    · rw [digs_small h]; intro d hd; simp at hd; omega
    · rw [digs_big (by omega)]
      intro d hd
      rcases List.mem_append.1 hd with hd | hd
      · exact ih (n / 16) (by omega) d hd
      · simp at hd; omega
theorem digs_len (n j : Nat) (h : n < 16 ^ (j + 1)) : (digs n).length ≤ j + 1 := by
  induction j generalizing n with
  | zero => rw [digs_small (by omega)]; simp
  | succ j ih =>
    by_cases h2 : n < 16
    · rw [digs_small h2]; simp
    · rw [digs_big (by omega), List.length_append]
      have := ih (n / 16) (by rw [Nat.pow_succ] at h; omega)
      simp only [List.length_cons, List.length_nil]
      omega
theorem digs_pos (n : Nat) : 0 < (digs n).length := by
  by_cases h : n < 16
  · rw [digs_small h]; simp
  · rw [digs_big (by omega)]; simp
theorem digs_head (n : Nat) (h : 0 < n) : ∃ d r, digs n = d :: r ∧ 0 < d := by
  induction n using Nat.strongRecOn with
  | ind n ih =>
    by_cases h2 : n < 16
    · exact ⟨n, [], digs_small h2, h⟩
    · obtain ⟨d, r, e, hd⟩ := ih (n / 16) (by omega) (by omega)
      exact ⟨d, r ++ [n % 16], by rw [digs_big (by omega), e]; rfl, hd⟩
theorem chr_lt {d : Nat} (h : d < 16) : chr d < 256 := by unfold chr; split <;> omega
theorem chr_ne {d : Nat} (h : d < 16) : chr d ≠ 32 := by unfold chr; split <;> omega
def hexL (n : Nat) : List Nat := 48 :: 120 :: (digs n).map chr
def htext (n : Nat) : ByteArray := str (hexL n)
theorem hexL_bs (n : Nat) : Bs (hexL n) := by
  intro x hx
  simp only [hexL, List.mem_cons, List.mem_map] at hx
  rcases hx with rfl | rfl | ⟨d, hd, rfl⟩
  · omega
  · omega
  · exact chr_lt (digs_lt n d hd)
theorem hexL_ne (n : Nat) : ∀ x ∈ hexL n, x ≠ 32 := by
  intro x hx
  simp only [hexL, List.mem_cons, List.mem_map] at hx
  rcases hx with rfl | rfl | ⟨d, hd, rfl⟩
  · omega
  · omega
  · exact chr_ne (digs_lt n d hd)
theorem hexL_len {n : Nat} (h : n < 18446744073709551616) : (hexL n).length ≤ 18 := by
  have := digs_len n 15 (by omega)
  simp only [hexL, List.length_cons, List.length_map]
  omega
theorem hexL_len3 (n : Nat) : 3 ≤ (hexL n).length := by
  have := digs_pos n
  simp only [hexL, List.length_cons, List.length_map]
  omega

/-! ### digits of a set width -/
def fw : Nat → Nat → List Nat
  | 0, n => [n % 16]
  | j + 1, n => n / 16 ^ (j + 1) % 16 :: fw j n
def st : Nat → Nat → List Nat
  | 0, n => [n % 16]
  | j + 1, n => if 0 < n / 16 ^ (j + 1) % 16 then fw (j + 1) n else st j n
theorem fw_snoc (j n : Nat) : fw (j + 1) n = fw j (n / 16) ++ [n % 16] := by
  induction j with
  | zero => simp [fw]
  | succ j ih =>
    rw [fw, ih, fw, List.cons_append]
    congr 2
    rw [Nat.pow_succ 16 (j + 1), Nat.mul_comm, ← Nat.div_div_eq_div_mul]
theorem fw_digs (j n : Nat) (h1 : n < 16 ^ (j + 1)) (h2 : 16 ^ j ≤ n ∨ j = 0) : fw j n = digs n := by
  induction j generalizing n with
  | zero => rw [fw, digs_small (by omega), Nat.mod_eq_of_lt (by omega)]
  | succ j ih =>
    have hp : 0 < 16 ^ j := Nat.pow_pos (by omega)
    have hge : 16 ^ (j + 1) ≤ n := by rcases h2 with h | h; exact h; omega
    have e1 : 16 ^ (j + 1) = 16 ^ j * 16 := Nat.pow_succ 16 j
    have e2 : 16 ^ (j + 1 + 1) = 16 ^ (j + 1) * 16 := Nat.pow_succ 16 (j + 1)
    rw [fw_snoc, ih (n / 16) (by omega) (by left; omega), digs_big (n := n) (by omega)]
theorem st_digs (j n : Nat) (h : n < 16 ^ (j + 1)) : st j n = digs n := by
  induction j with
  | zero => rw [st, digs_small (by omega), Nat.mod_eq_of_lt (by omega)]
  | succ j ih =>
    have hp : 0 < 16 ^ (j + 1) := Nat.pow_pos (by omega)
    have e2 : 16 ^ (j + 1 + 1) = 16 ^ (j + 1) * 16 := Nat.pow_succ 16 (j + 1)
    have hq : n / 16 ^ (j + 1) < 16 := by rw [Nat.div_lt_iff_lt_mul hp]; omega
    rw [st, Nat.mod_eq_of_lt hq]
    by_cases h0 : 0 < n / 16 ^ (j + 1)
    · rw [if_pos h0]
      exact fw_digs (j + 1) n h (.inl (Nat.le_of_not_lt (fun hlt => by rw [Nat.div_eq_of_lt hlt] at h0; omega)))
    · rw [if_neg h0]
      refine ih ?_
      have : n / 16 ^ (j + 1) = 0 := Nat.eq_zero_of_not_pos h0
      rcases Nat.div_eq_zero_iff.1 this with h | h
      · omega
      · exact h
end Go.Proofs.YtidlcpflfokehaaDoor.Hex

/- What the program's and the document's functions of number texts compute. No condition but that the number is one of 64 bits. -/
namespace Go.Proofs.YtidlcpflfokehaaDoor.HexB
set_option linter.unusedVariables false
set_option linter.unusedSimpArgs false
open Go.RowKit Go.Proofs.YtidlcpflfokehaaDoorW.PrintWords Go.Proofs.YtidlcpflfokehaaDoorW.PrintLast Go.Proofs.YtidlcpflfokehaaDoorW.PrintMore Go.Proofs.YtidlcpflfokehaaDoor.M Go.Proofs.YtidlcpflfokehaaDoor.Hex

def I (l : List Nat) : List Int := l.map fun n : Nat => (n : Int)
theorem I_append (a b : List Nat) : I (a ++ b) = I a ++ I b := by simp [I]
theorem I_length (a : List Nat) : (I a).length = a.length := by simp [I]
theorem pow4 (j : Nat) : 2 ^ (4 * j) = 16 ^ j := by rw [Nat.pow_mul]
theorem shr_is (n j : Nat) (hj : j ≤ 15) : shr .u64 (n : Int) ((4 * j : Nat) : Int) = ((n / 16 ^ j : Nat) : Int) := by
  unfold shr
  rw [Int.toNat_natCast, Nat.min_eq_left (show 4 * j ≤ IntKind.u64.bits from by simp only [IntKind.bits]; omega), Int.natCast_ediv, ← pow4 j]
  congr 1
theorem digit_is (n j : Nat) (hn : n < 18446744073709551616) (hj : j ≤ 15) : Go.bits .and .u64 (shr .u64 (n : Int) ((4 * j : Nat) : Int)) 15 = ((n / 16 ^ j % 16 : Nat) : Int) := by
  rw [shr_is n j hj]
  have hq : n / 16 ^ j < 18446744073709551616 := Nat.lt_of_le_of_lt (Nat.div_le_self _ _) hn
  have := u64_and_nat (n / 16 ^ j) 15 hq (by omega)
  rw [show (15 : Int) = ((15 : Nat) : Int) from rfl, this, Nat.and_two_pow_sub_one_eq_mod _ 4]
theorem bt_chr {d : Nat} (h : d < 16) : bt (⟨#[48, 49, 50, 51, 52, 53, 54, 55, 56, 57, 97, 98, 99, 100, 101, 102]⟩ : ByteArray) (d : Int) = ((chr d : Nat) : Int) := by
  have all : ∀ d : Nat, d < 16 → bt (⟨#[48, 49, 50, 51, 52, 53, 54, 55, 56, 57, 97, 98, 99, 100, 101, 102]⟩ : ByteArray) (d : Int) = ((chr d : Nat) : Int) := by decide +kernel
  exact all d h
theorem w64_4 {j : Nat} (h : j ≤ 15) : wrap64 (((4 * (j + 1) : Nat) : Int) - 4) = ((4 * j : Nat) : Int) := by simp only [wrap64]; omega
theorem w8 {d : Nat} (h : d < 256) : (IntKind.u64.wrap (d : Int)) % 256 = (d : Int) := by
  simp only [IntKind.wrap, IntKind.bits, IntKind.signed]
  simp
  omega
theorem digits_is (n : Nat) (hn : n < 18446744073709551616) : Ev (fun k => hurdleref01_digits.f k (n : Int)) (str ((digs n).map chr)) := by
  induction n using Nat.strongRecOn with
  | ind n ih =>
    have hd : n % 16 < 16 := Nat.mod_lt _ (by omega)
    have e1 : Int.tmod (n : Int) 16 = ((n % 16 : Nat) : Int) := by
      rw [Int.tmod_eq_emod_of_nonneg (by omega)]; omega
    have e2 : IntKind.u64.wrap (Int.tdiv (n : Int) 16) = ((n / 16 : Nat) : Int) := by
      rw [Int.tdiv_eq_ediv_of_nonneg (by omega)]
      simp only [IntKind.wrap, IntKind.bits, IntKind.signed]
      simp
      omega
    have e3 : n % 16 ≤ 9 → (IntKind.u64.wrap (48 + ((n % 16 : Nat) : Int))) % 256 = ((chr (n % 16) : Nat) : Int) := by
      intro h9
      have : (48 + ((n % 16 : Nat) : Int)) = ((48 + n % 16 : Nat) : Int) := by omega
      rw [this, w8 (by omega), chr, if_pos (by omega)]
    have e4 : ¬ n % 16 ≤ 9 → (IntKind.u64.wrap (87 + ((n % 16 : Nat) : Int))) % 256 = ((chr (n % 16) : Nat) : Int) := by
      intro h9
      have : (87 + ((n % 16 : Nat) : Int)) = ((87 + n % 16 : Nat) : Int) := by omega
      rw [this, w8 (by omega), chr, if_neg (by omega)]
    have es : strOfNums [((chr (n % 16) : Nat) : Int)] = str [chr (n % 16)] := strOfNums_str [chr (n % 16)]
    by_cases h : n < 16
    · rw [digs_small h]
      refine Ev.step (f := fun _ => some (str ([n].map chr))) (fun k => ?_) (Ev.now _)
      simp only [hurdleref01_digits.f, e1, e2, Option.bind_some]
      by_cases h9 : n % 16 ≤ 9
      · rw [if_neg (by omega), if_pos (by omega), e3 h9, es, Nat.mod_eq_of_lt h]; rfl
      · rw [if_pos (by omega), if_pos (by omega), e4 h9, es, Nat.mod_eq_of_lt h]; rfl
    · rw [digs_big (by omega)]
      have hl := digs_len (n / 16) 15 (by omega)
      refine Ev.step (f := fun k => (hurdleref01_digits.f k ((n / 16 : Nat) : Int)).bind fun t => if t.size + (str [chr (n % 16)]).size ≤ 9223372036854775807 then some (t ++ str [chr (n % 16)]) else none) (fun k => ?_) (Ev.bind (ih (n / 16) (by omega) (by omega)) ?_)
      · simp only [hurdleref01_digits.f, e1, e2, Option.bind_some]
        by_cases h9 : n % 16 ≤ 9
        · rw [if_neg (by omega), if_neg (by omega), e3 h9, es]
        · rw [if_pos (by omega), if_neg (by omega), e4 h9, es]
      · rw [str_size, str_size, List.length_map]
        simp only [List.length_cons, List.length_nil]
        rw [if_pos (by omega), ← str_append, List.map_append]
        exact Ev.now _
theorem rtext_is (n : Nat) (hn : n < 18446744073709551616) : Ev (fun k => hurdleref01_Text.f k (n : Int)) (htext n) := by
  refine Ev.bind (digits_is n hn) ?_
  have hl := digs_len n 15 (by omega)
  rw [str_size, List.length_map, if_pos (by omega)]
  have : (⟨#[48, 120]⟩ : ByteArray) = str [48, 120] := rfl
  rw [this, ← str_append]
  exact Ev.now _
end Go.Proofs.YtidlcpflfokehaaDoor.HexB

/- What the program's reading of a number's text computes: a text is read as a number just if it is that number's own text. No condition. -/
namespace Go.Proofs.YtidlcpflfokehaaDoor.HexP
set_option linter.unusedVariables false
set_option linter.unusedSimpArgs false
open Go.RowKit Go.Proofs.YtidlcpflfokehaaDoorW.PrintWords Go.Proofs.YtidlcpflfokehaaDoorW.PrintLast Go.Proofs.YtidlcpflfokehaaDoorW.PrintMore Go.Proofs.YtidlcpflfokehaaDoor.M Go.Proofs.YtidlcpflfokehaaDoor.Hex Go.Proofs.YtidlcpflfokehaaDoor.HexB

theorem str_extract (l : List Nat) (a b : Nat) : (str l).extract a b = str ((l.take b).drop a) := by
  apply ByteArray.ext
  apply Array.ext'
  simp only [str, ByteArray.data_extract, Array.toList_extract, List.extract_eq_take_drop, List.map_drop, List.map_take, List.take_drop]
  by_cases h : a ≤ b
  · rw [show a + (b - a) = b by omega]
  · rw [List.drop_eq_nil_of_le (by rw [List.length_take]; omega), List.drop_eq_nil_of_le (by rw [List.length_take]; omega)]
theorem str_get (l : List Nat) (i : Nat) (h : i < l.length) (hb : Bs l) : ((str l).get! i).toNat = l[i] := by
  have e : (str l).get! i = UInt8.ofNat l[i] := by
    simp [str, ByteArray.get!, h]
  rw [e]
  have := hb l[i] (List.getElem_mem h)
  simp [Nat.mod_eq_of_lt this]
theorem str_toList (l : List Nat) : (str l).toList = l.map UInt8.ofNat := by rw [ByteArray.toList_eq]; simp [str]
theorem bt_str (l : List Nat) (i : Nat) (h : i < l.length) (hb : Bs l) : bt (str l) (i : Int) = (l[i] : Int) := by
  have := hb l[i] (List.getElem_mem h)
  unfold bt
  rw [dif_pos (by rw [Int.toNat_natCast, str_size]; exact h)]
  simp only [Int.toNat_natCast]
  have e : (str l)[i]'(by rw [str_size]; exact h) = UInt8.ofNat l[i] := by simp [str, ByteArray.getElem_eq_getElem_data]
  rw [e]
  simp [Nat.mod_eq_of_lt this]

def valL : List Nat → Nat → Option Nat
  | [], n => some n
  | c :: l, n => match hexV c with
    | some v => valL l (n * 16 + v)
    | none => none
theorem hexV_some {c v : Nat} (h : hexV c = some v) : v < 16 ∧ c = chr v := by
  unfold hexV at h
  split at h
  · obtain rfl := Option.some.inj h
    rename_i hc
    exact ⟨by omega, by unfold chr; rw [if_pos (by omega)]; omega⟩
  · split at h
    · obtain rfl := Option.some.inj h
      rename_i hc
      exact ⟨by omega, by unfold chr; rw [if_neg (by omega)]; omega⟩
    · cases h
theorem hexV_chr {v : Nat} (h : v < 16) : hexV (chr v) = some v := by
  have all : ∀ v : Nat, v < 16 → hexV (chr v) = some v := by decide
  exact all v h
theorem or_is (n v : Nat) (hn : n * 16 < 18446744073709551616) (hv : v < 16) : Go.bits .or .u64 (IntKind.u64.wrap ((n : Int) * 16)) (v : Int) = ((n * 16 + v : Nat) : Int) := by
  have e : IntKind.u64.wrap ((n : Int) * 16) = ((n * 16 : Nat) : Int) := by
    simp only [IntKind.wrap, IntKind.bits, IntKind.signed]
    simp
    omega
  rw [e, u64_or_nat (n * 16) v hn (by omega), nat_join 4 (n * 16) v (by omega) (by omega)]
theorem hexGo_is (l : List Nat) (hb : Bs l) : ∀ (m i n j : Nat), i + m = l.length → j + m ≤ 16 → n < 16 ^ j → hexGo (str l) m (n : Int) = match valL (l.drop i) n with
    | some v => ((v : Int), 0)
    | none => (0, 2) := by
  intro m
  induction m with
  | zero =>
    intro i n j hi hj hn
    rw [List.drop_of_length_le (by omega)]
    rfl
  | succ m ih =>
    intro i n j hi hj hn
    have hlt : i < l.length := by omega
    have e : (str l).size - (m + 1) = i := by rw [str_size]; omega
    rw [hexGo, e, str_get l i hlt hb, List.drop_eq_getElem_cons hlt, valL]
    cases hv : hexV l[i] with
    | none => rfl
    | some v =>
      have h16 := (hexV_some hv).1
      have hle : 16 ^ (j + 1) ≤ 16 ^ 16 := Nat.pow_le_pow_right (by omega) (by omega)
      have e1 : 16 ^ (j + 1) = 16 ^ j * 16 := Nat.pow_succ 16 j
      have e16 : (16 : Nat) ^ 16 = 18446744073709551616 := by decide
      simp only
      rw [or_is n v (by omega) h16]
      exact ih (i + 1) (n * 16 + v) (j + 1) (by omega) (by omega) (by omega)
/-- More digits behind a number that is not 0. -/
theorem valL_digs : ∀ (l : List Nat) (n m : Nat), 0 < n → valL l n = some m → l = ((digs m).drop (digs n).length).map chr ∧ (digs m).take (digs n).length = digs n ∧ m < (n + 1) * 16 ^ l.length := by
  intro l
  induction l with
  | nil =>
    intro n m hn h
    obtain rfl := Option.some.inj h
    simp
  | cons c l ih =>
    intro n m hn h
    rw [valL] at h
    cases hv : hexV c with
    | none => rw [hv] at h; cases h
    | some v =>
      rw [hv] at h
      obtain ⟨h16, hc⟩ := hexV_some hv
      obtain ⟨h1, h2, h3⟩ := ih (n * 16 + v) m (by omega) h
      rw [digs_snoc hn h16] at h1 h2
      rw [List.length_append, List.length_singleton] at h1 h2
      refine ⟨?_, ?_, ?_⟩
      · have e : (digs m).drop (digs n).length = v :: (digs m).drop ((digs n).length + 1) := by
          have := congrArg (List.drop (digs n).length) h2
          rw [List.drop_take, List.drop_left] at this
          have hsub : (digs n).length + 1 - (digs n).length = 1 := by omega
          rw [hsub] at this
          rw [← List.take_append_drop 1 ((digs m).drop (digs n).length), this, List.drop_drop]
          rfl
        rw [e, List.map_cons, ← h1, hc]
      · have := congrArg (List.take (digs n).length) h2
        rw [List.take_take, List.take_left, Nat.min_eq_left (by omega)] at this
        exact this
      · refine Nat.lt_of_lt_of_le h3 ?_
        rw [List.length_cons, Nat.pow_succ, Nat.mul_comm (16 ^ l.length) 16, ← Nat.mul_assoc]
        exact Nat.mul_le_mul_right _ (by omega)
theorem valL_snoc : ∀ (l : List Nat) (n : Nat) (c : Nat), valL (l ++ [c]) n = (valL l n).bind fun m => valL [c] m := by
  intro l
  induction l with
  | nil => intro n c; rfl
  | cons x l ih =>
    intro n c
    rw [List.cons_append, valL, valL]
    cases hexV x with
    | none => rfl
    | some v => exact ih (n * 16 + v) c
theorem valL_self (n : Nat) : valL ((digs n).map chr) 0 = some n := by
  induction n using Nat.strongRecOn with
  | ind n ih =>
    by_cases h : n < 16
    · rw [digs_small h, List.map_cons, List.map_nil, valL, hexV_chr h]
      simp [valL]
    · rw [digs_big (by omega), List.map_append, List.map_cons, List.map_nil, valL_snoc, ih (n / 16) (by omega)]
      rw [Option.bind_some, valL, hexV_chr (Nat.mod_lt _ (by omega))]
      simp only [valL, Option.some.injEq]
      omega
theorem hexL_two (n : Nat) : (hexL n).take 2 = [48, 120] := rfl
theorem hexL_drop (n : Nat) : (hexL n).drop 2 = (digs n).map chr := rfl
theorem parse_self (n : Nat) (hn : n < 18446744073709551616) : word_Parse.f (htext n) = some ((n : Int), 0) := by
  have h1 := hexL_len hn
  have h2 := hexL_len3 n
  have hl : (digs n).length ≤ 16 := digs_len n 15 (by omega)
  have hb := hexL_bs n
  have hx : (hexL n).length = (digs n).length + 2 := by simp [hexL]
  unfold word_Parse.f htext
  rw [str_size, if_neg (by omega), if_neg (by omega), str_extract, str_extract, List.drop_zero, hexL_two, if_neg (by rw [str_toList]; simp), if_neg, List.take_of_length_le (Nat.le_refl _), hexL_drop, hx]
  · have := hexGo_is ((digs n).map chr) (fun x hx => hb x (by simp only [hexL, List.mem_cons]; exact .inr (.inr hx))) (digs n).length 0 0 0 (by simp) (by omega) (by omega)
    rw [List.drop_zero, valL_self] at this
    rw [show (digs n).length + 2 - 2 = (digs n).length by omega]
    exact congrArg some this
  · rintro ⟨e, h3⟩
    rw [show (2 : Int) = ((2 : Nat) : Int) from rfl, bt_str _ 2 (by omega) hb] at e
    have hpos : 0 < n := by
      rcases Nat.eq_zero_or_pos n with rfl | h
      · rw [hx, digs_small (by omega)] at h3
        simp at h3
      · exact h
    obtain ⟨d, r, hd, h0⟩ := digs_head n hpos
    have h16 := digs_lt n d (by rw [hd]; simp)
    have : (hexL n)[2]'(by omega) = chr d := by simp [hexL, hd]
    rw [this] at e
    unfold chr at e
    split at e <;> omega
theorem parse_only (s : ByteArray) (m : Int) (h : word_Parse.f s = some (m, 0)) : ∃ n : Nat, m = (n : Int) ∧ n < 18446744073709551616 ∧ s = htext n := by
  have hb := bytes_bs s
  have hs := str_bytes s
  generalize numsL s = l at hb hs
  subst hs
  unfold word_Parse.f at h
  rw [Option.some.injEq, str_size, str_extract, str_extract, List.drop_zero] at h
  split at h
  · cases h
  rename_i c1
  split at h
  · cases h
  rename_i c2
  split at h
  · cases h
  rename_i c3
  split at h
  · cases h
  rename_i c4
  rw [List.take_of_length_le (Nat.le_refl _)] at h
  have hb2 : Bs (l.drop 2) := fun x hx => hb x (List.mem_of_mem_drop hx)
  have c3 : l.take 2 = [48, 120] := by
    have c3 : (str (l.take 2)).toList = [48, 120] := Classical.byContradiction fun c => c3 c
    have : str (l.take 2) = str [48, 120] := toList_inj.1 (by rw [c3, str_toList]; rfl)
    exact (str_inj (fun x hx => hb x (List.mem_of_mem_take hx)) (by intro x hx; simp at hx; omega)).1 this
  have hg := hexGo_is (l.drop 2) hb2 (l.length - 2) 0 0 0 (by rw [List.length_drop]; omega) (by omega) (by omega)
  rw [List.drop_zero] at hg
  rw [show ((0 : Nat) : Int) = 0 from rfl, h] at hg
  have hl : l = 48 :: 120 :: l.drop 2 := by
    conv => lhs; rw [← List.take_append_drop 2 l, c3]
    rfl
  cases hv : valL (l.drop 2) 0 with
  | none => rw [hv] at hg; simp at hg
  | some v =>
    rw [hv] at hg
    simp only [Prod.mk.injEq, and_true] at hg
    have key : l.drop 2 = (digs v).map chr ∧ v < 18446744073709551616 := by
      obtain ⟨c, r, hcr⟩ : ∃ c r, l.drop 2 = c :: r := by
        cases hd : l.drop 2 with
        | nil => have := congrArg List.length hd; rw [List.length_drop] at this; simp at this; omega
        | cons c r => exact ⟨c, r, rfl⟩
      have hlen : r.length + 3 = l.length := by
        have := congrArg List.length hcr
        rw [List.length_drop, List.length_cons] at this
        omega
      have h2 : l[2]'(by omega) = c := by
        have : (l.drop 2)[0]'(by rw [List.length_drop]; omega) = c := by simp [hcr]
        rw [List.getElem_drop] at this
        exact this
      rw [hcr, valL] at hv
      cases hc : hexV c with
      | none => rw [hc] at hv; cases hv
      | some v0 =>
        rw [hc] at hv
        obtain ⟨h16, hcc⟩ := hexV_some hc
        simp only [Nat.zero_mul, Nat.zero_add] at hv
        rcases Nat.eq_zero_or_pos v0 with rfl | hp
        · have hr : r = [] := by
            apply List.eq_nil_of_length_eq_zero
            apply Classical.byContradiction
            intro hne
            apply c4
            refine ⟨?_, by omega⟩
            rw [show (2 : Int) = ((2 : Nat) : Int) from rfl, bt_str _ 2 (by omega) hb, h2, hcc]
            rfl
          subst hr
          obtain rfl := Option.some.inj hv
          rw [hcr, hcc, digs_small (by omega)]
          exact ⟨rfl, by omega⟩
        · obtain ⟨k1, k2, k3⟩ := valL_digs r v0 v hp hv
          rw [digs_small h16, List.length_singleton] at k1 k2
          have hdv : digs v = v0 :: (digs v).drop 1 := by
            conv => lhs; rw [← List.take_append_drop 1 (digs v), k2]
            rfl
          refine ⟨?_, ?_⟩
          · rw [hcr, hdv, List.map_cons, ← k1, hcc]
          · have hle : 16 ^ r.length ≤ 16 ^ 15 := Nat.pow_le_pow_right (by omega) (by omega)
            have h3 : (v0 + 1) * 16 ^ r.length ≤ 16 * 16 ^ 15 := Nat.mul_le_mul (by omega) hle
            omega
    refine ⟨v, hg, key.2, ?_⟩
    rw [htext, hexL, ← key.1, ← hl]
end Go.Proofs.YtidlcpflfokehaaDoor.HexP
