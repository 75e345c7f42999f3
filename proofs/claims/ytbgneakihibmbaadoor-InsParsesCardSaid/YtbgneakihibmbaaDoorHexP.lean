/- What the program's reading of a number's text computes: a text is read as a number just if it is that number's own text. No condition. -/
import Derived.Test.YtbgneakihibmbaaDoorM7
import Derived.Test.YtbgneakihibmbaaDoorHexB
namespace Go.Proofs.YtbgneakihibmbaaDoor.HexP
set_option linter.unusedVariables false
set_option linter.unusedSimpArgs false
open Go.RowKit Go.Proofs.YtbgneakihibmbaaDoorW.PrintWords Go.Proofs.YtbgneakihibmbaaDoorW.PrintLast Go.Proofs.YtbgneakihibmbaaDoorW.PrintMore Go.Proofs.YtbgneakihibmbaaDoor.M Go.Proofs.YtbgneakihibmbaaDoor.Hex Go.Proofs.YtbgneakihibmbaaDoor.HexB

theorem str_extract (l : List Nat) (a b : Nat) : (str l).extract a b = str ((l.take b).drop a) := by
  apply ByteArray.ext
  apply Array.ext'
  simp only [str, ByteArray.data_extract, Array.toList_extract, List.extract_eq_take_drop, List.map_drop, List.map_take, List.take_drop]
  by_cases h : a ≤ b
  · rw [show a + (b - a) = b by omega]
  · rw [List.drop_eq_nil_of_le (by rw [List.length_take]; omega), List.drop_eq_nil_of_le (by rw [List.length_take]; omega)]
theorem str_get (l : List Nat) (i : Nat) (h : i < l.length) (hb : Bs l) : ((str l).get! i).toNat = l[i] := by
  have e : (str l).get! i = UInt8.ofNat l[i] := by
    simp [str, ByteArray.get!, h]
  rw [e]
  have := hb l[i] (List.getElem_mem h)
  simp [Nat.mod_eq_of_lt this]
theorem str_toList (l : List Nat) : (str l).toList = l.map UInt8.ofNat := by rw [ByteArray.toList_eq]; simp [str]
theorem bt_str (l : List Nat) (i : Nat) (h : i < l.length) (hb : Bs l) : bt (str l) (i : Int) = (l[i] : Int) := by
  have := hb l[i] (List.getElem_mem h)
  unfold bt
  rw [dif_pos (by rw [Int.toNat_natCast, str_size]; exact h)]
  simp only [Int.toNat_natCast]
  have e : (str l)[i]'(by rw [str_size]; exact h) = UInt8.ofNat l[i] := by simp [str, ByteArray.getElem_eq_getElem_data]
  rw [e]
  simp [Nat.mod_eq_of_lt this]

def valL : List Nat → Nat → Option Nat
  | [], n => some n
  | c :: l, n => match hexV c with
    | some v => valL l (n * 16 + v)
    | none => none
theorem hexV_some {c v : Nat} (h : hexV c = some v) : v < 16 ∧ c = chr v := by
  unfold hexV at h
  split at h
  · obtain rfl := Option.some.inj h
    rename_i hc
    exact ⟨by omega, by unfold chr; rw [if_pos (by omega)]; omega⟩
  · split at h
    · obtain rfl := Option.some.inj h
      rename_i hc
      exact ⟨by omega, by unfold chr; rw [if_neg (by omega)]; omega⟩
    · cases h
theorem hexV_chr {v : Nat} (h : v < 16) : hexV (chr v) = some v := by
  have all : ∀ v : Nat, v < 16 → hexV (chr v) = some v := by decide
  exact all v h
theorem or_is (n v : Nat) (hn : n * 16 < 18446744073709551616) (hv : v < 16) : Go.bits .or .u64 (IntKind.u64.wrap ((n : Int) * 16)) (v : Int) = ((n * 16 + v : Nat) : Int) := by
  have e : IntKind.u64.wrap ((n : Int) * 16) = ((n * 16 : Nat) : Int) := by
    simp only [IntKind.wrap, IntKind.bits, IntKind.signed]
    simp
    omega
  rw [e, u64_or_nat (n * 16) v hn (by omega), nat_join 4 (n * 16) v (by omega) (by omega)]
theorem hexGo_is (l : List Nat) (hb : Bs l) : ∀ (m i n j : Nat), i + m = l.length → j + m ≤ 16 → n < 16 ^ j → hexGo (str l) m (n : Int) = match valL (l.drop i) n with
    | some v => ((v : Int), 0)
    | none => (0, 2) := by
  intro m
  induction m with
  | zero =>
    intro i n j hi hj hn
    rw [List.drop_of_length_le (by omega)]
    rfl
  | succ m ih =>
    intro i n j hi hj hn
    have hlt : i < l.length := by omega
    have e : (str l).size - (m + 1) = i := by rw [str_size]; omega
    rw [hexGo, e, str_get l i hlt hb, List.drop_eq_getElem_cons hlt, valL]
    cases hv : hexV l[i] with
    | none => rfl
    | some v =>
      have h16 := (hexV_some hv).1
      have hle : 16 ^ (j + 1) ≤ 16 ^ 16 := Nat.pow_le_pow_right (by omega) (by omega)
      have e1 : 16 ^ (j + 1) = 16 ^ j * 16 := Nat.pow_succ 16 j
      have e16 : (16 : Nat) ^ 16 = 18446744073709551616 := by decide
      simp only
      rw [or_is n v (by omega) h16]
      exact ih (i + 1) (n * 16 + v) (j + 1) (by omega) (by omega) (by omega)
/-- More digits behind a number that is not 0. -/
theorem valL_digs : ∀ (l : List Nat) (n m : Nat), 0 < n → valL l n = some m → l = ((digs m).drop (digs n).length).map chr ∧ (digs m).take (digs n).length = digs n ∧ m < (n + 1) * 16 ^ l.length := by
  intro l
  induction l with
  | nil =>
    intro n m hn h
    obtain rfl := Option.some.inj h
    simp
  | cons c l ih =>
    intro n m hn h
    rw [valL] at h
    cases hv : hexV c with
    | none => rw [hv] at h; cases h
    | some v =>
      rw [hv] at h
      obtain ⟨h16, hc⟩ := hexV_some hv
      obtain ⟨h1, h2, h3⟩ := ih (n * 16 + v) m (by omega) h
      rw [digs_snoc hn h16] at h1 h2
      rw [List.length_append, List.length_singleton] at h1 h2
      refine ⟨?_, ?_, ?_⟩
      · have e : (digs m).drop (digs n).length = v :: (digs m).drop ((digs n).length + 1) := by
          have := congrArg (List.drop (digs n).length) h2
          rw [List.drop_take, List.drop_left] at this
          have hsub : (digs n).length + 1 - (digs n).length = 1 := by omega
          rw [hsub] at this
          rw [← List.take_append_drop 1 ((digs m).drop (digs n).length), this, List.drop_drop]
          rfl
        rw [e, List.map_cons, ← h1, hc]
      · have := congrArg (List.take (digs n).length) h2
        rw [List.take_take, List.take_left, Nat.min_eq_left (by omega)] at this
        exact this
      · refine Nat.lt_of_lt_of_le h3 ?_
        rw [List.length_cons, Nat.pow_succ, Nat.mul_comm (16 ^ l.length) 16, ← Nat.mul_assoc]
        exact Nat.mul_le_mul_right _ (by omega)
theorem valL_snoc : ∀ (l : List Nat) (n : Nat) (c : Nat), valL (l ++ [c]) n = (valL l n).bind fun m => valL [c] m := by
  intro l
  induction l with
  | nil => intro n c; rfl
  | cons x l ih =>
    intro n c
    rw [List.cons_append, valL, valL]
    cases hexV x with
    | none => rfl
    | some v => exact ih (n * 16 + v) c
theorem valL_self (n : Nat) : valL ((digs n).map chr) 0 = some n := by
  induction n using Nat.strongRecOn with
  | ind n ih =>
    by_cases h : n < 16
    · rw [digs_small h, List.map_cons, List.map_nil, valL, hexV_chr h]
      simp [valL]
    · rw [digs_big (by omega), List.map_append, List.map_cons, List.map_nil, valL_snoc, ih (n / 16) (by omega)]
      rw [Option.bind_some, valL, hexV_chr (Nat.mod_lt _ (by omega))]
      simp only [valL, Option.some.injEq]
      omega
theorem hexL_two (n : Nat) : (hexL n).take 2 = [48, 120] := rfl
theorem hexL_drop (n : Nat) : (hexL n).drop 2 = (digs n).map chr := rfl
theorem parse_self (n : Nat) (hn : n < 18446744073709551616) : word_Parse.f (htext n) = some ((n : Int), 0) := by
  have h1 := hexL_len hn
  have h2 := hexL_len3 n
  have hl : (digs n).length ≤ 16 := digs_len n 15 (by omega)
  have hb := hexL_bs n
  have hx : (hexL n).length = (digs n).length + 2 := by simp [hexL]
  unfold word_Parse.f htext
  rw [str_size, if_neg (by omega), if_neg (by omega), str_extract, str_extract, List.drop_zero, hexL_two, if_neg (by rw [str_toList]; simp), if_neg, List.take_of_length_le (Nat.le_refl _), hexL_drop, hx]
  · have := hexGo_is ((digs n).map chr) (fun x hx => hb x (by simp only [hexL, List.mem_cons]; exact .inr (.inr hx))) (digs n).length 0 0 0 (by simp) (by omega) (by omega)
    rw [List.drop_zero, valL_self] at this
    rw [show (digs n).length + 2 - 2 = (digs n).length by omega]
    exact congrArg some this
  · rintro ⟨e, h3⟩
    rw [show (2 : Int) = ((2 : Nat) : Int) from rfl, bt_str _ 2 (by omega) hb] at e
    have hpos : 0 < n := by
      rcases Nat.eq_zero_or_pos n with rfl | h
      · rw [hx, digs_small (by omega)] at h3
        simp at h3
      · exact h
    obtain ⟨d, r, hd, h0⟩ := digs_head n hpos
    have h16 := digs_lt n d (by rw [hd]; simp)
    have : (hexL n)[2]'(by omega) = chr d := by simp [hexL, hd]
    rw [this] at e
    unfold chr at e
    split at e <;> omega
theorem parse_only (s : ByteArray) (m : Int) (h : word_Parse.f s = some (m, 0)) : ∃ n : Nat, m = (n : Int) ∧ n < 18446744073709551616 ∧ s = htext n := by
  have hb := bytes_bs s
  have hs := str_bytes s
  generalize numsL s = l at hb hs
  subst hs
  unfold word_Parse.f at h
  rw [Option.some.injEq, str_size, str_extract, str_extract, List.drop_zero] at h
  split at h
  · cases h
  rename_i c1
  split at h
  · cases h
  rename_i c2
  split at h
  · cases h
  rename_i c3
  split at h
  · cases h
  rename_i c4
  rw [List.take_of_length_le (Nat.le_refl _)] at h
  have hb2 : Bs (l.drop 2) := fun x hx => hb x (List.mem_of_mem_drop hx)
  have c3 : l.take 2 = [48, 120] := by
    have c3 : (str (l.take 2)).toList = [48, 120] := Classical.byContradiction fun c => c3 c
    have : str (l.take 2) = str [48, 120] := toList_inj.1 (by rw [c3, str_toList]; rfl)
    exact (str_inj (fun x hx => hb x (List.mem_of_mem_take hx)) (by intro x hx; simp at hx; omega)).1 this
  have hg := hexGo_is (l.drop 2) hb2 (l.length - 2) 0 0 0 (by rw [List.length_drop]; omega) (by omega) (by omega)
  rw [List.drop_zero] at hg
  rw [show ((0 : Nat) : Int) = 0 from rfl, h] at hg
  have hl : l = 48 :: 120 :: l.drop 2 := by
    conv => lhs; rw [← List.take_append_drop 2 l, c3]
    rfl
  cases hv : valL (l.drop 2) 0 with
  | none => rw [hv] at hg; simp at hg
  | some v =>
    rw [hv] at hg
    simp only [Prod.mk.injEq, and_true] at hg
    have key : l.drop 2 = (digs v).map chr ∧ v < 18446744073709551616 := by
      obtain ⟨c, r, hcr⟩ : ∃ c r, l.drop 2 = c :: r := by
        cases hd : l.drop 2 with
        | nil => have := congrArg List.length hd; rw [List.length_drop] at this; simp at this; omega
        | cons c r => exact ⟨c, r, rfl⟩
      have hlen : r.length + 3 = l.length := by
        have := congrArg List.length hcr
        rw [List.length_drop, List.length_cons] at this
        omega
      have h2 : l[2]'(by omega) = c := by
        have : (l.drop 2)[0]'(by rw [List.length_drop]; omega) = c := by simp [hcr]
        rw [List.getElem_drop] at this
        exact this
      rw [hcr, valL] at hv
      cases hc : hexV c with
      | none => rw [hc] at hv; cases hv
      | some v0 =>
        rw [hc] at hv
        obtain ⟨h16, hcc⟩ := hexV_some hc
        simp only [Nat.zero_mul, Nat.zero_add] at hv
        rcases Nat.eq_zero_or_pos v0 with rfl | hp
        · have hr : r = [] := by
            apply List.eq_nil_of_length_eq_zero
            apply Classical.byContradiction
            intro hne
            apply c4
            refine ⟨?_, by omega⟩
            rw [show (2 : Int) = ((2 : Nat) : Int) from rfl, bt_str _ 2 (by omega) hb, h2, hcc]
            rfl
          subst hr
          obtain rfl := Option.some.inj hv
          rw [hcr, hcc, digs_small (by omega)]
          exact ⟨rfl, by omega⟩
        · obtain ⟨k1, k2, k3⟩ := valL_digs r v0 v hp hv
          rw [digs_small h16, List.length_singleton] at k1 k2
          have hdv : digs v = v0 :: (digs v).drop 1 := by
            conv => lhs; rw [← List.take_append_drop 1 (digs v), k2]
            rfl
          refine ⟨?_, ?_⟩
          · rw [hcr, hdv, List.map_cons, ← k1, hcc]
          · have hle : 16 ^ r.length ≤ 16 ^ 15 := Nat.pow_le_pow_right (by omega) (by omega)
            have h3 : (v0 + 1) * 16 ^ r.length ≤ 16 * 16 ^ 15 := Nat.mul_le_mul (by omega) hle
            omega
    refine ⟨v, hg, key.2, ?_⟩
    rw [htext, hexL, ← key.1, ← hl]
end Go.Proofs.YtbgneakihibmbaaDoor.HexP
