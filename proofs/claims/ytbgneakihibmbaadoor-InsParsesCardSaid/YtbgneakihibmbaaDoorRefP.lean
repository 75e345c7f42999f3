/- What the document's function reads from an instruction's text. No condition. -/
import Derived.Test.YtbgneakihibmbaaDoorInsO
import Derived.Test.YtbgneakihibmbaaDoorM7
import Derived.Test.YtbgneakihibmbaaDoorM14
import Derived.Test.YtbgneakihibmbaaDoorM15
import Derived.Test.YtbgneakihibmbaaDoorM16
namespace Go.Proofs.YtbgneakihibmbaaDoor.RefP
set_option linter.unusedVariables false
set_option linter.unusedSimpArgs false
open Go.RowKit Go.Proofs.YtbgneakihibmbaaDoorW.PrintWords Go.Proofs.YtbgneakihibmbaaDoorW.PrintLast Go.Proofs.YtbgneakihibmbaaDoorW.PrintMore Go.Proofs.YtbgneakihibmbaaDoor.M Go.Proofs.YtbgneakihibmbaaDoor.Hex Go.Proofs.YtbgneakihibmbaaDoor.HexB Go.Proofs.YtbgneakihibmbaaDoor.HexP Go.Proofs.YtbgneakihibmbaaDoor.InsOps Go.Proofs.YtbgneakihibmbaaDoor.RightB Go.Proofs.YtbgneakihibmbaaDoor.InsB Go.Proofs.YtbgneakihibmbaaDoor.InsW Go.Proofs.YtbgneakihibmbaaDoor.InsR Go.Proofs.YtbgneakihibmbaaDoor.InsO

theorem ev_uniq {α : Type} {g : Nat → Option α} {a b : α} (h : Ev g a) (h' : Ev g b) : a = b := by
  obtain ⟨K, hK⟩ := h
  obtain ⟨J, hJ⟩ := h'
  exact Option.some.inj ((hK (max K J) (Nat.le_max_left _ _)).symm.trans (hJ (max K J) (Nat.le_max_right _ _)))
/-! ### a text cut at a mark -/
def spm (m : Nat) : List Nat → List Nat → List (List Nat)
  | cur, [] => [cur]
  | cur, c :: l => if c = m then cur :: spm m [] l else spm m (cur ++ [c]) l
theorem spm_sp : ∀ (l cur : List Nat), spm 32 cur l = InsW.sp cur l := by
  intro l
  induction l with
  | nil => intro cur; rfl
  | cons c l ih => intro cur; rw [spm, InsW.sp, ih, ih]
theorem cut_from (mk : Nat) (L : List Nat) (hb : Bs L) (hL : L.length < 1000000) : ∀ (m pos : Nat) (out : List (List Nat)) (c : List Nat), pos + m = L.length → out.length ≤ pos → c.length ≤ pos →
    Ev (fun k => hurdleref02_Cut.l0 k (str L) (mk : Int) (out.map str) (str c) (pos : Int)) ((out ++ spm mk c (L.drop pos)).map str) := by
  intro m
  induction m with
  | zero =>
    intro pos out c h ho hc
    refine Ev.step (f := fun _ => some ((out ++ spm mk c (L.drop pos)).map str)) (fun k => ?_) (Ev.now _)
    rw [hurdleref02_Cut.l0, str_size, if_neg (by omega), List.length_map, if_pos (by omega), List.drop_of_length_le (by omega), spm, List.map_append]
    rfl
  | succ m ih =>
    intro pos out c h ho hc
    have hp : pos < L.length := by omega
    have hbt := bt_str L pos hp hb
    have hw := w64n (n := pos) (by omega)
    have hd : L.drop pos = L[pos] :: L.drop (pos + 1) := List.drop_eq_getElem_cons hp
    by_cases hm : L[pos] = mk
    · refine Ev.step (f := fun k => hurdleref02_Cut.l0 k (str L) (mk : Int) ((out ++ [c]).map str) (str []) ((pos + 1 : Nat) : Int)) (fun k => ?_) ?_
      · rw [hurdleref02_Cut.l0, str_size, if_pos (by omega), if_pos (by omega), hbt, if_pos (by omega), List.length_map, if_pos (by omega), hw, List.map_append]
        rfl
      · have := ih (pos + 1) (out ++ [c]) [] (by omega) (by rw [List.length_append]; simp; omega) (by simp)
        rw [hd, spm, if_pos hm]
        rw [List.append_assoc] at this
        exact this
    · refine Ev.step (f := fun k => hurdleref02_Cut.l0 k (str L) (mk : Int) (out.map str) (str (c ++ [L[pos]])) ((pos + 1 : Nat) : Int)) (fun k => ?_) ?_
      · have he : (str L).extract pos (pos + 1) = str [L[pos]] := by
          rw [str_extract, List.drop_take, hd, show pos + 1 - pos = 1 by omega]
          rfl
        rw [hurdleref02_Cut.l0, str_size, if_pos (by omega), if_pos (by omega), hbt, if_neg (by omega), hw, if_pos (by omega), if_pos (by omega)]
        simp only [Int.toNat_natCast]
        rw [he, str_size, str_size, if_pos (by simp; omega), ← str_append]
      · have := ih (pos + 1) out (c ++ [L[pos]]) (by omega) (by omega) (by rw [List.length_append]; simp; omega)
        rw [hd, spm, if_neg hm]
        exact this
theorem cut_is (mk : Nat) (L : List Nat) (hb : Bs L) (hL : L.length < 1000000) : Ev (fun k => hurdleref02_Cut.f k (str L) (mk : Int)) ((spm mk [] L).map str) :=
  cut_from mk L hb hL L.length 0 [] [] (by omega) (by simp) (by simp)
/-! ### a number's text -/
theorem u64_any (z : Int) : ∃ n : Nat, n < 18446744073709551616 ∧ IntKind.u64.wrap z = (n : Int) := by
  refine ⟨(IntKind.u64.wrap z).toNat, ?_, ?_⟩ <;>
  · simp only [IntKind.wrap, IntKind.bits, IntKind.signed]
    simp
    omega
theorem rl_any (s : ByteArray) (hs : s.size < 1000) : ∀ (m pos v : Nat), pos + m = s.size → v < 18446744073709551616 → ∃ (r : Nat) (b : Bool), r < 18446744073709551616 ∧ Ev (fun k => hurdleref01_Parse.l0 k s (v : Int) (pos : Int)) ((r : Int), b) := by
  intro m
  induction m with
  | zero =>
    intro pos v h hv
    by_cases he : (htext v).toList = s.toList
    · refine ⟨v, true, hv, Ev.step (fun k => by rw [hurdleref01_Parse.l0, if_neg (by omega)]) (Ev.bind (rtext_is v hv) ?_)⟩
      rw [if_pos he]
      exact Ev.now _
    · refine ⟨0, false, by omega, Ev.step (fun k => by rw [hurdleref01_Parse.l0, if_neg (by omega)]) (Ev.bind (rtext_is v hv) ?_)⟩
      rw [if_neg he]
      exact Ev.now _
  | succ m ih =>
    intro pos v h hv
    by_cases h97 : bt s (pos : Int) ≥ 97
    · obtain ⟨n, hn, e⟩ := u64_any ((IntKind.u64.wrap ((v : Int) * 16)) + (IntKind.u64.wrap ((IntKind.u64.wrap (bt s (pos : Int))) - 87)))
      obtain ⟨r, b, hr, hh⟩ := ih (pos + 1) n (by omega) hn
      refine ⟨r, b, hr, Ev.step (fun k => ?_) hh⟩
      rw [hurdleref01_Parse.l0, if_pos (by omega), if_pos (by omega), if_pos h97, w64n (by omega), e]
    · obtain ⟨n, hn, e⟩ := u64_any ((IntKind.u64.wrap ((v : Int) * 16)) + (IntKind.u64.wrap ((IntKind.u64.wrap (bt s (pos : Int))) - 48)))
      obtain ⟨r, b, hr, hh⟩ := ih (pos + 1) n (by omega) hn
      refine ⟨r, b, hr, Ev.step (fun k => ?_) hh⟩
      rw [hurdleref01_Parse.l0, if_pos (by omega), if_pos (by omega), if_neg h97, w64n (by omega), e]
theorem rparse_any (s : ByteArray) : ∃ (r : Nat) (b : Bool), r < 18446744073709551616 ∧ Ev (fun k => hurdleref01_Parse.f k s) ((r : Int), b) := by
  by_cases h3 : s.size < 3
  · refine ⟨0, false, by omega, Ev.congr (fun k => if_pos (by omega)) (Ev.step (f := fun _ => some ((0 : Int), false)) (fun k => ?_) (Ev.now _))⟩
    rw [hurdleref01_Parse.j0, if_pos rfl]
  · by_cases h18 : s.size > 18
    · refine ⟨0, false, by omega, Ev.congr (fun k => if_neg (by omega)) (Ev.step (f := fun _ => some ((0 : Int), false)) (fun k => ?_) (Ev.now _))⟩
      rw [hurdleref01_Parse.j0, if_pos (decide_eq_true (by omega))]
    · obtain ⟨r, b, hr, hh⟩ := rl_any s (by omega) (s.size - 2) 2 0 (by omega) (by omega)
      refine ⟨r, b, hr, Ev.congr (fun k => if_neg (by omega)) (Ev.step (fun k => ?_) hh)⟩
      rw [hurdleref01_Parse.j0, if_neg (by simp; omega)]
      rfl
theorem valL_ge : ∀ (l : List Nat) (n r : Nat), valL l n = some r → n ≤ r := by
  intro l
  induction l with
  | nil => intro n r h; exact Nat.le_of_eq (Option.some.inj h)
  | cons c l ih =>
    intro n r h
    rw [valL] at h
    split at h
    · have := ih _ _ h
      omega
    · cases h
theorem step_hi {v d : Nat} (hv : v * 16 + d < 18446744073709551616) : IntKind.u64.wrap ((IntKind.u64.wrap ((v : Int) * 16)) + (IntKind.u64.wrap ((IntKind.u64.wrap ((87 + d : Nat) : Int)) - 87))) = ((v * 16 + d : Nat) : Int) := by
  simp only [IntKind.wrap, IntKind.bits, IntKind.signed]
  simp
  omega
theorem step_lo {v d : Nat} (hv : v * 16 + d < 18446744073709551616) : IntKind.u64.wrap ((IntKind.u64.wrap ((v : Int) * 16)) + (IntKind.u64.wrap ((IntKind.u64.wrap ((48 + d : Nat) : Int)) - 48))) = ((v * 16 + d : Nat) : Int) := by
  simp only [IntKind.wrap, IntKind.bits, IntKind.signed]
  simp
  omega
theorem rl_val (L : List Nat) (hb : Bs L) (hlen : L.length < 1000) : ∀ (m pos v r : Nat), pos + m = L.length → valL (L.drop pos) v = some r → r < 18446744073709551616 → htext r = str L →
    Ev (fun k => hurdleref01_Parse.l0 k (str L) (v : Int) (pos : Int)) ((r : Int), true) := by
  intro m
  induction m with
  | zero =>
    intro pos v r h hv hr he
    rw [List.drop_of_length_le (by omega)] at hv
    obtain rfl : v = r := Option.some.inj hv
    refine Ev.step (fun k => by rw [hurdleref01_Parse.l0, str_size, if_neg (by omega)]) (Ev.bind (rtext_is v hr) ?_)
    rw [if_pos (by rw [he])]
    exact Ev.now _
  | succ m ih =>
    intro pos v r h hv hr he
    have hp : pos < L.length := by omega
    have hbt := bt_str L pos hp hb
    have hd : L.drop pos = L[pos] :: L.drop (pos + 1) := List.drop_eq_getElem_cons hp
    rw [hd, valL] at hv
    cases hx : hexV L[pos] with
    | none => rw [hx] at hv; cases hv
    | some d =>
      rw [hx] at hv
      obtain ⟨hd16, hc⟩ := hexV_some hx
      have hge := valL_ge _ _ _ hv
      refine Ev.step (fun k => ?_) (ih (pos + 1) (v * 16 + d) r (by omega) hv hr he)
      rw [hurdleref01_Parse.l0, str_size, if_pos (by omega), if_pos (by omega), hbt, hc, chr, w64n (by omega)]
      by_cases h10 : d < 10
      · rw [if_pos h10, if_neg (by omega), step_lo (by omega)]
      · rw [if_neg h10, if_pos (by omega), step_hi (by omega)]
theorem rparse_hex (n : Nat) (hn : n < 18446744073709551616) : Ev (fun k => hurdleref01_Parse.f k (str (hexL n))) ((n : Int), true) := by
  have h1 := hexL_len hn
  have h3 := hexL_len3 n
  refine Ev.congr (fun k => if_neg (by rw [str_size]; omega)) (Ev.step (fun k => ?_) (rl_val (hexL n) (hexL_bs n) (by omega) ((hexL n).length - 2) 2 0 n (by omega) ?_ hn rfl))
  · rw [hurdleref01_Parse.j0, str_size, if_neg (by simp; omega)]
    rfl
  · rw [hexL_drop]
    exact valL_self n
theorem tm {v m : Nat} : Int.tmod (v : Int) (m : Int) = ((v % m : Nat) : Int) := by
  rw [Int.tmod_eq_emod_of_nonneg (by omega)]
  omega
/-! ### the parts behind the word -/
theorem k_part {i : Nat} (hi : i < 39) (x0 : ByteArray) (x4 x5 x8 : List ByteArray) (op : Int) : ∃ (kk : Nat) (rest : List ByteArray), kk < 4294967296 ∧
    (∀ r, Ev (fun k => hurdleref02_Parse.j3 k x0 x4 x5 (i : Int) rest op 0 0 (kk : Int)) r → Ev (fun k => hurdleref02_Parse.j2 k x0 x4 x5 (i : Int) x8 (hasK i && decide ((x8.length : Int) > 0)) op 0 0 0) r) ∧
    (∀ z ys, z < 4294967296 → (hasK i = false → z = 0) → x8 = (if hasK i then [str (hexL z)] else []) ++ ys → kk = z ∧ rest = ys) := by
  cases hk : hasK i
  · refine ⟨0, x8, by omega, fun r h => Ev.step (fun k => ?_) h, fun z ys _ h0 he => ⟨(h0 rfl).symm, ?_⟩⟩
    · rw [hurdleref02_Parse.j2, Bool.false_and, if_neg (by simp)]
      rfl
    · simpa using he
  · cases x8 with
    | nil =>
      refine ⟨0, [], by omega, fun r h => Ev.step (fun k => ?_) h, fun z ys _ h0 he => ?_⟩
      · rw [hurdleref02_Parse.j2, if_neg (by simp)]
        rfl
      · simp at he
    | cons s t =>
      obtain ⟨v, b, hv, hp⟩ := rparse_any s
      refine ⟨v % 4294967296, t, by omega, fun r h => Ev.step (fun k => ?_) (Ev.bind hp (f := fun k bt => hurdleref02_Parse.j3 k x0 x4 x5 (i : Int) t op 0 0 ((Int.tmod bt.1 4294967296) % 4294967296)) ?_), fun z ys hz h0 he => ?_⟩
      · rw [hurdleref02_Parse.j2, if_pos (by simp), if_pos (by simp)]
        simp only [show (1 : Int) ≤ ((s :: t).length : Int) from by simp; omega, if_true]
        rfl
      · simp only
        rw [show Int.tmod (v : Int) 4294967296 % 4294967296 = ((v % 4294967296 : Nat) : Int) from by rw [show (4294967296 : Int) = ((4294967296 : Nat) : Int) from rfl, tm]; omega]
        exact h
      · simp only [if_true, List.cons_append, List.nil_append, List.cons.injEq] at he
        obtain ⟨rfl, rfl⟩ := he
        have := ev_uniq hp (rparse_hex z (by omega))
        have h1 := congrArg Prod.fst this
        simp only at h1
        exact ⟨by omega, rfl⟩
theorem w_part {i : Nat} (hi : i < 39) (x0 : ByteArray) (x4 x5 x8 : List ByteArray) (op kk : Int) : ∃ jt jf : Nat, jt < 256 ∧ jf < 256 ∧
    (∀ r, Ev (fun k => hurdleref02_Parse.j5 k x0 x4 x5 (i : Int) op (jt : Int) (jf : Int) kk) r → Ev (fun k => hurdleref02_Parse.j3 k x0 x4 x5 (i : Int) x8 op 0 0 kk) r) ∧
    (∀ x y, x < 256 → y < 256 → (hasW i = false → x = 0 ∧ y = 0) → x8 = (if hasW i then [str (hexL x), str (hexL y)] else []) → jt = x ∧ jf = y) := by
  have skip : ∀ r, Ev (fun k => hurdleref02_Parse.j5 k x0 x4 x5 (i : Int) op 0 0 kk) r → Ev (fun k => hurdleref02_Parse.j4 k x0 x4 x5 (i : Int) x8 false op 0 0 kk) r :=
    fun r h => Ev.step (fun k => by rw [hurdleref02_Parse.j4, if_neg (by simp)]) h
  cases hw : hasW i
  · refine ⟨0, 0, by omega, by omega, fun r h => Ev.step (fun k => ?_) (skip r h), fun x y _ _ h0 _ => ⟨(h0 rfl).1.symm, (h0 rfl).2.symm⟩⟩
    rw [hurdleref02_Parse.j3, branch_is hi, hw, Option.bind_some, if_neg (by simp)]
  · match x8, skip with
    | [], skip =>
      refine ⟨0, 0, by omega, by omega, fun r h => Ev.step (fun k => ?_) (skip r h), fun x y _ _ h0 he => by simp at he⟩
      rw [hurdleref02_Parse.j3, branch_is hi, hw, Option.bind_some, if_pos rfl]
      rfl
    | [a], skip =>
      refine ⟨0, 0, by omega, by omega, fun r h => Ev.step (fun k => ?_) (skip r h), fun x y _ _ h0 he => by simp at he⟩
      rw [hurdleref02_Parse.j3, branch_is hi, hw, Option.bind_some, if_pos rfl]
      rfl
    | a :: b :: c :: t, skip =>
      refine ⟨0, 0, by omega, by omega, fun r h => Ev.step (fun k => ?_) (skip r h), fun x y _ _ h0 he => by simp at he⟩
      rw [hurdleref02_Parse.j3, branch_is hi, hw, Option.bind_some, if_pos rfl]
      rw [show (((a :: b :: c :: t).length : Int) == 2) = false from by rw [beq_eq_false_iff_ne]; simp only [List.length_cons]; omega]
    | [a, b], skip =>
      obtain ⟨v, _, hv, hp⟩ := rparse_any a
      obtain ⟨u, _, hu, hq⟩ := rparse_any b
      refine ⟨v % 256, u % 256, by omega, by omega, fun r h => Ev.step (f := fun k => hurdleref02_Parse.j4 k x0 x4 x5 (i : Int) [a, b] true op 0 0 kk) (fun k => ?_) (Ev.step (fun k => ?_) (Ev.bind hp (f := fun k bt => (hurdleref01_Parse.f k b).bind fun bu => hurdleref02_Parse.j5 k x0 x4 x5 (i : Int) op (wrap64 (Int.tmod bt.1 256)) (wrap64 (Int.tmod bu.1 256)) kk) (Ev.bind hq (f := fun k bu => hurdleref02_Parse.j5 k x0 x4 x5 (i : Int) op (wrap64 (Int.tmod ((v : Int), (_ : Bool)).1 256)) (wrap64 (Int.tmod bu.1 256)) kk) ?_))), fun x y hx hy h0 he => ?_⟩
      · rw [hurdleref02_Parse.j3, branch_is hi, hw, Option.bind_some, if_pos rfl]
        rfl
      · rw [hurdleref02_Parse.j4, if_pos rfl, if_pos (by simp)]
        simp only [show (1 : Int) < (([a, b] : List ByteArray).length : Int) from by simp, if_true]
        rfl
      · simp only
        rw [show Int.tmod (v : Int) 256 = ((v % 256 : Nat) : Int) from tm (m := 256), show Int.tmod (u : Int) 256 = ((u % 256 : Nat) : Int) from tm (m := 256), w64s (by omega), w64s (by omega)]
        exact h
      · simp only [if_true, List.cons.injEq, and_true] at he
        obtain ⟨rfl, rfl⟩ := he
        have h1 := congrArg Prod.fst (ev_uniq hp (rparse_hex x (by omega)))
        have h2 := congrArg Prod.fst (ev_uniq hq (rparse_hex y (by omega)))
        simp only at h1 h2
        exact ⟨by omega, by omega⟩
theorem wordL_inj {i j : Nat} (hi : i < 39) (hj : j < 39) (h : wordL i = wordL j) : i = j := by
  have all : ∀ i : Nat, i < 39 → ∀ j : Nat, j < 39 → wordL i = wordL j → i = j := by decide +kernel
  exact all i hi j hj h
theorem words_at : ∃ wl, hurdleref02_Words.f = some wl ∧ (wl.length : Int) = 39 ∧ ∀ i : Nat, i < 39 → rdOf ByteArray.empty wl (i : Int) = str (wordL i) := by
  obtain ⟨wl, h1, h2, _⟩ := words_is (i := 0) (by omega)
  refine ⟨wl, h1, h2, fun i hi => ?_⟩
  obtain ⟨wl', g1, _, g3⟩ := words_is hi
  obtain rfl : wl = wl' := Option.some.inj (h1.symm.trans g1)
  exact g3
theorem skip_round {i : Nat} (hi : i < 39) {x0 : ByteArray} {w : List Nat} {ws : List (List Nat)} {wl : List ByteArray} (hwb : Bs w) (h2 : (wl.length : Int) = 39) (h3 : rdOf ByteArray.empty wl (i : Int) = str (wordL i))
    (hs : wordL i ≠ w ∨ 4 < (w :: ws).length) {r : Int × Int × Int × Int × Bool} (h : Ev (fun k => hurdleref02_Parse.l0 k x0 ((w :: ws).map str) wl ((i + 1 : Nat) : Int)) r) :
    Ev (fun k => hurdleref02_Parse.l0 k x0 ((w :: ws).map str) wl (i : Int)) r := by
  refine Ev.step (f := fun k => hurdleref02_Parse.j1 k x0 ((w :: ws).map str) wl (i : Int) true) (fun k => ?_) (Ev.step (fun k => ?_) h)
  · rw [hurdleref02_Parse.l0, if_pos (by omega), if_pos (by omega), if_pos (by simp), h3, show rdOf ByteArray.empty ((w :: ws).map str) 0 = str w from rfl]
    by_cases he : (str (wordL i)).toList = (str w).toList
    · rw [if_pos he]
      have hh : wordL i = w := (str_inj (wordL_bs hi) hwb).1 (toList_inj.1 he)
      have hl : 4 < (w :: ws).length := hs.resolve_left (fun q => q hh)
      rw [decide_eq_true (by rw [List.length_map]; omega)]
    · rw [if_neg he]
  · rw [hurdleref02_Parse.j1, if_pos rfl, w64n (by omega)]
theorem take_round {i : Nat} (hi : i < 39) {op : Int} (ho : opsL[i]? = some op) {l : List Nat} {w : List Nat} {ws : List (List Nat)} {wl : List ByteArray} (h2 : (wl.length : Int) = 39) (h3 : rdOf ByteArray.empty wl (i : Int) = str (wordL i))
    (hw : wordL i = w) (hlen : (w :: ws).length ≤ 4) : ∃ x y z : Nat, x < 256 ∧ y < 256 ∧ z < 4294967296 ∧
    (∀ r, (right i (x : Int) (y : Int) (z : Int) = true → str (insL i x y z) = str l → r = (op, (x : Int), (y : Int), (z : Int), true)) → ((right i (x : Int) (y : Int) (z : Int) = true → str (insL i x y z) ≠ str l) → Ev (fun k => hurdleref02_Parse.l0 k (str l) ((w :: ws).map str) wl ((i + 1 : Nat) : Int)) r) →
      Ev (fun k => hurdleref02_Parse.l0 k (str l) ((w :: ws).map str) wl (i : Int)) r) ∧
    (∀ x' y' z' : Nat, x' < 256 → y' < 256 → z' < 4294967296 → right i (x' : Int) (y' : Int) (z' : Int) = true → ws.map str = (restL i x' y' z').map str → x = x' ∧ y = y' ∧ z = z') := by
  obtain ⟨z, rest, hz, kp, kv⟩ := k_part hi (str l) ((w :: ws).map str) wl (ws.map str) op
  obtain ⟨x, y, hx, hy, wp, wv⟩ := w_part hi (str l) ((w :: ws).map str) wl rest op (z : Int)
  refine ⟨x, y, z, hx, hy, hz, fun r hr1 hr2 => ?_, fun x' y' z' hx' hy' hz' hr he => ?_⟩
  · refine Ev.step (f := fun k => hurdleref02_Parse.j1 k (str l) ((w :: ws).map str) wl (i : Int) false) (fun k => ?_) (Ev.step (fun k => ?_) (kp r (wp r (Ev.step (f := fun k => (hurdleref02_Right.f k op (x : Int) (y : Int) (z : Int)).bind fun t => if t = true then ((hurdleref02_Print.f k op (x : Int) (y : Int) (z : Int)).bind fun t' => if t'.toList = (str l).toList then some (op, (x : Int), (y : Int), (z : Int), true) else hurdleref02_Parse.l0 k (str l) ((w :: ws).map str) wl ((i + 1 : Nat) : Int)) else hurdleref02_Parse.l0 k (str l) ((w :: ws).map str) wl ((i + 1 : Nat) : Int)) (fun k => ?_) (Ev.bind (rright_is hi ho (x : Int) (y : Int) (z : Int)) ?_)))))
    · rw [hurdleref02_Parse.l0, if_pos (by omega), if_pos (by omega), if_pos (by simp), h3, show rdOf ByteArray.empty ((w :: ws).map str) 0 = str w from rfl, if_pos (by rw [hw]), decide_eq_false (by rw [List.length_map]; omega)]
    · rw [hurdleref02_Parse.j1, if_neg (by simp), ops_is, Option.bind_some, if_pos (by omega), if_pos (by rw [show opsL.length = 39 from by decide +kernel]; omega), if_pos (by simp; omega), Option.bind_some, plain_is hi, Option.bind_some]
      rw [show rd opsL (i : Int) = op from by unfold rd; rw [Int.toNat_natCast, List.getD_eq_getElem?_getD, ho]; rfl]
      rw [show ((w :: ws).map str).drop 1 = ws.map str from rfl]
      cases hasK i <;> rfl
    · rw [hurdleref02_Parse.j5, w64n (by omega)]
    · cases hrt : right i (x : Int) (y : Int) (z : Int)
      · simp only [Bool.false_eq_true, if_false]
        exact hr2 (fun q => by rw [hrt] at q; cases q)
      · simp only [if_true]
        refine Ev.bind (rprint_is hi ho x y z hx hy hz) ?_
        by_cases he : str (insL i x y z) = str l
        · refine Ev.congr (fun _ => if_pos (by rw [he])) ?_
          rw [hr1 hrt he]
          exact Ev.now _
        · exact Ev.congr (fun _ => if_neg (fun q => he (toList_inj.1 q))) (hr2 (fun _ => he))
  · have hp := right_parts hr
    have hm : ws.map str = (if hasK i then [str (hexL z')] else []) ++ (if hasW i then [str (hexL x'), str (hexL y')] else []) := by
      rw [he]
      unfold restL
      cases hasK i <;> cases hasW i <;> rfl
    obtain ⟨rfl, hrest⟩ := kv z' _ hz' hp.1 hm
    obtain ⟨rfl, rfl⟩ := wv x' y' hx' hy' hp.2 hrest
    exact ⟨rfl, rfl, rfl⟩
theorem parse_enter (l : List Nat) (hb : Bs l) (hlen : l.length < 1000000) (r : Int × Int × Int × Int × Bool)
    (h : ∀ wl w ws, InsW.sp [] l = w :: ws → Bs w → (wl.length : Int) = 39 → (∀ i : Nat, i < 39 → rdOf ByteArray.empty wl (i : Int) = str (wordL i)) → Ev (fun k => hurdleref02_Parse.l0 k (str l) ((w :: ws).map str) wl ((0 : Nat) : Int)) r) : Ev (fun k => hurdleref02_Parse.f k (str l)) r := by
  unfold hurdleref02_Parse.f
  refine Ev.bind (cut_is 32 l hb hlen) ?_
  rw [spm_sp]
  unfold hurdleref02_Parse.g
  obtain ⟨wl, h1, h2, h3⟩ := words_at
  obtain ⟨w, ws, e⟩ := sp_ne [] l
  simp only [h1, Option.bind_some]
  rw [e]
  exact h wl w ws e (sp_bs l [] (fun x hx => by cases hx) hb w (by rw [e]; exact List.mem_cons_self)) h2 h3
/-- A right instruction's text is read as it. -/
theorem rparse_ins {a : Int} {i : Nat} (hi : i < 39) (ho : opsL[i]? = some a) (x y z : Nat) (h1 : x < 256) (h2 : y < 256) (h3 : z < 4294967296) (hr : right i (x : Int) (y : Int) (z : Int) = true) :
    Ev (fun k => hurdleref02_Parse.f k (str (insL i x y z))) (a, (x : Int), (y : Int), (z : Int), true) := by
  have hw := word_small hi
  have l1 := hexL_len (n := x) (by omega)
  have l2 := hexL_len (n := y) (by omega)
  have l3 := hexL_len (n := z) (by omega)
  have hlen : (insL i x y z).length < 1000 := by
    unfold insL
    cases hasK i <;> cases hasW i <;> simp <;> omega
  refine parse_enter _ (insL_bs hi x y z) (by omega) _ fun wl w ws e hwb g2 g3 => ?_
  rw [sp_insL hi] at e
  obtain ⟨rfl, rfl⟩ := List.cons.inj e
  have main : ∀ (m j : Nat), j + m = i → Ev (fun k => hurdleref02_Parse.l0 k (str (insL i x y z)) ((wordL i :: restL i x y z).map str) wl (j : Int)) (a, (x : Int), (y : Int), (z : Int), true) := by
    intro m
    induction m with
    | zero =>
      intro j hj
      obtain rfl : j = i := hj
      obtain ⟨x', y', z', _, _, _, hgo, hval⟩ := take_round (l := insL j x y z) (ws := restL j x y z) hi ho g2 (g3 j hi) rfl (by unfold restL; cases hasK j <;> cases hasW j <;> simp)
      obtain ⟨rfl, rfl, rfl⟩ := hval x y z h1 h2 h3 hr rfl
      exact hgo _ (fun _ _ => rfl) (fun q => absurd rfl (q hr))
    | succ m ih =>
      intro j hj
      refine skip_round (by omega) hwb g2 (g3 j (by omega)) (.inl fun q => ?_) (ih (j + 1) (by omega))
      have := wordL_inj (by omega) hi q
      omega
  exact main i 0 (by omega)
/-- Any other text is refused. -/
theorem rparse_none (l : List Nat) (hb : Bs l) (hlen : l.length < 1000000) (hn : ∀ i x y z : Nat, i < 39 → x < 256 → y < 256 → z < 4294967296 → right i (x : Int) (y : Int) (z : Int) = true → str l ≠ str (insL i x y z)) :
    Ev (fun k => hurdleref02_Parse.f k (str l)) (0, 0, 0, 0, false) := by
  refine parse_enter l hb hlen _ fun wl w ws e hwb g2 g3 => ?_
  have main : ∀ (m j : Nat), j + m = 39 → Ev (fun k => hurdleref02_Parse.l0 k (str l) ((w :: ws).map str) wl (j : Int)) (0, 0, 0, 0, false) := by
    intro m
    induction m with
    | zero =>
      intro j hj
      refine Ev.step (f := fun _ => some (0, 0, 0, 0, false)) (fun k => ?_) (Ev.now _)
      rw [hurdleref02_Parse.l0, if_neg (by omega)]
    | succ m ih =>
      intro j hj
      by_cases hs : wordL j ≠ w ∨ 4 < (w :: ws).length
      · exact skip_round (by omega) hwb g2 (g3 j (by omega)) hs (ih (j + 1) (by omega))
      · have hww : wordL j = w := Classical.byContradiction fun q => hs (.inl q)
        obtain ⟨x, y, z, hx, hy, hz, hgo, _⟩ := take_round (l := l) (ws := ws) (by omega) (op_of (i := j) (by omega)).1 g2 (g3 j (by omega)) hww (Nat.le_of_not_lt fun q => hs (.inr q))
        exact hgo _ (fun hr he => absurd he.symm (hn j x y z (by omega) hx hy hz hr)) (fun _ => ih (j + 1) (by omega))
  exact main 39 0 (by omega)
/-- Both functions tell the same. -/
theorem parse_both (l : List Nat) (hb : Bs l) (hlen : l.length < 10000) :
    (ins_Parse.f (str l) = some (0, 0, 0, 0, 2) ∧ Ev (fun k => hurdleref02_Parse.f k (str l)) (0, 0, 0, 0, false)) ∨
    ∃ (op : Int) (i x y z : Nat), ins_Parse.f (str l) = some (op, (x : Int), (y : Int), (z : Int), 0) ∧ Ev (fun k => hurdleref02_Parse.f k (str l)) (op, (x : Int), (y : Int), (z : Int), true) ∧ i < 39 ∧ opsL[i]? = some op ∧ x < 256 ∧ y < 256 ∧ z < 4294967296 ∧ right i (x : Int) (y : Int) (z : Int) = true ∧ l = insL i x y z := by
  rcases parse_cases l hb hlen with h | ⟨op, i, x, y, z, h, hi, ho, hx, hy, hz, hr, rfl⟩
  · refine .inl ⟨h, rparse_none l hb (by omega) fun i x y z hi hx hy hz hr he => ?_⟩
    rw [he, parse_ins hi (op_of hi).1 x y z hx hy hz hr] at h
    simp at h
  · exact .inr ⟨op, i, x, y, z, h, rparse_ins hi ho x y z hx hy hz hr, hi, ho, hx, hy, hz, hr, rfl⟩
end Go.Proofs.YtbgneakihibmbaaDoor.RefP
