/- The document's examples of filters' bytes and texts hold. No condition. -/
import Derived.Test.YtidlcpflfokehaaDoorM10
import Derived.Test.YtidlcpflfokehaaDoorInsA
import Derived.Test.YtidlcpflfokehaaDoorM7
import Derived.Test.YtidlcpflfokehaaDoorM11
import Derived.Test.YtidlcpflfokehaaDoorM19
namespace Go.Proofs.YtidlcpflfokehaaDoor.CodecK
open Go.RowKit Go.Proofs.YtidlcpflfokehaaDoorW.PrintWords Go.Proofs.YtidlcpflfokehaaDoorW.PrintLast Go.Proofs.YtidlcpflfokehaaDoorW.PrintMore Go.Proofs.YtidlcpflfokehaaDoor.M
theorem knows_is : Ev (fun k => hurdlelaw03_knows.f k) true := Ev.of hurdlelaw03_knows.mono (k := 60) (by decide +kernel)
end Go.Proofs.YtidlcpflfokehaaDoor.CodecK

/- How a filter's text is read, by the program's and the document's functions: line by line. No condition but that the text is short. -/
namespace Go.Proofs.YtidlcpflfokehaaDoor.CodecQ
set_option linter.unusedVariables false
set_option linter.unusedSimpArgs false
open Go.RowKit Go.Proofs.YtidlcpflfokehaaDoorW.PrintWords Go.Proofs.YtidlcpflfokehaaDoorW.PrintLast Go.Proofs.YtidlcpflfokehaaDoorW.PrintMore Go.Proofs.YtidlcpflfokehaaDoor.M Go.Proofs.YtidlcpflfokehaaDoor.Hex Go.Proofs.YtidlcpflfokehaaDoor.HexP Go.Proofs.YtidlcpflfokehaaDoor.InsOps Go.Proofs.YtidlcpflfokehaaDoor.RefP
abbrev In := M.S48
theorem w64s {x : Int} (h0 : -1000000000 ≤ x) (h1 : x < 1000000000) : wrap64 x = x := by simp only [wrap64]; omega
theorem wS (n : Nat) (h : n < 100000000) : wrap64 ((n : Int) + 1) = ((n + 1 : Nat) : Int) := by rw [w64s (by omega) (by omega)]; rfl
theorem rd_at (l : List In) (i : Nat) (h : i < l.length) : rd_T48 l (i : Int) = l[i] := by
  simp [rd_T48, List.getD_eq_getElem?_getD, h]
theorem same_from (c : List In) (hc : c.length < 100000) : ∀ (m i : Nat), i + m = c.length → Ev (fun k => hurdleref03_Same.l0 k c c (i : Int)) true := by
  intro m
  induction m with
  | zero =>
    intro i hi
    refine Ev.step (f := fun _ => some true) (fun k => ?_) (Ev.now _)
    simp only [hurdleref03_Same.l0]
    rw [if_neg (by omega)]
  | succ m ih =>
    intro i hi
    refine Ev.step (fun k => ?_) (ih (i + 1) (by omega))
    simp only [hurdleref03_Same.l0]
    rw [if_pos (by omega), if_pos (by omega), if_pos (by omega), if_neg (by simp), wS i (by omega)]
theorem same_is (c : List In) (hc : c.length < 100000) : Ev (fun k => hurdleref03_Same.f k c c) true := by
  unfold hurdleref03_Same.f
  exact Ev.congr (fun k => if_pos rfl) (same_from c hc c.length 0 (by omega))

theorem line_ok (L : List Nat) (hb : Bs L) (hL : L.length < 10000000) (out : List In) (f e : Nat) (he : e < L.length) (hf : f ≤ e) (h10 : L[e] = 10) (hn : out.length < 4096) (x : In) (hx : ins_Parse.f (str ((L.take e).drop f)) = some (x.f0, x.f1, x.f2, x.f3, 0)) (k : Nat) :
    codec_Parse.l0 (k + 1) (str L) out (f : Int) (L.length : Int) (e : Int) = codec_Parse.l0 k (str L) (out ++ [x]) ((e + 1 : Nat) : Int) (L.length : Int) ((e + 1 : Nat) : Int) := by
  simp only [codec_Parse.l0]
  rw [if_pos (by omega), if_pos (by omega), if_pos (by rw [str_size]; omega), bt_str L e he hb, if_pos (by omega), if_neg (by omega), if_pos (by omega), if_pos (by omega), if_pos (by rw [str_size]; omega), Int.toNat_natCast, Int.toNat_natCast, str_extract, hx]
  simp only [Option.bind_some, if_true]
  rw [if_pos (by omega), wS e (by omega)]
/-- What the lines come to, behind those that were read. -/
def rdL : List (List Nat) → List In → List In × Int × Int
  | [], out => (out, 0, 0)
  | [w], out => if w = [] then (out, 0, 0) else if out.length ≥ 4096 then ([], (out.length : Int), 3) else ([], (out.length : Int), 2)
  | w :: v :: ws, out => if out.length ≥ 4096 then ([], (out.length : Int), 3) else match ins_Parse.f (str w) with
    | some (a, b, c, d, e) => if e = 0 then rdL (v :: ws) (out ++ [⟨a, b, c, d⟩]) else ([], (out.length : Int), 2)
    | none => ([], (out.length : Int), 2)
theorem spm_ne (m : Nat) : ∀ (l cur : List Nat), ∃ w ws, spm m cur l = w :: ws := by
  intro l
  induction l with
  | nil => intro cur; exact ⟨cur, [], rfl⟩
  | cons c l ih =>
    intro cur
    rw [spm]
    split
    · exact ⟨cur, _, rfl⟩
    · exact ih _
theorem spm_bs (m : Nat) : ∀ (l cur : List Nat), Bs cur → Bs l → ∀ w ∈ spm m cur l, Bs w := by
  intro l
  induction l with
  | nil =>
    intro cur hc _ w hw
    rw [spm] at hw
    rcases List.mem_cons.1 hw with rfl | hw
    · exact hc
    · cases hw
  | cons c l ih =>
    intro cur hc hl w hw
    have hl' : Bs l := fun x hx => hl x (List.mem_cons_of_mem _ hx)
    rw [spm] at hw
    split at hw
    · rcases List.mem_cons.1 hw with rfl | hw
      · exact hc
      · exact ih [] (fun x hx => by cases hx) hl' w hw
    · exact ih _ (bs_append.2 ⟨hc, fun x hx => by
        rcases List.mem_cons.1 hx with rfl | hx
        · exact hl _ List.mem_cons_self
        · cases hx⟩) hl' w hw
theorem spm_len (m : Nat) : ∀ (l cur : List Nat), (∀ w ∈ spm m cur l, w.length ≤ cur.length + l.length) ∧ (spm m cur l).length ≤ l.length + 1 := by
  intro l
  induction l with
  | nil =>
    intro cur
    refine ⟨fun w hw => ?_, by simp [spm]⟩
    rw [spm] at hw
    rcases List.mem_cons.1 hw with rfl | hw
    · simp
    · cases hw
  | cons c l ih =>
    intro cur
    rw [spm]
    split
    · refine ⟨fun w hw => ?_, ?_⟩
      · rcases List.mem_cons.1 hw with rfl | hw
        · simp only [List.length_cons]; omega
        · have := (ih []).1 w hw
          simp only [List.length_nil, List.length_cons] at this ⊢
          omega
      · have := (ih []).2
        simp only [List.length_cons]
        omega
    · refine ⟨fun w hw => ?_, ?_⟩
      · have := (ih (cur ++ [c])).1 w hw
        simp only [List.length_append, List.length_nil, List.length_cons] at this ⊢
        omega
      · have := (ih (cur ++ [c])).2
        simp only [List.length_cons]
        omega
/-- The program's function. -/
theorem pparse_from (L : List Nat) (hb : Bs L) (hL : L.length ≤ 5000) : ∀ (m i f : Nat) (out : List In), i + m = L.length → f ≤ i → out.length ≤ 4096 → out.length ≤ i →
    Ev (fun k => codec_Parse.l0 k (str L) out (f : Int) (L.length : Int) (i : Int)) (rdL (spm 10 ((L.take i).drop f) (L.drop i)) out) := by
  intro m
  induction m with
  | zero =>
    intro i f out hi hf hn ho
    rw [show L.drop i = [] from List.drop_of_length_le (by omega), spm, rdL]
    have hcl : ((L.take i).drop f).length = L.length - f := by rw [List.length_drop, List.length_take]; omega
    by_cases h1 : f < L.length
    · rw [if_neg (fun q => by rw [q] at hcl; simp at hcl; omega)]
      by_cases h2 : out.length ≥ 4096
      · rw [if_pos h2]
        refine Ev.step (f := fun _ => some ([], (out.length : Int), 3)) (fun k => ?_) (Ev.now _)
        simp only [codec_Parse.l0]
        rw [if_neg (by omega), if_pos (by rw [str_size]; omega), if_pos (by omega)]
      · rw [if_neg h2]
        refine Ev.step (f := fun _ => some ([], (out.length : Int), 2)) (fun k => ?_) (Ev.now _)
        simp only [codec_Parse.l0]
        rw [if_neg (by omega), if_pos (by rw [str_size]; omega), if_neg (by omega)]
    · rw [if_pos (List.length_eq_zero_iff.1 (by omega))]
      refine Ev.step (f := fun _ => some (out, 0, 0)) (fun k => ?_) (Ev.now _)
      simp only [codec_Parse.l0]
      rw [if_neg (by omega), if_neg (by rw [str_size]; omega)]
  | succ m ih =>
    intro i f out hi hf hn ho
    have hil : i < L.length := by omega
    rw [List.drop_eq_getElem_cons hil, spm]
    by_cases h10 : L[i] = 10
    · rw [if_pos h10]
      obtain ⟨v, ws, e⟩ := spm_ne 10 (L.drop (i + 1)) []
      rw [e, rdL]
      by_cases h2 : out.length ≥ 4096
      · rw [if_pos h2]
        refine Ev.step (f := fun _ => some ([], (out.length : Int), 3)) (fun k => ?_) (Ev.now _)
        simp only [codec_Parse.l0]
        rw [if_pos (by omega), if_pos (by omega), if_pos (by rw [str_size]; omega), bt_str L i hil hb, if_pos (by omega), if_pos (by omega)]
      · rw [if_neg h2]
        have hbl : Bs ((L.take i).drop f) := fun x hx => hb x (List.mem_of_mem_take (List.mem_of_mem_drop hx))
        have hll : ((L.take i).drop f).length < 10000 := by rw [List.length_drop, List.length_take]; omega
        rcases parse_both _ hbl hll with ⟨hp, _⟩ | ⟨op, j, x, y, z, hp, _⟩
        · rw [hp]
          simp only [show ((2 : Int) = 0) = False from by simp, if_false]
          refine Ev.step (f := fun _ => some ([], (out.length : Int), 2)) (fun k => ?_) (Ev.now _)
          simp only [codec_Parse.l0]
          rw [if_pos (by omega), if_pos (by omega), if_pos (by rw [str_size]; omega), bt_str L i hil hb, if_pos (by omega), if_neg (by omega), if_pos (by omega), if_pos (by omega), if_pos (by rw [str_size]; omega), Int.toNat_natCast, Int.toNat_natCast, str_extract, hp]
          rfl
        · rw [hp]
          simp only [if_true]
          have key := ih (i + 1) (i + 1) (out ++ [⟨op, (x : Int), (y : Int), (z : Int)⟩]) (by omega) (Nat.le_refl _) (by rw [List.length_append]; simp; omega) (by rw [List.length_append]; simp; omega)
          rw [show (L.take (i + 1)).drop (i + 1) = [] from List.drop_of_length_le (by rw [List.length_take]; omega), e] at key
          exact Ev.step (fun k => line_ok L hb (by omega) out f i hil hf h10 (by omega) ⟨op, (x : Int), (y : Int), (z : Int)⟩ hp k) key
    · rw [if_neg h10]
      have key := ih (i + 1) f out (by omega) (by omega) hn (by omega)
      have ec : (L.take (i + 1)).drop f = (L.take i).drop f ++ [L[i]] := by
        rw [List.take_succ_eq_append_getElem hil, List.drop_append_of_le_length (by rw [List.length_take]; omega)]
      rw [ec] at key
      refine Ev.step (fun k => ?_) key
      simp only [codec_Parse.l0]
      rw [if_pos (by omega), if_pos (by omega), if_pos (by rw [str_size]; omega), bt_str L i hil hb, if_neg (by omega), wS i (by omega)]
theorem pparse_is (L : List Nat) (hb : Bs L) (hL : L.length ≤ 5000) : Ev (fun k => codec_Parse.f k (str L)) (rdL (spm 10 [] L) []) := by
  unfold codec_Parse.f
  rw [str_size]
  exact pparse_from L hb hL L.length 0 0 [] (by omega) (Nat.le_refl _) (by simp) (by simp)
theorem line_at (W : List (List Nat)) (j : Nat) (h : j < W.length) : rdOf ByteArray.empty (W.map str) (j : Int) = str W[j] := by
  unfold rdOf
  rw [Int.toNat_natCast, List.getD_eq_getElem?_getD, List.getElem?_map, List.getElem?_eq_getElem h]
  rfl
theorem empty_is (w : List Nat) : ((str w).toList == ([] : List UInt8)) = decide (w = []) := by
  rw [str_toList]
  cases w <;> rfl
/-- The document's function. -/
theorem rparse3_from (W : List (List Nat)) (hW : W.length < 1000000) (hb : ∀ w ∈ W, Bs w) (hl : ∀ w ∈ W, w.length < 10000) : ∀ (m j : Nat) (out : List In), j + m + 1 = W.length → out.length = j →
    Ev (fun k => hurdleref03_Parse.l0 k (W.map str) out (j : Int)) (rdL (W.drop j) out) := by
  intro m
  induction m with
  | zero =>
    intro j out hj ho
    have hjl : j < W.length := by omega
    have hlast : (j : Int) = wrap64 (((W.map str).length : Int) - 1) := by rw [List.length_map, w64s (by omega) (by omega)]; omega
    rw [List.drop_eq_getElem_cons hjl, List.drop_of_length_le (by omega), rdL]
    refine Ev.step (f := fun k => hurdleref03_Parse.j1 k (W.map str) out (j : Int) true (decide (W[j] = []))) (fun k => ?_) ?_
    · rw [hurdleref03_Parse.l0, if_pos (by rw [List.length_map]; omega), if_pos hlast, if_pos (by omega), line_at W j hjl, empty_is, ← hlast, beq_self_eq_true]
    · by_cases h0 : W[j] = []
      · rw [if_pos h0]
        refine Ev.step (f := fun _ => some (out, 0, 0)) (fun k => ?_) (Ev.now _)
        rw [hurdleref03_Parse.j1, if_pos (decide_eq_true h0)]
      · rw [if_neg h0]
        by_cases h2 : out.length ≥ 4096
        · rw [if_pos h2]
          refine Ev.step (f := fun _ => some ([], (out.length : Int), 3)) (fun k => ?_) (Ev.now _)
          rw [hurdleref03_Parse.j1, if_neg (by simp [h0]), if_pos (by omega), ho]
        · rw [if_neg h2]
          obtain ⟨r, hr⟩ : ∃ r, Ev (fun k => hurdleref02_Parse.f k (str W[j])) r := by
            rcases parse_both W[j] (hb _ (List.getElem_mem hjl)) (hl _ (List.getElem_mem hjl)) with ⟨_, h⟩ | ⟨op, i, x, y, z, _, h, _⟩ <;> exact ⟨_, h⟩
          refine Ev.step (fun k => ?_) (Ev.bind hr (f := fun _ _ => some ([], (out.length : Int), 2)) (Ev.now _))
          rw [hurdleref03_Parse.j1, if_neg (by simp [h0]), if_neg (by omega), if_pos (by omega), if_pos (by rw [List.length_map]; omega), line_at W j hjl, ho]
          simp only [if_true]
  | succ m ih =>
    intro j out hj ho
    have hjl : j < W.length := by omega
    have hlast : (j : Int) ≠ wrap64 (((W.map str).length : Int) - 1) := by rw [List.length_map, w64s (by omega) (by omega)]; omega
    have hd : W.drop j = W[j] :: W[j + 1] :: W.drop (j + 2) := by rw [List.drop_eq_getElem_cons hjl, List.drop_eq_getElem_cons (show j + 1 < W.length by omega)]
    rw [hd, rdL]
    refine Ev.step (f := fun k => hurdleref03_Parse.j1 k (W.map str) out (j : Int) false false) (fun k => ?_) ?_
    · rw [hurdleref03_Parse.l0, if_pos (by rw [List.length_map]; omega), if_neg hlast, beq_eq_false_iff_ne.2 hlast]
    · by_cases h2 : out.length ≥ 4096
      · rw [if_pos h2]
        refine Ev.step (f := fun _ => some ([], (out.length : Int), 3)) (fun k => ?_) (Ev.now _)
        rw [hurdleref03_Parse.j1, if_neg (by simp), if_pos (by omega), ho]
      · rw [if_neg h2]
        rcases parse_both W[j] (hb _ (List.getElem_mem hjl)) (hl _ (List.getElem_mem hjl)) with ⟨hp, hr⟩ | ⟨op, i, x, y, z, hp, hr, _⟩
        · rw [hp]
          simp only [show ((2 : Int) = 0) = False from by simp, if_false]
          refine Ev.step (fun k => ?_) (Ev.bind hr (f := fun k bt => if bt.2.2.2.2 = true then hurdleref03_Parse.l0 k (W.map str) (out ++ [⟨bt.1, bt.2.1, bt.2.2.1, bt.2.2.2.1⟩]) (wrap64 ((j : Int) + 1)) else some ([], (out.length : Int), 2)) ?_)
          · rw [hurdleref03_Parse.j1, if_neg (by simp), if_neg (by omega), if_pos (by omega), if_pos (by rw [List.length_map]; omega), line_at W j hjl, ho]
            simp only [Bool.false_eq_true, if_false, show j < 4398046511104 by omega, if_true]
          · simp only [Bool.false_eq_true, if_false]
            exact Ev.now _
        · rw [hp]
          simp only [if_true]
          refine Ev.step (fun k => ?_) (Ev.bind hr (f := fun k bt => if bt.2.2.2.2 = true then hurdleref03_Parse.l0 k (W.map str) (out ++ [⟨bt.1, bt.2.1, bt.2.2.1, bt.2.2.2.1⟩]) (wrap64 ((j : Int) + 1)) else some ([], (out.length : Int), 2)) ?_)
          · rw [hurdleref03_Parse.j1, if_neg (by simp), if_neg (by omega), if_pos (by omega), if_pos (by rw [List.length_map]; omega), line_at W j hjl, ho]
            simp only [Bool.false_eq_true, if_false, show j < 4398046511104 by omega, if_true]
          · simp only [if_true, wS j (by omega)]
            have key := ih (j + 1) (out ++ [⟨op, (x : Int), (y : Int), (z : Int)⟩]) (by omega) (by rw [List.length_append]; simp; omega)
            rw [List.drop_eq_getElem_cons (show j + 1 < W.length by omega)] at key
            exact key
theorem rparse3_is (L : List Nat) (hb : Bs L) (hL : L.length ≤ 5000) : Ev (fun k => hurdleref03_Parse.f k (str L)) (rdL (spm 10 [] L) []) := by
  unfold hurdleref03_Parse.f
  refine Ev.bind (cut_is 10 L hb (by omega)) ?_
  have hl := spm_len 10 L []
  obtain ⟨w, ws, e⟩ := spm_ne 10 L []
  have := rparse3_from (spm 10 [] L) (by omega) (spm_bs 10 L [] (fun x hx => by cases hx) hb) (fun w hw => by have := hl.1 w hw; simp only [List.length_nil] at this; omega) ((spm 10 [] L).length - 1) 0 [] (by rw [e]; simp) rfl
  rw [List.drop_zero] at this
  exact this
theorem rdL_len : ∀ (W : List (List Nat)) (out : List In), out.length ≤ 4096 → (rdL W out).1.length ≤ 4096 := by
  intro W
  induction W with
  | nil => intro out h; exact h
  | cons w W ih =>
    intro out h
    cases W with
    | nil =>
      rw [rdL]
      split
      · exact h
      · split <;> simp
    | cons v W =>
      rw [rdL]
      split
      · simp
      · split
        · split
          · exact ih _ (by rw [List.length_append]; simp; omega)
          · simp
        · simp
end Go.Proofs.YtidlcpflfokehaaDoor.CodecQ
