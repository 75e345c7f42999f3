/- Numbers as hexadecimal texts, and texts as lists of numbers: plain facts, with no program in sight. No condition. -/
import Derived.Laws.BitsAllLaws
import Derived.Lib.Bytes
import Derived.Test.YtahacmdhhfmhiaaDoorM0
import Derived.Lib.QuoteBits
import Derived.Test.YtahacmdhhfmhiaaDoorOpsA
import Derived.Test.YtahacmdhhfmhiaaDoorKA
import Derived.Test.YtahacmdhhfmhiaaDoorMA
import Derived.Test.YtahacmdhhfmhiaaDoorMG
import Derived.Test.YtahacmdhhfmhiaaDoorMH
namespace Go.Proofs.YtahacmdhhfmhiaaDoor.Hex
set_option linter.unusedVariables false
set_option linter.unusedSimpArgs false
open Go.RowKit Go.Proofs.YtahacmdhhfmhiaaDoorW.PrintWords
def str (l : List Nat) : ByteArray := ⟨(l.map UInt8.ofNat).toArray⟩
def Bs (l : List Nat) : Prop := ∀ x ∈ l, x < 256
def numsL (s : ByteArray) : List Nat := s.data.toList.map UInt8.toNat
theorem bytes_str {l : List Nat} (h : Bs l) : numsL (str l) = l := by
 induction l with
 | nil => rfl
 | cons x l ih =>
  have hx := h x List.mem_cons_self
  have hi := ih (fun y hy => h y (List.mem_cons_of_mem _ hy))
  simp only [numsL, str, List.map_cons, List.map_map] at hi ⊢
  simp only [List.cons.injEq]
  exact ⟨by simp [Nat.mod_eq_of_lt hx], hi⟩
theorem str_inj {a b : List Nat} (ha : Bs a) (hb : Bs b) : str a = str b ↔ a = b :=
 ⟨fun h => by rw [← bytes_str ha, ← bytes_str hb, h], fun h => by rw [h]⟩
theorem bs_append {a b : List Nat} : Bs (a ++ b) ↔ Bs a ∧ Bs b := by
 simp only [Bs, List.mem_append]
 exact ⟨fun h => ⟨fun x hx => h x (.inl hx), fun x hx => h x (.inr hx)⟩, fun h x hx => hx.elim (h.1 x) (h.2 x)⟩
theorem strOfNums_str (l : List Nat) : strOfNums (l.map fun n : Nat => (n : Int)) = str l := by
 simp [strOfNums, str, Function.comp_def]
def fw : Nat → Nat → List Nat
 | 0, n => [n % 16]
 | j + 1, n => n / 16 ^ (j + 1) % 16 :: fw j n
def st : Nat → Nat → List Nat
 | 0, n => [n % 16]
 | j + 1, n => if 0 < n / 16 ^ (j + 1) % 16 then fw (j + 1) n else st j n
end Go.Proofs.YtahacmdhhfmhiaaDoor.Hex
/- What the program's and the document's functions of filters' bytes compute, in plain numbers. No condition but sizes far beyond the laws'. -/
namespace Go.Proofs.YtahacmdhhfmhiaaDoor.CodecB
set_option linter.unusedVariables false
set_option linter.unusedSimpArgs false
open Go.RowKit Go.Proofs.YtahacmdhhfmhiaaDoorW.PrintWords Go.Proofs.YtahacmdhhfmhiaaDoorW.PrintLast Go.Proofs.YtahacmdhhfmhiaaDoorW.PrintMore Go.Proofs.YtahacmdhhfmhiaaDoor.M Go.Proofs.YtahacmdhhfmhiaaDoor.InsOps Go.Proofs.YtahacmdhhfmhiaaDoor.RightB Go.Proofs.YtahacmdhhfmhiaaDoor.Hex
abbrev In := S59
def I (l : List Nat) : List Int := l.map fun n : Nat => (n : Int)
theorem I_length (l : List Nat) : (I l).length = l.length := by simp [I]
theorem I_append (a b : List Nat) : I (a ++ b) = I a ++ I b := by simp [I]
theorem I_rd (l : List Nat) (j : Nat) : rd (I l) (j : Int) = ((l.getD j 0 : Nat) : Int) := by
 simp only [rd, I, Int.toNat_natCast, List.getD_eq_getElem?_getD, List.getElem?_map]
 cases l[j]? <;> rfl
theorem I_str (l : List Nat) : strOfNums (I l) = str l := strOfNums_str l
theorem w64s {x : Int} (h0 : -1000000000 ≤ x) (h1 : x < 1000000000) : wrap64 x = x := by simp only [wrap64]; omega
theorem wS (n : Nat) (h : n < 100000000) : wrap64 ((n : Int) + 1) = ((n + 1 : Nat) : Int) := by rw [w64s (by omega) (by omega)]; rfl
theorem rd_at (l : List In) (i : Nat) (h : i < l.length) : rd_T59 l (i : Int) = l[i] := by
 simp [rd_T59, List.getD_eq_getElem?_getD, h]
theorem drop_at {α : Type} (l : List α) (i : Nat) (h : i < l.length) : l.drop i = l[i] :: l.drop (i + 1) := List.drop_eq_getElem_cons h
noncomputable def rt (x : In) : Bool := rightI x.f0 x.f1 x.f2 x.f3
noncomputable def okL (l : List In) : Bool := l.all rt
noncomputable def chk (l : List In) : Int := if 4096 < l.length then 3 else if okL l = true then 0 else 1
def GoodI (x : In) : Prop := ∃ (i a b c : Nat), i < 39 ∧ opsL[i]? = some x.f0 ∧ x.f1 = (a : Int) ∧ x.f2 = (b : Int) ∧ x.f3 = (c : Int) ∧ a < 256 ∧ b < 256 ∧ c < 4294967296 ∧ right i (a : Int) (b : Int) (c : Int) = true
theorem good_of {x : In} (hw : (Lit.int .u32 x.f3).wf = true) (h : rt x = true) : GoodI x := by
 unfold rt at h
 rcases op_cases x.f0 with ⟨i, hi, ho⟩ | ho
 ·rw [(rightI_row hi ho _ _ _).1] at h
  obtain ⟨a, b, c, e1, e2, e3, l1, l2, l3⟩ := right_fields hw h
  refine ⟨i, a, b, c, hi, ho, e1, e2, e3, l1, l2, l3, ?_⟩
  rw [← e1, ← e2, ← e3]; exact h
 ·rw [(rightI_none ho _ _ _).1] at h; cases h
theorem rt_of {x : In} (h : GoodI x) : rt x = true := by
 obtain ⟨i, a, b, c, hi, ho, e1, e2, e3, _, _, _, hr⟩ := h
 unfold rt
 rw [(rightI_row hi ho _ _ _).1, e1, e2, e3]
 exact hr
theorem okL_good {l : List In} (hw : ∀ x ∈ l, Q.wfIns x) (h : okL l = true) : ∀ x ∈ l, GoodI x := fun x hx => good_of (hw x hx).2.2.2 (List.all_eq_true.1 h x hx)
theorem good_okL {l : List In} (h : ∀ x ∈ l, GoodI x) : okL l = true := List.all_eq_true.2 fun x hx => rt_of (h x hx)
theorem op_small {i : Nat} {a : Int} (hi : i < 39) (h : opsL[i]? = some a) : 0 ≤ a ∧ a < 256 := by
 have all : ∀ i : Nat, i < 39 → 0 ≤ opsL.getD i 0 ∧ opsL.getD i 0 < 256 := by decide
 have e : opsL.getD i 0 = a := by rw [List.getD_eq_getElem?_getD, h]; rfl
 rw [← e]; exact all i hi
theorem check_from (l : List In) (hl : l.length < 100000) : ∀ (m i : Nat), i + m = l.length → Ev (fun k => codec_check.l0 k l (l.length : Int) (i : Int)) (if okL (l.drop i) = true then 0 else 1) := by
 intro m
 induction m with
 | zero =>
  intro i hi
  rw [List.drop_of_length_le (by omega)]
  refine Ev.step (f := fun _ => some 0) (fun k => ?_) (Ev.now _)
  simp only [codec_check.l0]
  rw [if_neg (by omega)]
 | succ m ih =>
  intro i hi
  have hil : i < l.length := by omega
  refine Ev.step (fun k => by simp only [codec_check.l0]; rw [if_pos (by omega), if_pos (by omega), if_pos (by omega), rd_at l i hil]) ?_
  refine Ev.bind (rightI_is _ _ _ _) ?_
  rw [drop_at l i hil]
  have e : okL (l[i] :: l.drop (i + 1)) = (rt l[i] && okL (l.drop (i + 1))) := rfl
  rw [e]
  cases h : rightI l[i].f0 l[i].f1 l[i].f2 l[i].f3
  ·have : rt l[i] = false := h
   rw [this]
   simp only [Bool.false_and, Bool.false_eq_true, if_false]
   exact Ev.now _
  ·have : rt l[i] = true := h
   rw [this]
   simp only [Bool.true_and, if_true]
   rw [wS i (by omega)]
   exact ih (i + 1) (by omega)
theorem check_is (l : List In) (hl : l.length < 100000) : Ev (fun k => codec_check.f k l) (chk l) := by
 unfold codec_check.f chk
 by_cases h : 4096 < l.length
 ·rw [if_pos h]; exact Ev.congr (fun k => if_pos (by omega)) (Ev.now _)
 ·rw [if_neg h]; exact Ev.congr (fun k => if_neg (by omega)) (check_from l hl l.length 0 (by omega))
theorem chk_cases (l : List In) : chk l = 0 ∧ l.length ≤ 4096 ∧ okL l = true ∨ chk l = 3 ∧ 4096 < l.length ∨ chk l = 1 ∧ l.length ≤ 4096 ∧ okL l = false := by
 unfold chk
 by_cases h : 4096 < l.length
 ·rw [if_pos h]; exact .inr (.inl ⟨rfl, h⟩)
 ·rw [if_neg h]
  cases okL l
  ·exact .inr (.inr ⟨by simp, by omega, rfl⟩)
  ·exact .inl ⟨by simp, by omega, rfl⟩
def enc4 (c : Nat) : List Nat := [c % 256, c / 256 % 256, c / 65536 % 256, c / 16777216 % 256]
def encI (x : In) : List Nat := [x.f0.toNat, 0, x.f1.toNat, x.f2.toNat] ++ enc4 x.f3.toNat
def encL : List In → List Nat
 | [] => []
 | x :: l => encI x ++ encL l
theorem encI_len (x : In) : (encI x).length = 8 := rfl
theorem encL_len (l : List In) : (encL l).length = 8 * l.length := by
 induction l with
 | nil => rfl
 | cons x l ih => simp only [encL, List.length_append, encI_len, ih, List.length_cons]; omega
theorem enc4_bs (c : Nat) : Bs (enc4 c) := by
 intro x hx
 simp only [enc4, List.mem_cons, List.not_mem_nil, or_false] at hx
 rcases hx with rfl | rfl | rfl | rfl <;> exact Nat.mod_lt _ (by decide)
theorem encI_bs {x : In} (h : GoodI x) : Bs (encI x) := by
 obtain ⟨i, a, b, c, hi, ho, e1, e2, e3, l1, l2, l3, hr⟩ := h
 have := op_small hi ho
 intro y hy
 rcases List.mem_append.1 hy with hy | hy
 ·simp only [List.mem_cons, List.not_mem_nil, or_false] at hy
  rcases hy with rfl | rfl | rfl | rfl <;> omega
 ·exact enc4_bs _ y hy
theorem encL_bs {l : List In} (h : ∀ x ∈ l, GoodI x) : Bs (encL l) := by
 induction l with
 | nil => intro x hx; cases hx
 | cons x l ih =>
  refine bs_append.2 ⟨encI_bs (h x List.mem_cons_self), ih (fun y hy => h y (List.mem_cons_of_mem _ hy))⟩
theorem shr_byte (c j : Nat) (hj : j ≤ 3) : shr .u32 (c : Int) ((8 * j : Nat) : Int) = ((c / 2 ^ (8 * j) : Nat) : Int) := by
 unfold shr
 rw [Int.toNat_natCast, Nat.min_eq_left (show 8 * j ≤ IntKind.u32.bits from by simp only [IntKind.bits]; omega), Int.natCast_ediv]
 congr 1
theorem enc_inner (l : List In) (acc : List Int) (i : Int) (op jt jf : Int) (c : Nat) (ha : acc.length < 10000000) :
  ∀ (r : List Int × Int), Ev (fun k => codec_Encode.l0 k (acc ++ I (enc4 c)) l (l.length : Int) (wrap64 (i + 1))) r → Ev (fun k => codec_Encode.l1 k acc l (l.length : Int) i 0 op jt jf (c : Int)) r := by
 intro r hr
 have one : ∀ (j : Nat) (acc : List Int), j ≤ 3 → acc.length < 20000000 → ∀ k, codec_Encode.l1 (k + 1) acc l (l.length : Int) i (j : Int) op jt jf (c : Int) = codec_Encode.l1 k (acc ++ [((c / 2 ^ (8 * j) % 256 : Nat) : Int)]) l (l.length : Int) i ((j + 1 : Nat) : Int) op jt jf (c : Int) := by
  intro j acc hj ha k
  have e8 : wrap64 (8 * (j : Int)) = ((8 * j : Nat) : Int) := by rw [w64s (by omega) (by omega)]; omega
  have eb : shr .u32 (c : Int) ((8 * j : Nat) : Int) % 256 = ((c / 2 ^ (8 * j) % 256 : Nat) : Int) := by rw [shr_byte c j hj]; omega
  simp only [codec_Encode.l1]
  rw [if_pos (by omega), e8, if_pos (by omega), if_pos (by omega), eb, wS j (by omega)]
 refine Ev.step (fun k => one 0 acc (by omega) (by omega) k) ?_
 refine Ev.step (fun k => one 1 _ (by omega) (by rw [List.length_append]; simp; omega) k) ?_
 refine Ev.step (fun k => one 2 _ (by omega) (by rw [List.length_append, List.length_append]; simp; omega) k) ?_
 refine Ev.step (fun k => one 3 _ (by omega) (by rw [List.length_append, List.length_append, List.length_append]; simp; omega) k) ?_
 refine Ev.step (fun k => ?_) hr
 simp only [codec_Encode.l1]
 rw [if_neg (by omega)]
 congr 1
 simp [enc4, I]
theorem encode_from (l : List In) (hl : l.length ≤ 100000) (hg : ∀ x ∈ l, GoodI x) : ∀ (m i : Nat) (acc : List Int), i + m = l.length → acc.length = 8 * i → Ev (fun k => codec_Encode.l0 k acc l (l.length : Int) (i : Int)) (acc ++ I (encL (l.drop i)), 0) := by
 intro m
 induction m with
 | zero =>
  intro i acc hi ha
  rw [List.drop_of_length_le (by omega)]
  refine Ev.step (f := fun _ => some (acc ++ I (encL []), 0)) (fun k => ?_) (Ev.now _)
  simp only [codec_Encode.l0]
  rw [if_neg (by omega)]
  simp [encL, I]
 | succ m ih =>
  intro i acc hi ha
  have hil : i < l.length := by omega
  have hgx := hg _ (List.getElem_mem hil)
  obtain ⟨j, a, b, c, hj, ho, e1, e2, e3, l1, l2, l3, hr⟩ := hgx
  have hop := op_small hj ho
  have e4 : (([(rd_T59 l (i : Int)).f0 % 256, ((rd_T59 l (i : Int)).f0 / 256) % 256, (rd_T59 l (i : Int)).f1 % 256, (rd_T59 l (i : Int)).f2 % 256] : List Int)) = I [l[i].f0.toNat, 0, l[i].f1.toNat, l[i].f2.toNat] := by
   rw [rd_at l i hil, e1, e2]
   simp only [I, List.map_cons, List.map_nil, Int.toNat_natCast]
   rw [show l[i].f0 % 256 = (l[i].f0.toNat : Int) by omega, show l[i].f0 / 256 % 256 = ((0 : Nat) : Int) by omega, show ((a : Int) % 256) = (a : Int) by omega, show ((b : Int) % 256) = (b : Int) by omega]
  refine Ev.step (f := fun k => codec_Encode.l1 k (acc ++ I [l[i].f0.toNat, 0, l[i].f1.toNat, l[i].f2.toNat]) l (l.length : Int) (i : Int) 0 l[i].f0 l[i].f1 l[i].f2 l[i].f3) (fun k => ?_) ?_
  ·simp only [codec_Encode.l0]
   rw [if_pos (by omega), if_pos (by omega), if_pos (by omega), e4, rd_at l i hil]
   simp only [Option.bind_some]
   rw [if_pos (by rw [I_length]; simp; omega)]
  ·rw [e3]
   refine enc_inner l _ _ _ _ _ c (by rw [List.length_append, I_length]; simp; omega) _ ?_
   rw [wS i (by omega), drop_at l i hil]
   have := ih (i + 1) (acc ++ I [l[i].f0.toNat, 0, l[i].f1.toNat, l[i].f2.toNat] ++ I (enc4 c)) (by omega) (by simp only [List.length_append, I_length]; simp [enc4]; omega)
   have e5 : acc ++ I (encL (l[i] :: l.drop (i + 1))) = acc ++ I [l[i].f0.toNat, 0, l[i].f1.toNat, l[i].f2.toNat] ++ I (enc4 c) ++ I (encL (l.drop (i + 1))) := by
    simp only [encL, encI, I_append, List.append_assoc, e3, Int.toNat_natCast]
   rw [e5]
   exact this
theorem encode_is (l : List In) (hl : l.length < 100000) (hw : ∀ x ∈ l, Q.wfIns x) : Ev (fun k => codec_Encode.f k l) (if chk l = 0 then I (encL l) else [], chk l) := by
 unfold codec_Encode.f
 refine Ev.bind (check_is l hl) ?_
 rcases chk_cases l with ⟨e, hn, ho⟩ | ⟨e, _⟩ | ⟨e, _⟩
 ·rw [e]
  simp only [if_true]
  have := encode_from l (by omega) (okL_good hw ho) l.length 0 [] (by omega) rfl
  simpa using this
 ·rw [e]; simp only [show ((3 : Int) = 0) = False by simp, if_false]; exact Ev.now _
 ·rw [e]; simp only [show ((1 : Int) = 0) = False by simp, if_false]; exact Ev.now _
theorem one_is {x : In} (h : GoodI x) : r03_One.f x.f0 x.f1 x.f2 x.f3 = some (I (encI x)) := by
 obtain ⟨j, a, b, c, hj, ho, e1, e2, e3, l1, l2, l3, hr⟩ := h
 have hop := op_small hj ho
 unfold r03_One.f encI enc4
 rw [e1, e2, e3]
 have d1 : Int.tmod x.f0 256 = x.f0 % 256 := Int.tmod_eq_emod_of_nonneg hop.1
 have d2 : Int.tmod (c : Int) 256 = (c : Int) % 256 := Int.tmod_eq_emod_of_nonneg (by omega)
 have d3 : ∀ m : Int, Int.tdiv (c : Int) m = (c : Int) / m := fun m => Int.tdiv_eq_ediv_of_nonneg (by omega)
 rw [d1, d2, d3, d3, d3]
 simp only [I, List.cons_append, List.nil_append, List.map_cons, List.map_nil, Int.toNat_natCast]
 congr 1
 simp only [List.cons.injEq, and_true]
 refine ⟨?_, ?_, ?_, ?_, ?_, ?_, ?_, ?_⟩ <;> omega
theorem rencode_from (l : List In) (hl : l.length ≤ 100000) (hg : ∀ x ∈ l, GoodI x) : ∀ (m i : Nat) (acc : List Int), i + m = l.length → acc.length = 8 * i → Ev (fun k => r03_Encode.l0 k l acc (i : Int)) (acc ++ I (encL (l.drop i))) := by
 intro m
 induction m with
 | zero =>
  intro i acc hi ha
  rw [List.drop_of_length_le (by omega)]
  refine Ev.step (f := fun _ => some (acc ++ I (encL []))) (fun k => ?_) (Ev.now _)
  simp only [r03_Encode.l0]
  rw [if_neg (by omega)]
  simp [encL, I]
 | succ m ih =>
  intro i acc hi ha
  have hil : i < l.length := by omega
  have hgx := hg _ (List.getElem_mem hil)
  refine Ev.step (f := fun k => r03_Encode.l0 k l (acc ++ I (encI l[i])) ((i + 1 : Nat) : Int)) (fun k => ?_) ?_
  ·simp only [r03_Encode.l0]
   rw [if_pos (by omega), if_pos (by omega), rd_at l i hil, one_is hgx]
   simp only [Option.bind_some]
   rw [if_pos (by rw [I_length, encI_len]; omega), wS i (by omega)]
  ·rw [drop_at l i hil]
   have := ih (i + 1) (acc ++ I (encI l[i])) (by omega) (by rw [List.length_append, I_length, encI_len]; omega)
   rw [show acc ++ I (encL (l[i] :: l.drop (i + 1))) = acc ++ I (encI l[i]) ++ I (encL (l.drop (i + 1))) by simp only [encL, I_append, List.append_assoc]]
   exact this
theorem rencode_is (l : List In) (hl : l.length < 100000) (hg : ∀ x ∈ l, GoodI x) : Ev (fun k => r03_Encode.f k l) (I (encL l)) := by
 unfold r03_Encode.f
 have := rencode_from l (by omega) hg l.length 0 [] (by omega) rfl
 simpa using this
def kOf (b : List Nat) : Nat → Nat
 | 0 => 0
 | j + 1 => kOf b j + 2 ^ (8 * j) * b.getD (4 + j) 0
def dec1 (b : List Nat) : In := ⟨((b.getD 0 0 + 256 * b.getD 1 0 : Nat) : Int), (b.getD 2 0 : Int), (b.getD 3 0 : Int), (kOf b 4 : Int)⟩
noncomputable def decG : Nat → List Nat → List In → List In × Int
 | 0, _, acc => (acc, 0)
 | n + 1, b, acc => if rt (dec1 b) = true then decG n (b.drop 8) (acc ++ [dec1 b]) else ([], 2)
noncomputable def decoded (b : List Nat) : List In × Int := if 32768 < b.length then ([], 3) else if b.length % 8 = 0 then decG (b.length / 8) b [] else ([], 9)
theorem same_from (c : List In) (hc : c.length < 100000) : ∀ (m i : Nat), i + m = c.length → Ev (fun k => r03_Same.l0 k c c (i : Int)) true := by
 intro m
 induction m with
 | zero =>
  intro i hi
  refine Ev.step (f := fun _ => some true) (fun k => ?_) (Ev.now _)
  simp only [r03_Same.l0]
  rw [if_neg (by omega)]
 | succ m ih =>
  intro i hi
  refine Ev.step (fun k => ?_) (ih (i + 1) (by omega))
  simp only [r03_Same.l0]
  rw [if_pos (by omega), if_pos (by omega), if_pos (by omega), if_neg (by simp), wS i (by omega)]
theorem same_is (c : List In) (hc : c.length < 100000) : Ev (fun k => r03_Same.f k c c) true := by
 unfold r03_Same.f
 exact Ev.congr (fun k => if_pos rfl) (same_from c hc c.length 0 (by omega))
end Go.Proofs.YtahacmdhhfmhiaaDoor.CodecB
