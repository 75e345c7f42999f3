/- Windows and rules: which are right, and their bytes, by the program's and the document's functions: the same. No condition but sizes far beyond the laws'. -/
import Derived.Test.YtahacmdhhfmhiaaDoorChkB
import Derived.Test.YtahacmdhhfmhiaaDoorCodA
import Derived.Test.YtahacmdhhfmhiaaDoorMB
import Derived.Test.YtahacmdhhfmhiaaDoorM0
import Derived.Test.YtahacmdhhfmhiaaDoorME
import Derived.Test.YtahacmdhhfmhiaaDoorCrcA
import Derived.Test.YtahacmdhhfmhiaaDoorMA
import Derived.Test.YtahacmdhhfmhiaaDoorMC
import Derived.Test.YtahacmdhhfmhiaaDoorM33
import Derived.Test.YtahacmdhhfmhiaaDoorMD
import Derived.Test.YtahacmdhhfmhiaaDoorM49
import Derived.Test.YtahacmdhhfmhiaaDoorM50
namespace Go.Proofs.YtahacmdhhfmhiaaDoor.TabA
set_option linter.unusedVariables false
set_option linter.unusedSimpArgs false
open Go.RowKit Go.Proofs.YtahacmdhhfmhiaaDoorW.PrintWords Go.Proofs.YtahacmdhhfmhiaaDoorW.PrintLast Go.Proofs.YtahacmdhhfmhiaaDoorW.PrintMore Go.Proofs.YtahacmdhhfmhiaaDoor.M Go.Proofs.YtahacmdhhfmhiaaDoor.InsOps Go.Proofs.YtahacmdhhfmhiaaDoor.RightB Go.Proofs.YtahacmdhhfmhiaaDoor.Hex
abbrev In := S59
noncomputable def pre (x : In) : Bool := !(x.f0 == 5) && (!(branchI x.f0) && !(ChkB.endI x))
noncomputable def okW (x : In) : Bool := pre x && (ChkB.one x 1 == 0)
noncomputable def winI (w : List In) : Bool := w.all okW && decide (w.length ≤ 32)
theorem drop_all (p : In → Bool) (w : List In) (i : Nat) (h : i < w.length) : (w.drop i).all p = (p w[i] && (w.drop (i + 1)).all p) := by rw [ChkB.drop_at w i h, List.all_cons]
theorem pre_5 {x : In} (h : x.f0 = 5) : pre x = false := by unfold pre; simp [h]
theorem pre_b {x : In} (h : branchI x.f0 = true) : pre x = false := by unfold pre; simp [h]
theorem pre_e {x : In} (h : ChkB.endI x = true) : pre x = false := by unfold pre; simp [h]
theorem pre_ok {x : In} (h5 : ¬ x.f0 = 5) (hb : branchI x.f0 = false) (he : ChkB.endI x = false) : pre x = true := by
 unfold pre
 rw [hb, he, beq_eq_false_iff_ne.mpr h5]
 rfl
theorem pre_un {x : In} (h : pre x = true) : x.f0 ≠ 5 ∧ branchI x.f0 = false ∧ ChkB.endI x = false := by
 unfold pre at h
 simp only [Bool.and_eq_true, Bool.not_eq_true', beq_eq_false_iff_ne] at h
 exact ⟨h.1, h.2.1, h.2.2⟩
theorem one_pre {x : In} (h : pre x = true) (a b : Int) : ChkB.one x a = ChkB.one x b := by
 obtain ⟨h5, hb, _⟩ := pre_un h
 have hf : ∀ c : Int, ChkB.far x c = false := fun c => by
  unfold ChkB.far
  rw [if_neg h5, hb]
  rfl
 unfold ChkB.one
 rw [hf a, hf b]
def retA : In := ⟨22, 0, 0, 0⟩
theorem right_ret : rightI 22 0 0 0 = true := by
 obtain ⟨i, hi, ho, hk, hw⟩ : ∃ i, i < 39 ∧ opsL[i]? = some 22 ∧ hasK i = false ∧ hasW i = false := ⟨opsL.idxOf 22, by decide, by decide, by decide, by decide⟩
 rw [(rightI_row hi ho _ _ _).1]
 unfold right
 rw [hk, hw]
 rfl
theorem one_ret (left : Int) : ChkB.one retA left = 0 := by
 unfold ChkB.one ChkB.rt retA
 rw [if_pos right_ret, if_pos (show check_ruleE 22 0 = 0 by unfold check_ruleE; simp)]
 have : ChkB.far (⟨22, 0, 0, 0⟩ : ChkB.In) left = false := by
  unfold ChkB.far
  rw [if_neg (show ¬ (22 : Int) = 5 by decide), ChkB.branch_22]
  rfl
 rw [this, if_neg Bool.false_ne_true]
theorem sound_pre (w : List In) (hl : w.length ≤ 32) (hp : w.all pre = true) : ((ChkB.chk (w ++ [retA])).2 == 0) = w.all okW := by
 have hlen : (w ++ [retA]).length = w.length + 1 := by rw [List.length_append]; rfl
 have hp := List.all_eq_true.1 hp
 have hlast : (w ++ [retA]).getD ((w ++ [retA]).length - 1) z59 = retA := by
  rw [hlen, List.getD_eq_getElem?_getD, show w.length + 1 - 1 = w.length by omega, List.getElem?_append_right (Nat.le_refl _), Nat.sub_self]
  rfl
 have key : (ChkB.chk (w ++ [retA])).2 = 0 ↔ w.all okW = true := by
  rw [ChkB.sound_iff, List.all_eq_true]
  constructor
  ·rintro ⟨_, _, h3, _⟩ x hx
   obtain ⟨q, hq, rfl⟩ := List.getElem_of_mem hx
   have h := h3 q (by omega)
   rw [List.getElem_append_left hq] at h
   unfold okW
   rw [hp _ hx, Bool.true_and, beq_iff_eq, one_pre (hp _ hx) 1 (((w ++ [retA]).length : Int) - 1 - (q : Int))]
   exact h
  ·intro h
   refine ⟨by omega, by omega, fun q hq => ?_, ?_⟩
   ·by_cases hqw : q < w.length
    ·have hx := List.getElem_mem hqw
     have := h _ hx
     unfold okW at this
     rw [hp _ hx, Bool.true_and, beq_iff_eq] at this
     rw [List.getElem_append_left hqw, one_pre (hp _ hx) _ 1]
     exact this
    ·rw [List.getElem_append_right (by omega)]
     have e : ([retA] : List In)[q - w.length]'(by simp; omega) = retA := by simp
     rw [e]
     exact one_ret _
   ·rw [hlast]
    rfl
 cases hb : w.all okW
 ·exact beq_eq_false_iff_ne.mpr fun e => by rw [key.1 e] at hb; cases hb
 ·rw [key.2 hb]; rfl
theorem win_from (w : List In) (hl : w.length ≤ 32) (hw : ∀ x ∈ w, Q.wfIns x) : ∀ (d i : Nat), i + d = w.length → Ev (fun k => window_Right.l0 k w w (w.length : Int) (i : Int)) ((w.drop i).all pre && ((ChkB.chk (w ++ [retA])).2 == 0)) := by
 have hwr : ∀ x ∈ w ++ [retA], Q.wfIns x := fun x hx => by
  rcases List.mem_append.1 hx with h | h
  ·exact hw x h
  ·rw [List.mem_singleton.1 h]
   exact ⟨by decide, by decide, by decide, by decide⟩
 have hs := ChkB.sound_is (w ++ [retA]) (by rw [List.length_append]; simp; omega) hwr
 intro d
 induction d with
 | zero =>
  intro i hi
  rw [List.drop_of_length_le (by omega)]
  refine Ev.step (f := fun k => (check_Sound.f k (w ++ [retA])).bind fun t => some t) (fun k => ?_) (Ev.bind hs (Ev.now _))
  rw [window_Right.l0, if_neg (by omega), Option.bind_some, if_pos (by simp; omega), Option.bind_some, if_pos (by simp; omega)]
  rfl
 | succ d ih =>
  intro i hi
  have hil : i < w.length := by omega
  rw [drop_all pre w i hil]
  refine Ev.step (fun k => by rw [window_Right.l0, if_pos (by omega), if_pos (by omega), if_pos (by omega), ChkB.rd_at w i hil]) ?_
  have no : pre w[i] = false → Ev (fun _ => some false) (pre w[i] && (w.drop (i + 1)).all pre && ((ChkB.chk (w ++ [retA])).2 == 0)) := fun h => by
   rw [h, Bool.false_and, Bool.false_and]
   exact Ev.now _
  by_cases h5 : w[i].f0 = 5
  ·exact Ev.congr (fun k => if_pos h5) (no (pre_5 h5))
  refine Ev.congr (fun k => (if_neg h5).trans (by rw [branchI_is, Option.bind_some])) ?_
  cases hb : branchI w[i].f0
  ·refine Ev.congr (fun k => (if_neg Bool.false_ne_true).trans (by rw [ChkB.ends_is, Option.bind_some])) ?_
   cases he : ChkB.endI w[i]
   ·rw [pre_ok h5 hb he, Bool.true_and]
    exact Ev.congr (fun k => (if_neg Bool.false_ne_true).trans (by rw [ChkB.wS i (by omega)])) (ih (i + 1) (by omega))
   ·exact Ev.congr (fun k => if_pos rfl) (no (pre_e he))
  ·exact Ev.congr (fun k => if_pos rfl) (no (pre_b hb))
theorem okW_pre {w : List In} (h : w.all pre = false) : w.all okW = false := by
 cases hb : w.all okW
 ·rfl
 ·exfalso
  have : w.all pre = true := List.all_eq_true.2 fun x hx => by
   have := List.all_eq_true.1 hb x hx
   unfold okW at this
   exact (Bool.and_eq_true_iff.mp this).1
  rw [h] at this
  cases this
theorem win_is (w : List In) (hl : w.length < 100000) (hw : ∀ x ∈ w, Q.wfIns x) : Ev (fun k => window_Right.f k w) (winI w) := by
 unfold window_Right.f winI
 by_cases h : w.length ≤ 32
 ·rw [decide_eq_true h, Bool.and_true]
  refine Ev.congr (fun k => if_neg (by omega)) ?_
  have e := win_from w h hw w.length 0 (by omega)
  rw [List.drop_zero] at e
  cases hp : w.all pre
  ·rw [hp, Bool.false_and] at e
   rw [okW_pre hp]
   exact e
  ·rw [sound_pre w h hp, hp, Bool.true_and] at e
   exact e
 ·rw [decide_eq_false h, Bool.and_false]
  exact Ev.congr (fun k => if_pos (by omega)) (Ev.now _)
noncomputable def mayI (a b : List In) (v : Int) : Bool := winI a && (winI b && (decide (b.length < a.length) && decide (v < 262144)))
section
variable {a b : List In} (ha : a.length < 100000) (hb : b.length < 100000) (wa : ∀ x ∈ a, Q.wfIns x) (wb : ∀ x ∈ b, Q.wfIns x) (v : Int)
include ha hb wa wb
theorem right_is_ : Ev (fun k => table_Rule_right.f k a b v) (mayI a b v) := by
 unfold table_Rule_right.f mayI
 refine Ev.bind (win_is a ha wa) ?_
 cases winI a
 ·exact Ev.congr (fun k => if_neg Bool.false_ne_true) (by rw [Bool.false_and]; exact Ev.now _)
 ·rw [Bool.true_and]
  refine Ev.congr (fun k => if_pos rfl) (Ev.bind (win_is b hb wb) ?_)
  cases winI b
  ·exact Ev.congr (fun k => if_neg Bool.false_ne_true) (by rw [Bool.false_and]; exact Ev.now _)
  ·rw [Bool.true_and]
   refine Ev.congr (fun k => if_pos rfl) ?_
   by_cases h : b.length < a.length
   ·rw [decide_eq_true h, Bool.true_and]
    exact Ev.congr (fun k => if_pos (by omega)) (Ev.now _)
   ·rw [decide_eq_false h, Bool.false_and]
    exact Ev.congr (fun k => if_neg (by omega)) (Ev.now _)
end
def bytN (a b : List In) (c : Nat) : List Nat := CodecB.enc4 c ++ ([a.length % 256, b.length % 256] ++ (CodecB.encL a ++ CodecB.encL b))
theorem win_good {w : List In} (hw : ∀ x ∈ w, Q.wfIns x) (h : winI w = true) : w.length ≤ 32 ∧ ∀ x ∈ w, CodecB.GoodI x := by
 unfold winI at h
 rw [Bool.and_eq_true, decide_eq_true_eq] at h
 refine ⟨h.2, fun x hx => CodecB.good_of (hw x hx).2.2.2 ?_⟩
 have := List.all_eq_true.1 h.1 x hx
 unfold okW at this
 rw [Bool.and_eq_true, beq_iff_eq] at this
 have h1 := this.2
 unfold ChkB.one at h1
 cases hr : ChkB.rt x
 ·rw [hr] at h1; simp at h1
 ·exact hr
theorem win_chk {w : List In} (hw : ∀ x ∈ w, Q.wfIns x) (h : winI w = true) : CodecB.chk w = 0 := by
 obtain ⟨h1, h2⟩ := win_good hw h
 unfold CodecB.chk
 rw [if_neg (by omega), if_pos (CodecB.good_okL h2)]
theorem head_i (a b : List In) (c : Nat) (hc : c < 4294967296) : ([((c : Nat) : Int) % 256, ((c : Nat) : Int) / 256 % 256, ((c : Nat) : Int) / 65536 % 256, ((c : Nat) : Int) / 16777216 % 256, (a.length : Int) % 256, (b.length : Int) % 256] : List Int) = CodecB.I (CodecB.enc4 c ++ [a.length % 256, b.length % 256]) := by
 simp only [CodecB.I, CodecB.enc4, List.cons_append, List.nil_append, List.map_cons, List.map_nil, Int.natCast_emod, Int.natCast_ediv]
 rfl
theorem byt_bs {a b : List In} (ha : ∀ x ∈ a, CodecB.GoodI x) (hb : ∀ x ∈ b, CodecB.GoodI x) (c : Nat) : Bs (bytN a b c) := by
 intro x hx
 rcases List.mem_append.1 hx with h | h
 ·exact CodecB.enc4_bs c x h
 rcases List.mem_append.1 h with h | h
 ·simp at h; omega
 rcases List.mem_append.1 h with h | h
 ·exact CodecB.encL_bs ha x h
 ·exact CodecB.encL_bs hb x h
theorem byt_len (a b : List In) (c : Nat) : (bytN a b c).length = 6 + 8 * a.length + 8 * b.length := by
 unfold bytN
 simp only [List.length_append, CodecB.encL_len, List.length_cons, List.length_nil]
 have : (CodecB.enc4 c).length = 4 := rfl
 omega
section
variable {a b : List In} (wa : ∀ x ∈ a, Q.wfIns x) (wb : ∀ x ∈ b, Q.wfIns x) (ha : winI a = true) (hb : winI b = true) (c : Nat) (hc : c < 4294967296)
include wa wb ha hb hc
theorem bytes_is : Ev (fun k => table_Rule_bytes.f k a b (c : Int)) (str (bytN a b c)) := by
 obtain ⟨la, ga⟩ := win_good wa ha
 obtain ⟨lb, gb⟩ := win_good wb hb
 have e1 := CodecB.encode_is a (by omega) wa
 have e2 := CodecB.encode_is b (by omega) wb
 rw [win_chk wa ha, if_pos rfl] at e1
 rw [win_chk wb hb, if_pos rfl] at e2
 unfold table_Rule_bytes.f
 rw [head_i a b c hc]
 refine Ev.congr (fun k => Option.bind_some _ _) (Ev.bind e1 ?_)
 have n1 : (CodecB.I (CodecB.enc4 c ++ [a.length % 256, b.length % 256])).length + (CodecB.I (CodecB.encL a)).length < 140737488355328 := by
  rw [CodecB.I_length, CodecB.I_length, CodecB.encL_len]
  have : (CodecB.enc4 c ++ [a.length % 256, b.length % 256]).length = 6 := rfl
  omega
 refine Ev.congr (fun k => (if_pos n1).trans (Option.bind_some _ _)) (Ev.bind e2 ?_)
 have n2 : (CodecB.I (CodecB.enc4 c ++ [a.length % 256, b.length % 256]) ++ CodecB.I (CodecB.encL a)).length + (CodecB.I (CodecB.encL b)).length < 140737488355328 := by
  rw [List.length_append, CodecB.I_length, CodecB.I_length, CodecB.I_length, CodecB.encL_len, CodecB.encL_len]
  have : (CodecB.enc4 c ++ [a.length % 256, b.length % 256]).length = 6 := rfl
  omega
 refine Ev.congr (fun k => if_pos n2) ?_
 rw [← CodecB.I_append, ← CodecB.I_append, CodecB.I_str, show (CodecB.enc4 c ++ [a.length % 256, b.length % 256] ++ CodecB.encL a) ++ CodecB.encL b = bytN a b c by unfold bytN; simp only [List.append_assoc]]
 exact Ev.now _
end
end Go.Proofs.YtahacmdhhfmhiaaDoor.TabA
/- Tables: which are right, and their bytes, by the program's and the document's functions: the same. No condition but sizes far beyond the laws'. -/
namespace Go.Proofs.YtahacmdhhfmhiaaDoor.TabB
set_option linter.unusedVariables false
set_option linter.unusedSimpArgs false
open Go.RowKit Go.Proofs.YtahacmdhhfmhiaaDoorW.PrintWords Go.Proofs.YtahacmdhhfmhiaaDoorW.PrintLast Go.Proofs.YtahacmdhhfmhiaaDoorW.PrintMore Go.Proofs.YtahacmdhhfmhiaaDoor.M Go.Proofs.YtahacmdhhfmhiaaDoor.InsOps Go.Proofs.YtahacmdhhfmhiaaDoor.RightB Go.Proofs.YtahacmdhhfmhiaaDoor.Hex Go.Proofs.YtahacmdhhfmhiaaDoor.TabA
abbrev Ru := S42
structure Wr (x : Ru) : Prop where
 l0 : x.f0.length < 100000
 l1 : x.f1.length < 100000
 w0 : ∀ y ∈ x.f0, Q.wfIns y
 w1 : ∀ y ∈ x.f1, Q.wfIns y
 v0 : 0 ≤ x.f2
 v1 : x.f2 < 4294967296
noncomputable def may (x : Ru) : Bool := mayI x.f0 x.f1 x.f2
def byt (x : Ru) : List Nat := bytN x.f0 x.f1 x.f2.toNat
theorem rd_ru (l : List Ru) (i : Nat) (h : i < l.length) : rd_T42 l (i : Int) = l[i] := by
 unfold rd_T42
 rw [List.getD_eq_getElem?_getD, Int.toNat_natCast, List.getElem?_eq_getElem h]
 rfl
theorem may_un {x : Ru} (h : may x = true) : winI x.f0 = true ∧ winI x.f1 = true ∧ x.f1.length < x.f0.length ∧ x.f2 < 262144 := by
 unfold may mayI at h
 simp only [Bool.and_eq_true, decide_eq_true_eq] at h
 exact h
theorem v_eq {x : Ru} (h : Wr x) : ((x.f2.toNat : Nat) : Int) = x.f2 := Int.toNat_of_nonneg h.v0
theorem bytes_ru {x : Ru} (h : Wr x) (hm : may x = true) : Ev (fun k => table_Rule_bytes.f k x.f0 x.f1 x.f2) (str (byt x)) := by
 obtain ⟨h1, h2, _, _⟩ := may_un hm
 have e := bytes_is h.w0 h.w1 h1 h2 x.f2.toNat (by have := h.v0; have := h.v1; omega)
 rw [v_eq h] at e
 exact e
theorem byt_bs_ru {x : Ru} (h : Wr x) (hm : may x = true) : Bs (byt x) := by
 obtain ⟨h1, h2, _, _⟩ := may_un hm
 exact byt_bs (win_good h.w0 h1).2 (win_good h.w1 h2).2 _
theorem byt_len_ru {x : Ru} (h : Wr x) (hm : may x = true) : (byt x).length ≤ 518 := by
 obtain ⟨h1, h2, _, _⟩ := may_un hm
 have a := (win_good h.w0 h1).1
 have b := (win_good h.w1 h2).1
 unfold byt
 rw [byt_len]
 omega
def lessN : List Nat → List Nat → Bool
 | _, [] => false
 | [], _ :: _ => true
 | a :: x, b :: y => if a = b then lessN x y else decide (a < b)
theorem bless : ∀ (a b : List Nat), Bs a → Bs b → Op.bytesLess (a.map UInt8.ofNat) (b.map UInt8.ofNat) = lessN a b
 | _, [], _, _ => by cases ‹List Nat› <;> rfl
 | [], _ :: _, _, _ => rfl
 | a :: x, b :: y, ha, hb => by
  have h1 := ha a List.mem_cons_self
  have h2 := hb b List.mem_cons_self
  have ih := bless x y (fun z hz => ha z (List.mem_cons_of_mem _ hz)) (fun z hz => hb z (List.mem_cons_of_mem _ hz))
  simp only [List.map_cons, Op.bytesLess, lessN, ih]
  have e1 : (UInt8.ofNat a == UInt8.ofNat b) = decide (a = b) := by
   by_cases h : a = b
   ·subst h
    simp
   ·rw [decide_eq_false h, beq_eq_false_iff_ne]
    intro hh
    have := congrArg UInt8.toNat hh
    simp at this
    omega
  have e2 : decide (UInt8.ofNat a < UInt8.ofNat b) = decide (a < b) := by
   refine decide_eq_decide.mpr ?_
   rw [UInt8.lt_iff_toNat_lt]
   simp
   rw [Nat.mod_eq_of_lt (by omega), Nat.mod_eq_of_lt (by omega)]
  rw [e1, e2]
  by_cases h : a = b
  ·subst h
   simp
  ·simp [h]
theorem bless_str {a b : List Nat} (ha : Bs a) (hb : Bs b) : Op.bytesLess (str a).toList (str b).toList = lessN a b := by
 rw [ByteArray.toList_eq, ByteArray.toList_eq]
 exact bless a b ha hb
noncomputable def rgF (t : List Ru) : Nat → Nat → Bool
 | _, 0 => true
 | i, d + 1 => may (t.getD i z42) && ((i == 0 || lessN (byt (t.getD (i - 1) z42)) (byt (t.getD i z42))) && rgF t (i + 1) d)
noncomputable def rg (t : List Ru) : Bool := rgF t 0 t.length && decide (t.length ≤ 64)
structure Wt (t : List Ru) : Prop where
 n : t.length < 100000
 w : ∀ x ∈ t, Wr x
theorem getD_ru (t : List Ru) (i : Nat) (h : i < t.length) : t.getD i z42 = t[i] := by rw [List.getD_eq_getElem?_getD, List.getElem?_eq_getElem h]; rfl
theorem right_from {t : List Ru} (h : Wt t) : ∀ (d i : Nat), i + d = t.length → (i = 0 ∨ may (t.getD (i - 1) z42) = true) → Ev (fun k => table_Right.l0 k t t (t.length : Int) (i : Int)) (rgF t i d && decide (t.length ≤ 64)) := by
 have hl := h.n
 intro d
 induction d with
 | zero =>
  intro i hi _
  refine Ev.step (f := fun _ => some (decide ((t.length : Int) ≤ 64))) (fun k => by rw [table_Right.l0, if_neg (by omega)]) ?_
  rw [rgF, Bool.true_and, show decide ((t.length : Int) ≤ 64) = decide (t.length ≤ 64) from decide_eq_decide.mpr (by omega)]
  exact Ev.now _
 | succ d ih =>
  intro i hi hp
  have hil : i < t.length := by omega
  have hw := h.w _ (List.getElem_mem hil)
  have hr := right_is_ hw.l0 hw.l1 hw.w0 hw.w1 t[i].f2
  rw [rgF, getD_ru t i hil]
  refine Ev.step (fun k => by rw [table_Right.l0, if_pos (by omega), if_pos (by omega), if_pos (by omega), rd_ru t i hil]) (Ev.bind hr ?_)
  rw [show mayI t[i].f0 t[i].f1 t[i].f2 = may t[i] from rfl]
  cases hm : may t[i]
  ·rw [Bool.false_and, Bool.false_and]
   exact Ev.congr (fun k => if_neg Bool.false_ne_true) (Ev.now _)
  ·rw [Bool.true_and]
   have next := ih (i + 1) (by omega) (.inr (by rw [Nat.add_sub_cancel, getD_ru t i hil]; exact hm))
   refine Ev.congr (fun k => if_pos rfl) ?_
   by_cases h0 : i = 0
   ·subst h0
    rw [show ((0 : Nat) == 0) = true from rfl, Bool.true_or, Bool.true_and]
    exact Ev.congr (fun k => (if_neg (by omega)).trans (by rw [ChkB.wS 0 (by omega)])) next
   ·have hi1 : i - 1 < t.length := by omega
    have hm1 : may t[i - 1] = true := by
     rcases hp with e | e
     ·exact absurd e h0
     ·rw [getD_ru t (i - 1) hi1] at e; exact e
    have hw1 := h.w _ (List.getElem_mem hi1)
    have w : wrap64 ((i : Int) - 1) = ((i - 1 : Nat) : Int) := by unfold wrap64; omega
    rw [beq_eq_false_iff_ne.mpr h0, Bool.false_or, getD_ru t (i - 1) hi1]
    refine Ev.congr (fun k => (if_pos (by omega)).trans (by rw [w, if_pos (by omega), if_pos (by omega), rd_ru t (i - 1) hi1])) (Ev.bind (bytes_ru hw1 hm1) (Ev.bind (bytes_ru hw hm) ?_))
    rw [bless_str (byt_bs_ru hw1 hm1) (byt_bs_ru hw hm)]
    cases lessN (byt t[i - 1]) (byt t[i])
    ·rw [Bool.false_and, Bool.false_and]
     exact Ev.congr (fun k => if_neg Bool.false_ne_true) (Ev.now _)
    ·rw [Bool.true_and]
     exact Ev.congr (fun k => (if_pos rfl).trans (by rw [ChkB.wS i (by omega)])) next
theorem right_is {t : List Ru} (h : Wt t) : Ev (fun k => table_Right.f k t) (rg t) := right_from h t.length 0 (by omega) (.inl rfl)
theorem rgF_may {t : List Ru} : ∀ (d i : Nat), i + d = t.length → rgF t i d = true → ∀ j, i ≤ j → ∀ hj : j < t.length, may t[j] = true := by
 intro d
 induction d with
 | zero => intro i hi _ j h1 h2; omega
 | succ d ih =>
  intro i hi hr j h1 h2
  rw [rgF, Bool.and_eq_true, Bool.and_eq_true] at hr
  by_cases e : j = i
  ·subst e
   rw [getD_ru t j h2] at hr
   exact hr.1
  ·exact ih (i + 1) (by omega) hr.2.2 j (by omega) h2
theorem rg_may {t : List Ru} (h : rg t = true) : t.length ≤ 64 ∧ ∀ x ∈ t, may x = true := by
 unfold rg at h
 rw [Bool.and_eq_true, decide_eq_true_eq] at h
 refine ⟨h.2, fun x hx => ?_⟩
 obtain ⟨j, hj, rfl⟩ := List.getElem_of_mem hx
 exact rgF_may t.length 0 (by omega) h.1 j (by omega) hj
theorem bytesOf_str {l : List Nat} (h : Bs l) : bytesOf (str l) = CodecB.I l := by
 have := bytes_str h
 unfold numsL at this
 unfold bytesOf CodecB.I
 rw [← this, List.map_map]
 simp [Function.comp_def, this]
def encT (t : List Ru) : List Nat := t.flatMap byt
theorem str_size (l : List Nat) : (str l).size = l.length := by
 show (l.map UInt8.ofNat).toArray.size = _
 simp
theorem enc_from {t : List Ru} (h : Wt t) (hm : ∀ x ∈ t, may x = true) (hl : t.length ≤ 64) : ∀ (d i : Nat) (acc : List Nat), i + d = t.length → acc.length ≤ 5 + 518 * i → Bs acc → Ev (fun k => table_Encode.l0 k (CodecB.I acc) t (t.length : Int) (i : Int)) (CodecB.I ((acc ++ encT (t.drop i)) ++ CrcPlain.four (CrcPlain.crc (acc ++ encT (t.drop i)))), 0) := by
 intro d
 induction d with
 | zero =>
  intro i acc hi ha hb
  rw [List.drop_of_length_le (by omega), encT, List.flatMap_nil, List.append_nil]
  exact Ev.step (f := fun k => (crc_Seal.f k (CodecB.I acc)).bind fun t => some (t, 0)) (fun k => by rw [table_Encode.l0, if_neg (by omega)]) (Ev.bind (CrcB.seal_is acc hb (by omega)) (Ev.now _))
 | succ d ih =>
  intro i acc hi ha hb
  have hil : i < t.length := by omega
  have hw := h.w _ (List.getElem_mem hil)
  have hmi := hm _ (List.getElem_mem hil)
  have hbx := byt_bs_ru hw hmi
  have hlx := byt_len_ru hw hmi
  have := ih (i + 1) (acc ++ byt t[i]) (by omega) (by rw [List.length_append]; omega) (fun y hy => (List.mem_append.1 hy).elim (hb y) (hbx y))
  rw [List.drop_eq_getElem_cons hil, show encT (t[i] :: t.drop (i + 1)) = byt t[i] ++ encT (t.drop (i + 1)) from rfl, ← List.append_assoc]
  refine Ev.step (fun k => by rw [table_Encode.l0, if_pos (by omega), if_pos (by omega), if_pos (by omega), rd_ru t i hil]) (Ev.bind (bytes_ru hw hmi) ?_)
  refine Ev.congr (fun k => ?_) this
  rw [str_size, CodecB.I_length, if_pos (by omega), bytesOf_str hbx, ← CodecB.I_append, ChkB.wS i (by omega)]
def headT (t : List Ru) : List Nat := [72, 82, 84, 49, t.length % 256]
theorem head_bs (t : List Ru) : Bs (headT t) := by
 intro x hx
 unfold headT at hx
 simp at hx
 omega
theorem head_I (t : List Ru) : CodecB.I (headT t) = ([72, 82, 84, 49] : List Int) ++ [(t.length : Int) % 256] := by
 simp [CodecB.I, headT]
def tabN (t : List Ru) : List Nat := (headT t ++ encT t) ++ CrcPlain.four (CrcPlain.crc (headT t ++ encT t))
theorem encode_ok {t : List Ru} (h : Wt t) (hr : rg t = true) : Ev (fun k => table_Encode.f k t) (CodecB.I (tabN t), 0) := by
 obtain ⟨h64, hm⟩ := rg_may hr
 have e := enc_from h hm h64 t.length 0 (headT t) (by omega) (show 5 ≤ 5 + 518 * 0 by omega) (head_bs t)
 rw [List.drop_zero, head_I] at e
 have e : Ev (fun k => table_Encode.l0 k (([72, 82, 84, 49] : List Int) ++ [(t.length : Int) % 256]) t (t.length : Int) 0) (CodecB.I (tabN t), 0) := e
 unfold table_Encode.f
 refine Ev.bind (right_is h) ?_
 rw [hr]
 refine Ev.congr (fun k => (if_pos rfl).trans (by rw [Option.bind_some, if_pos (show ([72, 82, 84, 49] : List Int).length < 140737488355328 by decide)])) e
theorem encode_no {t : List Ru} (h : Wt t) (hr : rg t = false) : Ev (fun k => table_Encode.f k t) ([], 1) := by
 unfold table_Encode.f
 refine Ev.bind (right_is h) ?_
 rw [hr]
 exact Ev.congr (fun k => if_neg Bool.false_ne_true) (Ev.now _)
noncomputable def grN (t : List Ru) : Bool := (t.any fun x => decide (100 < x.f0.length) || decide (100 < x.f1.length)) || decide (100 < t.length)
theorem great_from (t : List Ru) (hl : t.length < 9223372036854775808) : ∀ (d i : Nat), i + d = t.length → Ev (fun k => l21_Great.l0 k t (i : Int)) (((t.drop i).any fun x => decide (100 < x.f0.length) || decide (100 < x.f1.length)) || decide (100 < t.length)) := by
 intro d
 induction d with
 | zero =>
  intro i hi
  rw [List.drop_of_length_le (by omega), List.any_nil, Bool.false_or]
  refine Ev.step (f := fun _ => some (decide (100 < t.length))) (fun k => ?_) (Ev.now _)
  rw [l21_Great.l0, if_neg (by omega)]
  exact congrArg some (decide_eq_decide.mpr (by omega))
 | succ d ih =>
  intro i hi
  have hil : i < t.length := by omega
  rw [List.drop_eq_getElem_cons hil, List.any_cons]
  refine Ev.step (fun k => by rw [l21_Great.l0, if_pos (by omega), if_pos (by omega), rd_ru t i hil]) ?_
  by_cases h1 : 100 < t[i].f0.length
  ·rw [decide_eq_true h1, Bool.true_or, Bool.true_or, Bool.true_or]
   exact Ev.congr (fun k => if_pos (by omega)) (Ev.now _)
  ·rw [decide_eq_false h1, Bool.false_or]
   refine Ev.congr (fun k => if_neg (by omega)) ?_
   by_cases h2 : 100 < t[i].f1.length
   ·rw [decide_eq_true h2, Bool.true_or, Bool.true_or]
    exact Ev.congr (fun k => if_pos (by omega)) (Ev.now _)
   ·rw [decide_eq_false h2, Bool.false_or]
    exact Ev.congr (fun k => (if_neg (by omega)).trans (by rw [show wrap64 ((i : Int) + 1) = ((i + 1 : Nat) : Int) by unfold wrap64; omega])) (ih (i + 1) (by omega))
theorem great_is (t : List Ru) (hl : t.length < 9223372036854775808) : Ev (fun k => l21_Great.f k t) (grN t) := by
 have := great_from t hl t.length 0 (by omega)
 rw [List.drop_zero] at this
 exact this
def Wq (x : Ru) : Prop := (∀ y ∈ x.f0, Q.wfIns y) ∧ (∀ y ∈ x.f1, Q.wfIns y) ∧ (Lit.int .u32 x.f2).wf = true
theorem wt_of {t : List Ru} (hq : ∀ x ∈ t, Wq x) (hg : grN t = false) : Wt t := by
 unfold grN at hg
 rw [Bool.or_eq_false_iff, decide_eq_false_iff_not, List.any_eq_false] at hg
 refine ⟨by omega, fun x hx => ?_⟩
 have h := hg.1 x hx
 simp only [Bool.or_eq_true, decide_eq_true_eq] at h
 obtain ⟨q0, q1, q2⟩ := hq x hx
 have r := ChkB.u32_range q2
 exact ⟨by omega, by omega, q0, q1, r.1, r.2⟩
end Go.Proofs.YtahacmdhhfmhiaaDoor.TabB
/- What is read from a table's bytes by the program's function: what was written, and nothing else. No condition but sizes far beyond the laws'. -/
namespace Go.Proofs.YtahacmdhhfmhiaaDoor.TabD
set_option linter.unusedVariables false
set_option linter.unusedSimpArgs false
open Go.RowKit Go.Proofs.YtahacmdhhfmhiaaDoorW.PrintWords Go.Proofs.YtahacmdhhfmhiaaDoorW.PrintLast Go.Proofs.YtahacmdhhfmhiaaDoorW.PrintMore Go.Proofs.YtahacmdhhfmhiaaDoor.M Go.Proofs.YtahacmdhhfmhiaaDoor.InsOps Go.Proofs.YtahacmdhhfmhiaaDoor.RightB Go.Proofs.YtahacmdhhfmhiaaDoor.Hex Go.Proofs.YtahacmdhhfmhiaaDoor.TabA Go.Proofs.YtahacmdhhfmhiaaDoor.TabB
def pad (b : List Nat) : List Nat := 0 :: 0 :: 0 :: 0 :: b
theorem pad_get (b : List Nat) (j : Nat) : (pad b).getD (4 + j) 0 = b.getD j 0 := by rw [Nat.add_comm]; rfl
theorem pad_bs {b : List Nat} (h : Bs b) : Bs (pad b) := by
 intro x hx
 simp only [pad, List.mem_cons] at hx
 rcases hx with rfl | rfl | rfl | rfl | hx
 ·decide
 ·decide
 ·decide
 ·decide
 ·exact h x hx
def v4 (b : List Nat) : Nat := CodecB.kOf (pad b) 4
theorem v4_eq (b : List Nat) : v4 b = b.getD 0 0 + 256 * b.getD 1 0 + 65536 * b.getD 2 0 + 16777216 * b.getD 3 0 := by
 unfold v4
 rw [CodecB.kOf4]
 rfl
noncomputable def p1 (b : List Nat) : List In × Int := CodecB.decoded ((b.drop 6).take (8 * b.getD 4 0))
noncomputable def p2 (b : List Nat) : List In × Int := CodecB.decoded (((b.drop 6).take (8 * b.getD 4 0 + 8 * b.getD 5 0)).drop (8 * b.getD 4 0))
noncomputable def decR (b : List Nat) : Option (Ru × List Nat) :=
 if b.length < 6 then none else if (b.drop 6).length < 8 * b.getD 4 0 + 8 * b.getD 5 0 then none
 else if (p1 b).2 = 0 ∧ (p2 b).2 = 0 then some (⟨(p1 b).1, (p2 b).1, (v4 b : Int)⟩, (b.drop 6).drop (8 * b.getD 4 0 + 8 * b.getD 5 0)) else none
abbrev Res := List In × List In × Int × List Int × Bool
def Fits (b : List Nat) (res : Res) : Prop := match decR b with
 | none => res.2.2.2.2 = false
 | some p => res = (p.1.f0, p.1.f1, p.1.f2, CodecB.I p.2, true)
theorem take_bs {b : List Nat} (h : Bs b) (n : Nat) : Bs (b.take n) := fun x hx => h x (List.mem_of_mem_take hx)
theorem drop_bs {b : List Nat} (h : Bs b) (n : Nat) : Bs (b.drop n) := fun x hx => h x (List.mem_of_mem_drop hx)
theorem I_take (l : List Nat) (n : Nat) : (CodecB.I l).take n = CodecB.I (l.take n) := by simp [CodecB.I, List.map_take]
theorem w8 (n : Nat) (h : n < 256) : wrap64 (8 * (wrap64 ((n : Nat) : Int))) = ((8 * n : Nat) : Int) := by
 rw [ChkB.w64s (x := (n : Int)) (by omega) (by omega), ChkB.w64s (by omega) (by omega)]
 omega
theorem w88 (n m : Nat) (h : n < 256) (g : m < 256) : wrap64 (((8 * n : Nat) : Int) + ((8 * m : Nat) : Int)) = ((8 * n + 8 * m : Nat) : Int) := by
 rw [ChkB.w64s (by omega) (by omega)]
 omega
theorem rule_last {b : List Nat} (hb : Bs b) (hl : b.length < 90000) (h6 : 6 ≤ b.length) (v : Int) (hv : v = (v4 b : Int)) : ∃ res : Res, Ev (fun k => table_rule.l0 k (CodecB.I b) 4 v) res ∧ Fits b res := by
 have hI := CodecB.I_length b
 have g4 := CodecB.bs_getD hb 4
 have g5 := CodecB.bs_getD hb 5
 have r4 : rd (CodecB.I b) 4 = ((b.getD 4 0 : Nat) : Int) := CodecB.I_rd b 4
 have r5 : rd (CodecB.I b) 5 = ((b.getD 5 0 : Nat) : Int) := CodecB.I_rd b 5
 have e4 : wrap64 (8 * (wrap64 (rd (CodecB.I b) 4))) = ((8 * b.getD 4 0 : Nat) : Int) := by rw [r4]; exact w8 _ g4
 have e5 : wrap64 (8 * (wrap64 (rd (CodecB.I b) 5))) = ((8 * b.getD 5 0 : Nat) : Int) := by rw [r5]; exact w8 _ g5
 have e6 : wrap64 (((8 * b.getD 4 0 : Nat) : Int) + ((8 * b.getD 5 0 : Nat) : Int)) = ((8 * b.getD 4 0 + 8 * b.getD 5 0 : Nat) : Int) := w88 _ _ g4 g5
 have hd : (CodecB.I (b.drop 6)).length = (b.drop 6).length := CodecB.I_length _
 have hd6 : (b.drop 6).length = b.length - 6 := List.length_drop
 unfold Fits decR
 rw [if_neg (by omega)]
 have head : ∀ {res : Res}, Ev (fun k => if ((CodecB.I (b.drop 6)).length : Int) < ((8 * b.getD 4 0 + 8 * b.getD 5 0 : Nat) : Int) then some (([] : List In), ([] : List In), (0 : Int), ([] : List Int), false) else (if 0 ≤ ((8 * b.getD 4 0 : Nat) : Int) then (if ((8 * b.getD 4 0 : Nat) : Int) ≤ ((CodecB.I (b.drop 6)).length : Int) then ((codec_Decode.f k ((CodecB.I (b.drop 6)).take (((8 * b.getD 4 0 : Nat) : Int)).toNat)).bind fun bt259 => (if ((8 * b.getD 4 0 : Nat) : Int) ≤ ((8 * b.getD 4 0 + 8 * b.getD 5 0 : Nat) : Int) then (if ((8 * b.getD 4 0 + 8 * b.getD 5 0 : Nat) : Int) ≤ ((CodecB.I (b.drop 6)).length : Int) then ((codec_Decode.f k (((CodecB.I (b.drop 6)).take (((8 * b.getD 4 0 + 8 * b.getD 5 0 : Nat) : Int)).toNat).drop (((8 * b.getD 4 0 : Nat) : Int)).toNat)).bind fun bt268 => (if 0 ≤ ((8 * b.getD 4 0 + 8 * b.getD 5 0 : Nat) : Int) then ((some ((CodecB.I (b.drop 6)).drop (((8 * b.getD 4 0 + 8 * b.getD 5 0 : Nat) : Int)).toNat : List Int)).bind fun y272 => (if bt259.2 = 0 then (some (bt259.1, bt268.1, v, y272, (bt268.2 == 0))) else (some (bt259.1, bt268.1, v, y272, false)))) else (none))) else (none)) else (none))) else (none)) else (none))) res → Ev (fun k => table_rule.l0 k (CodecB.I b) 4 v) res := fun h => by
  refine Ev.step (fun k => ?_) h
  rw [table_rule.l0, if_neg (by omega), if_pos (by omega), if_pos (by omega), if_pos (by omega), CodecB.I_drop, Option.bind_some, e4, e5, e6]
 by_cases hs : (b.drop 6).length < 8 * b.getD 4 0 + 8 * b.getD 5 0
 ·rw [if_pos hs]
  exact ⟨_, head (Ev.congr (fun k => if_pos (by omega)) (Ev.now _)), rfl⟩
 ·rw [if_neg hs]
  have d1 := CodecB.decode_is ((b.drop 6).take (8 * b.getD 4 0)) (take_bs (drop_bs hb 6) _) (by rw [List.length_take]; omega)
  have d2 := CodecB.decode_is (((b.drop 6).take (8 * b.getD 4 0 + 8 * b.getD 5 0)).drop (8 * b.getD 4 0)) (drop_bs (take_bs (drop_bs hb 6) _) _) (by rw [List.length_drop, List.length_take]; omega)
  have d1 : Ev (fun k => codec_Decode.f k ((CodecB.I (b.drop 6)).take (((8 * b.getD 4 0 : Nat) : Int)).toNat)) (p1 b) := by rw [Int.toNat_natCast, I_take]; exact d1
  have d2 : Ev (fun k => codec_Decode.f k (((CodecB.I (b.drop 6)).take (((8 * b.getD 4 0 + 8 * b.getD 5 0 : Nat) : Int)).toNat).drop (((8 * b.getD 4 0 : Nat) : Int)).toNat)) (p2 b) := by rw [Int.toNat_natCast, Int.toNat_natCast, I_take, CodecB.I_drop]; exact d2
  have body : ∀ {res : Res}, Ev (fun k => if (p1 b).2 = 0 then (some ((p1 b).1, (p2 b).1, v, (CodecB.I (b.drop 6)).drop (((8 * b.getD 4 0 + 8 * b.getD 5 0 : Nat) : Int)).toNat, ((p2 b).2 == 0))) else (some ((p1 b).1, (p2 b).1, v, (CodecB.I (b.drop 6)).drop (((8 * b.getD 4 0 + 8 * b.getD 5 0 : Nat) : Int)).toNat, false))) res → Ev (fun k => table_rule.l0 k (CodecB.I b) 4 v) res := fun h =>
   head (Ev.congr (fun k => (if_neg (by omega)).trans ((if_pos (by omega)).trans (if_pos (by omega)))) (Ev.bind d1 (Ev.congr (fun k => (if_pos (by omega)).trans (if_pos (by omega))) (Ev.bind d2 (Ev.congr (fun k => (if_pos (by omega)).trans (Option.bind_some _ _)) h)))))
  by_cases h1 : (p1 b).2 = 0
  ·by_cases h2 : (p2 b).2 = 0
   ·rw [if_pos ⟨h1, h2⟩]
    refine ⟨_, body (Ev.congr (fun k => if_pos h1) (Ev.now _)), ?_⟩
    show _ = _
    rw [Int.toNat_natCast, CodecB.I_drop, hv, h2]
    rfl
   ·rw [if_neg (fun h => h2 h.2)]
    refine ⟨_, body (Ev.congr (fun k => if_pos h1) (Ev.now _)), ?_⟩
    exact beq_eq_false_iff_ne.mpr h2
  ·rw [if_neg (fun h => h1 h.1)]
   exact ⟨_, body (Ev.congr (fun k => if_neg h1) (Ev.now _)), rfl⟩
theorem rule_from {b : List Nat} (hb : Bs b) (hl : b.length < 90000) (h6 : 6 ≤ b.length) : ∀ (d j : Nat), j + d = 4 → ∃ res : Res, Ev (fun k => table_rule.l0 k (CodecB.I b) (j : Int) (CodecB.kOf (pad b) j : Int)) res ∧ Fits b res := by
 have hI := CodecB.I_length b
 intro d
 induction d with
 | zero =>
  intro j hj
  obtain rfl : j = 4 := by omega
  exact rule_last hb hl h6 _ rfl
 | succ d ih =>
  intro j hj
  obtain ⟨res, e, f⟩ := ih (j + 1) (by omega)
  have ho := CodecB.or_k (pad_bs hb) j (by omega)
  rw [pad_get] at ho
  have w8 : wrap64 (8 * (j : Int)) = ((8 * j : Nat) : Int) := by unfold wrap64; omega
  refine ⟨res, Ev.step (fun k => ?_) e, f⟩
  rw [table_rule.l0, if_pos (by omega), if_pos (by omega), if_pos (by omega), w8, if_pos (by omega), CodecB.I_rd, ho, ChkB.wS j (by omega)]
theorem rule_is {b : List Nat} (hb : Bs b) (hl : b.length < 90000) : ∃ res : Res, Ev (fun k => table_rule.f k (CodecB.I b)) res ∧ Fits b res := by
 have hI := CodecB.I_length b
 by_cases h6 : b.length < 6
 ·refine ⟨([], [], 0, [], false), ?_, ?_⟩
  ·unfold table_rule.f
   exact Ev.congr (fun k => if_pos (by omega)) (Ev.now _)
  ·unfold Fits decR
   rw [if_pos h6]
 ·obtain ⟨res, e, f⟩ := rule_from hb hl (by omega) 4 0 (by omega)
  have e : Ev (fun k => table_rule.l0 k (CodecB.I b) 0 0) res := e
  refine ⟨res, ?_, f⟩
  unfold table_rule.f
  exact Ev.congr (fun k => if_neg (by omega)) e
theorem decoded_enc {a : List In} (ha : ∀ x ∈ a, CodecB.GoodI x) (hl : a.length ≤ 4096) : CodecB.decoded (CodecB.encL a) = (a, 0) := by
 unfold CodecB.decoded
 have e := CodecB.encL_len a
 rw [if_neg (by omega), if_pos (by omega), show (CodecB.encL a).length / 8 = a.length by omega, CodecB.decG_enc a [] ha, List.nil_append]
theorem decR_enc {x : Ru} (h : Wr x) (hm : may x = true) (r : List Nat) : decR (byt x ++ r) = some (x, r) := by
 obtain ⟨m0, m1, m2, m3⟩ := may_un hm
 obtain ⟨l0, g0⟩ := win_good h.w0 m0
 obtain ⟨l1, g1⟩ := win_good h.w1 m1
 have v0 := h.v0
 have v1 := h.v1
 have n0 := CodecB.encL_len x.f0
 have n1 := CodecB.encL_len x.f1
 obtain ⟨c, hc⟩ : ∃ c, c = x.f2.toNat := ⟨_, rfl⟩
 have hcx : (c : Int) = x.f2 := by omega
 have hb : byt x ++ r = (c % 256) :: (c / 256 % 256) :: (c / 65536 % 256) :: (c / 16777216 % 256) :: (x.f0.length % 256) :: (x.f1.length % 256) :: (CodecB.encL x.f0 ++ (CodecB.encL x.f1 ++ r)) := by
  unfold byt bytN CodecB.enc4
  rw [← hc]
  simp only [List.cons_append, List.nil_append, List.append_assoc]
 rw [hb]
 have q4 : x.f0.length % 256 = x.f0.length := Nat.mod_eq_of_lt (by omega)
 have q5 : x.f1.length % 256 = x.f1.length := Nat.mod_eq_of_lt (by omega)
 rw [q4, q5]
 obtain ⟨B, hB⟩ : ∃ B, B = (c % 256) :: (c / 256 % 256) :: (c / 65536 % 256) :: (c / 16777216 % 256) :: x.f0.length :: x.f1.length :: (CodecB.encL x.f0 ++ (CodecB.encL x.f1 ++ r)) := ⟨_, rfl⟩
 have e4 : B.getD 4 0 = x.f0.length := by rw [hB]; rfl
 have e5 : B.getD 5 0 = x.f1.length := by rw [hB]; rfl
 have ed : B.drop 6 = CodecB.encL x.f0 ++ (CodecB.encL x.f1 ++ r) := by rw [hB]; rfl
 have el : B.length = 6 + (B.drop 6).length := by rw [hB]; simp; omega
 have ev : v4 B = c := by
  rw [v4_eq, hB]
  show c % 256 + 256 * (c / 256 % 256) + 65536 * (c / 65536 % 256) + 16777216 * (c / 16777216 % 256) = c
  omega
 have t1 : p1 B = (x.f0, 0) := by
  unfold p1
  rw [e4, ed, ← n0, List.take_left, decoded_enc g0 (by omega)]
 have t2 : p2 B = (x.f1, 0) := by
  unfold p2
  rw [e4, e5, ed, ← n0, ← n1, ← List.append_assoc, show (CodecB.encL x.f0).length + (CodecB.encL x.f1).length = (CodecB.encL x.f0 ++ CodecB.encL x.f1).length from List.length_append.symm, List.take_left, List.drop_left, decoded_enc g1 (by omega)]
 rw [← hB]
 unfold decR
 rw [if_neg (by omega), if_neg (by rw [e4, e5, ed, List.length_append, List.length_append]; omega), if_pos ⟨by rw [t1], by rw [t2]⟩, t1, t2, ev, hcx, e4, e5, ed, ← n0, ← n1, ← List.append_assoc, show (CodecB.encL x.f0).length + (CodecB.encL x.f1).length = (CodecB.encL x.f0 ++ CodecB.encL x.f1).length from List.length_append.symm, List.drop_left]
theorem good_wf {y : In} (h : CodecB.GoodI y) : Q.wfIns y := by
 obtain ⟨i, a, b, c, hi, ho, e1, e2, e3, l1, l2, l3, _⟩ := h
 have := CodecB.op_small hi ho
 refine ⟨?_, ?_, ?_, ?_⟩
 ·simp [Lit.wf, IntKind.min, IntKind.max, IntKind.signed, IntKind.bits]; omega
 ·rw [e1]; simp [Lit.wf, IntKind.min, IntKind.max, IntKind.signed, IntKind.bits]; omega
 ·rw [e2]; simp [Lit.wf, IntKind.min, IntKind.max, IntKind.signed, IntKind.bits]; omega
 ·rw [e3]; simp [Lit.wf, IntKind.min, IntKind.max, IntKind.signed, IntKind.bits]; omega
theorem dec_zero {b : List Nat} (hb : Bs b) (h : (CodecB.decoded b).2 = 0) : 8 * (CodecB.decoded b).1.length = b.length ∧ (∀ x ∈ (CodecB.decoded b).1, CodecB.GoodI x) ∧ CodecB.encL (CodecB.decoded b).1 = b := by
 rcases CodecB.decoded_cases b hb with ⟨e, he, hne⟩ | ⟨g, he, h1, _, h3, h4⟩
 ·rw [he] at h; exact absurd h hne
 ·rw [he]; exact ⟨h1, h3, h4⟩
theorem six_of (b : List Nat) (h : 6 ≤ b.length) : ∃ b0 b1 b2 b3 b4 b5 s, b = b0 :: b1 :: b2 :: b3 :: b4 :: b5 :: s := by
 match b, h with
 | b0 :: b1 :: b2 :: b3 :: b4 :: b5 :: s, _ => exact ⟨_, _, _, _, _, _, _, rfl⟩
theorem decR_inv {b : List Nat} (hb : Bs b) {x : Ru} {r : List Nat} (h : decR b = some (x, r)) : b = byt x ++ r ∧ Wr x ∧ Bs r := by
 unfold decR at h
 split at h
 ·cases h
 rename_i h6
 split at h
 ·cases h
 rename_i hs
 split at h
 ·rename_i hz
  obtain ⟨z1, z2⟩ := hz
  simp only [Option.some.injEq, Prod.mk.injEq] at h
  obtain ⟨rfl, rfl⟩ := h
  have g4 := CodecB.bs_getD hb 4
  have g5 := CodecB.bs_getD hb 5
  obtain ⟨a1, a2, a3⟩ := dec_zero (take_bs (drop_bs hb 6) _) z1
  obtain ⟨c1, c2, c3⟩ := dec_zero (drop_bs (take_bs (drop_bs hb 6) _) _) z2
  have a1 : 8 * (p1 b).1.length = ((b.drop 6).take (8 * b.getD 4 0)).length := a1
  have c1 : 8 * (p2 b).1.length = (((b.drop 6).take (8 * b.getD 4 0 + 8 * b.getD 5 0)).drop (8 * b.getD 4 0)).length := c1
  have a3 : CodecB.encL (p1 b).1 = (b.drop 6).take (8 * b.getD 4 0) := a3
  have c3 : CodecB.encL (p2 b).1 = ((b.drop 6).take (8 * b.getD 4 0 + 8 * b.getD 5 0)).drop (8 * b.getD 4 0) := c3
  rw [List.length_take] at a1
  rw [List.length_drop, List.length_take] at c1
  have k4 : (p1 b).1.length = b.getD 4 0 := by omega
  have k5 : (p2 b).1.length = b.getD 5 0 := by omega
  have hv4 := v4_eq b
  have q0 := CodecB.bs_getD hb 0
  have q1 := CodecB.bs_getD hb 1
  have q2 := CodecB.bs_getD hb 2
  have q3 := CodecB.bs_getD hb 3
  refine ⟨?_, ⟨by show (p1 b).1.length < 100000; omega, by show (p2 b).1.length < 100000; omega, fun y hy => good_wf (a2 y hy), fun y hy => good_wf (c2 y hy), by show (0 : Int) ≤ (v4 b : Int); omega, by show (v4 b : Int) < 4294967296; omega⟩, drop_bs (drop_bs hb 6) _⟩
  show b = bytN (p1 b).1 (p2 b).1 ((v4 b : Nat) : Int).toNat ++ _
  unfold bytN
  rw [Int.toNat_natCast, k4, k5, a3, c3]
  have e : (b.drop 6).take (8 * b.getD 4 0) ++ ((b.drop 6).take (8 * b.getD 4 0 + 8 * b.getD 5 0)).drop (8 * b.getD 4 0) = (b.drop 6).take (8 * b.getD 4 0 + 8 * b.getD 5 0) := by
   have := List.take_append_drop (8 * b.getD 4 0) ((b.drop 6).take (8 * b.getD 4 0 + 8 * b.getD 5 0))
   rw [List.take_take, Nat.min_eq_left (by omega)] at this
   exact this
  rw [e, List.append_assoc, List.append_assoc, List.take_append_drop]
  obtain ⟨b0, b1, b2, b3, b4, b5, s, hbe⟩ := six_of b (by omega)
  rw [hbe] at hv4 q0 q1 q2 q3 g4 g5 ⊢
  have hv4 : v4 (b0 :: b1 :: b2 :: b3 :: b4 :: b5 :: s) = b0 + 256 * b1 + 65536 * b2 + 16777216 * b3 := hv4
  have q0 : b0 < 256 := q0
  have q1 : b1 < 256 := q1
  have q2 : b2 < 256 := q2
  have q3 : b3 < 256 := q3
  have g4 : b4 < 256 := g4
  have g5 : b5 < 256 := g5
  rw [hv4]
  show b0 :: b1 :: b2 :: b3 :: b4 :: b5 :: s = (b0 + 256 * b1 + 65536 * b2 + 16777216 * b3) % 256 :: (b0 + 256 * b1 + 65536 * b2 + 16777216 * b3) / 256 % 256 :: (b0 + 256 * b1 + 65536 * b2 + 16777216 * b3) / 65536 % 256 :: (b0 + 256 * b1 + 65536 * b2 + 16777216 * b3) / 16777216 % 256 :: b4 % 256 :: b5 % 256 :: s
  rw [show (b0 + 256 * b1 + 65536 * b2 + 16777216 * b3) % 256 = b0 by omega, show (b0 + 256 * b1 + 65536 * b2 + 16777216 * b3) / 256 % 256 = b1 by omega, show (b0 + 256 * b1 + 65536 * b2 + 16777216 * b3) / 65536 % 256 = b2 by omega, show (b0 + 256 * b1 + 65536 * b2 + 16777216 * b3) / 16777216 % 256 = b3 by omega, Nat.mod_eq_of_lt g4, Nat.mod_eq_of_lt g5]
 ·cases h
noncomputable def decT : Nat → List Nat → List Ru → List Ru × Int
 | 0, b, acc => if b.length = 0 ∧ rg acc = true then (acc, 0) else ([], 2)
 | n + 1, b, acc => match decR b with
  | none => ([], 2)
  | some p => decT n p.2 (acc ++ [p.1])
theorem decT_from : ∀ (n i : Nat) (b : List Nat) (acc : List Ru), i + n < 300 → acc.length = i → Bs b → b.length < 90000 → Wt acc → Ev (fun k => table_Decode.l0 k (CodecB.I b) acc ((i + n : Nat) : Int) (i : Int)) (decT n b acc) := by
 intro n
 induction n with
 | zero =>
  intro i b acc hn hi hb hl ha
  have hI := CodecB.I_length b
  rw [decT]
  refine Ev.step (fun k => by rw [table_Decode.l0, if_neg (by omega)]) ?_
  by_cases h0 : b.length = 0
  ·refine Ev.congr (fun k => if_neg (by omega)) (Ev.bind (right_is ha) ?_)
   cases hr : rg acc
   ·rw [if_neg (show ¬ (b.length = 0 ∧ false = true) from fun h => Bool.false_ne_true h.2)]
    exact Ev.congr (fun k => if_neg Bool.false_ne_true) (Ev.now _)
   ·rw [if_pos (show b.length = 0 ∧ true = true from ⟨h0, rfl⟩)]
    exact Ev.congr (fun k => if_pos rfl) (Ev.now _)
  ·rw [if_neg (show ¬ (b.length = 0 ∧ rg acc = true) from fun h => h0 h.1)]
   exact Ev.congr (fun k => if_pos (by omega)) (Ev.now _)
 | succ n ih =>
  intro i b acc hn hi hb hl ha
  obtain ⟨res, e, f⟩ := rule_is hb hl
  rw [decT]
  refine Ev.step (fun k => by rw [table_Decode.l0, if_pos (by omega)]) (Ev.bind e ?_)
  unfold Fits at f
  cases hd : decR b with
  | none =>
   rw [hd] at f
   have f : res.2.2.2.2 = false := f
   rw [f]
   exact Ev.congr (fun k => if_neg Bool.false_ne_true) (Ev.now _)
  | some p =>
   obtain ⟨x, r⟩ := p
   rw [hd] at f
   have f : res = (x.f0, x.f1, x.f2, CodecB.I r, true) := f
   obtain ⟨h1, h2, h3⟩ := decR_inv hb hd
   have hlr : r.length < 90000 := by
    have := congrArg List.length h1
    rw [List.length_append] at this
    omega
   have e2 := ih (i + 1) r (acc ++ [x]) (by omega) (by rw [List.length_append]; simp; omega) h3 hlr ⟨by rw [List.length_append]; simp; omega, fun y hy => (List.mem_append.1 hy).elim (ha.w y) (fun h => by rw [List.mem_singleton.1 h]; exact h2)⟩
   rw [show i + 1 + n = i + (n + 1) by omega] at e2
   rw [f]
   exact Ev.congr (fun k => (if_pos rfl).trans ((if_pos (by omega)).trans (by rw [ChkB.wS i (by omega)]))) e2
theorem decT_enc : ∀ (s acc : List Ru), (∀ x ∈ s, Wr x ∧ may x = true) → rg (acc ++ s) = true → decT s.length (encT s) acc = (acc ++ s, 0) := by
 intro s
 induction s with
 | nil =>
  intro acc _ hr
  rw [List.append_nil] at hr ⊢
  show (if (encT []).length = 0 ∧ rg acc = true then (acc, 0) else ([], 2)) = _
  rw [if_pos ⟨rfl, hr⟩]
 | cons x s ih =>
  intro acc hs hr
  obtain ⟨hw, hm⟩ := hs x List.mem_cons_self
  show (match decR (byt x ++ encT s) with | none => ([], 2) | some p => decT s.length p.2 (acc ++ [p.1])) = _
  rw [decR_enc hw hm]
  show decT s.length (encT s) (acc ++ [x]) = _
  rw [ih (acc ++ [x]) (fun y hy => hs y (List.mem_cons_of_mem _ hy)) (by rw [List.append_assoc]; exact hr), List.append_assoc]
  rfl
theorem decT_inv : ∀ (n : Nat) (b : List Nat) (acc u : List Ru), Bs b → Wt acc → acc.length + n < 300 → decT n b acc = (u, 0) → ∃ s, u = acc ++ s ∧ s.length = n ∧ b = encT s ∧ rg u = true ∧ Wt u := by
 intro n
 induction n with
 | zero =>
  intro b acc u hb ha hn h
  rw [decT] at h
  split at h
  ·rename_i hc
   simp only [Prod.mk.injEq, and_true] at h
   subst h
   exact ⟨[], by simp, rfl, List.eq_nil_of_length_eq_zero hc.1, hc.2, ha⟩
  ·simp at h
 | succ n ih =>
  intro b acc u hb ha hn h
  rw [decT] at h
  cases hd : decR b with
  | none => rw [hd] at h; simp at h
  | some p =>
   obtain ⟨x, r⟩ := p
   rw [hd] at h
   obtain ⟨h1, h2, h3⟩ := decR_inv hb hd
   obtain ⟨s, g1, g2, g3, g4, g5⟩ := ih r (acc ++ [x]) u h3 ⟨by rw [List.length_append]; simp; omega, fun y hy => (List.mem_append.1 hy).elim (ha.w y) (fun h => by rw [List.mem_singleton.1 h]; exact h2)⟩ (by rw [List.length_append]; simp; omega) h
   refine ⟨x :: s, by rw [g1, List.append_assoc]; rfl, by rw [List.length_cons, g2], ?_, g4, g5⟩
   rw [h1, g3]
   rfl
noncomputable def decTab (l : List Nat) : List Ru × Int :=
 if (CrcB.opened l).2 = 0 then
  if (CrcB.opened l).1.length ≤ 4 then ([], 2) else if (CrcB.opened l).1.take 4 = [72, 82, 84, 49] then decT ((CrcB.opened l).1.getD 4 0) ((CrcB.opened l).1.drop 5) [] else ([], 2)
 else ([], ((CrcB.opened l).2 : Int))
theorem map_inj : ∀ {a b : List Nat}, Bs a → Bs b → a.map UInt8.ofNat = b.map UInt8.ofNat → a = b
 | [], [], _, _, _ => rfl
 | [], _ :: _, _, _, h => by cases h
 | _ :: _, [], _, _, h => by cases h
 | x :: a, y :: b, ha, hb, h => by
  simp only [List.map_cons, List.cons.injEq] at h
  have hx := ha x List.mem_cons_self
  have hy := hb y List.mem_cons_self
  have e := congrArg UInt8.toNat h.1
  simp at e
  rw [show x = y by omega, map_inj (fun z hz => ha z (List.mem_cons_of_mem _ hz)) (fun z hz => hb z (List.mem_cons_of_mem _ hz)) h.2]
theorem opened_bs {l : List Nat} (hb : Bs l) : Bs (CrcB.opened l).1 ∧ (CrcB.opened l).1.length ≤ l.length := by
 unfold CrcB.opened
 split
 ·exact ⟨fun x hx => by simp at hx, by simp⟩
 ·split
  ·exact ⟨take_bs hb _, by rw [List.length_take]; omega⟩
  ·exact ⟨fun x hx => by simp at hx, by simp⟩
theorem decode_is {l : List Nat} (hb : Bs l) (hl : l.length < 90000) : Ev (fun k => table_Decode.f k (CodecB.I l)) (decTab l) := by
 have ho : Ev (fun k => crc_Open.f k (CodecB.I l)) (CodecB.I (CrcB.opened l).1, ((CrcB.opened l).2 : Int)) := CrcB.open_is l hb (by omega)
 obtain ⟨xb, xl⟩ := opened_bs hb
 unfold table_Decode.f decTab
 refine Ev.bind ho ?_
 by_cases h0 : (CrcB.opened l).2 = 0
 ·rw [if_pos h0]
  refine Ev.congr (fun k => if_pos (show ((CrcB.opened l).2 : Int) = 0 by omega)) ?_
  generalize (CrcB.opened l).1 = x at xb xl ⊢
  have hI := CodecB.I_length x
  have no : Ev (fun k => table_Decode.j0 k (CodecB.I x) true) ([], 2) := Ev.step (f := fun _ => some ([], 2)) (fun k => by rw [table_Decode.j0, if_pos rfl]) (Ev.now _)
  by_cases h4 : x.length ≤ 4
  ·rw [if_pos h4]
   exact Ev.congr (fun k => if_pos (show ((CodecB.I x).length : Int) ≤ 4 by omega)) no
  ·rw [if_neg h4]
   refine Ev.congr (fun k => (if_neg (show ¬ ((CodecB.I x).length : Int) ≤ 4 by omega)).trans (if_pos (show (4 : Int) ≤ ((CodecB.I x).length : Int) by omega))) ?_
   have hm : ((strOfNums ((CodecB.I x).take 4)).toList != ([72, 82, 84, 49] : List UInt8)) = !decide (x.take 4 = [72, 82, 84, 49]) := by
    rw [I_take, CodecB.I_str, ByteArray.toList_eq]
    show ((x.take 4).map UInt8.ofNat != ([72, 82, 84, 49] : List Nat).map UInt8.ofNat) = _
    by_cases h : x.take 4 = [72, 82, 84, 49]
    ·rw [h]; rfl
    ·rw [decide_eq_false h]
     exact bne_iff_ne.mpr fun e => h (map_inj (take_bs xb 4) (fun z hz => by simp at hz; omega) e)
   rw [hm]
   by_cases h : x.take 4 = [72, 82, 84, 49]
   ·rw [if_pos h, decide_eq_true h]
    have hx4 := CodecB.bs_getD xb 4
    have e := decT_from (x.getD 4 0) 0 (x.drop 5) [] (by omega) rfl (drop_bs xb 5) (by rw [List.length_drop]; omega) ⟨by simp, fun y hy => by simp at hy⟩
    rw [Nat.zero_add, ← CodecB.I_drop] at e
    have r4 : wrap64 (rd (CodecB.I x) 4) = ((x.getD 4 0 : Nat) : Int) := by
     rw [show rd (CodecB.I x) 4 = ((x.getD 4 0 : Nat) : Int) from CodecB.I_rd x 4]
     unfold wrap64
     omega
    have e : Ev (fun k => table_Decode.l0 k ((CodecB.I x).drop (5 : Int).toNat) [] (wrap64 (rd (CodecB.I x) 4)) 0) (decT (x.getD 4 0) (x.drop 5) []) := by rw [r4]; exact e
    exact Ev.step (fun k => by rw [table_Decode.j0, if_neg (by decide), if_pos (show (4 : Int) < ((CodecB.I x).length : Int) by omega), if_pos (show (5 : Int) ≤ ((CodecB.I x).length : Int) by omega)]) e
   ·rw [if_neg h, decide_eq_false h]
    exact no
 ·rw [if_neg h0]
  exact Ev.congr (fun k => if_neg (show ¬ ((CrcB.opened l).2 : Int) = 0 by omega)) (Ev.now _)
theorem opened_seal (x : List Nat) : CrcB.opened (x ++ CrcPlain.four (CrcPlain.crc x)) = (x, 0) := by
 unfold CrcB.opened
 have h4 : (x ++ CrcPlain.four (CrcPlain.crc x)).length = x.length + 4 := by rw [List.length_append]; rfl
 rw [if_neg (by omega), h4, Nat.add_sub_cancel, List.take_left, if_pos rfl]
theorem opened_inv {l : List Nat} (h : (CrcB.opened l).2 = 0) : l = (CrcB.opened l).1 ++ CrcPlain.four (CrcPlain.crc (CrcB.opened l).1) := by
 unfold CrcB.opened at h ⊢
 split at h
 ·cases h
 ·split at h
  ·rename_i h1 h2
   rw [if_neg h1, if_pos h2]
   exact h2.symm
  ·cases h
theorem tab_read {t : List Ru} (h : Wt t) (hr : rg t = true) : decTab (tabN t) = (t, 0) := by
 obtain ⟨h64, hm⟩ := rg_may hr
 unfold decTab tabN
 rw [opened_seal]
 have q : t.length % 256 = t.length := Nat.mod_eq_of_lt (by omega)
 have e : headT t ++ encT t = 72 :: 82 :: 84 :: 49 :: t.length :: encT t := by unfold headT; rw [q]; rfl
 rw [if_pos rfl, e]
 rw [if_neg (by simp)]
 show (if ([72, 82, 84, 49] : List Nat) = [72, 82, 84, 49] then decT t.length (encT t) [] else ([], 2)) = (t, 0)
 rw [if_pos rfl]
 rw [decT_enc t [] (fun x hx => ⟨h.w x hx, hm x hx⟩) (by rw [List.nil_append]; exact hr), List.nil_append]
theorem tab_back {l : List Nat} (hb : Bs l) {u : List Ru} (h : decTab l = (u, 0)) : tabN u = l ∧ rg u = true ∧ Wt u := by
 unfold decTab at h
 split at h
 ·rename_i h0
  obtain ⟨xb, _⟩ := opened_bs hb
  have hl := opened_inv h0
  split at h
  ·simp at h
  ·rename_i h4
   split at h
   ·rename_i hm
    have hx4 := CodecB.bs_getD xb 4
    obtain ⟨s, g1, g2, g3, g4, g5⟩ := decT_inv _ _ _ _ (drop_bs xb 5) ⟨by simp, fun y hy => by simp at hy⟩ (show ([] : List Ru).length + (CrcB.opened l).1.getD 4 0 < 300 by rw [List.length_nil]; omega) h
    rw [List.nil_append] at g1
    subst g1
    refine ⟨?_, g4, g5⟩
    have e : headT u ++ encT u = (CrcB.opened l).1 := by
     rw [← g3]
     unfold headT
     rw [g2, Nat.mod_eq_of_lt hx4]
     generalize (CrcB.opened l).1 = x at *
     match x, h4, hm with
     | x0 :: x1 :: x2 :: x3 :: x4 :: r, _, hm =>
      simp at hm
      obtain ⟨rfl, rfl, rfl, rfl⟩ := hm
      rfl
     | [], h4, _ => simp at h4
     | [_], h4, _ => simp at h4
     | [_, _], h4, _ => simp at h4
     | [_, _, _], h4, _ => simp at h4
     | [_, _, _, _], h4, _ => simp at h4
    unfold tabN
    rw [e]
    exact hl.symm
   ·simp at h
 ·rename_i h0
  simp only [Prod.mk.injEq] at h
  omega
end Go.Proofs.YtahacmdhhfmhiaaDoor.TabD
/- The document's examples of tables hold. No condition. -/
namespace Go.Proofs.YtahacmdhhfmhiaaDoor.TabK
open Go.RowKit Go.Proofs.YtahacmdhhfmhiaaDoorW.PrintWords Go.Proofs.YtahacmdhhfmhiaaDoorW.PrintLast Go.Proofs.YtahacmdhhfmhiaaDoorW.PrintMore Go.Proofs.YtahacmdhhfmhiaaDoor.M
theorem knows_is : Ev (fun k => l21_knows.f k) true := Ev.congr (fun _ => show l21_knows0.f 80 = some true by decide +kernel) (Ev.now _)
end Go.Proofs.YtahacmdhhfmhiaaDoor.TabK
/- What the document's function that turns a bit computes, in plain numbers. No condition but that the bytes are bytes and the bit is one of theirs. -/
namespace Go.Proofs.YtahacmdhhfmhiaaDoor.CrcT
set_option linter.unusedVariables false
set_option linter.unusedSimpArgs false
open Go.RowKit Go.Proofs.YtahacmdhhfmhiaaDoorW.PrintWords Go.Proofs.YtahacmdhhfmhiaaDoorW.PrintLast Go.Proofs.YtahacmdhhfmhiaaDoorW.PrintMore Go.Proofs.YtahacmdhhfmhiaaDoor.M Go.Proofs.YtahacmdhhfmhiaaDoor.CrcPlain Go.Proofs.YtahacmdhhfmhiaaDoor.CrcB
def tb : List Nat → Nat → List Nat
 | [], _ => []
 | x :: l, p => if p < 8 then (x ^^^ 2 ^ p) :: l else x :: tb l (p - 8)
theorem tb_length (l : List Nat) (p : Nat) : (tb l p).length = l.length := by
 induction l generalizing p with
 | nil => rfl
 | cons x l ih => unfold tb; split <;> simp [ih]
theorem tb_le (l : List Nat) (p : Nat) (h : p < 8 * l.length) : le (tb l p) = le l ^^^ 2 ^ p := by
 induction l generalizing p with
 | nil => simp at h
 | cons x l ih =>
  unfold tb
  split
  ·rw [le, le, Nat.xor_assoc, Nat.xor_comm (2 ^ p), ← Nat.xor_assoc]
  ·rw [le, le, ih (p - 8) (by simp only [List.length_cons] at h; omega), show (256 : Nat) = 2 ^ 8 from rfl, mul_xor, ← Nat.pow_add, show 8 + (p - 8) = p by omega, Nat.xor_assoc]
theorem tb_bs {l : List Nat} (hl : Bs l) (p : Nat) : Bs (tb l p) := by
 induction l generalizing p with
 | nil => exact hl
 | cons x l ih =>
  unfold tb
  split
  ·intro y hy
   rcases List.mem_cons.1 hy with rfl | hy
   ·refine Nat.xor_lt_two_pow (n := 8) (hl x List.mem_cons_self) ?_
    exact Nat.pow_lt_pow_right (by decide) (by omega)
   ·exact hl y (List.mem_cons_of_mem _ hy)
  ·intro y hy
   rcases List.mem_cons.1 hy with rfl | hy
   ·exact hl _ List.mem_cons_self
   ·exact ih (fun z hz => hl z (List.mem_cons_of_mem _ hz)) _ y hy
theorem tb_set (l : List Nat) (p : Nat) (h : p < 8 * l.length) : tb l p = l.set (p / 8) ((l.getD (p / 8) 0) ^^^ 2 ^ (p % 8)) := by
 induction l generalizing p with
 | nil => simp at h
 | cons x l ih =>
  unfold tb
  split
  ·rename_i hp
   rw [show p / 8 = 0 by omega, show p % 8 = p by omega]
   rfl
  ·rename_i hp
   rw [ih (p - 8) (by simp only [List.length_cons] at h; omega), show p / 8 = (p - 8) / 8 + 1 by omega, show (p - 8) % 8 = p % 8 by omega]
   simp
theorem turn_bit : ∀ b : Nat, b < 256 → ∀ q : Nat, q < 8 → (if b / 2 ^ q % 256 % 2 = 1 then ((b : Int) - (2 ^ q : Nat)) % 256 else ((b : Int) + (2 ^ q : Nat)) % 256) = ((b ^^^ 2 ^ q : Nat) : Int) := by decide +kernel
theorem w64n {x : Int} (h0 : 0 ≤ x) (h1 : x < 9223372036854775808) : wrap64 x = x := w64 h0 h1
theorem turn_from (l : List Nat) (hl : Bs l) (p : Nat) (hp : p < 8 * l.length) (hn : l.length < 1000000) : ∀ (m i : Nat), i + m = p % 8 → Ev (fun k => r20_Turn.l0 k (p : Int) (I l) ((2 ^ i : Nat) : Int) (i : Int)) (I (tb l p)) := by
 have em : Int.tmod (p : Int) 8 = ((p % 8 : Nat) : Int) := by rw [Int.tmod_eq_emod_of_nonneg (by omega)]; omega
 have ed : Int.tdiv (p : Int) 8 = ((p / 8 : Nat) : Int) := by rw [Int.tdiv_eq_ediv_of_nonneg (by omega)]; omega
 have hj : p / 8 < l.length := by omega
 intro m
 induction m with
 | zero =>
  intro i hi
  have hi' : i = p % 8 := by omega
  subst hi'
  refine Ev.step (f := fun _ => some (I (tb l p))) (fun k => ?_) (Ev.now _)
  have hb : l[p / 8] < 256 := hl _ (List.getElem_mem hj)
  have hq : p % 8 < 8 := Nat.mod_lt _ (by decide)
  have hpow : 0 < 2 ^ (p % 8) := Nat.two_pow_pos _
  simp only [r20_Turn.l0, em, ed]
  have ew : wrap64 ((p / 8 : Nat) : Int) = ((p / 8 : Nat) : Int) := w64n (by omega) (by omega)
  rw [ew, if_neg (by omega), if_pos (by omega), if_pos (by rw [I_length]; omega), if_neg (by omega), I_rd l _ hj]
  have ediv : Int.tdiv ((l[p / 8] : Nat) : Int) ((2 ^ (p % 8) : Nat) : Int) = ((l[p / 8] / 2 ^ (p % 8) : Nat) : Int) := by
   rw [Int.tdiv_eq_ediv_of_nonneg (by omega)]; exact (Int.natCast_ediv _ _).symm
  rw [ediv, Int.toNat_natCast]
  have T := turn_bit _ hb _ hq
  have e : I (tb l p) = (I l).set (p / 8) ((l[p / 8] ^^^ 2 ^ (p % 8) : Nat) : Int) := by
   rw [tb_set l p hp, List.getD_eq_getElem?_getD, List.getElem?_eq_getElem hj, Option.getD_some]
   simp [I, List.map_set]
  rw [e, ← T]
  by_cases c : l[p / 8] / 2 ^ (p % 8) % 256 % 2 = 1
  ·rw [if_pos (by omega), if_pos c]
  ·rw [if_neg (by omega), if_neg c]
 | succ m ih =>
  intro i hi
  refine Ev.step (fun k => ?_) (ih (i + 1) (by omega))
  simp only [r20_Turn.l0, em]
  have hq : p % 8 < 8 := Nat.mod_lt _ (by decide)
  have hs : 2 ^ i * 2 < 256 := by
   have : 2 ^ (i + 1) ≤ 2 ^ 7 := Nat.pow_le_pow_right (by decide) (by omega)
   rw [Nat.pow_succ] at this
   omega
  rw [if_pos (by omega), w64n (by omega) (by omega)]
  have e2 : (((2 ^ i : Nat) : Int) * 2) % 256 = ((2 ^ (i + 1) : Nat) : Int) := by rw [Nat.pow_succ]; omega
  rw [e2]
  rfl
theorem turn_is (l : List Nat) (hl : Bs l) (p : Nat) (hp : p < 8 * l.length) (hn : l.length < 1000000) : Ev (fun k => r20_Turn.f k (I l) (p : Int)) (I (tb l p)) := by
 unfold r20_Turn.f
 refine Ev.congr (fun k => ?_) (turn_from l hl p hp hn (p % 8) 0 (by omega))
 simp only [Option.bind_some, List.length_nil, List.nil_append]
 rw [if_pos (by rw [I_length]; omega)]
 rfl
end Go.Proofs.YtahacmdhhfmhiaaDoor.CrcT
/- A table's bytes that are cut off behind are no table's; bytes with bits turned within 32 are told: in plain numbers. No condition but sizes far beyond the laws'. -/
namespace Go.Proofs.YtahacmdhhfmhiaaDoor.TabX
set_option linter.unusedVariables false
set_option linter.unusedSimpArgs false
open Go.RowKit Go.Proofs.YtahacmdhhfmhiaaDoorW.PrintWords Go.Proofs.YtahacmdhhfmhiaaDoorW.PrintLast Go.Proofs.YtahacmdhhfmhiaaDoorW.PrintMore Go.Proofs.YtahacmdhhfmhiaaDoor.M Go.Proofs.YtahacmdhhfmhiaaDoor.InsOps Go.Proofs.YtahacmdhhfmhiaaDoor.RightB Go.Proofs.YtahacmdhhfmhiaaDoor.Hex Go.Proofs.YtahacmdhhfmhiaaDoor.TabA Go.Proofs.YtahacmdhhfmhiaaDoor.TabB Go.Proofs.YtahacmdhhfmhiaaDoor.TabD Go.Proofs.YtahacmdhhfmhiaaDoor.CrcPlain
theorem wN {x : Int} {n : Nat} (h : x = (n : Int)) (g : n < 100000000) : wrap64 x = (n : Int) := by
 rw [h, ChkB.w64s (by omega) (by omega)]
theorem wI (i t : Nat) (h : i + t < 100000000) : wrap64 ((i : Int) + (t : Int)) = ((i + t : Nat) : Int) := wN rfl h
theorem tab_bs {t : List Ru} (h : Wt t) (hr : rg t = true) : Bs (tabN t) ∧ (tabN t).length < 90000 := by
 obtain ⟨h64, hm⟩ := rg_may hr
 have hb : Bs (headT t ++ encT t) := fun x hx => by
  rcases List.mem_append.1 hx with h1 | h1
  ·exact head_bs t x h1
  ·obtain ⟨y, hy, hx⟩ := List.mem_flatMap.1 h1
   exact byt_bs_ru (h.w y hy) (hm y hy) x hx
 have hl : ∀ s : List Ru, (∀ x ∈ s, Wr x ∧ may x = true) → (encT s).length ≤ 518 * s.length := by
  intro s
  induction s with
  | nil => intro _; exact Nat.le_refl _
  | cons x s ih =>
   intro hs
   have h1 := byt_len_ru (hs x List.mem_cons_self).1 (hs x List.mem_cons_self).2
   have h2 := ih (fun y hy => hs y (List.mem_cons_of_mem _ hy))
   show (byt x ++ encT s).length ≤ 518 * (s.length + 1)
   rw [List.length_append]
   omega
 have hl2 := hl t (fun x hx => ⟨h.w x hx, hm x hx⟩)
 refine ⟨fun x hx => ?_, ?_⟩
 ·rcases List.mem_append.1 hx with h1 | h1
  ·exact hb x h1
  ·exact CrcB.four_bs _ x h1
 ·unfold tabN
  rw [List.length_append, List.length_append]
  have e5 : (headT t).length = 5 := rfl
  have e4 : (CrcPlain.four (CrcPlain.crc (headT t ++ encT t))).length = 4 := rfl
  omega
theorem enc_one : ∀ (u t : List Ru) (a b : List Nat), u.length = t.length → (∀ x ∈ u, Wr x ∧ may x = true) → (∀ x ∈ t, Wr x ∧ may x = true) → encT u ++ a = encT t ++ b → a = b
 | [], [], _, _, _, _, _, h => h
 | [], _ :: _, _, _, h, _, _, _ => by simp at h
 | _ :: _, [], _, _, h, _, _, _ => by simp at h
 | x :: u, y :: t, a, b, hl, hu, ht, h => by
  simp only [encT, List.flatMap_cons, List.append_assoc] at h
  obtain ⟨x1, x2⟩ := hu x List.mem_cons_self
  obtain ⟨y1, y2⟩ := ht y List.mem_cons_self
  have e1 := decR_enc x1 x2 (u.flatMap byt ++ a)
  have e2 := decR_enc y1 y2 (t.flatMap byt ++ b)
  rw [h] at e1
  have e := Option.some.inj (e1.symm.trans e2)
  exact enc_one u t a b (by simpa using hl) (fun z hz => hu z (List.mem_cons_of_mem _ hz)) (fun z hz => ht z (List.mem_cons_of_mem _ hz)) (congrArg Prod.snd e)
theorem cut_no {t : List Ru} (h : Wt t) (hr : rg t = true) (c : Nat) (hc : c < (tabN t).length) : (decTab ((tabN t).take c)).2 ≠ 0 := by
 intro h0
 obtain ⟨tb, tl⟩ := tab_bs h hr
 obtain ⟨g1, g2, g3⟩ := tab_back (take_bs tb c) (u := (decTab ((tabN t).take c)).1) (Prod.ext rfl h0)
 generalize (decTab ((tabN t).take c)).1 = u at g1 g2 g3
 have e : tabN u ++ (tabN t).drop c = tabN t := by rw [g1, List.take_append_drop]
 have hd : ((tabN t).drop c).length = (tabN t).length - c := List.length_drop
 unfold tabN at e
 rw [List.append_assoc, List.append_assoc (headT t)] at e
 have hh : (headT u).length = (headT t).length := rfl
 rw [List.append_assoc] at e
 obtain ⟨e1, e2⟩ := List.append_inj e hh
 have hlu := (rg_may g2).1
 have hlt := (rg_may hr).1
 have hn : u.length = t.length := by
  simp only [headT, List.cons.injEq, true_and, and_true] at e1
  omega
 have e3 := enc_one u t _ _ hn (fun x hx => ⟨g3.w x hx, (rg_may g2).2 x hx⟩) (fun x hx => ⟨h.w x hx, (rg_may hr).2 x hx⟩) e2
 have e4 := congrArg List.length e3
 rw [List.length_append] at e4
 have f1 : ∀ v, (four v).length = 4 := fun _ => rfl
 rw [f1, f1] at e4
 have e5 : 4 + ((tabN t).drop c).length = 4 := e4
 omega
theorem bursts_opened (l t : List Nat) (hl : Bs l) (ht : Bs t) (hlen : t.length = l.length + 4) (a m : Nat) (hm : m < 4294967296) (e : le t = le (l ++ four (crc l)) ^^^ 2 ^ a * m) :
  (m = 0 → t = l ++ four (crc l)) ∧ (m ≠ 0 → CrcB.opened t = ([], 10)) := by
 have hs := CrcB.seal_bs hl
 have hsl : (l ++ four (crc l)).length = l.length + 4 := by rw [List.length_append]; rfl
 have hx := crc_xor t (l ++ four (crc l)) (by rw [hlen, hsl])
 rw [e, Nat.xor_comm (le (l ++ four (crc l))), Nat.xor_assoc, Nat.xor_self, Nat.xor_zero] at hx
 constructor
 ·intro h0
  subst h0
  rw [Nat.mul_zero, Nat.xor_zero] at e
  exact le_inj t _ (by rw [hlen, hsl]) ht hs e
 ·intro h0
  unfold CrcB.opened
  rw [if_neg (by omega)]
  split
  ·rename_i hc
   exfalso
   have hu := CrcB.take_bs ht (t.length - 4)
   have hul : (t.take (t.length - 4)).length = l.length := by rw [List.length_take]; omega
   have hsum : crc t = crc (l ++ four (crc l)) := by
    rw [← hc]
    have r : ∀ x : List Nat, crc (x ++ four (crc x)) = 4294967295 ^^^ run (run 4294967295 x) (four (crc x)) := fun x => by
     unfold crc run
     rw [List.foldl_append]
    have z : ∀ x : List Nat, CrcB.Bs x → run (run 4294967295 x) (four (crc x)) = sts 32 4294967295 := fun x hxb => by
     rw [run_eq, show (four (crc x)).length = 4 from rfl, le_four _ (crc_lt x hxb)]
     have : run 4294967295 x ^^^ crc x = 4294967295 := by
      unfold crc
      rw [Nat.xor_comm 4294967295, ← Nat.xor_assoc, Nat.xor_self, Nat.zero_xor]
     rw [this]
    rw [r _, z _ hu, r _, z _ hl]
   rw [hsum, Nat.xor_self] at hx
   exact sts_burst _ _ m hm h0 hx.symm
  ·rfl
section
variable {t : List Ru} (h : Wt t) (hr : rg t = true)
include h hr
theorem cuts_end (x : List Nat) (hx : Bs x) (hlen : x.length = (tabN t).length) (a m : Nat) (hm : m < 4294967296) (e : le x = le (tabN t) ^^^ 2 ^ a * m) (at_ tu i : Int) (s : List Int) :
  Ev (fun k => l21_TableCuts.j4 k at_ tu s (CodecB.I x) (decide (m ≠ 0)) i false) true := by
 obtain ⟨tb, tl⟩ := tab_bs h hr
 have hb : Bs (headT t ++ encT t) := fun y hy => tb y (List.mem_append_left _ hy)
 have kn : Ev (fun k => (l21_knows.f k).bind fun t => some t) true := Ev.bind TabK.knows_is (Ev.now _)
 obtain ⟨h1, h2⟩ := bursts_opened (headT t ++ encT t) x hb hx (hlen.trans (by unfold tabN; rw [List.length_append]; rfl)) a m hm e
 refine Ev.step (fun k => by rw [l21_TableCuts.j4, if_neg Bool.false_ne_true]) ?_
 refine Ev.bind (decode_is hx (by omega)) ?_
 by_cases h0 : m = 0
 ·have hxt : x = tabN t := h1 h0
  rw [hxt, tab_read h hr, decide_eq_false (fun h => h h0)]
  exact Ev.congr (fun k => (if_pos rfl).trans ((if_neg Bool.false_ne_true).trans (if_pos rfl))) kn
 ·have hx2 : decTab x = ([], 10) := by
   unfold decTab
   rw [h2 h0]
   rfl
  rw [hx2, decide_eq_true h0]
  exact Ev.congr (fun k => (if_pos rfl).trans (if_pos rfl)) kn
theorem cuts_from (a : Nat) (ha : a < 8 * (tabN t).length) : ∀ (d i : Nat), i + d = 32 → ∀ (m : Nat) (x : List Nat) (tu : Int), m < 2 ^ i → Bs x → x.length = (tabN t).length → le x = le (tabN t) ^^^ 2 ^ a * m →
  Ev (fun k => l21_TableCuts.l0 k (a : Int) tu (CodecB.I (tabN t)) (CodecB.I x) (decide (m ≠ 0)) (i : Int)) true := by
 obtain ⟨tb, tl⟩ := tab_bs h hr
 have e8 : wrap64 (8 * ((CodecB.I (tabN t)).length : Int)) = ((8 * (tabN t).length : Nat) : Int) := by rw [CodecB.I_length]; exact wN (by omega) (by omega)
 intro d
 induction d with
 | zero =>
  intro i hi m x tu hm hx hlen e
  obtain rfl : i = 32 := by omega
  refine Ev.step (fun k => ?_) (cuts_end h hr x hx hlen a m (by simpa using hm) e (a : Int) tu 32 (CodecB.I (tabN t)))
  rw [l21_TableCuts.l0, if_neg (by omega)]
  rfl
 | succ d ih =>
  intro i hi
  have hi2 : (i : Int) < 32 := by omega
  have hd2 : (i + 1) + d = 32 := by omega
  have z1 : a + i < 100000000 := by omega
  have z2 : i + 1 < 100000000 := by omega
  have p1 : 2 ^ i < 2 ^ (i + 1) := Nat.pow_lt_pow_right (by decide) (by omega)
  have p2 : 2 ^ i ≤ 2 ^ 31 := Nat.pow_le_pow_right (n := 2) (j := 31) (by decide) (by omega)
  have e1 : wrap64 ((a : Int) + (i : Int)) = ((a + i : Nat) : Int) := wI a i z1
  have ei : wrap64 ((i : Int) + 1) = ((i + 1 : Nat) : Int) := wI i 1 z2
  by_cases hin : a + i < 8 * (tabN t).length
  ·have d1 : decide (((a + i : Nat) : Int) < ((8 * (tabN t).length : Nat) : Int)) = true := decide_eq_true (Int.ofNat_lt.mpr hin)
   intro m x tu hm hx hlen e
   have hin2 : a + i < 8 * x.length := by rw [hlen]; exact hin
   have hx2 : x.length < 1000000 := by rw [hlen]; exact Nat.lt_trans tl (by decide)
   refine Ev.step (fun k => by rw [l21_TableCuts.l0, if_pos hi2, e1, e8, d1]) ?_
   by_cases hb : Int.tmod tu 2 = 1
   ·refine Ev.step (f := fun k => (r20_Turn.f k (CodecB.I x) ((a + i : Nat) : Int)).bind fun t196 => l21_TableCuts.l0 k (a : Int) ((Int.tdiv tu 2) % 4294967296) (CodecB.I (tabN t)) t196 true ((i + 1 : Nat) : Int)) (fun k => by rw [l21_TableCuts.j4, if_pos rfl, if_pos hb, e1, ei]) ?_
    refine Ev.bind (CrcT.turn_is x hx (a + i) hin2 hx2) ?_
    have hne : m ^^^ 2 ^ i ≠ 0 := xor_ne_zero (Nat.ne_of_lt hm)
    have := ih (i + 1) hd2 (m ^^^ 2 ^ i) (CrcT.tb x (a + i)) ((Int.tdiv tu 2) % 4294967296)
     (Nat.xor_lt_two_pow (Nat.lt_trans hm p1) p1) (CrcT.tb_bs hx _) ((CrcT.tb_length _ _).trans hlen)
     (by rw [CrcT.tb_le x (a + i) hin2, e, Nat.pow_add, mul_xor, Nat.xor_assoc])
    rw [decide_eq_true hne] at this
    exact this
   ·refine Ev.step (f := fun k => l21_TableCuts.l0 k (a : Int) ((Int.tdiv tu 2) % 4294967296) (CodecB.I (tabN t)) (CodecB.I x) (decide (m ≠ 0)) ((i + 1 : Nat) : Int)) (fun k => by rw [l21_TableCuts.j4, if_pos rfl, if_neg hb, ei]) ?_
    exact ih (i + 1) hd2 m x _ (Nat.lt_trans hm p1) hx hlen e
  ·have d1 : decide (((a + i : Nat) : Int) < ((8 * (tabN t).length : Nat) : Int)) = false := decide_eq_false (fun h => hin (Int.ofNat_lt.mp h))
   intro m x tu hm hx hlen e
   refine Ev.step (fun k => ?_) (cuts_end h hr x hx hlen a m (Nat.lt_of_lt_of_le hm (Nat.le_trans p2 (by decide))) e (a : Int) tu (i : Int) (CodecB.I (tabN t)))
   rw [l21_TableCuts.l0, if_pos hi2, e1, e8, d1]
end
end Go.Proofs.YtahacmdhhfmhiaaDoor.TabX
