/- Windows and rules: which are right, and their bytes, by the program's and the document's functions: the same. No condition but sizes far beyond the laws'. -/
import Derived.Test.YtahacmdhhfmhiaaDoorChkB
import Derived.Test.YtahacmdhhfmhiaaDoorCodA
import Derived.Test.YtahacmdhhfmhiaaDoorM7
import Derived.Test.YtahacmdhhfmhiaaDoorMB
import Derived.Test.YtahacmdhhfmhiaaDoorMF
import Derived.Test.YtahacmdhhfmhiaaDoorCrcA
import Derived.Test.YtahacmdhhfmhiaaDoorMA
import Derived.Test.YtahacmdhhfmhiaaDoorM12
import Derived.Test.YtahacmdhhfmhiaaDoorM14
import Derived.Test.YtahacmdhhfmhiaaDoorM33
import Derived.Test.YtahacmdhhfmhiaaDoorMG
import Derived.Test.YtahacmdhhfmhiaaDoorM24
namespace Go.Proofs.YtahacmdhhfmhiaaDoor.TabA
set_option linter.unusedVariables false
set_option linter.unusedSimpArgs false
open Go.RowKit Go.Proofs.YtahacmdhhfmhiaaDoorW.PrintWords Go.Proofs.YtahacmdhhfmhiaaDoorW.PrintLast Go.Proofs.YtahacmdhhfmhiaaDoorW.PrintMore Go.Proofs.YtahacmdhhfmhiaaDoor.M Go.Proofs.YtahacmdhhfmhiaaDoor.InsOps Go.Proofs.YtahacmdhhfmhiaaDoor.RightB Go.Proofs.YtahacmdhhfmhiaaDoor.Hex
abbrev In := S59
noncomputable def pre (x : In) : Bool := !(x.f0 == 5) && (!(branchI x.f0) && !(ChkB.endI x))
noncomputable def okW (x : In) : Bool := pre x && (ChkB.one x 1 == 0)
noncomputable def winI (w : List In) : Bool := w.all okW && decide (w.length ≤ 32)
theorem drop_all (p : In → Bool) (w : List In) (i : Nat) (h : i < w.length) : (w.drop i).all p = (p w[i] && (w.drop (i + 1)).all p) := by rw [ChkB.drop_at w i h, List.all_cons]
theorem pre_5 {x : In} (h : x.f0 = 5) : pre x = false := by unfold pre; simp [h]
theorem pre_b {x : In} (h : branchI x.f0 = true) : pre x = false := by unfold pre; simp [h]
theorem pre_e {x : In} (h : ChkB.endI x = true) : pre x = false := by unfold pre; simp [h]
theorem pre_ok {x : In} (h5 : ¬ x.f0 = 5) (hb : branchI x.f0 = false) (he : ChkB.endI x = false) : pre x = true := by
 unfold pre
 rw [hb, he, beq_eq_false_iff_ne.mpr h5]
 rfl
theorem pre_un {x : In} (h : pre x = true) : x.f0 ≠ 5 ∧ branchI x.f0 = false ∧ ChkB.endI x = false := by
 unfold pre at h
 simp only [Bool.and_eq_true, Bool.not_eq_true', beq_eq_false_iff_ne] at h
 exact ⟨h.1, h.2.1, h.2.2⟩
theorem one_pre {x : In} (h : pre x = true) (a b : Int) : ChkB.one x a = ChkB.one x b := by
 obtain ⟨h5, hb, _⟩ := pre_un h
 have hf : ∀ c : Int, ChkB.far x c = false := fun c => by
  unfold ChkB.far
  rw [if_neg h5, hb]
  rfl
 unfold ChkB.one
 rw [hf a, hf b]
theorem rwin_from (w : List In) (hl : w.length < 100000) (hw : ∀ x ∈ w, Q.wfIns x) : ∀ (d i : Nat), i + d = w.length → Ev (fun k => r17_Right.l0 k w (i : Int)) ((w.drop i).all okW && decide (w.length ≤ 32)) := by
 intro d
 induction d with
 | zero =>
  intro i hi
  rw [List.drop_of_length_le (by omega)]
  refine Ev.step (f := fun _ => some (decide ((w.length : Int) ≤ 32))) (fun k => by rw [r17_Right.l0, if_neg (by omega)]) ?_
  rw [show decide ((w.length : Int) ≤ 32) = decide (w.length ≤ 32) from decide_eq_decide.mpr (by omega)]
  exact Ev.now _
 | succ d ih =>
  intro i hi
  have hil : i < w.length := by omega
  rw [drop_all okW w i hil]
  refine Ev.step (fun k => by rw [r17_Right.l0, if_pos (by omega), if_pos (by omega), ChkB.rd_at w i hil]) ?_
  have no : pre w[i] = false → Ev (fun _ => some false) (okW w[i] && (w.drop (i + 1)).all okW && decide (w.length ≤ 32)) := fun h => by
   unfold okW
   rw [h, Bool.false_and, Bool.false_and, Bool.false_and]
   exact Ev.now _
  by_cases h5 : w[i].f0 = 5
  ·exact Ev.congr (fun k => if_pos h5) (no (pre_5 h5))
  refine Ev.congr (fun k => if_neg h5) (Ev.bind (rbranchI_is _ _ _ _) ?_)
  cases hb : branchI w[i].f0
  ·refine Ev.congr (fun k => (if_neg Bool.false_ne_true).trans (by rw [ChkB.rends_is, Option.bind_some])) ?_
   cases he : ChkB.endI w[i]
   ·have ho := ChkB.one_is w[i] (hw _ (List.getElem_mem hil)) 0 2 (by omega) (by omega)
    have ho : Ev (fun k => r05_One.f k w[i].f0 w[i].f1 w[i].f2 w[i].f3 0 2) (ChkB.one w[i] 1) := ho
    refine Ev.congr (fun k => if_neg Bool.false_ne_true) (Ev.bind ho ?_)
    by_cases h1 : ChkB.one w[i] 1 = 0
    ·have e : okW w[i] = true := by unfold okW; rw [pre_ok h5 hb he, h1]; rfl
     rw [e, Bool.true_and]
     exact Ev.congr (fun k => (if_pos h1).trans (by rw [ChkB.wS i (by omega)])) (ih (i + 1) (by omega))
    ·have e : okW w[i] = false := by unfold okW; rw [beq_eq_false_iff_ne.mpr h1, Bool.and_false]
     rw [e, Bool.false_and, Bool.false_and]
     exact Ev.congr (fun k => if_neg h1) (Ev.now _)
   ·exact Ev.congr (fun k => if_pos rfl) (no (pre_e he))
  ·exact Ev.congr (fun k => if_pos rfl) (no (pre_b hb))
theorem rwin_is (w : List In) (hl : w.length < 100000) (hw : ∀ x ∈ w, Q.wfIns x) : Ev (fun k => r17_Right.f k w) (winI w) := by
 have := rwin_from w hl hw w.length 0 (by omega)
 rw [List.drop_zero] at this
 exact this
def retA : In := ⟨22, 0, 0, 0⟩
theorem right_ret : rightI 22 0 0 0 = true := by
 obtain ⟨i, hi, ho, hk, hw⟩ : ∃ i, i < 39 ∧ opsL[i]? = some 22 ∧ hasK i = false ∧ hasW i = false := ⟨opsL.idxOf 22, by decide, by decide, by decide, by decide⟩
 rw [(rightI_row hi ho _ _ _).1]
 unfold right
 rw [hk, hw]
 rfl
theorem one_ret (left : Int) : ChkB.one retA left = 0 := by
 unfold ChkB.one ChkB.rt retA
 rw [if_pos right_ret, if_pos (show check_ruleE 22 0 = 0 by unfold check_ruleE; simp)]
 have : ChkB.far (⟨22, 0, 0, 0⟩ : ChkB.In) left = false := by
  unfold ChkB.far
  rw [if_neg (show ¬ (22 : Int) = 5 by decide), ChkB.branch_22]
  rfl
 rw [this, if_neg Bool.false_ne_true]
theorem sound_pre (w : List In) (hl : w.length ≤ 32) (hp : w.all pre = true) : ((ChkB.chk (w ++ [retA])).2 == 0) = w.all okW := by
 have hlen : (w ++ [retA]).length = w.length + 1 := by rw [List.length_append]; rfl
 have hp := List.all_eq_true.1 hp
 have hlast : (w ++ [retA]).getD ((w ++ [retA]).length - 1) z59 = retA := by
  rw [hlen, List.getD_eq_getElem?_getD, show w.length + 1 - 1 = w.length by omega, List.getElem?_append_right (Nat.le_refl _), Nat.sub_self]
  rfl
 have key : (ChkB.chk (w ++ [retA])).2 = 0 ↔ w.all okW = true := by
  rw [ChkB.sound_iff, List.all_eq_true]
  constructor
  ·rintro ⟨_, _, h3, _⟩ x hx
   obtain ⟨q, hq, rfl⟩ := List.getElem_of_mem hx
   have h := h3 q (by omega)
   rw [List.getElem_append_left hq] at h
   unfold okW
   rw [hp _ hx, Bool.true_and, beq_iff_eq, one_pre (hp _ hx) 1 (((w ++ [retA]).length : Int) - 1 - (q : Int))]
   exact h
  ·intro h
   refine ⟨by omega, by omega, fun q hq => ?_, ?_⟩
   ·by_cases hqw : q < w.length
    ·have hx := List.getElem_mem hqw
     have := h _ hx
     unfold okW at this
     rw [hp _ hx, Bool.true_and, beq_iff_eq] at this
     rw [List.getElem_append_left hqw, one_pre (hp _ hx) _ 1]
     exact this
    ·rw [List.getElem_append_right (by omega)]
     have e : ([retA] : List In)[q - w.length]'(by simp; omega) = retA := by simp
     rw [e]
     exact one_ret _
   ·rw [hlast]
    rfl
 cases hb : w.all okW
 ·exact beq_eq_false_iff_ne.mpr fun e => by rw [key.1 e] at hb; cases hb
 ·rw [key.2 hb]; rfl
theorem win_from (w : List In) (hl : w.length ≤ 32) (hw : ∀ x ∈ w, Q.wfIns x) : ∀ (d i : Nat), i + d = w.length → Ev (fun k => window_Right.l0 k w w (w.length : Int) (i : Int)) ((w.drop i).all pre && ((ChkB.chk (w ++ [retA])).2 == 0)) := by
 have hwr : ∀ x ∈ w ++ [retA], Q.wfIns x := fun x hx => by
  rcases List.mem_append.1 hx with h | h
  ·exact hw x h
  ·rw [List.mem_singleton.1 h]
   exact ⟨by decide, by decide, by decide, by decide⟩
 have hs := ChkB.sound_is (w ++ [retA]) (by rw [List.length_append]; simp; omega) hwr
 intro d
 induction d with
 | zero =>
  intro i hi
  rw [List.drop_of_length_le (by omega)]
  refine Ev.step (f := fun k => (check_Sound.f k (w ++ [retA])).bind fun t => some t) (fun k => ?_) (Ev.bind hs (Ev.now _))
  rw [window_Right.l0, if_neg (by omega), Option.bind_some, if_pos (by simp; omega), Option.bind_some, if_pos (by simp; omega)]
  rfl
 | succ d ih =>
  intro i hi
  have hil : i < w.length := by omega
  rw [drop_all pre w i hil]
  refine Ev.step (fun k => by rw [window_Right.l0, if_pos (by omega), if_pos (by omega), if_pos (by omega), ChkB.rd_at w i hil]) ?_
  have no : pre w[i] = false → Ev (fun _ => some false) (pre w[i] && (w.drop (i + 1)).all pre && ((ChkB.chk (w ++ [retA])).2 == 0)) := fun h => by
   rw [h, Bool.false_and, Bool.false_and]
   exact Ev.now _
  by_cases h5 : w[i].f0 = 5
  ·exact Ev.congr (fun k => if_pos h5) (no (pre_5 h5))
  refine Ev.congr (fun k => (if_neg h5).trans (by rw [branchI_is, Option.bind_some])) ?_
  cases hb : branchI w[i].f0
  ·refine Ev.congr (fun k => (if_neg Bool.false_ne_true).trans (by rw [ChkB.ends_is, Option.bind_some])) ?_
   cases he : ChkB.endI w[i]
   ·rw [pre_ok h5 hb he, Bool.true_and]
    exact Ev.congr (fun k => (if_neg Bool.false_ne_true).trans (by rw [ChkB.wS i (by omega)])) (ih (i + 1) (by omega))
   ·exact Ev.congr (fun k => if_pos rfl) (no (pre_e he))
  ·exact Ev.congr (fun k => if_pos rfl) (no (pre_b hb))
theorem okW_pre {w : List In} (h : w.all pre = false) : w.all okW = false := by
 cases hb : w.all okW
 ·rfl
 ·exfalso
  have : w.all pre = true := List.all_eq_true.2 fun x hx => by
   have := List.all_eq_true.1 hb x hx
   unfold okW at this
   exact (Bool.and_eq_true_iff.mp this).1
  rw [h] at this
  cases this
theorem win_is (w : List In) (hl : w.length < 100000) (hw : ∀ x ∈ w, Q.wfIns x) : Ev (fun k => window_Right.f k w) (winI w) := by
 unfold window_Right.f winI
 by_cases h : w.length ≤ 32
 ·rw [decide_eq_true h, Bool.and_true]
  refine Ev.congr (fun k => if_neg (by omega)) ?_
  have e := win_from w h hw w.length 0 (by omega)
  rw [List.drop_zero] at e
  cases hp : w.all pre
  ·rw [hp, Bool.false_and] at e
   rw [okW_pre hp]
   exact e
  ·rw [sound_pre w h hp, hp, Bool.true_and] at e
   exact e
 ·rw [decide_eq_false h, Bool.and_false]
  exact Ev.congr (fun k => if_pos (by omega)) (Ev.now _)
noncomputable def mayI (a b : List In) (v : Int) : Bool := winI a && (winI b && (decide (b.length < a.length) && decide (v < 262144)))
section
variable {a b : List In} (ha : a.length < 100000) (hb : b.length < 100000) (wa : ∀ x ∈ a, Q.wfIns x) (wb : ∀ x ∈ b, Q.wfIns x) (v : Int)
include ha hb wa wb
theorem right_is_ : Ev (fun k => table_Rule_right.f k a b v) (mayI a b v) := by
 unfold table_Rule_right.f mayI
 refine Ev.bind (win_is a ha wa) ?_
 cases winI a
 ·exact Ev.congr (fun k => if_neg Bool.false_ne_true) (by rw [Bool.false_and]; exact Ev.now _)
 ·rw [Bool.true_and]
  refine Ev.congr (fun k => if_pos rfl) (Ev.bind (win_is b hb wb) ?_)
  cases winI b
  ·exact Ev.congr (fun k => if_neg Bool.false_ne_true) (by rw [Bool.false_and]; exact Ev.now _)
  ·rw [Bool.true_and]
   refine Ev.congr (fun k => if_pos rfl) ?_
   by_cases h : b.length < a.length
   ·rw [decide_eq_true h, Bool.true_and]
    exact Ev.congr (fun k => if_pos (by omega)) (Ev.now _)
   ·rw [decide_eq_false h, Bool.false_and]
    exact Ev.congr (fun k => if_neg (by omega)) (Ev.now _)
theorem rmay_is : Ev (fun k => r21_May.f k a b v) (mayI a b v) := by
 unfold r21_May.f mayI
 refine Ev.bind (rwin_is a ha wa) ?_
 cases winI a
 ·exact Ev.congr (fun k => if_neg Bool.false_ne_true) (by rw [Bool.false_and]; exact Ev.now _)
 ·rw [Bool.true_and]
  refine Ev.congr (fun k => if_pos rfl) (Ev.bind (rwin_is b hb wb) ?_)
  cases winI b
  ·exact Ev.congr (fun k => if_neg Bool.false_ne_true) (by rw [Bool.false_and]; exact Ev.now _)
  ·rw [Bool.true_and]
   refine Ev.congr (fun k => if_pos rfl) ?_
   by_cases h : b.length < a.length
   ·rw [decide_eq_true h, Bool.true_and]
    exact Ev.congr (fun k => if_pos (by omega)) (Ev.now _)
   ·rw [decide_eq_false h, Bool.false_and]
    exact Ev.congr (fun k => if_neg (by omega)) (Ev.now _)
end
def bytN (a b : List In) (c : Nat) : List Nat := CodecB.enc4 c ++ ([a.length % 256, b.length % 256] ++ (CodecB.encL a ++ CodecB.encL b))
theorem win_good {w : List In} (hw : ∀ x ∈ w, Q.wfIns x) (h : winI w = true) : w.length ≤ 32 ∧ ∀ x ∈ w, CodecB.GoodI x := by
 unfold winI at h
 rw [Bool.and_eq_true, decide_eq_true_eq] at h
 refine ⟨h.2, fun x hx => CodecB.good_of (hw x hx).2.2.2 ?_⟩
 have := List.all_eq_true.1 h.1 x hx
 unfold okW at this
 rw [Bool.and_eq_true, beq_iff_eq] at this
 have h1 := this.2
 unfold ChkB.one at h1
 cases hr : ChkB.rt x
 ·rw [hr] at h1; simp at h1
 ·exact hr
theorem win_chk {w : List In} (hw : ∀ x ∈ w, Q.wfIns x) (h : winI w = true) : CodecB.chk w = 0 := by
 obtain ⟨h1, h2⟩ := win_good hw h
 unfold CodecB.chk
 rw [if_neg (by omega), if_pos (CodecB.good_okL h2)]
theorem head_i (a b : List In) (c : Nat) (hc : c < 4294967296) : ([((c : Nat) : Int) % 256, ((c : Nat) : Int) / 256 % 256, ((c : Nat) : Int) / 65536 % 256, ((c : Nat) : Int) / 16777216 % 256, (a.length : Int) % 256, (b.length : Int) % 256] : List Int) = CodecB.I (CodecB.enc4 c ++ [a.length % 256, b.length % 256]) := by
 simp only [CodecB.I, CodecB.enc4, List.cons_append, List.nil_append, List.map_cons, List.map_nil, Int.natCast_emod, Int.natCast_ediv]
 rfl
theorem head_r (a b : List In) (c : Nat) (hc : c < 4294967296) : ([(Int.tmod (c : Int) 256) % 256, ((Int.tdiv (c : Int) 256) % 4294967296) % 256, ((Int.tdiv (c : Int) 65536) % 4294967296) % 256, ((Int.tdiv (c : Int) 16777216) % 4294967296) % 256, (a.length : Int) % 256, (b.length : Int) % 256] : List Int) = CodecB.I (CodecB.enc4 c ++ [a.length % 256, b.length % 256]) := by
 rw [← head_i a b c hc]
 have h0 : (0 : Int) ≤ (c : Int) := by omega
 rw [Int.tmod_eq_emod_of_nonneg h0, Int.tdiv_eq_ediv_of_nonneg h0, Int.tdiv_eq_ediv_of_nonneg h0, Int.tdiv_eq_ediv_of_nonneg h0]
 congr 1
 ·omega
 congr 1
 ·omega
 congr 1
 ·omega
 congr 1
 omega
theorem byt_bs {a b : List In} (ha : ∀ x ∈ a, CodecB.GoodI x) (hb : ∀ x ∈ b, CodecB.GoodI x) (c : Nat) : Bs (bytN a b c) := by
 intro x hx
 rcases List.mem_append.1 hx with h | h
 ·exact CodecB.enc4_bs c x h
 rcases List.mem_append.1 h with h | h
 ·simp at h; omega
 rcases List.mem_append.1 h with h | h
 ·exact CodecB.encL_bs ha x h
 ·exact CodecB.encL_bs hb x h
theorem byt_len (a b : List In) (c : Nat) : (bytN a b c).length = 6 + 8 * a.length + 8 * b.length := by
 unfold bytN
 simp only [List.length_append, CodecB.encL_len, List.length_cons, List.length_nil]
 have : (CodecB.enc4 c).length = 4 := rfl
 omega
section
variable {a b : List In} (wa : ∀ x ∈ a, Q.wfIns x) (wb : ∀ x ∈ b, Q.wfIns x) (ha : winI a = true) (hb : winI b = true) (c : Nat) (hc : c < 4294967296)
include wa wb ha hb hc
theorem bytes_is : Ev (fun k => table_Rule_bytes.f k a b (c : Int)) (str (bytN a b c)) := by
 obtain ⟨la, ga⟩ := win_good wa ha
 obtain ⟨lb, gb⟩ := win_good wb hb
 have e1 := CodecB.encode_is a (by omega) wa
 have e2 := CodecB.encode_is b (by omega) wb
 rw [win_chk wa ha, if_pos rfl] at e1
 rw [win_chk wb hb, if_pos rfl] at e2
 unfold table_Rule_bytes.f
 rw [head_i a b c hc]
 refine Ev.congr (fun k => Option.bind_some _ _) (Ev.bind e1 ?_)
 have n1 : (CodecB.I (CodecB.enc4 c ++ [a.length % 256, b.length % 256])).length + (CodecB.I (CodecB.encL a)).length < 140737488355328 := by
  rw [CodecB.I_length, CodecB.I_length, CodecB.encL_len]
  have : (CodecB.enc4 c ++ [a.length % 256, b.length % 256]).length = 6 := rfl
  omega
 refine Ev.congr (fun k => (if_pos n1).trans (Option.bind_some _ _)) (Ev.bind e2 ?_)
 have n2 : (CodecB.I (CodecB.enc4 c ++ [a.length % 256, b.length % 256]) ++ CodecB.I (CodecB.encL a)).length + (CodecB.I (CodecB.encL b)).length < 140737488355328 := by
  rw [List.length_append, CodecB.I_length, CodecB.I_length, CodecB.I_length, CodecB.encL_len, CodecB.encL_len]
  have : (CodecB.enc4 c ++ [a.length % 256, b.length % 256]).length = 6 := rfl
  omega
 refine Ev.congr (fun k => if_pos n2) ?_
 rw [← CodecB.I_append, ← CodecB.I_append, CodecB.I_str, show (CodecB.enc4 c ++ [a.length % 256, b.length % 256] ++ CodecB.encL a) ++ CodecB.encL b = bytN a b c by unfold bytN; simp only [List.append_assoc]]
 exact Ev.now _
theorem rbytes_is : Ev (fun k => r21_Bytes.f k a b (c : Int)) (CodecB.I (bytN a b c)) := by
 obtain ⟨la, ga⟩ := win_good wa ha
 obtain ⟨lb, gb⟩ := win_good wb hb
 have e1 := CodecB.rencode_is a (by omega) ga
 have e2 := CodecB.rencode_is b (by omega) gb
 unfold r21_Bytes.f
 rw [head_r a b c hc]
 refine Ev.congr (fun k => Option.bind_some _ _) (Ev.bind e1 ?_)
 have n1 : (CodecB.I (CodecB.enc4 c ++ [a.length % 256, b.length % 256])).length + (CodecB.I (CodecB.encL a)).length < 140737488355328 := by
  rw [CodecB.I_length, CodecB.I_length, CodecB.encL_len]
  have : (CodecB.enc4 c ++ [a.length % 256, b.length % 256]).length = 6 := rfl
  omega
 refine Ev.congr (fun k => (if_pos n1).trans (Option.bind_some _ _)) (Ev.bind e2 ?_)
 have n2 : (CodecB.I (CodecB.enc4 c ++ [a.length % 256, b.length % 256]) ++ CodecB.I (CodecB.encL a)).length + (CodecB.I (CodecB.encL b)).length < 140737488355328 := by
  rw [List.length_append, CodecB.I_length, CodecB.I_length, CodecB.I_length, CodecB.encL_len, CodecB.encL_len]
  have : (CodecB.enc4 c ++ [a.length % 256, b.length % 256]).length = 6 := rfl
  omega
 refine Ev.congr (fun k => if_pos n2) ?_
 rw [← CodecB.I_append, ← CodecB.I_append, show (CodecB.enc4 c ++ [a.length % 256, b.length % 256] ++ CodecB.encL a) ++ CodecB.encL b = bytN a b c by unfold bytN; simp only [List.append_assoc]]
 exact Ev.now _
end
end Go.Proofs.YtahacmdhhfmhiaaDoor.TabA
/- Tables: which are right, and their bytes, by the program's and the document's functions: the same. No condition but sizes far beyond the laws'. -/
namespace Go.Proofs.YtahacmdhhfmhiaaDoor.TabB
set_option linter.unusedVariables false
set_option linter.unusedSimpArgs false
open Go.RowKit Go.Proofs.YtahacmdhhfmhiaaDoorW.PrintWords Go.Proofs.YtahacmdhhfmhiaaDoorW.PrintLast Go.Proofs.YtahacmdhhfmhiaaDoorW.PrintMore Go.Proofs.YtahacmdhhfmhiaaDoor.M Go.Proofs.YtahacmdhhfmhiaaDoor.InsOps Go.Proofs.YtahacmdhhfmhiaaDoor.RightB Go.Proofs.YtahacmdhhfmhiaaDoor.Hex Go.Proofs.YtahacmdhhfmhiaaDoor.TabA
abbrev Ru := S42
abbrev Rr := S45
def toR (x : Ru) : Rr := ⟨x.f0, x.f1, x.f2⟩
structure Wr (x : Ru) : Prop where
 l0 : x.f0.length < 100000
 l1 : x.f1.length < 100000
 w0 : ∀ y ∈ x.f0, Q.wfIns y
 w1 : ∀ y ∈ x.f1, Q.wfIns y
 v0 : 0 ≤ x.f2
 v1 : x.f2 < 4294967296
noncomputable def may (x : Ru) : Bool := mayI x.f0 x.f1 x.f2
def byt (x : Ru) : List Nat := bytN x.f0 x.f1 x.f2.toNat
theorem rd_ru (l : List Ru) (i : Nat) (h : i < l.length) : rd_T42 l (i : Int) = l[i] := by
 unfold rd_T42
 rw [List.getD_eq_getElem?_getD, Int.toNat_natCast, List.getElem?_eq_getElem h]
 rfl
theorem rd_rr (l : List Ru) (i : Nat) (h : i < l.length) : rd_T45 (l.map toR) (i : Int) = toR l[i] := by
 unfold rd_T45
 rw [List.getD_eq_getElem?_getD, Int.toNat_natCast, List.getElem?_map, List.getElem?_eq_getElem h]
 rfl
theorem may_un {x : Ru} (h : may x = true) : winI x.f0 = true ∧ winI x.f1 = true ∧ x.f1.length < x.f0.length ∧ x.f2 < 262144 := by
 unfold may mayI at h
 simp only [Bool.and_eq_true, decide_eq_true_eq] at h
 exact h
theorem v_eq {x : Ru} (h : Wr x) : ((x.f2.toNat : Nat) : Int) = x.f2 := Int.toNat_of_nonneg h.v0
theorem bytes_ru {x : Ru} (h : Wr x) (hm : may x = true) : Ev (fun k => table_Rule_bytes.f k x.f0 x.f1 x.f2) (str (byt x)) := by
 obtain ⟨h1, h2, _, _⟩ := may_un hm
 have e := bytes_is h.w0 h.w1 h1 h2 x.f2.toNat (by have := h.v0; have := h.v1; omega)
 rw [v_eq h] at e
 exact e
theorem rbytes_ru {x : Ru} (h : Wr x) (hm : may x = true) : Ev (fun k => r21_Bytes.f k x.f0 x.f1 x.f2) (CodecB.I (byt x)) := by
 obtain ⟨h1, h2, _, _⟩ := may_un hm
 have e := rbytes_is h.w0 h.w1 h1 h2 x.f2.toNat (by have := h.v0; have := h.v1; omega)
 rw [v_eq h] at e
 exact e
theorem rbytes_rr {x : Ru} (h : Wr x) (hm : may x = true) : Ev (fun k => r21_Bytes.f k (toR x).f0 (toR x).f1 (toR x).f2) (CodecB.I (byt x)) := rbytes_ru h hm
theorem byt_bs_ru {x : Ru} (h : Wr x) (hm : may x = true) : Bs (byt x) := by
 obtain ⟨h1, h2, _, _⟩ := may_un hm
 exact byt_bs (win_good h.w0 h1).2 (win_good h.w1 h2).2 _
theorem byt_len_ru {x : Ru} (h : Wr x) (hm : may x = true) : (byt x).length ≤ 518 := by
 obtain ⟨h1, h2, _, _⟩ := may_un hm
 have a := (win_good h.w0 h1).1
 have b := (win_good h.w1 h2).1
 unfold byt
 rw [byt_len]
 omega
def lessN : List Nat → List Nat → Bool
 | _, [] => false
 | [], _ :: _ => true
 | a :: x, b :: y => if a = b then lessN x y else decide (a < b)
theorem bless : ∀ (a b : List Nat), Bs a → Bs b → Op.bytesLess (a.map UInt8.ofNat) (b.map UInt8.ofNat) = lessN a b
 | _, [], _, _ => by cases ‹List Nat› <;> rfl
 | [], _ :: _, _, _ => rfl
 | a :: x, b :: y, ha, hb => by
  have h1 := ha a List.mem_cons_self
  have h2 := hb b List.mem_cons_self
  have ih := bless x y (fun z hz => ha z (List.mem_cons_of_mem _ hz)) (fun z hz => hb z (List.mem_cons_of_mem _ hz))
  simp only [List.map_cons, Op.bytesLess, lessN, ih]
  have e1 : (UInt8.ofNat a == UInt8.ofNat b) = decide (a = b) := by
   by_cases h : a = b
   ·subst h
    simp
   ·rw [decide_eq_false h, beq_eq_false_iff_ne]
    intro hh
    have := congrArg UInt8.toNat hh
    simp at this
    omega
  have e2 : decide (UInt8.ofNat a < UInt8.ofNat b) = decide (a < b) := by
   refine decide_eq_decide.mpr ?_
   rw [UInt8.lt_iff_toNat_lt]
   simp
   rw [Nat.mod_eq_of_lt (by omega), Nat.mod_eq_of_lt (by omega)]
  rw [e1, e2]
  by_cases h : a = b
  ·subst h
   simp
  ·simp [h]
theorem bless_str {a b : List Nat} (ha : Bs a) (hb : Bs b) : Op.bytesLess (str a).toList (str b).toList = lessN a b := by
 rw [ByteArray.toList_eq, ByteArray.toList_eq]
 exact bless a b ha hb
theorem lessN_nil (a : List Nat) : lessN a [] = false := by cases a <;> rfl
theorem rless_from (a b : List Nat) (la : a.length < 100000) (lb : b.length < 100000) : ∀ (d i : Nat), i + d = a.length → i ≤ b.length → Ev (fun k => r21_less.l0 k (CodecB.I a) (CodecB.I b) (i : Int)) (lessN (a.drop i) (b.drop i)) := by
 have na := CodecB.I_length a
 have nb := CodecB.I_length b
 have fin : ∀ i : Nat, Ev (fun k => r21_less.j1 k (CodecB.I a) (CodecB.I b) (i : Int) false) (decide (a.length < b.length)) := fun i =>
  Ev.step (f := fun _ => some (decide (a.length < b.length))) (fun k => by
   rw [r21_less.j1, if_neg Bool.false_ne_true, na, nb]
   exact congrArg some (decide_eq_decide.mpr (by omega))) (Ev.now _)
 intro d
 induction d with
 | zero =>
  intro i hi hb
  refine Ev.step (fun k => by rw [r21_less.l0, if_neg (by omega)]) ?_
  have e : lessN (a.drop i) (b.drop i) = decide (a.length < b.length) := by
   rw [List.drop_of_length_le (l := a) (by omega)]
   cases hd : b.drop i with
   | nil =>
    have := congrArg List.length hd
    rw [List.length_drop, List.length_nil] at this
    rw [lessN_nil]
    exact (decide_eq_false (by omega)).symm
   | cons y r =>
    have := congrArg List.length hd
    rw [List.length_drop, List.length_cons] at this
    exact (decide_eq_true (by omega)).symm
  rw [e]
  exact fin i
 | succ d ih =>
  intro i hi hb
  have hia : i < a.length := by omega
  refine Ev.step (fun k => by rw [r21_less.l0, if_pos (by omega)]) ?_
  by_cases hib : i < b.length
  ·rw [decide_eq_true (show (i : Int) < ((CodecB.I b).length : Int) by omega)]
   refine Ev.step (fun k => by rw [r21_less.j1, if_pos rfl, if_pos (by omega), if_pos (by omega), if_pos (by omega), CodecB.I_rd, CodecB.I_rd]) ?_
   have ea : a.getD i 0 = a[i] := by rw [List.getD_eq_getElem?_getD, List.getElem?_eq_getElem hia]; rfl
   have eb : b.getD i 0 = b[i] := by rw [List.getD_eq_getElem?_getD, List.getElem?_eq_getElem hib]; rfl
   rw [ea, eb, List.drop_eq_getElem_cons hia, List.drop_eq_getElem_cons hib, lessN]
   by_cases h : a[i] = b[i]
   ·rw [if_pos h]
    exact Ev.congr (fun k => (if_pos (by rw [h])).trans (by rw [ChkB.wS i (by omega)])) (ih (i + 1) (by omega) (by omega))
   ·rw [if_neg h]
    refine Ev.congr (f := fun _ => some (decide (a[i] < b[i]))) (fun k => (if_neg (by omega)).trans (congrArg some (decide_eq_decide.mpr (by omega)))) (Ev.now _)
  ·rw [decide_eq_false (show ¬ (i : Int) < ((CodecB.I b).length : Int) by omega)]
   have e : lessN (a.drop i) (b.drop i) = decide (a.length < b.length) := by
    rw [List.drop_of_length_le (l := b) (by omega), lessN_nil]
    exact (decide_eq_false (by omega)).symm
   rw [e]
   exact fin i
theorem rless_is (a b : List Nat) (la : a.length < 100000) (lb : b.length < 100000) : Ev (fun k => r21_less.f k (CodecB.I a) (CodecB.I b)) (lessN a b) := by
 have := rless_from a b la lb a.length 0 (by omega) (by omega)
 exact this
noncomputable def rgF (t : List Ru) : Nat → Nat → Bool
 | _, 0 => true
 | i, d + 1 => may (t.getD i z42) && ((i == 0 || lessN (byt (t.getD (i - 1) z42)) (byt (t.getD i z42))) && rgF t (i + 1) d)
noncomputable def rg (t : List Ru) : Bool := rgF t 0 t.length && decide (t.length ≤ 64)
structure Wt (t : List Ru) : Prop where
 n : t.length < 100000
 w : ∀ x ∈ t, Wr x
theorem getD_ru (t : List Ru) (i : Nat) (h : i < t.length) : t.getD i z42 = t[i] := by rw [List.getD_eq_getElem?_getD, List.getElem?_eq_getElem h]; rfl
theorem right_from {t : List Ru} (h : Wt t) : ∀ (d i : Nat), i + d = t.length → (i = 0 ∨ may (t.getD (i - 1) z42) = true) → Ev (fun k => table_Right.l0 k t t (t.length : Int) (i : Int)) (rgF t i d && decide (t.length ≤ 64)) := by
 have hl := h.n
 intro d
 induction d with
 | zero =>
  intro i hi _
  refine Ev.step (f := fun _ => some (decide ((t.length : Int) ≤ 64))) (fun k => by rw [table_Right.l0, if_neg (by omega)]) ?_
  rw [rgF, Bool.true_and, show decide ((t.length : Int) ≤ 64) = decide (t.length ≤ 64) from decide_eq_decide.mpr (by omega)]
  exact Ev.now _
 | succ d ih =>
  intro i hi hp
  have hil : i < t.length := by omega
  have hw := h.w _ (List.getElem_mem hil)
  have hr := right_is_ hw.l0 hw.l1 hw.w0 hw.w1 t[i].f2
  rw [rgF, getD_ru t i hil]
  refine Ev.step (fun k => by rw [table_Right.l0, if_pos (by omega), if_pos (by omega), if_pos (by omega), rd_ru t i hil]) (Ev.bind hr ?_)
  rw [show mayI t[i].f0 t[i].f1 t[i].f2 = may t[i] from rfl]
  cases hm : may t[i]
  ·rw [Bool.false_and, Bool.false_and]
   exact Ev.congr (fun k => if_neg Bool.false_ne_true) (Ev.now _)
  ·rw [Bool.true_and]
   have next := ih (i + 1) (by omega) (.inr (by rw [Nat.add_sub_cancel, getD_ru t i hil]; exact hm))
   refine Ev.congr (fun k => if_pos rfl) ?_
   by_cases h0 : i = 0
   ·subst h0
    rw [show ((0 : Nat) == 0) = true from rfl, Bool.true_or, Bool.true_and]
    exact Ev.congr (fun k => (if_neg (by omega)).trans (by rw [ChkB.wS 0 (by omega)])) next
   ·have hi1 : i - 1 < t.length := by omega
    have hm1 : may t[i - 1] = true := by
     rcases hp with e | e
     ·exact absurd e h0
     ·rw [getD_ru t (i - 1) hi1] at e; exact e
    have hw1 := h.w _ (List.getElem_mem hi1)
    have w : wrap64 ((i : Int) - 1) = ((i - 1 : Nat) : Int) := by unfold wrap64; omega
    rw [beq_eq_false_iff_ne.mpr h0, Bool.false_or, getD_ru t (i - 1) hi1]
    refine Ev.congr (fun k => (if_pos (by omega)).trans (by rw [w, if_pos (by omega), if_pos (by omega), rd_ru t (i - 1) hi1])) (Ev.bind (bytes_ru hw1 hm1) (Ev.bind (bytes_ru hw hm) ?_))
    rw [bless_str (byt_bs_ru hw1 hm1) (byt_bs_ru hw hm)]
    cases lessN (byt t[i - 1]) (byt t[i])
    ·rw [Bool.false_and, Bool.false_and]
     exact Ev.congr (fun k => if_neg Bool.false_ne_true) (Ev.now _)
    ·rw [Bool.true_and]
     exact Ev.congr (fun k => (if_pos rfl).trans (by rw [ChkB.wS i (by omega)])) next
theorem right_is {t : List Ru} (h : Wt t) : Ev (fun k => table_Right.f k t) (rg t) := right_from h t.length 0 (by omega) (.inl rfl)
theorem rright_from {t : List Ru} (h : Wt t) : ∀ (d i : Nat), i + d = t.length → (i = 0 ∨ may (t.getD (i - 1) z42) = true) → Ev (fun k => r21_Right.l0 k (t.map toR) (i : Int)) (rgF t i d && decide (t.length ≤ 64)) := by
 have hl := h.n
 have hlen : (t.map toR).length = t.length := List.length_map ..
 intro d
 induction d with
 | zero =>
  intro i hi _
  refine Ev.step (f := fun _ => some (decide (((t.map toR).length : Int) ≤ 64))) (fun k => by rw [r21_Right.l0, if_neg (by omega)]) ?_
  rw [rgF, Bool.true_and, show decide (((t.map toR).length : Int) ≤ 64) = decide (t.length ≤ 64) from decide_eq_decide.mpr (by omega)]
  exact Ev.now _
 | succ d ih =>
  intro i hi hp
  have hil : i < t.length := by omega
  have hw := h.w _ (List.getElem_mem hil)
  have hr : Ev (fun k => r21_May.f k (toR t[i]).f0 (toR t[i]).f1 (toR t[i]).f2) (may t[i]) := rmay_is hw.l0 hw.l1 hw.w0 hw.w1 t[i].f2
  rw [rgF, getD_ru t i hil]
  refine Ev.step (fun k => by rw [r21_Right.l0, if_pos (by omega), if_pos (by omega), rd_rr t i hil]) (Ev.bind hr ?_)
  cases hm : may t[i]
  ·rw [Bool.false_and, Bool.false_and]
   exact Ev.congr (fun k => if_neg Bool.false_ne_true) (Ev.now _)
  ·rw [Bool.true_and]
   have next := ih (i + 1) (by omega) (.inr (by rw [Nat.add_sub_cancel, getD_ru t i hil]; exact hm))
   refine Ev.congr (fun k => if_pos rfl) ?_
   by_cases h0 : i = 0
   ·subst h0
    rw [show ((0 : Nat) == 0) = true from rfl, Bool.true_or, Bool.true_and]
    exact Ev.congr (fun k => (if_neg (by omega)).trans (by rw [ChkB.wS 0 (by omega)])) next
   ·have hi1 : i - 1 < t.length := by omega
    have hm1 : may t[i - 1] = true := by
     rcases hp with e | e
     ·exact absurd e h0
     ·rw [getD_ru t (i - 1) hi1] at e; exact e
    have hw1 := h.w _ (List.getElem_mem hi1)
    have w : wrap64 ((i : Int) - 1) = ((i - 1 : Nat) : Int) := by unfold wrap64; omega
    have n1 := byt_len_ru hw1 hm1
    have n2 := byt_len_ru hw hm
    rw [beq_eq_false_iff_ne.mpr h0, Bool.false_or, getD_ru t (i - 1) hi1]
    refine Ev.congr (fun k => (if_pos (by omega)).trans (by rw [w, if_pos (by omega), if_pos (by omega), rd_rr t (i - 1) hi1])) (Ev.bind (rbytes_rr hw1 hm1) (Ev.bind (rbytes_rr hw hm) (Ev.bind (rless_is (byt t[i - 1]) (byt t[i]) (by omega) (by omega)) ?_)))
    cases lessN (byt t[i - 1]) (byt t[i])
    ·rw [Bool.false_and, Bool.false_and]
     exact Ev.congr (fun k => if_neg Bool.false_ne_true) (Ev.now _)
    ·rw [Bool.true_and]
     exact Ev.congr (fun k => (if_pos rfl).trans (by rw [ChkB.wS i (by omega)])) next
theorem rright_is {t : List Ru} (h : Wt t) : Ev (fun k => r21_Right.f k (t.map toR)) (rg t) := rright_from h t.length 0 (by omega) (.inl rfl)
theorem rgF_may {t : List Ru} : ∀ (d i : Nat), i + d = t.length → rgF t i d = true → ∀ j, i ≤ j → ∀ hj : j < t.length, may t[j] = true := by
 intro d
 induction d with
 | zero => intro i hi _ j h1 h2; omega
 | succ d ih =>
  intro i hi hr j h1 h2
  rw [rgF, Bool.and_eq_true, Bool.and_eq_true] at hr
  by_cases e : j = i
  ·subst e
   rw [getD_ru t j h2] at hr
   exact hr.1
  ·exact ih (i + 1) (by omega) hr.2.2 j (by omega) h2
theorem rg_may {t : List Ru} (h : rg t = true) : t.length ≤ 64 ∧ ∀ x ∈ t, may x = true := by
 unfold rg at h
 rw [Bool.and_eq_true, decide_eq_true_eq] at h
 refine ⟨h.2, fun x hx => ?_⟩
 obtain ⟨j, hj, rfl⟩ := List.getElem_of_mem hx
 exact rgF_may t.length 0 (by omega) h.1 j (by omega) hj
theorem as_from (t : List Ru) (hl : t.length < 100000) : ∀ (d i : Nat) (acc : List Rr), i + d = t.length → acc.length = i → Ev (fun k => l21_As.l0 k t acc (i : Int)) (acc ++ (t.drop i).map toR) := by
 intro d
 induction d with
 | zero =>
  intro i acc hi ha
  rw [List.drop_of_length_le (by omega), List.map_nil, List.append_nil]
  exact Ev.step (f := fun _ => some acc) (fun k => by rw [l21_As.l0, if_neg (by omega)]) (Ev.now _)
 | succ d ih =>
  intro i acc hi ha
  have hil : i < t.length := by omega
  have := ih (i + 1) (acc ++ [toR t[i]]) (by omega) (by rw [List.length_append]; simp; omega)
  rw [List.append_assoc] at this
  rw [List.drop_eq_getElem_cons hil, List.map_cons]
  refine Ev.step (fun k => ?_) this
  rw [l21_As.l0, if_pos (by omega), if_pos (by omega), rd_ru t i hil]
  unfold l21_as.f
  rw [Option.bind_some, if_pos (by omega), ChkB.wS i (by omega)]
  rfl
theorem as_is (t : List Ru) (hl : t.length < 100000) : Ev (fun k => l21_As.f k t) (t.map toR) := by
 have := as_from t hl t.length 0 [] (by omega) rfl
 rw [List.drop_zero, List.nil_append] at this
 exact this
theorem bytesOf_str {l : List Nat} (h : Bs l) : bytesOf (str l) = CodecB.I l := by
 have := bytes_str h
 unfold numsL at this
 unfold bytesOf CodecB.I
 rw [← this, List.map_map]
 simp [Function.comp_def, this]
def encT (t : List Ru) : List Nat := t.flatMap byt
theorem str_size (l : List Nat) : (str l).size = l.length := by
 show (l.map UInt8.ofNat).toArray.size = _
 simp
theorem enc_from {t : List Ru} (h : Wt t) (hm : ∀ x ∈ t, may x = true) (hl : t.length ≤ 64) : ∀ (d i : Nat) (acc : List Nat), i + d = t.length → acc.length ≤ 5 + 518 * i → Bs acc → Ev (fun k => table_Encode.l0 k (CodecB.I acc) t (t.length : Int) (i : Int)) (CodecB.I ((acc ++ encT (t.drop i)) ++ CrcPlain.four (CrcPlain.crc (acc ++ encT (t.drop i)))), 0) := by
 intro d
 induction d with
 | zero =>
  intro i acc hi ha hb
  rw [List.drop_of_length_le (by omega), encT, List.flatMap_nil, List.append_nil]
  exact Ev.step (f := fun k => (crc_Seal.f k (CodecB.I acc)).bind fun t => some (t, 0)) (fun k => by rw [table_Encode.l0, if_neg (by omega)]) (Ev.bind (CrcB.seal_is acc hb (by omega)) (Ev.now _))
 | succ d ih =>
  intro i acc hi ha hb
  have hil : i < t.length := by omega
  have hw := h.w _ (List.getElem_mem hil)
  have hmi := hm _ (List.getElem_mem hil)
  have hbx := byt_bs_ru hw hmi
  have hlx := byt_len_ru hw hmi
  have := ih (i + 1) (acc ++ byt t[i]) (by omega) (by rw [List.length_append]; omega) (fun y hy => (List.mem_append.1 hy).elim (hb y) (hbx y))
  rw [List.drop_eq_getElem_cons hil, show encT (t[i] :: t.drop (i + 1)) = byt t[i] ++ encT (t.drop (i + 1)) from rfl, ← List.append_assoc]
  refine Ev.step (fun k => by rw [table_Encode.l0, if_pos (by omega), if_pos (by omega), if_pos (by omega), rd_ru t i hil]) (Ev.bind (bytes_ru hw hmi) ?_)
  refine Ev.congr (fun k => ?_) this
  rw [str_size, CodecB.I_length, if_pos (by omega), bytesOf_str hbx, ← CodecB.I_append, ChkB.wS i (by omega)]
def headT (t : List Ru) : List Nat := [72, 82, 84, 49, t.length % 256]
theorem head_bs (t : List Ru) : Bs (headT t) := by
 intro x hx
 unfold headT at hx
 simp at hx
 omega
theorem head_I (t : List Ru) : CodecB.I (headT t) = ([72, 82, 84, 49] : List Int) ++ [(t.length : Int) % 256] := by
 simp [CodecB.I, headT]
def tabN (t : List Ru) : List Nat := (headT t ++ encT t) ++ CrcPlain.four (CrcPlain.crc (headT t ++ encT t))
theorem encode_ok {t : List Ru} (h : Wt t) (hr : rg t = true) : Ev (fun k => table_Encode.f k t) (CodecB.I (tabN t), 0) := by
 obtain ⟨h64, hm⟩ := rg_may hr
 have e := enc_from h hm h64 t.length 0 (headT t) (by omega) (show 5 ≤ 5 + 518 * 0 by omega) (head_bs t)
 rw [List.drop_zero, head_I] at e
 have e : Ev (fun k => table_Encode.l0 k (([72, 82, 84, 49] : List Int) ++ [(t.length : Int) % 256]) t (t.length : Int) 0) (CodecB.I (tabN t), 0) := e
 unfold table_Encode.f
 refine Ev.bind (right_is h) ?_
 rw [hr]
 refine Ev.congr (fun k => (if_pos rfl).trans (by rw [Option.bind_some, if_pos (show ([72, 82, 84, 49] : List Int).length < 140737488355328 by decide)])) e
theorem encode_no {t : List Ru} (h : Wt t) (hr : rg t = false) : Ev (fun k => table_Encode.f k t) ([], 1) := by
 unfold table_Encode.f
 refine Ev.bind (right_is h) ?_
 rw [hr]
 exact Ev.congr (fun k => if_neg Bool.false_ne_true) (Ev.now _)
theorem renc_from {t : List Ru} (h : Wt t) (hm : ∀ x ∈ t, may x = true) (hl : t.length ≤ 64) : ∀ (d i : Nat) (acc : List Nat), i + d = t.length → acc.length ≤ 5 + 518 * i → Bs acc → Ev (fun k => r21_Encode.l0 k (t.map toR) (CodecB.I acc) (i : Int)) (CodecB.I ((acc ++ encT (t.drop i)) ++ CrcPlain.four (CrcPlain.crc (acc ++ encT (t.drop i))))) := by
 have hlen : (t.map toR).length = t.length := List.length_map ..
 intro d
 induction d with
 | zero =>
  intro i acc hi ha hb
  rw [List.drop_of_length_le (by omega), encT, List.flatMap_nil, List.append_nil]
  exact Ev.step (f := fun k => (r20_Seal.f k (CodecB.I acc)).bind fun t => some t) (fun k => by rw [r21_Encode.l0, if_neg (by omega)]) (Ev.bind (CrcB.rseal_is acc hb (by omega)) (Ev.now _))
 | succ d ih =>
  intro i acc hi ha hb
  have hil : i < t.length := by omega
  have hw := h.w _ (List.getElem_mem hil)
  have hmi := hm _ (List.getElem_mem hil)
  have hbx := byt_bs_ru hw hmi
  have hlx := byt_len_ru hw hmi
  have := ih (i + 1) (acc ++ byt t[i]) (by omega) (by rw [List.length_append]; omega) (fun y hy => (List.mem_append.1 hy).elim (hb y) (hbx y))
  rw [List.drop_eq_getElem_cons hil, show encT (t[i] :: t.drop (i + 1)) = byt t[i] ++ encT (t.drop (i + 1)) from rfl, ← List.append_assoc]
  refine Ev.step (fun k => by rw [r21_Encode.l0, if_pos (by omega), if_pos (by omega), rd_rr t i hil]) (Ev.bind (rbytes_rr hw hmi) ?_)
  refine Ev.congr (fun k => ?_) this
  rw [CodecB.I_length, CodecB.I_length, if_pos (by omega), ← CodecB.I_append, ChkB.wS i (by omega)]
theorem rencode_is {t : List Ru} (h : Wt t) (hr : rg t = true) : Ev (fun k => r21_Encode.f k (t.map toR)) (CodecB.I (tabN t)) := by
 obtain ⟨h64, hm⟩ := rg_may hr
 have e := renc_from h hm h64 t.length 0 (headT t) (by omega) (show 5 ≤ 5 + 518 * 0 by omega) (head_bs t)
 rw [List.drop_zero, head_I] at e
 unfold r21_Encode.f
 rw [List.length_map]
 exact e
noncomputable def grN (t : List Ru) : Bool := (t.any fun x => decide (100 < x.f0.length) || decide (100 < x.f1.length)) || decide (100 < t.length)
theorem great_from (t : List Ru) (hl : t.length < 9223372036854775808) : ∀ (d i : Nat), i + d = t.length → Ev (fun k => l21_Great.l0 k t (i : Int)) (((t.drop i).any fun x => decide (100 < x.f0.length) || decide (100 < x.f1.length)) || decide (100 < t.length)) := by
 intro d
 induction d with
 | zero =>
  intro i hi
  rw [List.drop_of_length_le (by omega), List.any_nil, Bool.false_or]
  refine Ev.step (f := fun _ => some (decide (100 < t.length))) (fun k => ?_) (Ev.now _)
  rw [l21_Great.l0, if_neg (by omega)]
  exact congrArg some (decide_eq_decide.mpr (by omega))
 | succ d ih =>
  intro i hi
  have hil : i < t.length := by omega
  rw [List.drop_eq_getElem_cons hil, List.any_cons]
  refine Ev.step (fun k => by rw [l21_Great.l0, if_pos (by omega), if_pos (by omega), rd_ru t i hil]) ?_
  by_cases h1 : 100 < t[i].f0.length
  ·rw [decide_eq_true h1, Bool.true_or, Bool.true_or, Bool.true_or]
   exact Ev.congr (fun k => if_pos (by omega)) (Ev.now _)
  ·rw [decide_eq_false h1, Bool.false_or]
   refine Ev.congr (fun k => if_neg (by omega)) ?_
   by_cases h2 : 100 < t[i].f1.length
   ·rw [decide_eq_true h2, Bool.true_or, Bool.true_or]
    exact Ev.congr (fun k => if_pos (by omega)) (Ev.now _)
   ·rw [decide_eq_false h2, Bool.false_or]
    exact Ev.congr (fun k => (if_neg (by omega)).trans (by rw [show wrap64 ((i : Int) + 1) = ((i + 1 : Nat) : Int) by unfold wrap64; omega])) (ih (i + 1) (by omega))
theorem great_is (t : List Ru) (hl : t.length < 9223372036854775808) : Ev (fun k => l21_Great.f k t) (grN t) := by
 have := great_from t hl t.length 0 (by omega)
 rw [List.drop_zero] at this
 exact this
def Wq (x : Ru) : Prop := (∀ y ∈ x.f0, Q.wfIns y) ∧ (∀ y ∈ x.f1, Q.wfIns y) ∧ (Lit.int .u32 x.f2).wf = true
theorem wt_of {t : List Ru} (hq : ∀ x ∈ t, Wq x) (hg : grN t = false) : Wt t := by
 unfold grN at hg
 rw [Bool.or_eq_false_iff, decide_eq_false_iff_not, List.any_eq_false] at hg
 refine ⟨by omega, fun x hx => ?_⟩
 have h := hg.1 x hx
 simp only [Bool.or_eq_true, decide_eq_true_eq] at h
 obtain ⟨q0, q1, q2⟩ := hq x hx
 have r := ChkB.u32_range q2
 exact ⟨by omega, by omega, q0, q1, r.1, r.2⟩
end Go.Proofs.YtahacmdhhfmhiaaDoor.TabB
/- The document's examples of tables hold. No condition. -/
namespace Go.Proofs.YtahacmdhhfmhiaaDoor.TabK
open Go.RowKit Go.Proofs.YtahacmdhhfmhiaaDoorW.PrintWords Go.Proofs.YtahacmdhhfmhiaaDoorW.PrintLast Go.Proofs.YtahacmdhhfmhiaaDoorW.PrintMore Go.Proofs.YtahacmdhhfmhiaaDoor.M
theorem knows_is : Ev (fun k => l21_knows.f k) true := Ev.of l21_knows.mono (k := 80) (by decide +kernel)
end Go.Proofs.YtahacmdhhfmhiaaDoor.TabK
