/- Windows and rules: which are right, and their bytes, by the program's and the document's functions: the same. No condition but sizes far beyond the laws'. -/
import Derived.Test.YtahacmdhhfmhiaaDoorChkB
import Derived.Test.YtahacmdhhfmhiaaDoorCodA
import Derived.Test.YtahacmdhhfmhiaaDoorMB
import Derived.Test.YtahacmdhhfmhiaaDoorMF
import Derived.Test.YtahacmdhhfmhiaaDoorMG
import Derived.Test.YtahacmdhhfmhiaaDoorCrcA
import Derived.Test.YtahacmdhhfmhiaaDoorMA
import Derived.Test.YtahacmdhhfmhiaaDoorMC
import Derived.Test.YtahacmdhhfmhiaaDoorMH
import Derived.Test.YtahacmdhhfmhiaaDoorMD
import Derived.Test.YtahacmdhhfmhiaaDoorMJ
import Derived.Test.YtahacmdhhfmhiaaDoorMI
import Derived.Test.YtahacmdhhfmhiaaDoorME
namespace Go.Proofs.YtahacmdhhfmhiaaDoor.TabA
set_option linter.unusedVariables false
set_option linter.unusedSimpArgs false
open Go.RowKit Go.Proofs.YtahacmdhhfmhiaaDoorW.PrintWords Go.Proofs.YtahacmdhhfmhiaaDoorW.PrintLast Go.Proofs.YtahacmdhhfmhiaaDoorW.PrintMore Go.Proofs.YtahacmdhhfmhiaaDoor.M Go.Proofs.YtahacmdhhfmhiaaDoor.InsOps Go.Proofs.YtahacmdhhfmhiaaDoor.RightB Go.Proofs.YtahacmdhhfmhiaaDoor.Hex
abbrev In := S59
noncomputable def pre (x : In) : Bool := !(x.f0 == 5) && (!(branchI x.f0) && !(ChkB.endI x))
noncomputable def okW (x : In) : Bool := pre x && (ChkB.one x 1 == 0)
noncomputable def winI (w : List In) : Bool := w.all okW && decide (w.length ≤ 32)
theorem drop_all (p : In → Bool) (w : List In) (i : Nat) (h : i < w.length) : (w.drop i).all p = (p w[i] && (w.drop (i + 1)).all p) := by rw [ChkB.drop_at w i h, List.all_cons]
theorem pre_5 {x : In} (h : x.f0 = 5) : pre x = false := by unfold pre; simp [h]
theorem pre_b {x : In} (h : branchI x.f0 = true) : pre x = false := by unfold pre; simp [h]
theorem pre_e {x : In} (h : ChkB.endI x = true) : pre x = false := by unfold pre; simp [h]
theorem pre_ok {x : In} (h5 : ¬ x.f0 = 5) (hb : branchI x.f0 = false) (he : ChkB.endI x = false) : pre x = true := by
 unfold pre
 rw [hb, he, beq_eq_false_iff_ne.mpr h5]
 rfl
theorem pre_un {x : In} (h : pre x = true) : x.f0 ≠ 5 ∧ branchI x.f0 = false ∧ ChkB.endI x = false := by
 unfold pre at h
 simp only [Bool.and_eq_true, Bool.not_eq_true', beq_eq_false_iff_ne] at h
 exact ⟨h.1, h.2.1, h.2.2⟩
theorem one_pre {x : In} (h : pre x = true) (a b : Int) : ChkB.one x a = ChkB.one x b := by
 obtain ⟨h5, hb, _⟩ := pre_un h
 have hf : ∀ c : Int, ChkB.far x c = false := fun c => by
  unfold ChkB.far
  rw [if_neg h5, hb]
  rfl
 unfold ChkB.one
 rw [hf a, hf b]
theorem rwin_from (w : List In) (hl : w.length < 100000) (hw : ∀ x ∈ w, Q.wfIns x) : ∀ (d i : Nat), i + d = w.length → Ev (fun k => r17_Right.l0 k w (i : Int)) ((w.drop i).all okW && decide (w.length ≤ 32)) := by
 intro d
 induction d with
 | zero =>
  intro i hi
  rw [List.drop_of_length_le (by omega)]
  refine Ev.step (f := fun _ => some (decide ((w.length : Int) ≤ 32))) (fun k => by rw [r17_Right.l0, if_neg (by omega)]) ?_
  rw [show decide ((w.length : Int) ≤ 32) = decide (w.length ≤ 32) from decide_eq_decide.mpr (by omega)]
  exact Ev.now _
 | succ d ih =>
  intro i hi
  have hil : i < w.length := by omega
  rw [drop_all okW w i hil]
  refine Ev.step (fun k => by rw [r17_Right.l0, if_pos (by omega), if_pos (by omega), ChkB.rd_at w i hil]) ?_
  have no : pre w[i] = false → Ev (fun _ => some false) (okW w[i] && (w.drop (i + 1)).all okW && decide (w.length ≤ 32)) := fun h => by
   unfold okW
   rw [h, Bool.false_and, Bool.false_and, Bool.false_and]
   exact Ev.now _
  by_cases h5 : w[i].f0 = 5
  ·exact Ev.congr (fun k => if_pos h5) (no (pre_5 h5))
  refine Ev.congr (fun k => if_neg h5) (Ev.bind (rbranchI_is _ _ _ _) ?_)
  cases hb : branchI w[i].f0
  ·refine Ev.congr (fun k => (if_neg Bool.false_ne_true).trans (by rw [ChkB.rends_is, Option.bind_some])) ?_
   cases he : ChkB.endI w[i]
   ·have ho := ChkB.one_is w[i] (hw _ (List.getElem_mem hil)) 0 2 (by omega) (by omega)
    have ho : Ev (fun k => r05_One.f k w[i].f0 w[i].f1 w[i].f2 w[i].f3 0 2) (ChkB.one w[i] 1) := ho
    refine Ev.congr (fun k => if_neg Bool.false_ne_true) (Ev.bind ho ?_)
    by_cases h1 : ChkB.one w[i] 1 = 0
    ·have e : okW w[i] = true := by unfold okW; rw [pre_ok h5 hb he, h1]; rfl
     rw [e, Bool.true_and]
     exact Ev.congr (fun k => (if_pos h1).trans (by rw [ChkB.wS i (by omega)])) (ih (i + 1) (by omega))
    ·have e : okW w[i] = false := by unfold okW; rw [beq_eq_false_iff_ne.mpr h1, Bool.and_false]
     rw [e, Bool.false_and, Bool.false_and]
     exact Ev.congr (fun k => if_neg h1) (Ev.now _)
   ·exact Ev.congr (fun k => if_pos rfl) (no (pre_e he))
  ·exact Ev.congr (fun k => if_pos rfl) (no (pre_b hb))
theorem rwin_is (w : List In) (hl : w.length < 100000) (hw : ∀ x ∈ w, Q.wfIns x) : Ev (fun k => r17_Right.f k w) (winI w) := by
 have := rwin_from w hl hw w.length 0 (by omega)
 rw [List.drop_zero] at this
 exact this
def retA : In := ⟨22, 0, 0, 0⟩
theorem right_ret : rightI 22 0 0 0 = true := by
 obtain ⟨i, hi, ho, hk, hw⟩ : ∃ i, i < 39 ∧ opsL[i]? = some 22 ∧ hasK i = false ∧ hasW i = false := ⟨opsL.idxOf 22, by decide, by decide, by decide, by decide⟩
 rw [(rightI_row hi ho _ _ _).1]
 unfold right
 rw [hk, hw]
 rfl
theorem one_ret (left : Int) : ChkB.one retA left = 0 := by
 unfold ChkB.one ChkB.rt retA
 rw [if_pos right_ret, if_pos (show check_ruleE 22 0 = 0 by unfold check_ruleE; simp)]
 have : ChkB.far (⟨22, 0, 0, 0⟩ : ChkB.In) left = false := by
  unfold ChkB.far
  rw [if_neg (show ¬ (22 : Int) = 5 by decide), ChkB.branch_22]
  rfl
 rw [this, if_neg Bool.false_ne_true]
theorem sound_pre (w : List In) (hl : w.length ≤ 32) (hp : w.all pre = true) : ((ChkB.chk (w ++ [retA])).2 == 0) = w.all okW := by
 have hlen : (w ++ [retA]).length = w.length + 1 := by rw [List.length_append]; rfl
 have hp := List.all_eq_true.1 hp
 have hlast : (w ++ [retA]).getD ((w ++ [retA]).length - 1) z59 = retA := by
  rw [hlen, List.getD_eq_getElem?_getD, show w.length + 1 - 1 = w.length by omega, List.getElem?_append_right (Nat.le_refl _), Nat.sub_self]
  rfl
 have key : (ChkB.chk (w ++ [retA])).2 = 0 ↔ w.all okW = true := by
  rw [ChkB.sound_iff, List.all_eq_true]
  constructor
  ·rintro ⟨_, _, h3, _⟩ x hx
   obtain ⟨q, hq, rfl⟩ := List.getElem_of_mem hx
   have h := h3 q (by omega)
   rw [List.getElem_append_left hq] at h
   unfold okW
   rw [hp _ hx, Bool.true_and, beq_iff_eq, one_pre (hp _ hx) 1 (((w ++ [retA]).length : Int) - 1 - (q : Int))]
   exact h
  ·intro h
   refine ⟨by omega, by omega, fun q hq => ?_, ?_⟩
   ·by_cases hqw : q < w.length
    ·have hx := List.getElem_mem hqw
     have := h _ hx
     unfold okW at this
     rw [hp _ hx, Bool.true_and, beq_iff_eq] at this
     rw [List.getElem_append_left hqw, one_pre (hp _ hx) _ 1]
     exact this
    ·rw [List.getElem_append_right (by omega)]
     have e : ([retA] : List In)[q - w.length]'(by simp; omega) = retA := by simp
     rw [e]
     exact one_ret _
   ·rw [hlast]
    rfl
 cases hb : w.all okW
 ·exact beq_eq_false_iff_ne.mpr fun e => by rw [key.1 e] at hb; cases hb
 ·rw [key.2 hb]; rfl
theorem win_from (w : List In) (hl : w.length ≤ 32) (hw : ∀ x ∈ w, Q.wfIns x) : ∀ (d i : Nat), i + d = w.length → Ev (fun k => window_Right.l0 k w w (w.length : Int) (i : Int)) ((w.drop i).all pre && ((ChkB.chk (w ++ [retA])).2 == 0)) := by
 have hwr : ∀ x ∈ w ++ [retA], Q.wfIns x := fun x hx => by
  rcases List.mem_append.1 hx with h | h
  ·exact hw x h
  ·rw [List.mem_singleton.1 h]
   exact ⟨by decide, by decide, by decide, by decide⟩
 have hs := ChkB.sound_is (w ++ [retA]) (by rw [List.length_append]; simp; omega) hwr
 intro d
 induction d with
 | zero =>
  intro i hi
  rw [List.drop_of_length_le (by omega)]
  refine Ev.step (f := fun k => (check_Sound.f k (w ++ [retA])).bind fun t => some t) (fun k => ?_) (Ev.bind hs (Ev.now _))
  rw [window_Right.l0, if_neg (by omega), Option.bind_some, if_pos (by simp; omega), Option.bind_some, if_pos (by simp; omega)]
  rfl
 | succ d ih =>
  intro i hi
  have hil : i < w.length := by omega
  rw [drop_all pre w i hil]
  refine Ev.step (fun k => by rw [window_Right.l0, if_pos (by omega), if_pos (by omega), if_pos (by omega), ChkB.rd_at w i hil]) ?_
  have no : pre w[i] = false → Ev (fun _ => some false) (pre w[i] && (w.drop (i + 1)).all pre && ((ChkB.chk (w ++ [retA])).2 == 0)) := fun h => by
   rw [h, Bool.false_and, Bool.false_and]
   exact Ev.now _
  by_cases h5 : w[i].f0 = 5
  ·exact Ev.congr (fun k => if_pos h5) (no (pre_5 h5))
  refine Ev.congr (fun k => (if_neg h5).trans (by rw [branchI_is, Option.bind_some])) ?_
  cases hb : branchI w[i].f0
  ·refine Ev.congr (fun k => (if_neg Bool.false_ne_true).trans (by rw [ChkB.ends_is, Option.bind_some])) ?_
   cases he : ChkB.endI w[i]
   ·rw [pre_ok h5 hb he, Bool.true_and]
    exact Ev.congr (fun k => (if_neg Bool.false_ne_true).trans (by rw [ChkB.wS i (by omega)])) (ih (i + 1) (by omega))
   ·exact Ev.congr (fun k => if_pos rfl) (no (pre_e he))
  ·exact Ev.congr (fun k => if_pos rfl) (no (pre_b hb))
theorem okW_pre {w : List In} (h : w.all pre = false) : w.all okW = false := by
 cases hb : w.all okW
 ·rfl
 ·exfalso
  have : w.all pre = true := List.all_eq_true.2 fun x hx => by
   have := List.all_eq_true.1 hb x hx
   unfold okW at this
   exact (Bool.and_eq_true_iff.mp this).1
  rw [h] at this
  cases this
theorem win_is (w : List In) (hl : w.length < 100000) (hw : ∀ x ∈ w, Q.wfIns x) : Ev (fun k => window_Right.f k w) (winI w) := by
 unfold window_Right.f winI
 by_cases h : w.length ≤ 32
 ·rw [decide_eq_true h, Bool.and_true]
  refine Ev.congr (fun k => if_neg (by omega)) ?_
  have e := win_from w h hw w.length 0 (by omega)
  rw [List.drop_zero] at e
  cases hp : w.all pre
  ·rw [hp, Bool.false_and] at e
   rw [okW_pre hp]
   exact e
  ·rw [sound_pre w h hp, hp, Bool.true_and] at e
   exact e
 ·rw [decide_eq_false h, Bool.and_false]
  exact Ev.congr (fun k => if_pos (by omega)) (Ev.now _)
noncomputable def mayI (a b : List In) (v : Int) : Bool := winI a && (winI b && (decide (b.length < a.length) && decide (v < 262144)))
section
variable {a b : List In} (ha : a.length < 100000) (hb : b.length < 100000) (wa : ∀ x ∈ a, Q.wfIns x) (wb : ∀ x ∈ b, Q.wfIns x) (v : Int)
include ha hb wa wb
theorem right_is_ : Ev (fun k => table_Rule_right.f k a b v) (mayI a b v) := by
 unfold table_Rule_right.f mayI
 refine Ev.bind (win_is a ha wa) ?_
 cases winI a
 ·exact Ev.congr (fun k => if_neg Bool.false_ne_true) (by rw [Bool.false_and]; exact Ev.now _)
 ·rw [Bool.true_and]
  refine Ev.congr (fun k => if_pos rfl) (Ev.bind (win_is b hb wb) ?_)
  cases winI b
  ·exact Ev.congr (fun k => if_neg Bool.false_ne_true) (by rw [Bool.false_and]; exact Ev.now _)
  ·rw [Bool.true_and]
   refine Ev.congr (fun k => if_pos rfl) ?_
   by_cases h : b.length < a.length
   ·rw [decide_eq_true h, Bool.true_and]
    exact Ev.congr (fun k => if_pos (by omega)) (Ev.now _)
   ·rw [decide_eq_false h, Bool.false_and]
    exact Ev.congr (fun k => if_neg (by omega)) (Ev.now _)
theorem rmay_is : Ev (fun k => r21_May.f k a b v) (mayI a b v) := by
 unfold r21_May.f mayI
 refine Ev.bind (rwin_is a ha wa) ?_
 cases winI a
 ·exact Ev.congr (fun k => if_neg Bool.false_ne_true) (by rw [Bool.false_and]; exact Ev.now _)
 ·rw [Bool.true_and]
  refine Ev.congr (fun k => if_pos rfl) (Ev.bind (rwin_is b hb wb) ?_)
  cases winI b
  ·exact Ev.congr (fun k => if_neg Bool.false_ne_true) (by rw [Bool.false_and]; exact Ev.now _)
  ·rw [Bool.true_and]
   refine Ev.congr (fun k => if_pos rfl) ?_
   by_cases h : b.length < a.length
   ·rw [decide_eq_true h, Bool.true_and]
    exact Ev.congr (fun k => if_pos (by omega)) (Ev.now _)
   ·rw [decide_eq_false h, Bool.false_and]
    exact Ev.congr (fun k => if_neg (by omega)) (Ev.now _)
end
def bytN (a b : List In) (c : Nat) : List Nat := CodecB.enc4 c ++ ([a.length % 256, b.length % 256] ++ (CodecB.encL a ++ CodecB.encL b))
theorem win_good {w : List In} (hw : ∀ x ∈ w, Q.wfIns x) (h : winI w = true) : w.length ≤ 32 ∧ ∀ x ∈ w, CodecB.GoodI x := by
 unfold winI at h
 rw [Bool.and_eq_true, decide_eq_true_eq] at h
 refine ⟨h.2, fun x hx => CodecB.good_of (hw x hx).2.2.2 ?_⟩
 have := List.all_eq_true.1 h.1 x hx
 unfold okW at this
 rw [Bool.and_eq_true, beq_iff_eq] at this
 have h1 := this.2
 unfold ChkB.one at h1
 cases hr : ChkB.rt x
 ·rw [hr] at h1; simp at h1
 ·exact hr
theorem win_chk {w : List In} (hw : ∀ x ∈ w, Q.wfIns x) (h : winI w = true) : CodecB.chk w = 0 := by
 obtain ⟨h1, h2⟩ := win_good hw h
 unfold CodecB.chk
 rw [if_neg (by omega), if_pos (CodecB.good_okL h2)]
theorem head_i (a b : List In) (c : Nat) (hc : c < 4294967296) : ([((c : Nat) : Int) % 256, ((c : Nat) : Int) / 256 % 256, ((c : Nat) : Int) / 65536 % 256, ((c : Nat) : Int) / 16777216 % 256, (a.length : Int) % 256, (b.length : Int) % 256] : List Int) = CodecB.I (CodecB.enc4 c ++ [a.length % 256, b.length % 256]) := by
 simp only [CodecB.I, CodecB.enc4, List.cons_append, List.nil_append, List.map_cons, List.map_nil, Int.natCast_emod, Int.natCast_ediv]
 rfl
theorem head_r (a b : List In) (c : Nat) (hc : c < 4294967296) : ([(Int.tmod (c : Int) 256) % 256, ((Int.tdiv (c : Int) 256) % 4294967296) % 256, ((Int.tdiv (c : Int) 65536) % 4294967296) % 256, ((Int.tdiv (c : Int) 16777216) % 4294967296) % 256, (a.length : Int) % 256, (b.length : Int) % 256] : List Int) = CodecB.I (CodecB.enc4 c ++ [a.length % 256, b.length % 256]) := by
 rw [← head_i a b c hc]
 have h0 : (0 : Int) ≤ (c : Int) := by omega
 rw [Int.tmod_eq_emod_of_nonneg h0, Int.tdiv_eq_ediv_of_nonneg h0, Int.tdiv_eq_ediv_of_nonneg h0, Int.tdiv_eq_ediv_of_nonneg h0]
 congr 1
 ·omega
 congr 1
 ·omega
 congr 1
 ·omega
 congr 1
 omega
theorem byt_bs {a b : List In} (ha : ∀ x ∈ a, CodecB.GoodI x) (hb : ∀ x ∈ b, CodecB.GoodI x) (c : Nat) : Bs (bytN a b c) := by
 intro x hx
 rcases List.mem_append.1 hx with h | h
 ·exact CodecB.enc4_bs c x h
 rcases List.mem_append.1 h with h | h
 ·simp at h; omega
 rcases List.mem_append.1 h with h | h
 ·exact CodecB.encL_bs ha x h
 ·exact CodecB.encL_bs hb x h
theorem byt_len (a b : List In) (c : Nat) : (bytN a b c).length = 6 + 8 * a.length + 8 * b.length := by
 unfold bytN
 simp only [List.length_append, CodecB.encL_len, List.length_cons, List.length_nil]
 have : (CodecB.enc4 c).length = 4 := rfl
 omega
section
variable {a b : List In} (wa : ∀ x ∈ a, Q.wfIns x) (wb : ∀ x ∈ b, Q.wfIns x) (ha : winI a = true) (hb : winI b = true) (c : Nat) (hc : c < 4294967296)
include wa wb ha hb hc
theorem bytes_is : Ev (fun k => table_Rule_bytes.f k a b (c : Int)) (str (bytN a b c)) := by
 obtain ⟨la, ga⟩ := win_good wa ha
 obtain ⟨lb, gb⟩ := win_good wb hb
 have e1 := CodecB.encode_is a (by omega) wa
 have e2 := CodecB.encode_is b (by omega) wb
 rw [win_chk wa ha, if_pos rfl] at e1
 rw [win_chk wb hb, if_pos rfl] at e2
 unfold table_Rule_bytes.f
 rw [head_i a b c hc]
 refine Ev.congr (fun k => Option.bind_some _ _) (Ev.bind e1 ?_)
 have n1 : (CodecB.I (CodecB.enc4 c ++ [a.length % 256, b.length % 256])).length + (CodecB.I (CodecB.encL a)).length < 140737488355328 := by
  rw [CodecB.I_length, CodecB.I_length, CodecB.encL_len]
  have : (CodecB.enc4 c ++ [a.length % 256, b.length % 256]).length = 6 := rfl
  omega
 refine Ev.congr (fun k => (if_pos n1).trans (Option.bind_some _ _)) (Ev.bind e2 ?_)
 have n2 : (CodecB.I (CodecB.enc4 c ++ [a.length % 256, b.length % 256]) ++ CodecB.I (CodecB.encL a)).length + (CodecB.I (CodecB.encL b)).length < 140737488355328 := by
  rw [List.length_append, CodecB.I_length, CodecB.I_length, CodecB.I_length, CodecB.encL_len, CodecB.encL_len]
  have : (CodecB.enc4 c ++ [a.length % 256, b.length % 256]).length = 6 := rfl
  omega
 refine Ev.congr (fun k => if_pos n2) ?_
 rw [← CodecB.I_append, ← CodecB.I_append, CodecB.I_str, show (CodecB.enc4 c ++ [a.length % 256, b.length % 256] ++ CodecB.encL a) ++ CodecB.encL b = bytN a b c by unfold bytN; simp only [List.append_assoc]]
 exact Ev.now _
theorem rbytes_is : Ev (fun k => r21_Bytes.f k a b (c : Int)) (CodecB.I (bytN a b c)) := by
 obtain ⟨la, ga⟩ := win_good wa ha
 obtain ⟨lb, gb⟩ := win_good wb hb
 have e1 := CodecB.rencode_is a (by omega) ga
 have e2 := CodecB.rencode_is b (by omega) gb
 unfold r21_Bytes.f
 rw [head_r a b c hc]
 refine Ev.congr (fun k => Option.bind_some _ _) (Ev.bind e1 ?_)
 have n1 : (CodecB.I (CodecB.enc4 c ++ [a.length % 256, b.length % 256])).length + (CodecB.I (CodecB.encL a)).length < 140737488355328 := by
  rw [CodecB.I_length, CodecB.I_length, CodecB.encL_len]
  have : (CodecB.enc4 c ++ [a.length % 256, b.length % 256]).length = 6 := rfl
  omega
 refine Ev.congr (fun k => (if_pos n1).trans (Option.bind_some _ _)) (Ev.bind e2 ?_)
 have n2 : (CodecB.I (CodecB.enc4 c ++ [a.length % 256, b.length % 256]) ++ CodecB.I (CodecB.encL a)).length + (CodecB.I (CodecB.encL b)).length < 140737488355328 := by
  rw [List.length_append, CodecB.I_length, CodecB.I_length, CodecB.I_length, CodecB.encL_len, CodecB.encL_len]
  have : (CodecB.enc4 c ++ [a.length % 256, b.length % 256]).length = 6 := rfl
  omega
 refine Ev.congr (fun k => if_pos n2) ?_
 rw [← CodecB.I_append, ← CodecB.I_append, show (CodecB.enc4 c ++ [a.length % 256, b.length % 256] ++ CodecB.encL a) ++ CodecB.encL b = bytN a b c by unfold bytN; simp only [List.append_assoc]]
 exact Ev.now _
end
end Go.Proofs.YtahacmdhhfmhiaaDoor.TabA
/- Tables: which are right, and their bytes, by the program's and the document's functions: the same. No condition but sizes far beyond the laws'. -/
namespace Go.Proofs.YtahacmdhhfmhiaaDoor.TabB
set_option linter.unusedVariables false
set_option linter.unusedSimpArgs false
open Go.RowKit Go.Proofs.YtahacmdhhfmhiaaDoorW.PrintWords Go.Proofs.YtahacmdhhfmhiaaDoorW.PrintLast Go.Proofs.YtahacmdhhfmhiaaDoorW.PrintMore Go.Proofs.YtahacmdhhfmhiaaDoor.M Go.Proofs.YtahacmdhhfmhiaaDoor.InsOps Go.Proofs.YtahacmdhhfmhiaaDoor.RightB Go.Proofs.YtahacmdhhfmhiaaDoor.Hex Go.Proofs.YtahacmdhhfmhiaaDoor.TabA
abbrev Ru := S42
abbrev Rr := S45
def toR (x : Ru) : Rr := ⟨x.f0, x.f1, x.f2⟩
structure Wr (x : Ru) : Prop where
 l0 : x.f0.length < 100000
 l1 : x.f1.length < 100000
 w0 : ∀ y ∈ x.f0, Q.wfIns y
 w1 : ∀ y ∈ x.f1, Q.wfIns y
 v0 : 0 ≤ x.f2
 v1 : x.f2 < 4294967296
noncomputable def may (x : Ru) : Bool := mayI x.f0 x.f1 x.f2
def byt (x : Ru) : List Nat := bytN x.f0 x.f1 x.f2.toNat
theorem rd_ru (l : List Ru) (i : Nat) (h : i < l.length) : rd_T42 l (i : Int) = l[i] := by
 unfold rd_T42
 rw [List.getD_eq_getElem?_getD, Int.toNat_natCast, List.getElem?_eq_getElem h]
 rfl
theorem rd_rr (l : List Ru) (i : Nat) (h : i < l.length) : rd_T45 (l.map toR) (i : Int) = toR l[i] := by
 unfold rd_T45
 rw [List.getD_eq_getElem?_getD, Int.toNat_natCast, List.getElem?_map, List.getElem?_eq_getElem h]
 rfl
theorem may_un {x : Ru} (h : may x = true) : winI x.f0 = true ∧ winI x.f1 = true ∧ x.f1.length < x.f0.length ∧ x.f2 < 262144 := by
 unfold may mayI at h
 simp only [Bool.and_eq_true, decide_eq_true_eq] at h
 exact h
theorem v_eq {x : Ru} (h : Wr x) : ((x.f2.toNat : Nat) : Int) = x.f2 := Int.toNat_of_nonneg h.v0
theorem bytes_ru {x : Ru} (h : Wr x) (hm : may x = true) : Ev (fun k => table_Rule_bytes.f k x.f0 x.f1 x.f2) (str (byt x)) := by
 obtain ⟨h1, h2, _, _⟩ := may_un hm
 have e := bytes_is h.w0 h.w1 h1 h2 x.f2.toNat (by have := h.v0; have := h.v1; omega)
 rw [v_eq h] at e
 exact e
theorem rbytes_ru {x : Ru} (h : Wr x) (hm : may x = true) : Ev (fun k => r21_Bytes.f k x.f0 x.f1 x.f2) (CodecB.I (byt x)) := by
 obtain ⟨h1, h2, _, _⟩ := may_un hm
 have e := rbytes_is h.w0 h.w1 h1 h2 x.f2.toNat (by have := h.v0; have := h.v1; omega)
 rw [v_eq h] at e
 exact e
theorem rbytes_rr {x : Ru} (h : Wr x) (hm : may x = true) : Ev (fun k => r21_Bytes.f k (toR x).f0 (toR x).f1 (toR x).f2) (CodecB.I (byt x)) := rbytes_ru h hm
theorem byt_bs_ru {x : Ru} (h : Wr x) (hm : may x = true) : Bs (byt x) := by
 obtain ⟨h1, h2, _, _⟩ := may_un hm
 exact byt_bs (win_good h.w0 h1).2 (win_good h.w1 h2).2 _
theorem byt_len_ru {x : Ru} (h : Wr x) (hm : may x = true) : (byt x).length ≤ 518 := by
 obtain ⟨h1, h2, _, _⟩ := may_un hm
 have a := (win_good h.w0 h1).1
 have b := (win_good h.w1 h2).1
 unfold byt
 rw [byt_len]
 omega
def lessN : List Nat → List Nat → Bool
 | _, [] => false
 | [], _ :: _ => true
 | a :: x, b :: y => if a = b then lessN x y else decide (a < b)
theorem bless : ∀ (a b : List Nat), Bs a → Bs b → Op.bytesLess (a.map UInt8.ofNat) (b.map UInt8.ofNat) = lessN a b
 | _, [], _, _ => by cases ‹List Nat› <;> rfl
 | [], _ :: _, _, _ => rfl
 | a :: x, b :: y, ha, hb => by
  have h1 := ha a List.mem_cons_self
  have h2 := hb b List.mem_cons_self
  have ih := bless x y (fun z hz => ha z (List.mem_cons_of_mem _ hz)) (fun z hz => hb z (List.mem_cons_of_mem _ hz))
  simp only [List.map_cons, Op.bytesLess, lessN, ih]
  have e1 : (UInt8.ofNat a == UInt8.ofNat b) = decide (a = b) := by
   by_cases h : a = b
   ·subst h
    simp
   ·rw [decide_eq_false h, beq_eq_false_iff_ne]
    intro hh
    have := congrArg UInt8.toNat hh
    simp at this
    omega
  have e2 : decide (UInt8.ofNat a < UInt8.ofNat b) = decide (a < b) := by
   refine decide_eq_decide.mpr ?_
   rw [UInt8.lt_iff_toNat_lt]
   simp
   rw [Nat.mod_eq_of_lt (by omega), Nat.mod_eq_of_lt (by omega)]
  rw [e1, e2]
  by_cases h : a = b
  ·subst h
   simp
  ·simp [h]
theorem bless_str {a b : List Nat} (ha : Bs a) (hb : Bs b) : Op.bytesLess (str a).toList (str b).toList = lessN a b := by
 rw [ByteArray.toList_eq, ByteArray.toList_eq]
 exact bless a b ha hb
theorem lessN_nil (a : List Nat) : lessN a [] = false := by cases a <;> rfl
theorem rless_from (a b : List Nat) (la : a.length < 100000) (lb : b.length < 100000) : ∀ (d i : Nat), i + d = a.length → i ≤ b.length → Ev (fun k => r21_less.l0 k (CodecB.I a) (CodecB.I b) (i : Int)) (lessN (a.drop i) (b.drop i)) := by
 have na := CodecB.I_length a
 have nb := CodecB.I_length b
 have fin : ∀ i : Nat, Ev (fun k => r21_less.j1 k (CodecB.I a) (CodecB.I b) (i : Int) false) (decide (a.length < b.length)) := fun i =>
  Ev.step (f := fun _ => some (decide (a.length < b.length))) (fun k => by
   rw [r21_less.j1, if_neg Bool.false_ne_true, na, nb]
   exact congrArg some (decide_eq_decide.mpr (by omega))) (Ev.now _)
 intro d
 induction d with
 | zero =>
  intro i hi hb
  refine Ev.step (fun k => by rw [r21_less.l0, if_neg (by omega)]) ?_
  have e : lessN (a.drop i) (b.drop i) = decide (a.length < b.length) := by
   rw [List.drop_of_length_le (l := a) (by omega)]
   cases hd : b.drop i with
   | nil =>
    have := congrArg List.length hd
    rw [List.length_drop, List.length_nil] at this
    rw [lessN_nil]
    exact (decide_eq_false (by omega)).symm
   | cons y r =>
    have := congrArg List.length hd
    rw [List.length_drop, List.length_cons] at this
    exact (decide_eq_true (by omega)).symm
  rw [e]
  exact fin i
 | succ d ih =>
  intro i hi hb
  have hia : i < a.length := by omega
  refine Ev.step (fun k => by rw [r21_less.l0, if_pos (by omega)]) ?_
  by_cases hib : i < b.length
  ·rw [decide_eq_true (show (i : Int) < ((CodecB.I b).length : Int) by omega)]
   refine Ev.step (fun k => by rw [r21_less.j1, if_pos rfl, if_pos (by omega), if_pos (by omega), if_pos (by omega), CodecB.I_rd, CodecB.I_rd]) ?_
   have ea : a.getD i 0 = a[i] := by rw [List.getD_eq_getElem?_getD, List.getElem?_eq_getElem hia]; rfl
   have eb : b.getD i 0 = b[i] := by rw [List.getD_eq_getElem?_getD, List.getElem?_eq_getElem hib]; rfl
   rw [ea, eb, List.drop_eq_getElem_cons hia, List.drop_eq_getElem_cons hib, lessN]
   by_cases h : a[i] = b[i]
   ·rw [if_pos h]
    exact Ev.congr (fun k => (if_pos (by rw [h])).trans (by rw [ChkB.wS i (by omega)])) (ih (i + 1) (by omega) (by omega))
   ·rw [if_neg h]
    refine Ev.congr (f := fun _ => some (decide (a[i] < b[i]))) (fun k => (if_neg (by omega)).trans (congrArg some (decide_eq_decide.mpr (by omega)))) (Ev.now _)
  ·rw [decide_eq_false (show ¬ (i : Int) < ((CodecB.I b).length : Int) by omega)]
   have e : lessN (a.drop i) (b.drop i) = decide (a.length < b.length) := by
    rw [List.drop_of_length_le (l := b) (by omega), lessN_nil]
    exact (decide_eq_false (by omega)).symm
   rw [e]
   exact fin i
theorem rless_is (a b : List Nat) (la : a.length < 100000) (lb : b.length < 100000) : Ev (fun k => r21_less.f k (CodecB.I a) (CodecB.I b)) (lessN a b) := by
 have := rless_from a b la lb a.length 0 (by omega) (by omega)
 exact this
noncomputable def rgF (t : List Ru) : Nat → Nat → Bool
 | _, 0 => true
 | i, d + 1 => may (t.getD i z42) && ((i == 0 || lessN (byt (t.getD (i - 1) z42)) (byt (t.getD i z42))) && rgF t (i + 1) d)
noncomputable def rg (t : List Ru) : Bool := rgF t 0 t.length && decide (t.length ≤ 64)
structure Wt (t : List Ru) : Prop where
 n : t.length < 100000
 w : ∀ x ∈ t, Wr x
theorem getD_ru (t : List Ru) (i : Nat) (h : i < t.length) : t.getD i z42 = t[i] := by rw [List.getD_eq_getElem?_getD, List.getElem?_eq_getElem h]; rfl
theorem right_from {t : List Ru} (h : Wt t) : ∀ (d i : Nat), i + d = t.length → (i = 0 ∨ may (t.getD (i - 1) z42) = true) → Ev (fun k => table_Right.l0 k t t (t.length : Int) (i : Int)) (rgF t i d && decide (t.length ≤ 64)) := by
 have hl := h.n
 intro d
 induction d with
 | zero =>
  intro i hi _
  refine Ev.step (f := fun _ => some (decide ((t.length : Int) ≤ 64))) (fun k => by rw [table_Right.l0, if_neg (by omega)]) ?_
  rw [rgF, Bool.true_and, show decide ((t.length : Int) ≤ 64) = decide (t.length ≤ 64) from decide_eq_decide.mpr (by omega)]
  exact Ev.now _
 | succ d ih =>
  intro i hi hp
  have hil : i < t.length := by omega
  have hw := h.w _ (List.getElem_mem hil)
  have hr := right_is_ hw.l0 hw.l1 hw.w0 hw.w1 t[i].f2
  rw [rgF, getD_ru t i hil]
  refine Ev.step (fun k => by rw [table_Right.l0, if_pos (by omega), if_pos (by omega), if_pos (by omega), rd_ru t i hil]) (Ev.bind hr ?_)
  rw [show mayI t[i].f0 t[i].f1 t[i].f2 = may t[i] from rfl]
  cases hm : may t[i]
  ·rw [Bool.false_and, Bool.false_and]
   exact Ev.congr (fun k => if_neg Bool.false_ne_true) (Ev.now _)
  ·rw [Bool.true_and]
   have next := ih (i + 1) (by omega) (.inr (by rw [Nat.add_sub_cancel, getD_ru t i hil]; exact hm))
   refine Ev.congr (fun k => if_pos rfl) ?_
   by_cases h0 : i = 0
   ·subst h0
    rw [show ((0 : Nat) == 0) = true from rfl, Bool.true_or, Bool.true_and]
    exact Ev.congr (fun k => (if_neg (by omega)).trans (by rw [ChkB.wS 0 (by omega)])) next
   ·have hi1 : i - 1 < t.length := by omega
    have hm1 : may t[i - 1] = true := by
     rcases hp with e | e
     ·exact absurd e h0
     ·rw [getD_ru t (i - 1) hi1] at e; exact e
    have hw1 := h.w _ (List.getElem_mem hi1)
    have w : wrap64 ((i : Int) - 1) = ((i - 1 : Nat) : Int) := by unfold wrap64; omega
    rw [beq_eq_false_iff_ne.mpr h0, Bool.false_or, getD_ru t (i - 1) hi1]
    refine Ev.congr (fun k => (if_pos (by omega)).trans (by rw [w, if_pos (by omega), if_pos (by omega), rd_ru t (i - 1) hi1])) (Ev.bind (bytes_ru hw1 hm1) (Ev.bind (bytes_ru hw hm) ?_))
    rw [bless_str (byt_bs_ru hw1 hm1) (byt_bs_ru hw hm)]
    cases lessN (byt t[i - 1]) (byt t[i])
    ·rw [Bool.false_and, Bool.false_and]
     exact Ev.congr (fun k => if_neg Bool.false_ne_true) (Ev.now _)
    ·rw [Bool.true_and]
     exact Ev.congr (fun k => (if_pos rfl).trans (by rw [ChkB.wS i (by omega)])) next
theorem right_is {t : List Ru} (h : Wt t) : Ev (fun k => table_Right.f k t) (rg t) := right_from h t.length 0 (by omega) (.inl rfl)
theorem rright_from {t : List Ru} (h : Wt t) : ∀ (d i : Nat), i + d = t.length → (i = 0 ∨ may (t.getD (i - 1) z42) = true) → Ev (fun k => r21_Right.l0 k (t.map toR) (i : Int)) (rgF t i d && decide (t.length ≤ 64)) := by
 have hl := h.n
 have hlen : (t.map toR).length = t.length := List.length_map ..
 intro d
 induction d with
 | zero =>
  intro i hi _
  refine Ev.step (f := fun _ => some (decide (((t.map toR).length : Int) ≤ 64))) (fun k => by rw [r21_Right.l0, if_neg (by omega)]) ?_
  rw [rgF, Bool.true_and, show decide (((t.map toR).length : Int) ≤ 64) = decide (t.length ≤ 64) from decide_eq_decide.mpr (by omega)]
  exact Ev.now _
 | succ d ih =>
  intro i hi hp
  have hil : i < t.length := by omega
  have hw := h.w _ (List.getElem_mem hil)
  have hr : Ev (fun k => r21_May.f k (toR t[i]).f0 (toR t[i]).f1 (toR t[i]).f2) (may t[i]) := rmay_is hw.l0 hw.l1 hw.w0 hw.w1 t[i].f2
  rw [rgF, getD_ru t i hil]
  refine Ev.step (fun k => by rw [r21_Right.l0, if_pos (by omega), if_pos (by omega), rd_rr t i hil]) (Ev.bind hr ?_)
  cases hm : may t[i]
  ·rw [Bool.false_and, Bool.false_and]
   exact Ev.congr (fun k => if_neg Bool.false_ne_true) (Ev.now _)
  ·rw [Bool.true_and]
   have next := ih (i + 1) (by omega) (.inr (by rw [Nat.add_sub_cancel, getD_ru t i hil]; exact hm))
   refine Ev.congr (fun k => if_pos rfl) ?_
   by_cases h0 : i = 0
   ·subst h0
    rw [show ((0 : Nat) == 0) = true from rfl, Bool.true_or, Bool.true_and]
    exact Ev.congr (fun k => (if_neg (by omega)).trans (by rw [ChkB.wS 0 (by omega)])) next
   ·have hi1 : i - 1 < t.length := by omega
    have hm1 : may t[i - 1] = true := by
     rcases hp with e | e
     ·exact absurd e h0
     ·rw [getD_ru t (i - 1) hi1] at e; exact e
    have hw1 := h.w _ (List.getElem_mem hi1)
    have w : wrap64 ((i : Int) - 1) = ((i - 1 : Nat) : Int) := by unfold wrap64; omega
    have n1 := byt_len_ru hw1 hm1
    have n2 := byt_len_ru hw hm
    rw [beq_eq_false_iff_ne.mpr h0, Bool.false_or, getD_ru t (i - 1) hi1]
    refine Ev.congr (fun k => (if_pos (by omega)).trans (by rw [w, if_pos (by omega), if_pos (by omega), rd_rr t (i - 1) hi1])) (Ev.bind (rbytes_rr hw1 hm1) (Ev.bind (rbytes_rr hw hm) (Ev.bind (rless_is (byt t[i - 1]) (byt t[i]) (by omega) (by omega)) ?_)))
    cases lessN (byt t[i - 1]) (byt t[i])
    ·rw [Bool.false_and, Bool.false_and]
     exact Ev.congr (fun k => if_neg Bool.false_ne_true) (Ev.now _)
    ·rw [Bool.true_and]
     exact Ev.congr (fun k => (if_pos rfl).trans (by rw [ChkB.wS i (by omega)])) next
theorem rright_is {t : List Ru} (h : Wt t) : Ev (fun k => r21_Right.f k (t.map toR)) (rg t) := rright_from h t.length 0 (by omega) (.inl rfl)
theorem as_from (t : List Ru) (hl : t.length < 100000) : ∀ (d i : Nat) (acc : List Rr), i + d = t.length → acc.length = i → Ev (fun k => l21_As.l0 k t acc (i : Int)) (acc ++ (t.drop i).map toR) := by
 intro d
 induction d with
 | zero =>
  intro i acc hi ha
  rw [List.drop_of_length_le (by omega), List.map_nil, List.append_nil]
  exact Ev.step (f := fun _ => some acc) (fun k => by rw [l21_As.l0, if_neg (by omega)]) (Ev.now _)
 | succ d ih =>
  intro i acc hi ha
  have hil : i < t.length := by omega
  have := ih (i + 1) (acc ++ [toR t[i]]) (by omega) (by rw [List.length_append]; simp; omega)
  rw [List.append_assoc] at this
  rw [List.drop_eq_getElem_cons hil, List.map_cons]
  refine Ev.step (fun k => ?_) this
  rw [l21_As.l0, if_pos (by omega), if_pos (by omega), rd_ru t i hil]
  unfold l21_as.f
  rw [Option.bind_some, if_pos (by omega), ChkB.wS i (by omega)]
  rfl
theorem as_is (t : List Ru) (hl : t.length < 100000) : Ev (fun k => l21_As.f k t) (t.map toR) := by
 have := as_from t hl t.length 0 [] (by omega) rfl
 rw [List.drop_zero, List.nil_append] at this
 exact this
def encT (t : List Ru) : List Nat := t.flatMap byt
def headT (t : List Ru) : List Nat := [72, 82, 84, 49, t.length % 256]
def tabN (t : List Ru) : List Nat := (headT t ++ encT t) ++ CrcPlain.four (CrcPlain.crc (headT t ++ encT t))
end Go.Proofs.YtahacmdhhfmhiaaDoor.TabB
/- What is read from a table's bytes by the program's function: what was written, and nothing else. No condition but sizes far beyond the laws'. -/
namespace Go.Proofs.YtahacmdhhfmhiaaDoor.TabD
set_option linter.unusedVariables false
set_option linter.unusedSimpArgs false
open Go.RowKit Go.Proofs.YtahacmdhhfmhiaaDoorW.PrintWords Go.Proofs.YtahacmdhhfmhiaaDoorW.PrintLast Go.Proofs.YtahacmdhhfmhiaaDoorW.PrintMore Go.Proofs.YtahacmdhhfmhiaaDoor.M Go.Proofs.YtahacmdhhfmhiaaDoor.InsOps Go.Proofs.YtahacmdhhfmhiaaDoor.RightB Go.Proofs.YtahacmdhhfmhiaaDoor.Hex Go.Proofs.YtahacmdhhfmhiaaDoor.TabA Go.Proofs.YtahacmdhhfmhiaaDoor.TabB
def pad (b : List Nat) : List Nat := 0 :: 0 :: 0 :: 0 :: b
theorem pad_get (b : List Nat) (j : Nat) : (pad b).getD (4 + j) 0 = b.getD j 0 := by rw [Nat.add_comm]; rfl
theorem pad_bs {b : List Nat} (h : Bs b) : Bs (pad b) := by
 intro x hx
 simp only [pad, List.mem_cons] at hx
 rcases hx with rfl | rfl | rfl | rfl | hx
 ·decide
 ·decide
 ·decide
 ·decide
 ·exact h x hx
def v4 (b : List Nat) : Nat := CodecB.kOf (pad b) 4
theorem v4_eq (b : List Nat) : v4 b = b.getD 0 0 + 256 * b.getD 1 0 + 65536 * b.getD 2 0 + 16777216 * b.getD 3 0 := by
 unfold v4
 rw [CodecB.kOf4]
 rfl
noncomputable def p1 (b : List Nat) : List In × Int := CodecB.decoded ((b.drop 6).take (8 * b.getD 4 0))
noncomputable def p2 (b : List Nat) : List In × Int := CodecB.decoded (((b.drop 6).take (8 * b.getD 4 0 + 8 * b.getD 5 0)).drop (8 * b.getD 4 0))
noncomputable def decR (b : List Nat) : Option (Ru × List Nat) :=
 if b.length < 6 then none else if (b.drop 6).length < 8 * b.getD 4 0 + 8 * b.getD 5 0 then none
 else if (p1 b).2 = 0 ∧ (p2 b).2 = 0 then some (⟨(p1 b).1, (p2 b).1, (v4 b : Int)⟩, (b.drop 6).drop (8 * b.getD 4 0 + 8 * b.getD 5 0)) else none
abbrev Res := List In × List In × Int × List Int × Bool
def Fits (b : List Nat) (res : Res) : Prop := match decR b with
 | none => res.2.2.2.2 = false
 | some p => res = (p.1.f0, p.1.f1, p.1.f2, CodecB.I p.2, true)
theorem take_bs {b : List Nat} (h : Bs b) (n : Nat) : Bs (b.take n) := fun x hx => h x (List.mem_of_mem_take hx)
theorem drop_bs {b : List Nat} (h : Bs b) (n : Nat) : Bs (b.drop n) := fun x hx => h x (List.mem_of_mem_drop hx)
theorem I_take (l : List Nat) (n : Nat) : (CodecB.I l).take n = CodecB.I (l.take n) := by simp [CodecB.I, List.map_take]
theorem w8 (n : Nat) (h : n < 256) : wrap64 (8 * (wrap64 ((n : Nat) : Int))) = ((8 * n : Nat) : Int) := by
 rw [ChkB.w64s (x := (n : Int)) (by omega) (by omega), ChkB.w64s (by omega) (by omega)]
 omega
theorem w88 (n m : Nat) (h : n < 256) (g : m < 256) : wrap64 (((8 * n : Nat) : Int) + ((8 * m : Nat) : Int)) = ((8 * n + 8 * m : Nat) : Int) := by
 rw [ChkB.w64s (by omega) (by omega)]
 omega
theorem rule_last {b : List Nat} (hb : Bs b) (hl : b.length < 90000) (h6 : 6 ≤ b.length) (v : Int) (hv : v = (v4 b : Int)) : ∃ res : Res, Ev (fun k => table_rule.l0 k (CodecB.I b) 4 v) res ∧ Fits b res := by
 have hI := CodecB.I_length b
 have g4 := CodecB.bs_getD hb 4
 have g5 := CodecB.bs_getD hb 5
 have r4 : rd (CodecB.I b) 4 = ((b.getD 4 0 : Nat) : Int) := CodecB.I_rd b 4
 have r5 : rd (CodecB.I b) 5 = ((b.getD 5 0 : Nat) : Int) := CodecB.I_rd b 5
 have e4 : wrap64 (8 * (wrap64 (rd (CodecB.I b) 4))) = ((8 * b.getD 4 0 : Nat) : Int) := by rw [r4]; exact w8 _ g4
 have e5 : wrap64 (8 * (wrap64 (rd (CodecB.I b) 5))) = ((8 * b.getD 5 0 : Nat) : Int) := by rw [r5]; exact w8 _ g5
 have e6 : wrap64 (((8 * b.getD 4 0 : Nat) : Int) + ((8 * b.getD 5 0 : Nat) : Int)) = ((8 * b.getD 4 0 + 8 * b.getD 5 0 : Nat) : Int) := w88 _ _ g4 g5
 have hd : (CodecB.I (b.drop 6)).length = (b.drop 6).length := CodecB.I_length _
 have hd6 : (b.drop 6).length = b.length - 6 := List.length_drop
 unfold Fits decR
 rw [if_neg (by omega)]
 have head : ∀ {res : Res}, Ev (fun k => if ((CodecB.I (b.drop 6)).length : Int) < ((8 * b.getD 4 0 + 8 * b.getD 5 0 : Nat) : Int) then some (([] : List In), ([] : List In), (0 : Int), ([] : List Int), false) else (if 0 ≤ ((8 * b.getD 4 0 : Nat) : Int) then (if ((8 * b.getD 4 0 : Nat) : Int) ≤ ((CodecB.I (b.drop 6)).length : Int) then ((codec_Decode.f k ((CodecB.I (b.drop 6)).take (((8 * b.getD 4 0 : Nat) : Int)).toNat)).bind fun bt259 => (if ((8 * b.getD 4 0 : Nat) : Int) ≤ ((8 * b.getD 4 0 + 8 * b.getD 5 0 : Nat) : Int) then (if ((8 * b.getD 4 0 + 8 * b.getD 5 0 : Nat) : Int) ≤ ((CodecB.I (b.drop 6)).length : Int) then ((codec_Decode.f k (((CodecB.I (b.drop 6)).take (((8 * b.getD 4 0 + 8 * b.getD 5 0 : Nat) : Int)).toNat).drop (((8 * b.getD 4 0 : Nat) : Int)).toNat)).bind fun bt268 => (if 0 ≤ ((8 * b.getD 4 0 + 8 * b.getD 5 0 : Nat) : Int) then ((some ((CodecB.I (b.drop 6)).drop (((8 * b.getD 4 0 + 8 * b.getD 5 0 : Nat) : Int)).toNat : List Int)).bind fun y272 => (if bt259.2 = 0 then (some (bt259.1, bt268.1, v, y272, (bt268.2 == 0))) else (some (bt259.1, bt268.1, v, y272, false)))) else (none))) else (none)) else (none))) else (none)) else (none))) res → Ev (fun k => table_rule.l0 k (CodecB.I b) 4 v) res := fun h => by
  refine Ev.step (fun k => ?_) h
  rw [table_rule.l0, if_neg (by omega), if_pos (by omega), if_pos (by omega), if_pos (by omega), CodecB.I_drop, Option.bind_some, e4, e5, e6]
 by_cases hs : (b.drop 6).length < 8 * b.getD 4 0 + 8 * b.getD 5 0
 ·rw [if_pos hs]
  exact ⟨_, head (Ev.congr (fun k => if_pos (by omega)) (Ev.now _)), rfl⟩
 ·rw [if_neg hs]
  have d1 := CodecB.decode_is ((b.drop 6).take (8 * b.getD 4 0)) (take_bs (drop_bs hb 6) _) (by rw [List.length_take]; omega)
  have d2 := CodecB.decode_is (((b.drop 6).take (8 * b.getD 4 0 + 8 * b.getD 5 0)).drop (8 * b.getD 4 0)) (drop_bs (take_bs (drop_bs hb 6) _) _) (by rw [List.length_drop, List.length_take]; omega)
  have d1 : Ev (fun k => codec_Decode.f k ((CodecB.I (b.drop 6)).take (((8 * b.getD 4 0 : Nat) : Int)).toNat)) (p1 b) := by rw [Int.toNat_natCast, I_take]; exact d1
  have d2 : Ev (fun k => codec_Decode.f k (((CodecB.I (b.drop 6)).take (((8 * b.getD 4 0 + 8 * b.getD 5 0 : Nat) : Int)).toNat).drop (((8 * b.getD 4 0 : Nat) : Int)).toNat)) (p2 b) := by rw [Int.toNat_natCast, Int.toNat_natCast, I_take, CodecB.I_drop]; exact d2
  have body : ∀ {res : Res}, Ev (fun k => if (p1 b).2 = 0 then (some ((p1 b).1, (p2 b).1, v, (CodecB.I (b.drop 6)).drop (((8 * b.getD 4 0 + 8 * b.getD 5 0 : Nat) : Int)).toNat, ((p2 b).2 == 0))) else (some ((p1 b).1, (p2 b).1, v, (CodecB.I (b.drop 6)).drop (((8 * b.getD 4 0 + 8 * b.getD 5 0 : Nat) : Int)).toNat, false))) res → Ev (fun k => table_rule.l0 k (CodecB.I b) 4 v) res := fun h =>
   head (Ev.congr (fun k => (if_neg (by omega)).trans ((if_pos (by omega)).trans (if_pos (by omega)))) (Ev.bind d1 (Ev.congr (fun k => (if_pos (by omega)).trans (if_pos (by omega))) (Ev.bind d2 (Ev.congr (fun k => (if_pos (by omega)).trans (Option.bind_some _ _)) h)))))
  by_cases h1 : (p1 b).2 = 0
  ·by_cases h2 : (p2 b).2 = 0
   ·rw [if_pos ⟨h1, h2⟩]
    refine ⟨_, body (Ev.congr (fun k => if_pos h1) (Ev.now _)), ?_⟩
    show _ = _
    rw [Int.toNat_natCast, CodecB.I_drop, hv, h2]
    rfl
   ·rw [if_neg (fun h => h2 h.2)]
    refine ⟨_, body (Ev.congr (fun k => if_pos h1) (Ev.now _)), ?_⟩
    exact beq_eq_false_iff_ne.mpr h2
  ·rw [if_neg (fun h => h1 h.1)]
   exact ⟨_, body (Ev.congr (fun k => if_neg h1) (Ev.now _)), rfl⟩
theorem rule_from {b : List Nat} (hb : Bs b) (hl : b.length < 90000) (h6 : 6 ≤ b.length) : ∀ (d j : Nat), j + d = 4 → ∃ res : Res, Ev (fun k => table_rule.l0 k (CodecB.I b) (j : Int) (CodecB.kOf (pad b) j : Int)) res ∧ Fits b res := by
 have hI := CodecB.I_length b
 intro d
 induction d with
 | zero =>
  intro j hj
  obtain rfl : j = 4 := by omega
  exact rule_last hb hl h6 _ rfl
 | succ d ih =>
  intro j hj
  obtain ⟨res, e, f⟩ := ih (j + 1) (by omega)
  have ho := CodecB.or_k (pad_bs hb) j (by omega)
  rw [pad_get] at ho
  have w8 : wrap64 (8 * (j : Int)) = ((8 * j : Nat) : Int) := by unfold wrap64; omega
  refine ⟨res, Ev.step (fun k => ?_) e, f⟩
  rw [table_rule.l0, if_pos (by omega), if_pos (by omega), if_pos (by omega), w8, if_pos (by omega), CodecB.I_rd, ho, ChkB.wS j (by omega)]
theorem rule_is {b : List Nat} (hb : Bs b) (hl : b.length < 90000) : ∃ res : Res, Ev (fun k => table_rule.f k (CodecB.I b)) res ∧ Fits b res := by
 have hI := CodecB.I_length b
 by_cases h6 : b.length < 6
 ·refine ⟨([], [], 0, [], false), ?_, ?_⟩
  ·unfold table_rule.f
   exact Ev.congr (fun k => if_pos (by omega)) (Ev.now _)
  ·unfold Fits decR
   rw [if_pos h6]
 ·obtain ⟨res, e, f⟩ := rule_from hb hl (by omega) 4 0 (by omega)
  have e : Ev (fun k => table_rule.l0 k (CodecB.I b) 0 0) res := e
  refine ⟨res, ?_, f⟩
  unfold table_rule.f
  exact Ev.congr (fun k => if_neg (by omega)) e
theorem good_wf {y : In} (h : CodecB.GoodI y) : Q.wfIns y := by
 obtain ⟨i, a, b, c, hi, ho, e1, e2, e3, l1, l2, l3, _⟩ := h
 have := CodecB.op_small hi ho
 refine ⟨?_, ?_, ?_, ?_⟩
 ·simp [Lit.wf, IntKind.min, IntKind.max, IntKind.signed, IntKind.bits]; omega
 ·rw [e1]; simp [Lit.wf, IntKind.min, IntKind.max, IntKind.signed, IntKind.bits]; omega
 ·rw [e2]; simp [Lit.wf, IntKind.min, IntKind.max, IntKind.signed, IntKind.bits]; omega
 ·rw [e3]; simp [Lit.wf, IntKind.min, IntKind.max, IntKind.signed, IntKind.bits]; omega
theorem dec_zero {b : List Nat} (hb : Bs b) (h : (CodecB.decoded b).2 = 0) : 8 * (CodecB.decoded b).1.length = b.length ∧ (∀ x ∈ (CodecB.decoded b).1, CodecB.GoodI x) ∧ CodecB.encL (CodecB.decoded b).1 = b := by
 rcases CodecB.decoded_cases b hb with ⟨e, he, hne⟩ | ⟨g, he, h1, _, h3, h4⟩
 ·rw [he] at h; exact absurd h hne
 ·rw [he]; exact ⟨h1, h3, h4⟩
theorem six_of (b : List Nat) (h : 6 ≤ b.length) : ∃ b0 b1 b2 b3 b4 b5 s, b = b0 :: b1 :: b2 :: b3 :: b4 :: b5 :: s := by
 match b, h with
 | b0 :: b1 :: b2 :: b3 :: b4 :: b5 :: s, _ => exact ⟨_, _, _, _, _, _, _, rfl⟩
theorem decR_inv {b : List Nat} (hb : Bs b) {x : Ru} {r : List Nat} (h : decR b = some (x, r)) : b = byt x ++ r ∧ Wr x ∧ Bs r := by
 unfold decR at h
 split at h
 ·cases h
 rename_i h6
 split at h
 ·cases h
 rename_i hs
 split at h
 ·rename_i hz
  obtain ⟨z1, z2⟩ := hz
  simp only [Option.some.injEq, Prod.mk.injEq] at h
  obtain ⟨rfl, rfl⟩ := h
  have g4 := CodecB.bs_getD hb 4
  have g5 := CodecB.bs_getD hb 5
  obtain ⟨a1, a2, a3⟩ := dec_zero (take_bs (drop_bs hb 6) _) z1
  obtain ⟨c1, c2, c3⟩ := dec_zero (drop_bs (take_bs (drop_bs hb 6) _) _) z2
  have a1 : 8 * (p1 b).1.length = ((b.drop 6).take (8 * b.getD 4 0)).length := a1
  have c1 : 8 * (p2 b).1.length = (((b.drop 6).take (8 * b.getD 4 0 + 8 * b.getD 5 0)).drop (8 * b.getD 4 0)).length := c1
  have a3 : CodecB.encL (p1 b).1 = (b.drop 6).take (8 * b.getD 4 0) := a3
  have c3 : CodecB.encL (p2 b).1 = ((b.drop 6).take (8 * b.getD 4 0 + 8 * b.getD 5 0)).drop (8 * b.getD 4 0) := c3
  rw [List.length_take] at a1
  rw [List.length_drop, List.length_take] at c1
  have k4 : (p1 b).1.length = b.getD 4 0 := by omega
  have k5 : (p2 b).1.length = b.getD 5 0 := by omega
  have hv4 := v4_eq b
  have q0 := CodecB.bs_getD hb 0
  have q1 := CodecB.bs_getD hb 1
  have q2 := CodecB.bs_getD hb 2
  have q3 := CodecB.bs_getD hb 3
  refine ⟨?_, ⟨by show (p1 b).1.length < 100000; omega, by show (p2 b).1.length < 100000; omega, fun y hy => good_wf (a2 y hy), fun y hy => good_wf (c2 y hy), by show (0 : Int) ≤ (v4 b : Int); omega, by show (v4 b : Int) < 4294967296; omega⟩, drop_bs (drop_bs hb 6) _⟩
  show b = bytN (p1 b).1 (p2 b).1 ((v4 b : Nat) : Int).toNat ++ _
  unfold bytN
  rw [Int.toNat_natCast, k4, k5, a3, c3]
  have e : (b.drop 6).take (8 * b.getD 4 0) ++ ((b.drop 6).take (8 * b.getD 4 0 + 8 * b.getD 5 0)).drop (8 * b.getD 4 0) = (b.drop 6).take (8 * b.getD 4 0 + 8 * b.getD 5 0) := by
   have := List.take_append_drop (8 * b.getD 4 0) ((b.drop 6).take (8 * b.getD 4 0 + 8 * b.getD 5 0))
   rw [List.take_take, Nat.min_eq_left (by omega)] at this
   exact this
  rw [e, List.append_assoc, List.append_assoc, List.take_append_drop]
  obtain ⟨b0, b1, b2, b3, b4, b5, s, hbe⟩ := six_of b (by omega)
  rw [hbe] at hv4 q0 q1 q2 q3 g4 g5 ⊢
  have hv4 : v4 (b0 :: b1 :: b2 :: b3 :: b4 :: b5 :: s) = b0 + 256 * b1 + 65536 * b2 + 16777216 * b3 := hv4
  have q0 : b0 < 256 := q0
  have q1 : b1 < 256 := q1
  have q2 : b2 < 256 := q2
  have q3 : b3 < 256 := q3
  have g4 : b4 < 256 := g4
  have g5 : b5 < 256 := g5
  rw [hv4]
  show b0 :: b1 :: b2 :: b3 :: b4 :: b5 :: s = (b0 + 256 * b1 + 65536 * b2 + 16777216 * b3) % 256 :: (b0 + 256 * b1 + 65536 * b2 + 16777216 * b3) / 256 % 256 :: (b0 + 256 * b1 + 65536 * b2 + 16777216 * b3) / 65536 % 256 :: (b0 + 256 * b1 + 65536 * b2 + 16777216 * b3) / 16777216 % 256 :: b4 % 256 :: b5 % 256 :: s
  rw [show (b0 + 256 * b1 + 65536 * b2 + 16777216 * b3) % 256 = b0 by omega, show (b0 + 256 * b1 + 65536 * b2 + 16777216 * b3) / 256 % 256 = b1 by omega, show (b0 + 256 * b1 + 65536 * b2 + 16777216 * b3) / 65536 % 256 = b2 by omega, show (b0 + 256 * b1 + 65536 * b2 + 16777216 * b3) / 16777216 % 256 = b3 by omega, Nat.mod_eq_of_lt g4, Nat.mod_eq_of_lt g5]
 ·cases h
noncomputable def decT : Nat → List Nat → List Ru → List Ru × Int
 | 0, b, acc => if b.length = 0 ∧ rg acc = true then (acc, 0) else ([], 2)
 | n + 1, b, acc => match decR b with
  | none => ([], 2)
  | some p => decT n p.2 (acc ++ [p.1])
theorem decT_from : ∀ (n i : Nat) (b : List Nat) (acc : List Ru), i + n < 300 → acc.length = i → Bs b → b.length < 90000 → Wt acc → Ev (fun k => table_Decode.l0 k (CodecB.I b) acc ((i + n : Nat) : Int) (i : Int)) (decT n b acc) := by
 intro n
 induction n with
 | zero =>
  intro i b acc hn hi hb hl ha
  have hI := CodecB.I_length b
  rw [decT]
  refine Ev.step (fun k => by rw [table_Decode.l0, if_neg (by omega)]) ?_
  by_cases h0 : b.length = 0
  ·refine Ev.congr (fun k => if_neg (by omega)) (Ev.bind (right_is ha) ?_)
   cases hr : rg acc
   ·rw [if_neg (show ¬ (b.length = 0 ∧ false = true) from fun h => Bool.false_ne_true h.2)]
    exact Ev.congr (fun k => if_neg Bool.false_ne_true) (Ev.now _)
   ·rw [if_pos (show b.length = 0 ∧ true = true from ⟨h0, rfl⟩)]
    exact Ev.congr (fun k => if_pos rfl) (Ev.now _)
  ·rw [if_neg (show ¬ (b.length = 0 ∧ rg acc = true) from fun h => h0 h.1)]
   exact Ev.congr (fun k => if_pos (by omega)) (Ev.now _)
 | succ n ih =>
  intro i b acc hn hi hb hl ha
  obtain ⟨res, e, f⟩ := rule_is hb hl
  rw [decT]
  refine Ev.step (fun k => by rw [table_Decode.l0, if_pos (by omega)]) (Ev.bind e ?_)
  unfold Fits at f
  cases hd : decR b with
  | none =>
   rw [hd] at f
   have f : res.2.2.2.2 = false := f
   rw [f]
   exact Ev.congr (fun k => if_neg Bool.false_ne_true) (Ev.now _)
  | some p =>
   obtain ⟨x, r⟩ := p
   rw [hd] at f
   have f : res = (x.f0, x.f1, x.f2, CodecB.I r, true) := f
   obtain ⟨h1, h2, h3⟩ := decR_inv hb hd
   have hlr : r.length < 90000 := by
    have := congrArg List.length h1
    rw [List.length_append] at this
    omega
   have e2 := ih (i + 1) r (acc ++ [x]) (by omega) (by rw [List.length_append]; simp; omega) h3 hlr ⟨by rw [List.length_append]; simp; omega, fun y hy => (List.mem_append.1 hy).elim (ha.w y) (fun h => by rw [List.mem_singleton.1 h]; exact h2)⟩
   rw [show i + 1 + n = i + (n + 1) by omega] at e2
   rw [f]
   exact Ev.congr (fun k => (if_pos rfl).trans ((if_pos (by omega)).trans (by rw [ChkB.wS i (by omega)]))) e2
theorem decT_inv : ∀ (n : Nat) (b : List Nat) (acc u : List Ru), Bs b → Wt acc → acc.length + n < 300 → decT n b acc = (u, 0) → ∃ s, u = acc ++ s ∧ s.length = n ∧ b = encT s ∧ rg u = true ∧ Wt u := by
 intro n
 induction n with
 | zero =>
  intro b acc u hb ha hn h
  rw [decT] at h
  split at h
  ·rename_i hc
   simp only [Prod.mk.injEq, and_true] at h
   subst h
   exact ⟨[], by simp, rfl, List.eq_nil_of_length_eq_zero hc.1, hc.2, ha⟩
  ·simp at h
 | succ n ih =>
  intro b acc u hb ha hn h
  rw [decT] at h
  cases hd : decR b with
  | none => rw [hd] at h; simp at h
  | some p =>
   obtain ⟨x, r⟩ := p
   rw [hd] at h
   obtain ⟨h1, h2, h3⟩ := decR_inv hb hd
   obtain ⟨s, g1, g2, g3, g4, g5⟩ := ih r (acc ++ [x]) u h3 ⟨by rw [List.length_append]; simp; omega, fun y hy => (List.mem_append.1 hy).elim (ha.w y) (fun h => by rw [List.mem_singleton.1 h]; exact h2)⟩ (by rw [List.length_append]; simp; omega) h
   refine ⟨x :: s, by rw [g1, List.append_assoc]; rfl, by rw [List.length_cons, g2], ?_, g4, g5⟩
   rw [h1, g3]
   rfl
theorem decT_no : ∀ (n : Nat) (b : List Nat) (acc : List Ru), (decT n b acc).2 ≠ 0 → (decT n b acc).1 = [] := by
 intro n
 induction n with
 | zero => intro b acc; rw [decT]; split <;> simp
 | succ n ih =>
  intro b acc
  rw [decT]
  cases decR b with
  | none => simp
  | some p => exact ih _ _
noncomputable def decTab (l : List Nat) : List Ru × Int :=
 if (CrcB.opened l).2 = 0 then
  if (CrcB.opened l).1.length ≤ 4 then ([], 2) else if (CrcB.opened l).1.take 4 = [72, 82, 84, 49] then decT ((CrcB.opened l).1.getD 4 0) ((CrcB.opened l).1.drop 5) [] else ([], 2)
 else ([], ((CrcB.opened l).2 : Int))
theorem map_inj : ∀ {a b : List Nat}, Bs a → Bs b → a.map UInt8.ofNat = b.map UInt8.ofNat → a = b
 | [], [], _, _, _ => rfl
 | [], _ :: _, _, _, h => by cases h
 | _ :: _, [], _, _, h => by cases h
 | x :: a, y :: b, ha, hb, h => by
  simp only [List.map_cons, List.cons.injEq] at h
  have hx := ha x List.mem_cons_self
  have hy := hb y List.mem_cons_self
  have e := congrArg UInt8.toNat h.1
  simp at e
  rw [show x = y by omega, map_inj (fun z hz => ha z (List.mem_cons_of_mem _ hz)) (fun z hz => hb z (List.mem_cons_of_mem _ hz)) h.2]
theorem opened_bs {l : List Nat} (hb : Bs l) : Bs (CrcB.opened l).1 ∧ (CrcB.opened l).1.length ≤ l.length := by
 unfold CrcB.opened
 split
 ·exact ⟨fun x hx => by simp at hx, by simp⟩
 ·split
  ·exact ⟨take_bs hb _, by rw [List.length_take]; omega⟩
  ·exact ⟨fun x hx => by simp at hx, by simp⟩
theorem decode_is {l : List Nat} (hb : Bs l) (hl : l.length < 90000) : Ev (fun k => table_Decode.f k (CodecB.I l)) (decTab l) := by
 have ho : Ev (fun k => crc_Open.f k (CodecB.I l)) (CodecB.I (CrcB.opened l).1, ((CrcB.opened l).2 : Int)) := CrcB.open_is l hb (by omega)
 obtain ⟨xb, xl⟩ := opened_bs hb
 unfold table_Decode.f decTab
 refine Ev.bind ho ?_
 by_cases h0 : (CrcB.opened l).2 = 0
 ·rw [if_pos h0]
  refine Ev.congr (fun k => if_pos (show ((CrcB.opened l).2 : Int) = 0 by omega)) ?_
  generalize (CrcB.opened l).1 = x at xb xl ⊢
  have hI := CodecB.I_length x
  have no : Ev (fun k => table_Decode.j0 k (CodecB.I x) true) ([], 2) := Ev.step (f := fun _ => some ([], 2)) (fun k => by rw [table_Decode.j0, if_pos rfl]) (Ev.now _)
  by_cases h4 : x.length ≤ 4
  ·rw [if_pos h4]
   exact Ev.congr (fun k => if_pos (show ((CodecB.I x).length : Int) ≤ 4 by omega)) no
  ·rw [if_neg h4]
   refine Ev.congr (fun k => (if_neg (show ¬ ((CodecB.I x).length : Int) ≤ 4 by omega)).trans (if_pos (show (4 : Int) ≤ ((CodecB.I x).length : Int) by omega))) ?_
   have hm : ((strOfNums ((CodecB.I x).take 4)).toList != ([72, 82, 84, 49] : List UInt8)) = !decide (x.take 4 = [72, 82, 84, 49]) := by
    rw [I_take, CodecB.I_str, ByteArray.toList_eq]
    show ((x.take 4).map UInt8.ofNat != ([72, 82, 84, 49] : List Nat).map UInt8.ofNat) = _
    by_cases h : x.take 4 = [72, 82, 84, 49]
    ·rw [h]; rfl
    ·rw [decide_eq_false h]
     exact bne_iff_ne.mpr fun e => h (map_inj (take_bs xb 4) (fun z hz => by simp at hz; omega) e)
   rw [hm]
   by_cases h : x.take 4 = [72, 82, 84, 49]
   ·rw [if_pos h, decide_eq_true h]
    have hx4 := CodecB.bs_getD xb 4
    have e := decT_from (x.getD 4 0) 0 (x.drop 5) [] (by omega) rfl (drop_bs xb 5) (by rw [List.length_drop]; omega) ⟨by simp, fun y hy => by simp at hy⟩
    rw [Nat.zero_add, ← CodecB.I_drop] at e
    have r4 : wrap64 (rd (CodecB.I x) 4) = ((x.getD 4 0 : Nat) : Int) := by
     rw [show rd (CodecB.I x) 4 = ((x.getD 4 0 : Nat) : Int) from CodecB.I_rd x 4]
     unfold wrap64
     omega
    have e : Ev (fun k => table_Decode.l0 k ((CodecB.I x).drop (5 : Int).toNat) [] (wrap64 (rd (CodecB.I x) 4)) 0) (decT (x.getD 4 0) (x.drop 5) []) := by rw [r4]; exact e
    exact Ev.step (fun k => by rw [table_Decode.j0, if_neg (by decide), if_pos (show (4 : Int) < ((CodecB.I x).length : Int) by omega), if_pos (show (5 : Int) ≤ ((CodecB.I x).length : Int) by omega)]) e
   ·rw [if_neg h, decide_eq_false h]
    exact no
 ·rw [if_neg h0]
  exact Ev.congr (fun k => if_neg (show ¬ ((CrcB.opened l).2 : Int) = 0 by omega)) (Ev.now _)
theorem opened_inv {l : List Nat} (h : (CrcB.opened l).2 = 0) : l = (CrcB.opened l).1 ++ CrcPlain.four (CrcPlain.crc (CrcB.opened l).1) := by
 unfold CrcB.opened at h ⊢
 split at h
 ·cases h
 ·split at h
  ·rename_i h1 h2
   rw [if_neg h1, if_pos h2]
   exact h2.symm
  ·cases h
theorem tab_back {l : List Nat} (hb : Bs l) {u : List Ru} (h : decTab l = (u, 0)) : tabN u = l ∧ rg u = true ∧ Wt u := by
 unfold decTab at h
 split at h
 ·rename_i h0
  obtain ⟨xb, _⟩ := opened_bs hb
  have hl := opened_inv h0
  split at h
  ·simp at h
  ·rename_i h4
   split at h
   ·rename_i hm
    have hx4 := CodecB.bs_getD xb 4
    obtain ⟨s, g1, g2, g3, g4, g5⟩ := decT_inv _ _ _ _ (drop_bs xb 5) ⟨by simp, fun y hy => by simp at hy⟩ (show ([] : List Ru).length + (CrcB.opened l).1.getD 4 0 < 300 by rw [List.length_nil]; omega) h
    rw [List.nil_append] at g1
    subst g1
    refine ⟨?_, g4, g5⟩
    have e : headT u ++ encT u = (CrcB.opened l).1 := by
     rw [← g3]
     unfold headT
     rw [g2, Nat.mod_eq_of_lt hx4]
     generalize (CrcB.opened l).1 = x at *
     match x, h4, hm with
     | x0 :: x1 :: x2 :: x3 :: x4 :: r, _, hm =>
      simp at hm
      obtain ⟨rfl, rfl, rfl, rfl⟩ := hm
      rfl
     | [], h4, _ => simp at h4
     | [_], h4, _ => simp at h4
     | [_, _], h4, _ => simp at h4
     | [_, _, _], h4, _ => simp at h4
     | [_, _, _, _], h4, _ => simp at h4
    unfold tabN
    rw [e]
    exact hl.symm
   ·simp at h
 ·rename_i h0
  simp only [Prod.mk.injEq] at h
  omega
theorem tab_no {l : List Nat} (h : (decTab l).2 ≠ 0) : (decTab l).1 = [] := by
 unfold decTab at h ⊢
 split
 ·rename_i h0
  rw [if_pos h0] at h
  split
  ·rfl
  ·rename_i h4
   rw [if_neg h4] at h
   split
   ·rename_i hm
    rw [if_pos hm] at h
    exact decT_no _ _ _ h
   ·rfl
 ·rfl
theorem same_from (t : List Ru) (h : Wt t) : ∀ (d i : Nat), i + d = t.length → Ev (fun k => r21_Same.l0 k (t.map toR) (t.map toR) (i : Int)) true := by
 have hlen : (t.map toR).length = t.length := List.length_map ..
 have hn := h.n
 intro d
 induction d with
 | zero => intro i hi; exact Ev.step (f := fun _ => some true) (fun k => by rw [r21_Same.l0, if_neg (by omega)]) (Ev.now _)
 | succ d ih =>
  intro i hi
  have hil : i < t.length := by omega
  have hw := h.w _ (List.getElem_mem hil)
  have s0 : Ev (fun k => r03_Same.f k (toR t[i]).f0 (toR t[i]).f0) true := CodecB.same_is _ hw.l0
  have s1 : Ev (fun k => r03_Same.f k (toR t[i]).f1 (toR t[i]).f1) true := CodecB.same_is _ hw.l1
  refine Ev.step (fun k => by rw [r21_Same.l0, if_pos (by omega), if_pos (by omega), if_pos (by omega), if_pos rfl, rd_rr t i hil]) (Ev.bind s0 (Ev.congr (fun k => if_pos rfl) (Ev.bind s1 (Ev.congr (fun k => if_pos rfl) ?_))))
  rw [ChkB.wS i (by omega)]
  exact ih (i + 1) (by omega)
theorem same_is (t : List Ru) (h : Wt t) : Ev (fun k => r21_Same.f k (t.map toR) (t.map toR)) true := by
 unfold r21_Same.f
 exact Ev.congr (fun k => if_pos rfl) (same_from t h t.length 0 (by omega))
end Go.Proofs.YtahacmdhhfmhiaaDoor.TabD
/- What the document's function that reads a filter's bytes computes, in plain numbers. No condition but sizes far beyond the laws'. -/
namespace Go.Proofs.YtahacmdhhfmhiaaDoor.CodecB
set_option linter.unusedVariables false
set_option linter.unusedSimpArgs false
open Go.RowKit Go.Proofs.YtahacmdhhfmhiaaDoorW.PrintWords Go.Proofs.YtahacmdhhfmhiaaDoorW.PrintLast Go.Proofs.YtahacmdhhfmhiaaDoorW.PrintMore Go.Proofs.YtahacmdhhfmhiaaDoor.M Go.Proofs.YtahacmdhhfmhiaaDoor.InsOps Go.Proofs.YtahacmdhhfmhiaaDoor.RightB Go.Proofs.YtahacmdhhfmhiaaDoor.Hex
theorem getD_drop (b : List Nat) (i t : Nat) : b.getD (i + t) 0 = (b.drop i).getD t 0 := by
 simp [List.getD_eq_getElem?_getD, List.getElem?_drop]
theorem rdecode_from (b : List Nat) (hb : Bs b) (hl : b.length < 100000) : ∀ (n i : Nat) (acc : List In), i + 8 * n = b.length → acc.length + n < 1000000 → Ev (fun k => r03_Decode.l0 k (I b) acc (i : Int)) (decG n (b.drop i) acc) := by
 intro n
 induction n with
 | zero =>
  intro i acc hi _
  refine Ev.step (f := fun _ => some (acc, 0)) (fun k => ?_) (Ev.now _)
  simp only [r03_Decode.l0]
  rw [if_neg (by rw [I_length]; omega)]
 | succ n ih =>
  intro i acc hi ha
  have h0 : (i : Int) < ((I b).length : Int) := by rw [I_length]; omega
  have hN : ∀ t : Nat, t < 8 → ((i + t : Nat) : Int) < ((I b).length : Int) := fun t ht => by rw [I_length]; omega
  have hP : ∀ t : Nat, 0 ≤ ((i + t : Nat) : Int) := fun t => Int.natCast_nonneg _
  have hacc : acc.length < 4398046511104 := by omega
  have eN : ∀ t : Nat, t ≤ 8 → wrap64 ((i : Int) + (t : Int)) = ((i + t : Nat) : Int) := fun t ht => by rw [w64s (by omega) (by omega)]; rfl
  have e1 : wrap64 ((i : Int) + 1) = ((i + 1 : Nat) : Int) := eN 1 (by omega)
  have e2 : wrap64 ((i : Int) + 2) = ((i + 2 : Nat) : Int) := eN 2 (by omega)
  have e3 : wrap64 ((i : Int) + 3) = ((i + 3 : Nat) : Int) := eN 3 (by omega)
  have e4 : wrap64 ((i : Int) + 4) = ((i + 4 : Nat) : Int) := eN 4 (by omega)
  have e5 : wrap64 ((i : Int) + 5) = ((i + 5 : Nat) : Int) := eN 5 (by omega)
  have e6 : wrap64 ((i : Int) + 6) = ((i + 6 : Nat) : Int) := eN 6 (by omega)
  have e7 : wrap64 ((i : Int) + 7) = ((i + 7 : Nat) : Int) := eN 7 (by omega)
  have e8 : wrap64 ((i : Int) + 8) = ((i + 8 : Nat) : Int) := eN 8 (by omega)
  have hbd := bs_drop hb i
  have g0 := bs_getD hbd 0
  have g1 := bs_getD hbd 1
  have g2 := bs_getD hbd 2
  have g3 := bs_getD hbd 3
  have g4 := bs_getD hbd 4
  have g5 := bs_getD hbd 5
  have g6 := bs_getD hbd 6
  have g7 := bs_getD hbd 7
  have z0 : rd (I b) (i : Int) = (((b.drop i).getD 0 0 : Nat) : Int) := by rw [I_rd, ← getD_drop]; rfl
  have z1 : rd (I b) ((i + 1 : Nat) : Int) = (((b.drop i).getD 1 0 : Nat) : Int) := by rw [I_rd, ← getD_drop]
  have z2 : rd (I b) ((i + 2 : Nat) : Int) = (((b.drop i).getD 2 0 : Nat) : Int) := by rw [I_rd, ← getD_drop]
  have z3 : rd (I b) ((i + 3 : Nat) : Int) = (((b.drop i).getD 3 0 : Nat) : Int) := by rw [I_rd, ← getD_drop]
  have z4 : rd (I b) ((i + 4 : Nat) : Int) = (((b.drop i).getD 4 0 : Nat) : Int) := by rw [I_rd, ← getD_drop]
  have z5 : rd (I b) ((i + 5 : Nat) : Int) = (((b.drop i).getD 5 0 : Nat) : Int) := by rw [I_rd, ← getD_drop]
  have z6 : rd (I b) ((i + 6 : Nat) : Int) = (((b.drop i).getD 6 0 : Nat) : Int) := by rw [I_rd, ← getD_drop]
  have z7 : rd (I b) ((i + 7 : Nat) : Int) = (((b.drop i).getD 7 0 : Nat) : Int) := by rw [I_rd, ← getD_drop]
  have eop : wrap64 (wrap64 (((b.drop i).getD 0 0 : Nat) : Int) + wrap64 (256 * wrap64 (((b.drop i).getD 1 0 : Nat) : Int))) = (((b.drop i).getD 0 0 + 256 * (b.drop i).getD 1 0 : Nat) : Int) := by
   rw [w64s (x := (((b.drop i).getD 0 0 : Nat) : Int)) (by omega) (by omega), w64s (x := (((b.drop i).getD 1 0 : Nat) : Int)) (by omega) (by omega), w64s (x := 256 * (((b.drop i).getD 1 0 : Nat) : Int)) (by omega) (by omega), w64s (by omega) (by omega)]
   omega
  have ek : (((((((b.drop i).getD 4 0 : Nat) : Int) % 4294967296) + (((((b.drop i).getD 5 0 : Nat) : Int) % 4294967296) * 256) % 4294967296) % 4294967296 + (((((b.drop i).getD 6 0 : Nat) : Int) % 4294967296) * 65536) % 4294967296) % 4294967296 + (((((b.drop i).getD 7 0 : Nat) : Int) % 4294967296) * 16777216) % 4294967296) % 4294967296 = (kOf (b.drop i) 4 : Int) := by
   rw [kOf4]
   omega
  have w2 : wrap64 (((b.drop i).getD 2 0 : Nat) : Int) = (((b.drop i).getD 2 0 : Nat) : Int) := w64s (by omega) (by omega)
  have w3 : wrap64 (((b.drop i).getD 3 0 : Nat) : Int) = (((b.drop i).getD 3 0 : Nat) : Int) := w64s (by omega) (by omega)
  have hL : i + 8 ≤ b.length := by omega
  refine Ev.step (f := fun k => (r02_Right.f k (dec1 (b.drop i)).f0 (dec1 (b.drop i)).f1 (dec1 (b.drop i)).f2 (dec1 (b.drop i)).f3).bind fun t => if t = true then r03_Decode.l0 k (I b) (acc ++ [dec1 (b.drop i)]) ((i + 8 : Nat) : Int) else some ([], 2)) (fun k => ?_) ?_
  ·simp only [r03_Decode.l0, e1, e2, e3, e4, e5, e6, e7, e8, z0, z1, z2, z3, z4, z5, z6, z7, eop, ek, w2, w3]
   rw [if_pos h0, if_pos (hP 4), if_pos (hN 4 (by decide)), if_pos (hP 5), if_pos (hN 5 (by decide)), if_pos (hP 6), if_pos (hN 6 (by decide)), if_pos (hP 7), if_pos (hN 7 (by decide)), if_pos (Int.natCast_nonneg i), if_pos (hP 1), if_pos (hN 1 (by decide)), if_pos (hP 2), if_pos (hN 2 (by decide)), if_pos (hP 3), if_pos (hN 3 (by decide))]
   simp only [if_pos hacc]
   rfl
  ·refine Ev.bind (rrightI_is _ _ _ _) ?_
   have e : rightI (dec1 (b.drop i)).f0 (dec1 (b.drop i)).f1 (dec1 (b.drop i)).f2 (dec1 (b.drop i)).f3 = rt (dec1 (b.drop i)) := rfl
   rw [e]
   unfold decG
   cases h : rt (dec1 (b.drop i))
   ·simp only [Bool.false_eq_true, if_false]; exact Ev.now _
   ·simp only [if_true]
    rw [List.drop_drop]
    exact ih (i + 8) (acc ++ [dec1 (b.drop i)]) (by omega) (by rw [List.length_append]; simp; omega)
theorem rdecode_is (b : List Nat) (hb : Bs b) (hl : b.length < 100000) : Ev (fun k => r03_Decode.f k (I b)) (decoded b) := by
 unfold r03_Decode.f decoded
 by_cases h1 : 32768 < b.length
 ·rw [if_pos h1]; exact Ev.congr (fun k => if_pos (by rw [I_length]; omega)) (Ev.now _)
 ·rw [if_neg h1]
  refine Ev.congr (fun k => if_neg (by rw [I_length]; omega)) ?_
  by_cases h2 : b.length % 8 = 0
  ·rw [if_pos h2]
   refine Ev.congr (fun k => if_neg (by rw [I_length]; omega)) ?_
   have := rdecode_from b hb hl (b.length / 8) 0 [] (by omega) (by simp; omega)
   simpa using this
  ·rw [if_neg h2]; exact Ev.congr (fun k => if_pos (by rw [I_length]; omega)) (Ev.now _)
end Go.Proofs.YtahacmdhhfmhiaaDoor.CodecB
/- What the document's functions read from a table's bytes: what the program's do. No condition but sizes far beyond the laws'. -/
namespace Go.Proofs.YtahacmdhhfmhiaaDoor.TabR
set_option linter.unusedVariables false
set_option linter.unusedSimpArgs false
open Go.RowKit Go.Proofs.YtahacmdhhfmhiaaDoorW.PrintWords Go.Proofs.YtahacmdhhfmhiaaDoorW.PrintLast Go.Proofs.YtahacmdhhfmhiaaDoorW.PrintMore Go.Proofs.YtahacmdhhfmhiaaDoor.M Go.Proofs.YtahacmdhhfmhiaaDoor.InsOps Go.Proofs.YtahacmdhhfmhiaaDoor.RightB Go.Proofs.YtahacmdhhfmhiaaDoor.Hex Go.Proofs.YtahacmdhhfmhiaaDoor.TabA Go.Proofs.YtahacmdhhfmhiaaDoor.TabB Go.Proofs.YtahacmdhhfmhiaaDoor.TabD
abbrev Ras := List In × List In × Int × Int × Bool
def FitsR (b : List Nat) (i : Nat) (res : Ras) : Prop := match decR (b.drop i) with
 | none => res.2.2.2.2 = false
 | some p => ∃ q : Nat, q ≤ b.length ∧ p.2 = b.drop q ∧ res = (p.1.f0, p.1.f1, p.1.f2, (q : Int), true)
theorem wN {x : Int} {n : Nat} (h : x = (n : Int)) (g : n < 1000000) : wrap64 x = (n : Int) := by
 rw [h, ChkB.w64s (by omega) (by omega)]
theorem wI (i t : Nat) (h : i + t < 1000000) : wrap64 ((i : Int) + (t : Int)) = ((i + t : Nat) : Int) := wN rfl h
theorem cut_is (b : List Nat) (i n m : Nat) : ((CodecB.I b).take ((n + m : Nat) : Int).toNat).drop ((n : Nat) : Int).toNat = CodecB.I ((b.drop n).take m) := by
 rw [Int.toNat_natCast, Int.toNat_natCast, I_take, CodecB.I_drop, List.drop_take]
 congr 2
 omega
theorem u4 (a b c d : Nat) (ha : a < 256) (hb : b < 256) (hc : c < 256) (hd : d < 256) : ((((((((a : Int) % 4294967296) + ((256 * ((b : Int) % 4294967296)) % 4294967296)) % 4294967296) + ((65536 * ((c : Int) % 4294967296)) % 4294967296)) % 4294967296) + ((16777216 * ((d : Int) % 4294967296)) % 4294967296)) % 4294967296 : Int) = ((a + 256 * b + 65536 * c + 16777216 * d : Nat) : Int) := by
 omega
noncomputable def rdF (k : Nat) (l : List Int) (a a6 a4 a5 s q a1 a2 a3 v : Int) : Option Ras :=
 if a6 > (l.length : Int) then some (([] : List In), ([] : List In), 0, 0, false) else (if 0 ≤ a4 then (if a4 < (l.length : Int) then (if 0 ≤ a5 then (if a5 < (l.length : Int) then (if q > (l.length : Int) then some (([] : List In), ([] : List In), 0, 0, false) else (if 0 ≤ a6 then (if a6 ≤ s then (if s ≤ (l.length : Int) then ((r03_Decode.f k ((l.take s.toNat).drop a6.toNat)).bind fun f => (if 0 ≤ s then (if s ≤ q then (if q ≤ (l.length : Int) then ((r03_Decode.f k ((l.take q.toNat).drop s.toNat)).bind fun g => (if 0 ≤ a then (if a < (l.length : Int) then (if 0 ≤ a1 then (if a1 < (l.length : Int) then (if 0 ≤ a2 then (if a2 < (l.length : Int) then (if 0 ≤ a3 then (if a3 < (l.length : Int) then (if f.2 = 0 then (some (f.1, g.1, v, q, (g.2 == 0))) else (some (f.1, g.1, v, q, false))) else (none)) else (none)) else (none)) else (none)) else (none)) else (none)) else (none)) else (none))) else (none)) else (none)) else (none))) else (none)) else (none)) else (none))) else (none)) else (none)) else (none)) else (none))
theorem read_F (k : Nat) (l : List Int) (a : Int) : r21_read.f k l a = rdF k l a (wrap64 (a + 6)) (wrap64 (a + 4)) (wrap64 (a + 5)) (wrap64 ((wrap64 (a + 6)) + (wrap64 (8 * (wrap64 (rd l (wrap64 (a + 4)))))))) (wrap64 ((wrap64 ((wrap64 (a + 6)) + (wrap64 (8 * (wrap64 (rd l (wrap64 (a + 4)))))))) + (wrap64 (8 * (wrap64 (rd l (wrap64 (a + 5)))))))) (wrap64 (a + 1)) (wrap64 (a + 2)) (wrap64 (a + 3)) (((((((rd l a) % 4294967296) + ((256 * ((rd l (wrap64 (a + 1))) % 4294967296)) % 4294967296)) % 4294967296) + ((65536 * ((rd l (wrap64 (a + 2))) % 4294967296)) % 4294967296)) % 4294967296 + ((16777216 * ((rd l (wrap64 (a + 3))) % 4294967296)) % 4294967296)) % 4294967296) := rfl
theorem rdF_short (k : Nat) (l : List Int) (a a6 a4 a5 s q a1 a2 a3 v n : Int) (hn : n = (l.length : Int)) (h6 : a6 ≤ n) (h4 : 0 ≤ a4 ∧ a4 < n) (h5 : 0 ≤ a5 ∧ a5 < n) (hq : n < q) : rdF k l a a6 a4 a5 s q a1 a2 a3 v = some ([], [], 0, 0, false) := by
 subst hn
 unfold rdF
 rw [if_neg (Int.not_lt.mpr h6), if_pos h4.1, if_pos h4.2, if_pos h5.1, if_pos h5.2, if_pos hq]
theorem rdF_full (k : Nat) (l : List Int) (a a6 a4 a5 s q a1 a2 a3 v n : Int) (hn : n = (l.length : Int)) (h6 : 0 ≤ a6 ∧ a6 ≤ n) (h4 : 0 ≤ a4 ∧ a4 < n) (h5 : 0 ≤ a5 ∧ a5 < n) (hs : a6 ≤ s ∧ s ≤ n ∧ 0 ≤ s) (hq : s ≤ q ∧ q ≤ n) (h0 : 0 ≤ a ∧ a < n) (h1 : 0 ≤ a1 ∧ a1 < n) (h2 : 0 ≤ a2 ∧ a2 < n) (h3 : 0 ≤ a3 ∧ a3 < n) : rdF k l a a6 a4 a5 s q a1 a2 a3 v = (r03_Decode.f k ((l.take s.toNat).drop a6.toNat)).bind fun f => (r03_Decode.f k ((l.take q.toNat).drop s.toNat)).bind fun g => if f.2 = 0 then some (f.1, g.1, v, q, (g.2 == 0)) else some (f.1, g.1, v, q, false) := by
 subst hn
 unfold rdF
 rw [if_neg (Int.not_lt.mpr h6.2), if_pos h4.1, if_pos h4.2, if_pos h5.1, if_pos h5.2, if_neg (Int.not_lt.mpr hq.2), if_pos h6.1, if_pos hs.1, if_pos hs.2.1]
 congr 1
 funext f
 rw [if_pos hs.2.2, if_pos hq.1, if_pos hq.2]
 congr 1
 funext g
 rw [if_pos h0.1, if_pos h0.2, if_pos h1.1, if_pos h1.2, if_pos h2.1, if_pos h2.2, if_pos h3.1, if_pos h3.2]
theorem rread_is {b : List Nat} (hb : Bs b) (hl : b.length < 90000) (i : Nat) (hi : i ≤ b.length) : ∃ res : Ras, Ev (fun k => r21_read.f k (CodecB.I b) (i : Int)) res ∧ FitsR b i res := by
 have hI := CodecB.I_length b
 have hc : (b.drop i).length = b.length - i := List.length_drop
 have z6 : i + 6 < 1000000 := by omega
 unfold FitsR decR
 by_cases h6 : (b.drop i).length < 6
 ·rw [if_pos h6]
  refine ⟨([], [], 0, 0, false), ?_, rfl⟩
  refine Ev.congr (fun k => ?_) (Ev.now _)
  have z : ((i + 6 : Nat) : Int) > ((CodecB.I b).length : Int) := by omega
  rw [read_F, show wrap64 ((i : Int) + 6) = ((i + 6 : Nat) : Int) from wI i 6 z6]
  exact if_pos z
 ·rw [if_neg h6]
  have gd : ∀ t, (b.drop i).getD t 0 = b.getD (i + t) 0 := fun t => (CodecB.getD_drop b i t).symm
  have g4 := CodecB.bs_getD hb (i + 4)
  have g5 := CodecB.bs_getD hb (i + 5)
  rw [gd 4, gd 5]
  obtain ⟨n, hn⟩ : ∃ n, n = b.getD (i + 4) 0 := ⟨_, rfl⟩
  obtain ⟨m, hm⟩ : ∃ m, m = b.getD (i + 5) 0 := ⟨_, rfl⟩
  rw [← hn] at g4
  rw [← hm] at g5
  have z1 : i + 6 + 8 * n < 1000000 := by omega
  have z2 : i + 6 + 8 * n + 8 * m < 1000000 := by omega
  have lt6 : ∀ t : Nat, t ≤ 6 → wrap64 ((i : Int) + (t : Int)) = ((i + t : Nat) : Int) := fun t ht => wI i t (Nat.lt_of_le_of_lt (Nat.add_le_add_left ht i) z6)
  have e6 : wrap64 ((i : Int) + 6) = ((i + 6 : Nat) : Int) := lt6 6 (by decide)
  have e4 : wrap64 ((i : Int) + 4) = ((i + 4 : Nat) : Int) := lt6 4 (by decide)
  have e5 : wrap64 ((i : Int) + 5) = ((i + 5 : Nat) : Int) := lt6 5 (by decide)
  have e1 : wrap64 ((i : Int) + 1) = ((i + 1 : Nat) : Int) := lt6 1 (by decide)
  have e2 : wrap64 ((i : Int) + 2) = ((i + 2 : Nat) : Int) := lt6 2 (by decide)
  have e3 : wrap64 ((i : Int) + 3) = ((i + 3 : Nat) : Int) := lt6 3 (by decide)
  have r4 : wrap64 (8 * (wrap64 (rd (CodecB.I b) ((i + 4 : Nat) : Int)))) = ((8 * n : Nat) : Int) := by rw [CodecB.I_rd, ← hn]; exact w8 _ g4
  have r5 : wrap64 (8 * (wrap64 (rd (CodecB.I b) ((i + 5 : Nat) : Int)))) = ((8 * m : Nat) : Int) := by rw [CodecB.I_rd, ← hm]; exact w8 _ g5
  have s1 : wrap64 (((i + 6 : Nat) : Int) + ((8 * n : Nat) : Int)) = ((i + 6 + 8 * n : Nat) : Int) := wI (i + 6) (8 * n) z1
  have s2 : wrap64 (((i + 6 + 8 * n : Nat) : Int) + ((8 * m : Nat) : Int)) = ((i + 6 + 8 * n + 8 * m : Nat) : Int) := wI (i + 6 + 8 * n) (8 * m) z2
  have hd6 : ((b.drop i).drop 6).length = b.length - (i + 6) := by rw [List.drop_drop, List.length_drop]
  rw [← hn, ← hm, hd6]
  have hu := u4 (b.getD i 0) (b.getD (i + 1) 0) (b.getD (i + 2) 0) (b.getD (i + 3) 0) (CodecB.bs_getD hb _) (CodecB.bs_getD hb _) (CodecB.bs_getD hb _) (CodecB.bs_getD hb _)
  have head : ∀ k, r21_read.f k (CodecB.I b) (i : Int) = rdF k (CodecB.I b) (i : Int) ((i + 6 : Nat) : Int) ((i + 4 : Nat) : Int) ((i + 5 : Nat) : Int) ((i + 6 + 8 * n : Nat) : Int) ((i + 6 + 8 * n + 8 * m : Nat) : Int) ((i + 1 : Nat) : Int) ((i + 2 : Nat) : Int) ((i + 3 : Nat) : Int) ((b.getD i 0 + 256 * b.getD (i + 1) 0 + 65536 * b.getD (i + 2) 0 + 16777216 * b.getD (i + 3) 0 : Nat) : Int) := by
   intro k
   rw [read_F, e6, e4, e5, e1, e2, e3, r4, r5, s1, s2, CodecB.I_rd, CodecB.I_rd, CodecB.I_rd, CodecB.I_rd, hu]
  clear hu lt6 e6 e4 e5 e1 e2 e3 r4 r5 s1 s2
  by_cases hs : b.length - (i + 6) < 8 * n + 8 * m
  ·rw [if_pos hs]
   exact ⟨_, Ev.congr (fun k => (head k).trans (rdF_short k _ _ _ _ _ _ _ _ _ _ _ (b.length : Int) (by omega) (by omega) (by omega) (by omega) (by omega))) (Ev.now _), rfl⟩
  ·rw [if_neg hs]
   have d1 := CodecB.rdecode_is ((b.drop (i + 6)).take (8 * n)) (take_bs (drop_bs hb _) _) (by rw [List.length_take]; omega)
   have d2 := CodecB.rdecode_is ((b.drop (i + 6 + 8 * n)).take (8 * m)) (take_bs (drop_bs hb _) _) (by rw [List.length_take]; omega)
   have c1 : CodecB.decoded ((b.drop (i + 6)).take (8 * n)) = p1 (b.drop i) := by
    unfold p1
    rw [gd 4, ← hn, List.drop_drop]
   have c2 : CodecB.decoded ((b.drop (i + 6 + 8 * n)).take (8 * m)) = p2 (b.drop i) := by
    unfold p2
    rw [gd 4, gd 5, ← hn, ← hm, List.drop_take, List.drop_drop, List.drop_drop, show 8 * n + 8 * m - 8 * n = 8 * m by omega, Nat.add_assoc i 6 (8 * n)]
   rw [← cut_is b i (i + 6) (8 * n), c1] at d1
   rw [← cut_is b i (i + 6 + 8 * n) (8 * m), c2] at d2
   have v4e : ((b.getD i 0 + 256 * b.getD (i + 1) 0 + 65536 * b.getD (i + 2) 0 + 16777216 * b.getD (i + 3) 0 : Nat) : Int) = (v4 (b.drop i) : Int) := by
    rw [v4_eq, gd 0, gd 1, gd 2, gd 3]
    rfl
   simp only [v4e] at head
   have body : ∀ {res : Ras}, Ev (fun k => if (p1 (b.drop i)).2 = 0 then some ((p1 (b.drop i)).1, (p2 (b.drop i)).1, (v4 (b.drop i) : Int), ((i + 6 + 8 * n + 8 * m : Nat) : Int), ((p2 (b.drop i)).2 == 0)) else some ((p1 (b.drop i)).1, (p2 (b.drop i)).1, (v4 (b.drop i) : Int), ((i + 6 + 8 * n + 8 * m : Nat) : Int), false)) res → Ev (fun k => r21_read.f k (CodecB.I b) (i : Int)) res := fun h =>
    Ev.congr (fun k => (head k).trans (rdF_full k _ _ _ _ _ _ _ _ _ _ _ (b.length : Int) (by omega) (by omega) (by omega) (by omega) (by omega) (by omega) (by omega) (by omega) (by omega) (by omega))) (Ev.bind d1 (Ev.bind d2 h))
   by_cases h1 : (p1 (b.drop i)).2 = 0
   ·by_cases h2 : (p2 (b.drop i)).2 = 0
    ·rw [if_pos ⟨h1, h2⟩]
     refine ⟨_, body (Ev.congr (fun k => if_pos h1) (Ev.now _)), i + 6 + 8 * n + 8 * m, by omega, ?_, ?_⟩
     ·show ((b.drop i).drop 6).drop (8 * n + 8 * m) = _
      rw [List.drop_drop, List.drop_drop]
      congr 1
      omega
     ·rw [h2]
      rfl
    ·rw [if_neg (fun h => h2 h.2)]
     refine ⟨_, body (Ev.congr (fun k => if_pos h1) (Ev.now _)), ?_⟩
     exact beq_eq_false_iff_ne.mpr h2
   ·rw [if_neg (fun h => h1 h.1)]
    exact ⟨_, body (Ev.congr (fun k => if_neg h1) (Ev.now _)), rfl⟩
def mapR (p : List Ru × Int) : List Rr × Int := (p.1.map toR, p.2)
theorem rdecT_from {b : List Nat} (hb : Bs b) (hl : b.length < 90000) (h5 : 5 ≤ b.length) : ∀ (n i q : Nat) (acc : List Ru), i + n = b.getD 4 0 → acc.length = i → q ≤ b.length → Wt acc → Ev (fun k => r21_Decode.l0 k (CodecB.I b) (b.length : Int) (acc.map toR) (q : Int) (i : Int)) (mapR (decT n (b.drop q) acc)) := by
 have hI := CodecB.I_length b
 have h4 := CodecB.bs_getD hb 4
 have r4 : wrap64 (rd (CodecB.I b) 4) = ((b.getD 4 0 : Nat) : Int) := by
  rw [show rd (CodecB.I b) 4 = ((b.getD 4 0 : Nat) : Int) from CodecB.I_rd b 4]
  exact wN rfl (by omega)
 intro n
 induction n with
 | zero =>
  intro i q acc hn hi hq ha
  rw [decT]
  refine Ev.step (fun k => by rw [r21_Decode.l0, if_pos (by omega), r4, if_neg (by omega)]) ?_
  have hd : (b.drop q).length = b.length - q := List.length_drop
  by_cases h0 : (b.drop q).length = 0
  ·refine Ev.congr (fun k => if_pos (by omega)) (Ev.bind (rright_is ha) ?_)
   cases hr : rg acc
   ·rw [if_neg (show ¬ ((b.drop q).length = 0 ∧ false = true) from fun h => Bool.false_ne_true h.2)]
    exact Ev.congr (fun k => if_neg Bool.false_ne_true) (Ev.now _)
   ·rw [if_pos (show (b.drop q).length = 0 ∧ true = true from ⟨h0, rfl⟩)]
    exact Ev.congr (fun k => if_pos rfl) (Ev.now _)
  ·rw [if_neg (show ¬ ((b.drop q).length = 0 ∧ rg acc = true) from fun h => h0 h.1)]
   exact Ev.congr (fun k => if_neg (by omega)) (Ev.now _)
 | succ n ih =>
  intro i q acc hn hi hq ha
  obtain ⟨res, e, f⟩ := rread_is hb hl q hq
  rw [decT]
  refine Ev.step (fun k => by rw [r21_Decode.l0, if_pos (by omega), r4, if_pos (by omega)]) (Ev.bind e ?_)
  unfold FitsR at f
  cases hd : decR (b.drop q) with
  | none =>
   rw [hd] at f
   have f : res.2.2.2.2 = false := f
   rw [f]
   exact Ev.congr (fun k => if_neg Bool.false_ne_true) (Ev.now _)
  | some p =>
   obtain ⟨x, r⟩ := p
   rw [hd] at f
   obtain ⟨q2, g1, g2, f⟩ := f
   have g2 : r = b.drop q2 := g2
   obtain ⟨h1, h2, h3⟩ := decR_inv (drop_bs hb q) hd
   have e2 := ih (i + 1) q2 (acc ++ [x]) (by omega) (by rw [List.length_append]; simp; omega) g1 ⟨by rw [List.length_append]; simp; omega, fun y hy => (List.mem_append.1 hy).elim (ha.w y) (fun h => by rw [List.mem_singleton.1 h]; exact h2)⟩
   rw [f]
   show Ev _ (mapR (decT n r (acc ++ [x])))
   rw [g2]
   rw [List.map_append] at e2
   exact Ev.congr (fun k => (if_pos rfl).trans ((if_pos (by rw [List.length_map]; omega)).trans (by rw [ChkB.wS i (by omega)]; rfl))) e2
theorem rdecode_is {l : List Nat} (hb : Bs l) (hl : l.length < 90000) : Ev (fun k => r21_Decode.f k (CodecB.I l)) (mapR (decTab l)) := by
 have hI := CodecB.I_length l
 by_cases h4 : l.length < 4
 ·have e : decTab l = ([], 9) := by unfold decTab CrcB.opened; rw [if_pos h4]; rfl
  rw [e]
  unfold r21_Decode.f
  exact Ev.congr (fun k => if_pos (by rw [hI]; unfold wrap64; omega)) (Ev.now _)
 ·obtain ⟨n, hn⟩ : ∃ n, n = l.length - 4 := ⟨_, rfl⟩
  have hw : wrap64 ((l.length : Int) - 4) = (n : Int) := wN (by omega) (by omega)
  have hs := CrcB.rseal_is (l.take n) (take_bs hb _) (by rw [List.length_take]; omega)
  obtain ⟨x, hx⟩ : ∃ x, x = l.take n := ⟨_, rfl⟩
  have xb : Bs x := by rw [hx]; exact take_bs hb _
  have xl : x.length = n := by rw [hx, List.length_take]; omega
  have xI := CodecB.I_length x
  have hs : Ev (fun k => r20_Seal.f k (CodecB.I x)) (CodecB.I (x ++ CrcPlain.four (CrcPlain.crc x))) := by rw [hx]; exact hs
  have no : Ev (fun k => r21_Decode.j0 k (CodecB.I x) (n : Int) true) ([], 2) := Ev.step (f := fun _ => some ([], 2)) (fun k => by rw [r21_Decode.j0, if_pos rfl]) (Ev.now _)
  unfold r21_Decode.f decTab CrcB.opened
  rw [if_neg h4, ← hn, ← hx]
  refine Ev.congr (fun k => by rw [hI, hw, if_neg (by omega), if_pos (by omega), if_pos (by omega), Int.toNat_natCast, I_take, ← hx]) (Ev.bind hs ?_)
  by_cases he : x ++ CrcPlain.four (CrcPlain.crc x) = l
  ·rw [if_pos he]
   refine Ev.congr (fun k => if_pos (by rw [he])) ?_
   rw [if_pos (show ((x, 0) : List Nat × Nat).2 = 0 from rfl)]
   show Ev _ (mapR (if x.length ≤ 4 then ([], 2) else if x.take 4 = [72, 82, 84, 49] then decT (x.getD 4 0) (x.drop 5) [] else ([], 2)))
   by_cases h5 : x.length ≤ 4
   ·rw [if_pos h5]
    exact Ev.congr (fun k => if_pos (by omega)) no
   ·rw [if_neg h5]
    refine Ev.congr (fun k => if_neg (by omega)) ?_
    have x0 : rd (CodecB.I x) 0 = ((x.getD 0 0 : Nat) : Int) := CodecB.I_rd x 0
    have x1 : rd (CodecB.I x) 1 = ((x.getD 1 0 : Nat) : Int) := CodecB.I_rd x 1
    have x2 : rd (CodecB.I x) 2 = ((x.getD 2 0 : Nat) : Int) := CodecB.I_rd x 2
    have x3 : rd (CodecB.I x) 3 = ((x.getD 3 0 : Nat) : Int) := CodecB.I_rd x 3
    have k0 : (0 : Int) < ((CodecB.I x).length : Int) := by omega
    have k1 : (1 : Int) < ((CodecB.I x).length : Int) := by omega
    have k2 : (2 : Int) < ((CodecB.I x).length : Int) := by omega
    have k3 : (3 : Int) < ((CodecB.I x).length : Int) := by omega
    refine Ev.congr (fun k => (if_pos k0).trans (by rw [x0])) ?_
    have hm : x.take 4 = [72, 82, 84, 49] ↔ x.getD 0 0 = 72 ∧ x.getD 1 0 = 82 ∧ x.getD 2 0 = 84 ∧ x.getD 3 0 = 49 := by
     rcases x with _ | ⟨a, _ | ⟨b, _ | ⟨c, _ | ⟨d, r⟩⟩⟩⟩ <;> simp at h5 ⊢
    by_cases g0 : x.getD 0 0 = 72
    ·refine Ev.congr (fun k => (if_pos (by omega)).trans ((if_pos k1).trans (by rw [x1]))) ?_
     by_cases g1 : x.getD 1 0 = 82
     ·refine Ev.congr (fun k => (if_pos (by omega)).trans ((if_pos k2).trans (by rw [x2]))) ?_
      by_cases g2 : x.getD 2 0 = 84
      ·refine Ev.congr (fun k => (if_pos (by omega)).trans ((if_pos k3).trans (by rw [x3]))) ?_
       by_cases g3 : x.getD 3 0 = 49
       ·rw [if_pos (hm.mpr ⟨g0, g1, g2, g3⟩)]
        have q : (((x.getD 3 0 : Nat) : Int) != 49) = false := by rw [g3]; rfl
        rw [q]
        have e := rdecT_from xb (by omega) (by omega) (x.getD 4 0) 0 5 [] (by omega) rfl (by omega) ⟨by simp, fun y hy => by simp at hy⟩
        rw [xl] at e
        have e : Ev (fun k => r21_Decode.l0 k (CodecB.I x) (n : Int) ([] : List Rr) 5 0) (mapR (decT (x.getD 4 0) (x.drop 5) [])) := e
        exact Ev.step (fun k => by rw [r21_Decode.j0, if_neg Bool.false_ne_true]) e
       ·rw [if_neg (fun h => g3 (hm.mp h).2.2.2)]
        have q : (((x.getD 3 0 : Nat) : Int) != 49) = true := bne_iff_ne.mpr (by omega)
        rw [q]
        exact no
      ·rw [if_neg (fun h => g2 (hm.mp h).2.2.1)]
       exact Ev.congr (fun k => if_neg (by omega)) no
     ·rw [if_neg (fun h => g1 (hm.mp h).2.1)]
      exact Ev.congr (fun k => if_neg (by omega)) no
    ·rw [if_neg (fun h => g0 (hm.mp h).1)]
     exact Ev.congr (fun k => if_neg (by omega)) no
  ·rw [if_neg he]
   refine Ev.congr (fun k => if_neg (fun h => he ((CrcB.str_inj (CrcB.seal_bs xb) hb).mp h))) ?_
   exact Ev.now _
end Go.Proofs.YtahacmdhhfmhiaaDoor.TabR
/- The document's examples of tables hold. No condition. -/
namespace Go.Proofs.YtahacmdhhfmhiaaDoor.TabK
open Go.RowKit Go.Proofs.YtahacmdhhfmhiaaDoorW.PrintWords Go.Proofs.YtahacmdhhfmhiaaDoorW.PrintLast Go.Proofs.YtahacmdhhfmhiaaDoorW.PrintMore Go.Proofs.YtahacmdhhfmhiaaDoor.M
theorem knows_is : Ev (fun k => l21_knows.f k) true := Ev.congr (fun _ => show l21_knows0.f 80 = some true by decide +kernel) (Ev.now _)
end Go.Proofs.YtahacmdhhfmhiaaDoor.TabK
