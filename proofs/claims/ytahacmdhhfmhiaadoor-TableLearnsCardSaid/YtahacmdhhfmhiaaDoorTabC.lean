/- Windows and rules: which are right, and their bytes, by the program's and the document's functions: the same. No condition but sizes far beyond the laws'. -/
import Derived.Test.YtahacmdhhfmhiaaDoorChkB
import Derived.Test.YtahacmdhhfmhiaaDoorCodA
import Derived.Test.YtahacmdhhfmhiaaDoorMB
import Derived.Test.YtahacmdhhfmhiaaDoorMF
import Derived.Test.YtahacmdhhfmhiaaDoorMG
import Derived.Test.YtahacmdhhfmhiaaDoorCrcA
import Derived.Test.YtahacmdhhfmhiaaDoorMA
import Derived.Test.YtahacmdhhfmhiaaDoorMC
import Derived.Test.YtahacmdhhfmhiaaDoorMH
import Derived.Test.YtahacmdhhfmhiaaDoorM17
import Derived.Test.YtahacmdhhfmhiaaDoorMD
import Derived.Test.YtahacmdhhfmhiaaDoorM51
import Derived.Test.YtahacmdhhfmhiaaDoorM52
namespace Go.Proofs.YtahacmdhhfmhiaaDoor.TabA
set_option linter.unusedVariables false
set_option linter.unusedSimpArgs false
open Go.RowKit Go.Proofs.YtahacmdhhfmhiaaDoorW.PrintWords Go.Proofs.YtahacmdhhfmhiaaDoorW.PrintLast Go.Proofs.YtahacmdhhfmhiaaDoorW.PrintMore Go.Proofs.YtahacmdhhfmhiaaDoor.M Go.Proofs.YtahacmdhhfmhiaaDoor.InsOps Go.Proofs.YtahacmdhhfmhiaaDoor.RightB Go.Proofs.YtahacmdhhfmhiaaDoor.Hex
abbrev In := S59
noncomputable def pre (x : In) : Bool := !(x.f0 == 5) && (!(branchI x.f0) && !(ChkB.endI x))
noncomputable def okW (x : In) : Bool := pre x && (ChkB.one x 1 == 0)
noncomputable def winI (w : List In) : Bool := w.all okW && decide (w.length ≤ 32)
theorem drop_all (p : In → Bool) (w : List In) (i : Nat) (h : i < w.length) : (w.drop i).all p = (p w[i] && (w.drop (i + 1)).all p) := by rw [ChkB.drop_at w i h, List.all_cons]
theorem pre_5 {x : In} (h : x.f0 = 5) : pre x = false := by unfold pre; simp [h]
theorem pre_b {x : In} (h : branchI x.f0 = true) : pre x = false := by unfold pre; simp [h]
theorem pre_e {x : In} (h : ChkB.endI x = true) : pre x = false := by unfold pre; simp [h]
theorem pre_ok {x : In} (h5 : ¬ x.f0 = 5) (hb : branchI x.f0 = false) (he : ChkB.endI x = false) : pre x = true := by
 unfold pre
 rw [hb, he, beq_eq_false_iff_ne.mpr h5]
 rfl
theorem pre_un {x : In} (h : pre x = true) : x.f0 ≠ 5 ∧ branchI x.f0 = false ∧ ChkB.endI x = false := by
 unfold pre at h
 simp only [Bool.and_eq_true, Bool.not_eq_true', beq_eq_false_iff_ne] at h
 exact ⟨h.1, h.2.1, h.2.2⟩
theorem one_pre {x : In} (h : pre x = true) (a b : Int) : ChkB.one x a = ChkB.one x b := by
 obtain ⟨h5, hb, _⟩ := pre_un h
 have hf : ∀ c : Int, ChkB.far x c = false := fun c => by
  unfold ChkB.far
  rw [if_neg h5, hb]
  rfl
 unfold ChkB.one
 rw [hf a, hf b]
theorem rwin_from (w : List In) (hl : w.length < 100000) (hw : ∀ x ∈ w, Q.wfIns x) : ∀ (d i : Nat), i + d = w.length → Ev (fun k => r17_Right.l0 k w (i : Int)) ((w.drop i).all okW && decide (w.length ≤ 32)) := by
 intro d
 induction d with
 | zero =>
  intro i hi
  rw [List.drop_of_length_le (by omega)]
  refine Ev.step (f := fun _ => some (decide ((w.length : Int) ≤ 32))) (fun k => by rw [r17_Right.l0, if_neg (by omega)]) ?_
  rw [show decide ((w.length : Int) ≤ 32) = decide (w.length ≤ 32) from decide_eq_decide.mpr (by omega)]
  exact Ev.now _
 | succ d ih =>
  intro i hi
  have hil : i < w.length := by omega
  rw [drop_all okW w i hil]
  refine Ev.step (fun k => by rw [r17_Right.l0, if_pos (by omega), if_pos (by omega), ChkB.rd_at w i hil]) ?_
  have no : pre w[i] = false → Ev (fun _ => some false) (okW w[i] && (w.drop (i + 1)).all okW && decide (w.length ≤ 32)) := fun h => by
   unfold okW
   rw [h, Bool.false_and, Bool.false_and, Bool.false_and]
   exact Ev.now _
  by_cases h5 : w[i].f0 = 5
  ·exact Ev.congr (fun k => if_pos h5) (no (pre_5 h5))
  refine Ev.congr (fun k => if_neg h5) (Ev.bind (rbranchI_is _ _ _ _) ?_)
  cases hb : branchI w[i].f0
  ·refine Ev.congr (fun k => (if_neg Bool.false_ne_true).trans (by rw [ChkB.rends_is, Option.bind_some])) ?_
   cases he : ChkB.endI w[i]
   ·have ho := ChkB.one_is w[i] (hw _ (List.getElem_mem hil)) 0 2 (by omega) (by omega)
    have ho : Ev (fun k => r05_One.f k w[i].f0 w[i].f1 w[i].f2 w[i].f3 0 2) (ChkB.one w[i] 1) := ho
    refine Ev.congr (fun k => if_neg Bool.false_ne_true) (Ev.bind ho ?_)
    by_cases h1 : ChkB.one w[i] 1 = 0
    ·have e : okW w[i] = true := by unfold okW; rw [pre_ok h5 hb he, h1]; rfl
     rw [e, Bool.true_and]
     exact Ev.congr (fun k => (if_pos h1).trans (by rw [ChkB.wS i (by omega)])) (ih (i + 1) (by omega))
    ·have e : okW w[i] = false := by unfold okW; rw [beq_eq_false_iff_ne.mpr h1, Bool.and_false]
     rw [e, Bool.false_and, Bool.false_and]
     exact Ev.congr (fun k => if_neg h1) (Ev.now _)
   ·exact Ev.congr (fun k => if_pos rfl) (no (pre_e he))
  ·exact Ev.congr (fun k => if_pos rfl) (no (pre_b hb))
theorem rwin_is (w : List In) (hl : w.length < 100000) (hw : ∀ x ∈ w, Q.wfIns x) : Ev (fun k => r17_Right.f k w) (winI w) := by
 have := rwin_from w hl hw w.length 0 (by omega)
 rw [List.drop_zero] at this
 exact this
def retA : In := ⟨22, 0, 0, 0⟩
theorem right_ret : rightI 22 0 0 0 = true := by
 obtain ⟨i, hi, ho, hk, hw⟩ : ∃ i, i < 39 ∧ opsL[i]? = some 22 ∧ hasK i = false ∧ hasW i = false := ⟨opsL.idxOf 22, by decide, by decide, by decide, by decide⟩
 rw [(rightI_row hi ho _ _ _).1]
 unfold right
 rw [hk, hw]
 rfl
theorem one_ret (left : Int) : ChkB.one retA left = 0 := by
 unfold ChkB.one ChkB.rt retA
 rw [if_pos right_ret, if_pos (show check_ruleE 22 0 = 0 by unfold check_ruleE; simp)]
 have : ChkB.far (⟨22, 0, 0, 0⟩ : ChkB.In) left = false := by
  unfold ChkB.far
  rw [if_neg (show ¬ (22 : Int) = 5 by decide), ChkB.branch_22]
  rfl
 rw [this, if_neg Bool.false_ne_true]
theorem sound_pre (w : List In) (hl : w.length ≤ 32) (hp : w.all pre = true) : ((ChkB.chk (w ++ [retA])).2 == 0) = w.all okW := by
 have hlen : (w ++ [retA]).length = w.length + 1 := by rw [List.length_append]; rfl
 have hp := List.all_eq_true.1 hp
 have hlast : (w ++ [retA]).getD ((w ++ [retA]).length - 1) z59 = retA := by
  rw [hlen, List.getD_eq_getElem?_getD, show w.length + 1 - 1 = w.length by omega, List.getElem?_append_right (Nat.le_refl _), Nat.sub_self]
  rfl
 have key : (ChkB.chk (w ++ [retA])).2 = 0 ↔ w.all okW = true := by
  rw [ChkB.sound_iff, List.all_eq_true]
  constructor
  ·rintro ⟨_, _, h3, _⟩ x hx
   obtain ⟨q, hq, rfl⟩ := List.getElem_of_mem hx
   have h := h3 q (by omega)
   rw [List.getElem_append_left hq] at h
   unfold okW
   rw [hp _ hx, Bool.true_and, beq_iff_eq, one_pre (hp _ hx) 1 (((w ++ [retA]).length : Int) - 1 - (q : Int))]
   exact h
  ·intro h
   refine ⟨by omega, by omega, fun q hq => ?_, ?_⟩
   ·by_cases hqw : q < w.length
    ·have hx := List.getElem_mem hqw
     have := h _ hx
     unfold okW at this
     rw [hp _ hx, Bool.true_and, beq_iff_eq] at this
     rw [List.getElem_append_left hqw, one_pre (hp _ hx) _ 1]
     exact this
    ·rw [List.getElem_append_right (by omega)]
     have e : ([retA] : List In)[q - w.length]'(by simp; omega) = retA := by simp
     rw [e]
     exact one_ret _
   ·rw [hlast]
    rfl
 cases hb : w.all okW
 ·exact beq_eq_false_iff_ne.mpr fun e => by rw [key.1 e] at hb; cases hb
 ·rw [key.2 hb]; rfl
theorem win_from (w : List In) (hl : w.length ≤ 32) (hw : ∀ x ∈ w, Q.wfIns x) : ∀ (d i : Nat), i + d = w.length → Ev (fun k => window_Right.l0 k w w (w.length : Int) (i : Int)) ((w.drop i).all pre && ((ChkB.chk (w ++ [retA])).2 == 0)) := by
 have hwr : ∀ x ∈ w ++ [retA], Q.wfIns x := fun x hx => by
  rcases List.mem_append.1 hx with h | h
  ·exact hw x h
  ·rw [List.mem_singleton.1 h]
   exact ⟨by decide, by decide, by decide, by decide⟩
 have hs := ChkB.sound_is (w ++ [retA]) (by rw [List.length_append]; simp; omega) hwr
 intro d
 induction d with
 | zero =>
  intro i hi
  rw [List.drop_of_length_le (by omega)]
  refine Ev.step (f := fun k => (check_Sound.f k (w ++ [retA])).bind fun t => some t) (fun k => ?_) (Ev.bind hs (Ev.now _))
  rw [window_Right.l0, if_neg (by omega), Option.bind_some, if_pos (by simp; omega), Option.bind_some, if_pos (by simp; omega)]
  rfl
 | succ d ih =>
  intro i hi
  have hil : i < w.length := by omega
  rw [drop_all pre w i hil]
  refine Ev.step (fun k => by rw [window_Right.l0, if_pos (by omega), if_pos (by omega), if_pos (by omega), ChkB.rd_at w i hil]) ?_
  have no : pre w[i] = false → Ev (fun _ => some false) (pre w[i] && (w.drop (i + 1)).all pre && ((ChkB.chk (w ++ [retA])).2 == 0)) := fun h => by
   rw [h, Bool.false_and, Bool.false_and]
   exact Ev.now _
  by_cases h5 : w[i].f0 = 5
  ·exact Ev.congr (fun k => if_pos h5) (no (pre_5 h5))
  refine Ev.congr (fun k => (if_neg h5).trans (by rw [branchI_is, Option.bind_some])) ?_
  cases hb : branchI w[i].f0
  ·refine Ev.congr (fun k => (if_neg Bool.false_ne_true).trans (by rw [ChkB.ends_is, Option.bind_some])) ?_
   cases he : ChkB.endI w[i]
   ·rw [pre_ok h5 hb he, Bool.true_and]
    exact Ev.congr (fun k => (if_neg Bool.false_ne_true).trans (by rw [ChkB.wS i (by omega)])) (ih (i + 1) (by omega))
   ·exact Ev.congr (fun k => if_pos rfl) (no (pre_e he))
  ·exact Ev.congr (fun k => if_pos rfl) (no (pre_b hb))
theorem okW_pre {w : List In} (h : w.all pre = false) : w.all okW = false := by
 cases hb : w.all okW
 ·rfl
 ·exfalso
  have : w.all pre = true := List.all_eq_true.2 fun x hx => by
   have := List.all_eq_true.1 hb x hx
   unfold okW at this
   exact (Bool.and_eq_true_iff.mp this).1
  rw [h] at this
  cases this
theorem win_is (w : List In) (hl : w.length < 100000) (hw : ∀ x ∈ w, Q.wfIns x) : Ev (fun k => window_Right.f k w) (winI w) := by
 unfold window_Right.f winI
 by_cases h : w.length ≤ 32
 ·rw [decide_eq_true h, Bool.and_true]
  refine Ev.congr (fun k => if_neg (by omega)) ?_
  have e := win_from w h hw w.length 0 (by omega)
  rw [List.drop_zero] at e
  cases hp : w.all pre
  ·rw [hp, Bool.false_and] at e
   rw [okW_pre hp]
   exact e
  ·rw [sound_pre w h hp, hp, Bool.true_and] at e
   exact e
 ·rw [decide_eq_false h, Bool.and_false]
  exact Ev.congr (fun k => if_pos (by omega)) (Ev.now _)
noncomputable def mayI (a b : List In) (v : Int) : Bool := winI a && (winI b && (decide (b.length < a.length) && decide (v < 262144)))
section
variable {a b : List In} (ha : a.length < 100000) (hb : b.length < 100000) (wa : ∀ x ∈ a, Q.wfIns x) (wb : ∀ x ∈ b, Q.wfIns x) (v : Int)
include ha hb wa wb
theorem right_is_ : Ev (fun k => table_Rule_right.f k a b v) (mayI a b v) := by
 unfold table_Rule_right.f mayI
 refine Ev.bind (win_is a ha wa) ?_
 cases winI a
 ·exact Ev.congr (fun k => if_neg Bool.false_ne_true) (by rw [Bool.false_and]; exact Ev.now _)
 ·rw [Bool.true_and]
  refine Ev.congr (fun k => if_pos rfl) (Ev.bind (win_is b hb wb) ?_)
  cases winI b
  ·exact Ev.congr (fun k => if_neg Bool.false_ne_true) (by rw [Bool.false_and]; exact Ev.now _)
  ·rw [Bool.true_and]
   refine Ev.congr (fun k => if_pos rfl) ?_
   by_cases h : b.length < a.length
   ·rw [decide_eq_true h, Bool.true_and]
    exact Ev.congr (fun k => if_pos (by omega)) (Ev.now _)
   ·rw [decide_eq_false h, Bool.false_and]
    exact Ev.congr (fun k => if_neg (by omega)) (Ev.now _)
theorem rmay_is : Ev (fun k => r21_May.f k a b v) (mayI a b v) := by
 unfold r21_May.f mayI
 refine Ev.bind (rwin_is a ha wa) ?_
 cases winI a
 ·exact Ev.congr (fun k => if_neg Bool.false_ne_true) (by rw [Bool.false_and]; exact Ev.now _)
 ·rw [Bool.true_and]
  refine Ev.congr (fun k => if_pos rfl) (Ev.bind (rwin_is b hb wb) ?_)
  cases winI b
  ·exact Ev.congr (fun k => if_neg Bool.false_ne_true) (by rw [Bool.false_and]; exact Ev.now _)
  ·rw [Bool.true_and]
   refine Ev.congr (fun k => if_pos rfl) ?_
   by_cases h : b.length < a.length
   ·rw [decide_eq_true h, Bool.true_and]
    exact Ev.congr (fun k => if_pos (by omega)) (Ev.now _)
   ·rw [decide_eq_false h, Bool.false_and]
    exact Ev.congr (fun k => if_neg (by omega)) (Ev.now _)
end
def bytN (a b : List In) (c : Nat) : List Nat := CodecB.enc4 c ++ ([a.length % 256, b.length % 256] ++ (CodecB.encL a ++ CodecB.encL b))
theorem win_good {w : List In} (hw : ∀ x ∈ w, Q.wfIns x) (h : winI w = true) : w.length ≤ 32 ∧ ∀ x ∈ w, CodecB.GoodI x := by
 unfold winI at h
 rw [Bool.and_eq_true, decide_eq_true_eq] at h
 refine ⟨h.2, fun x hx => CodecB.good_of (hw x hx).2.2.2 ?_⟩
 have := List.all_eq_true.1 h.1 x hx
 unfold okW at this
 rw [Bool.and_eq_true, beq_iff_eq] at this
 have h1 := this.2
 unfold ChkB.one at h1
 cases hr : ChkB.rt x
 ·rw [hr] at h1; simp at h1
 ·exact hr
theorem win_chk {w : List In} (hw : ∀ x ∈ w, Q.wfIns x) (h : winI w = true) : CodecB.chk w = 0 := by
 obtain ⟨h1, h2⟩ := win_good hw h
 unfold CodecB.chk
 rw [if_neg (by omega), if_pos (CodecB.good_okL h2)]
theorem head_i (a b : List In) (c : Nat) (hc : c < 4294967296) : ([((c : Nat) : Int) % 256, ((c : Nat) : Int) / 256 % 256, ((c : Nat) : Int) / 65536 % 256, ((c : Nat) : Int) / 16777216 % 256, (a.length : Int) % 256, (b.length : Int) % 256] : List Int) = CodecB.I (CodecB.enc4 c ++ [a.length % 256, b.length % 256]) := by
 simp only [CodecB.I, CodecB.enc4, List.cons_append, List.nil_append, List.map_cons, List.map_nil, Int.natCast_emod, Int.natCast_ediv]
 rfl
theorem head_r (a b : List In) (c : Nat) (hc : c < 4294967296) : ([(Int.tmod (c : Int) 256) % 256, ((Int.tdiv (c : Int) 256) % 4294967296) % 256, ((Int.tdiv (c : Int) 65536) % 4294967296) % 256, ((Int.tdiv (c : Int) 16777216) % 4294967296) % 256, (a.length : Int) % 256, (b.length : Int) % 256] : List Int) = CodecB.I (CodecB.enc4 c ++ [a.length % 256, b.length % 256]) := by
 rw [← head_i a b c hc]
 have h0 : (0 : Int) ≤ (c : Int) := by omega
 rw [Int.tmod_eq_emod_of_nonneg h0, Int.tdiv_eq_ediv_of_nonneg h0, Int.tdiv_eq_ediv_of_nonneg h0, Int.tdiv_eq_ediv_of_nonneg h0]
 congr 1
 ·omega
 congr 1
 ·omega
 congr 1
 ·omega
 congr 1
 omega
theorem byt_bs {a b : List In} (ha : ∀ x ∈ a, CodecB.GoodI x) (hb : ∀ x ∈ b, CodecB.GoodI x) (c : Nat) : Bs (bytN a b c) := by
 intro x hx
 rcases List.mem_append.1 hx with h | h
 ·exact CodecB.enc4_bs c x h
 rcases List.mem_append.1 h with h | h
 ·simp at h; omega
 rcases List.mem_append.1 h with h | h
 ·exact CodecB.encL_bs ha x h
 ·exact CodecB.encL_bs hb x h
theorem byt_len (a b : List In) (c : Nat) : (bytN a b c).length = 6 + 8 * a.length + 8 * b.length := by
 unfold bytN
 simp only [List.length_append, CodecB.encL_len, List.length_cons, List.length_nil]
 have : (CodecB.enc4 c).length = 4 := rfl
 omega
section
variable {a b : List In} (wa : ∀ x ∈ a, Q.wfIns x) (wb : ∀ x ∈ b, Q.wfIns x) (ha : winI a = true) (hb : winI b = true) (c : Nat) (hc : c < 4294967296)
include wa wb ha hb hc
theorem bytes_is : Ev (fun k => table_Rule_bytes.f k a b (c : Int)) (str (bytN a b c)) := by
 obtain ⟨la, ga⟩ := win_good wa ha
 obtain ⟨lb, gb⟩ := win_good wb hb
 have e1 := CodecB.encode_is a (by omega) wa
 have e2 := CodecB.encode_is b (by omega) wb
 rw [win_chk wa ha, if_pos rfl] at e1
 rw [win_chk wb hb, if_pos rfl] at e2
 unfold table_Rule_bytes.f
 rw [head_i a b c hc]
 refine Ev.congr (fun k => Option.bind_some _ _) (Ev.bind e1 ?_)
 have n1 : (CodecB.I (CodecB.enc4 c ++ [a.length % 256, b.length % 256])).length + (CodecB.I (CodecB.encL a)).length < 140737488355328 := by
  rw [CodecB.I_length, CodecB.I_length, CodecB.encL_len]
  have : (CodecB.enc4 c ++ [a.length % 256, b.length % 256]).length = 6 := rfl
  omega
 refine Ev.congr (fun k => (if_pos n1).trans (Option.bind_some _ _)) (Ev.bind e2 ?_)
 have n2 : (CodecB.I (CodecB.enc4 c ++ [a.length % 256, b.length % 256]) ++ CodecB.I (CodecB.encL a)).length + (CodecB.I (CodecB.encL b)).length < 140737488355328 := by
  rw [List.length_append, CodecB.I_length, CodecB.I_length, CodecB.I_length, CodecB.encL_len, CodecB.encL_len]
  have : (CodecB.enc4 c ++ [a.length % 256, b.length % 256]).length = 6 := rfl
  omega
 refine Ev.congr (fun k => if_pos n2) ?_
 rw [← CodecB.I_append, ← CodecB.I_append, CodecB.I_str, show (CodecB.enc4 c ++ [a.length % 256, b.length % 256] ++ CodecB.encL a) ++ CodecB.encL b = bytN a b c by unfold bytN; simp only [List.append_assoc]]
 exact Ev.now _
theorem rbytes_is : Ev (fun k => r21_Bytes.f k a b (c : Int)) (CodecB.I (bytN a b c)) := by
 obtain ⟨la, ga⟩ := win_good wa ha
 obtain ⟨lb, gb⟩ := win_good wb hb
 have e1 := CodecB.rencode_is a (by omega) ga
 have e2 := CodecB.rencode_is b (by omega) gb
 unfold r21_Bytes.f
 rw [head_r a b c hc]
 refine Ev.congr (fun k => Option.bind_some _ _) (Ev.bind e1 ?_)
 have n1 : (CodecB.I (CodecB.enc4 c ++ [a.length % 256, b.length % 256])).length + (CodecB.I (CodecB.encL a)).length < 140737488355328 := by
  rw [CodecB.I_length, CodecB.I_length, CodecB.encL_len]
  have : (CodecB.enc4 c ++ [a.length % 256, b.length % 256]).length = 6 := rfl
  omega
 refine Ev.congr (fun k => (if_pos n1).trans (Option.bind_some _ _)) (Ev.bind e2 ?_)
 have n2 : (CodecB.I (CodecB.enc4 c ++ [a.length % 256, b.length % 256]) ++ CodecB.I (CodecB.encL a)).length + (CodecB.I (CodecB.encL b)).length < 140737488355328 := by
  rw [List.length_append, CodecB.I_length, CodecB.I_length, CodecB.I_length, CodecB.encL_len, CodecB.encL_len]
  have : (CodecB.enc4 c ++ [a.length % 256, b.length % 256]).length = 6 := rfl
  omega
 refine Ev.congr (fun k => if_pos n2) ?_
 rw [← CodecB.I_append, ← CodecB.I_append, show (CodecB.enc4 c ++ [a.length % 256, b.length % 256] ++ CodecB.encL a) ++ CodecB.encL b = bytN a b c by unfold bytN; simp only [List.append_assoc]]
 exact Ev.now _
end
end Go.Proofs.YtahacmdhhfmhiaaDoor.TabA
/- Tables: which are right, and their bytes, by the program's and the document's functions: the same. No condition but sizes far beyond the laws'. -/
namespace Go.Proofs.YtahacmdhhfmhiaaDoor.TabB
set_option linter.unusedVariables false
set_option linter.unusedSimpArgs false
open Go.RowKit Go.Proofs.YtahacmdhhfmhiaaDoorW.PrintWords Go.Proofs.YtahacmdhhfmhiaaDoorW.PrintLast Go.Proofs.YtahacmdhhfmhiaaDoorW.PrintMore Go.Proofs.YtahacmdhhfmhiaaDoor.M Go.Proofs.YtahacmdhhfmhiaaDoor.InsOps Go.Proofs.YtahacmdhhfmhiaaDoor.RightB Go.Proofs.YtahacmdhhfmhiaaDoor.Hex Go.Proofs.YtahacmdhhfmhiaaDoor.TabA
abbrev Ru := S42
abbrev Rr := S45
def toR (x : Ru) : Rr := ⟨x.f0, x.f1, x.f2⟩
structure Wr (x : Ru) : Prop where
 l0 : x.f0.length < 100000
 l1 : x.f1.length < 100000
 w0 : ∀ y ∈ x.f0, Q.wfIns y
 w1 : ∀ y ∈ x.f1, Q.wfIns y
 v0 : 0 ≤ x.f2
 v1 : x.f2 < 4294967296
noncomputable def may (x : Ru) : Bool := mayI x.f0 x.f1 x.f2
def byt (x : Ru) : List Nat := bytN x.f0 x.f1 x.f2.toNat
theorem rd_ru (l : List Ru) (i : Nat) (h : i < l.length) : rd_T42 l (i : Int) = l[i] := by
 unfold rd_T42
 rw [List.getD_eq_getElem?_getD, Int.toNat_natCast, List.getElem?_eq_getElem h]
 rfl
theorem rd_rr (l : List Ru) (i : Nat) (h : i < l.length) : rd_T45 (l.map toR) (i : Int) = toR l[i] := by
 unfold rd_T45
 rw [List.getD_eq_getElem?_getD, Int.toNat_natCast, List.getElem?_map, List.getElem?_eq_getElem h]
 rfl
theorem may_un {x : Ru} (h : may x = true) : winI x.f0 = true ∧ winI x.f1 = true ∧ x.f1.length < x.f0.length ∧ x.f2 < 262144 := by
 unfold may mayI at h
 simp only [Bool.and_eq_true, decide_eq_true_eq] at h
 exact h
theorem v_eq {x : Ru} (h : Wr x) : ((x.f2.toNat : Nat) : Int) = x.f2 := Int.toNat_of_nonneg h.v0
theorem bytes_ru {x : Ru} (h : Wr x) (hm : may x = true) : Ev (fun k => table_Rule_bytes.f k x.f0 x.f1 x.f2) (str (byt x)) := by
 obtain ⟨h1, h2, _, _⟩ := may_un hm
 have e := bytes_is h.w0 h.w1 h1 h2 x.f2.toNat (by have := h.v0; have := h.v1; omega)
 rw [v_eq h] at e
 exact e
theorem rbytes_ru {x : Ru} (h : Wr x) (hm : may x = true) : Ev (fun k => r21_Bytes.f k x.f0 x.f1 x.f2) (CodecB.I (byt x)) := by
 obtain ⟨h1, h2, _, _⟩ := may_un hm
 have e := rbytes_is h.w0 h.w1 h1 h2 x.f2.toNat (by have := h.v0; have := h.v1; omega)
 rw [v_eq h] at e
 exact e
theorem rbytes_rr {x : Ru} (h : Wr x) (hm : may x = true) : Ev (fun k => r21_Bytes.f k (toR x).f0 (toR x).f1 (toR x).f2) (CodecB.I (byt x)) := rbytes_ru h hm
theorem byt_bs_ru {x : Ru} (h : Wr x) (hm : may x = true) : Bs (byt x) := by
 obtain ⟨h1, h2, _, _⟩ := may_un hm
 exact byt_bs (win_good h.w0 h1).2 (win_good h.w1 h2).2 _
theorem byt_len_ru {x : Ru} (h : Wr x) (hm : may x = true) : (byt x).length ≤ 518 := by
 obtain ⟨h1, h2, _, _⟩ := may_un hm
 have a := (win_good h.w0 h1).1
 have b := (win_good h.w1 h2).1
 unfold byt
 rw [byt_len]
 omega
def lessN : List Nat → List Nat → Bool
 | _, [] => false
 | [], _ :: _ => true
 | a :: x, b :: y => if a = b then lessN x y else decide (a < b)
theorem bless : ∀ (a b : List Nat), Bs a → Bs b → Op.bytesLess (a.map UInt8.ofNat) (b.map UInt8.ofNat) = lessN a b
 | _, [], _, _ => by cases ‹List Nat› <;> rfl
 | [], _ :: _, _, _ => rfl
 | a :: x, b :: y, ha, hb => by
  have h1 := ha a List.mem_cons_self
  have h2 := hb b List.mem_cons_self
  have ih := bless x y (fun z hz => ha z (List.mem_cons_of_mem _ hz)) (fun z hz => hb z (List.mem_cons_of_mem _ hz))
  simp only [List.map_cons, Op.bytesLess, lessN, ih]
  have e1 : (UInt8.ofNat a == UInt8.ofNat b) = decide (a = b) := by
   by_cases h : a = b
   ·subst h
    simp
   ·rw [decide_eq_false h, beq_eq_false_iff_ne]
    intro hh
    have := congrArg UInt8.toNat hh
    simp at this
    omega
  have e2 : decide (UInt8.ofNat a < UInt8.ofNat b) = decide (a < b) := by
   refine decide_eq_decide.mpr ?_
   rw [UInt8.lt_iff_toNat_lt]
   simp
   rw [Nat.mod_eq_of_lt (by omega), Nat.mod_eq_of_lt (by omega)]
  rw [e1, e2]
  by_cases h : a = b
  ·subst h
   simp
  ·simp [h]
theorem bless_str {a b : List Nat} (ha : Bs a) (hb : Bs b) : Op.bytesLess (str a).toList (str b).toList = lessN a b := by
 rw [ByteArray.toList_eq, ByteArray.toList_eq]
 exact bless a b ha hb
theorem lessN_nil (a : List Nat) : lessN a [] = false := by cases a <;> rfl
theorem rless_from (a b : List Nat) (la : a.length < 100000) (lb : b.length < 100000) : ∀ (d i : Nat), i + d = a.length → i ≤ b.length → Ev (fun k => r21_less.l0 k (CodecB.I a) (CodecB.I b) (i : Int)) (lessN (a.drop i) (b.drop i)) := by
 have na := CodecB.I_length a
 have nb := CodecB.I_length b
 have fin : ∀ i : Nat, Ev (fun k => r21_less.j1 k (CodecB.I a) (CodecB.I b) (i : Int) false) (decide (a.length < b.length)) := fun i =>
  Ev.step (f := fun _ => some (decide (a.length < b.length))) (fun k => by
   rw [r21_less.j1, if_neg Bool.false_ne_true, na, nb]
   exact congrArg some (decide_eq_decide.mpr (by omega))) (Ev.now _)
 intro d
 induction d with
 | zero =>
  intro i hi hb
  refine Ev.step (fun k => by rw [r21_less.l0, if_neg (by omega)]) ?_
  have e : lessN (a.drop i) (b.drop i) = decide (a.length < b.length) := by
   rw [List.drop_of_length_le (l := a) (by omega)]
   cases hd : b.drop i with
   | nil =>
    have := congrArg List.length hd
    rw [List.length_drop, List.length_nil] at this
    rw [lessN_nil]
    exact (decide_eq_false (by omega)).symm
   | cons y r =>
    have := congrArg List.length hd
    rw [List.length_drop, List.length_cons] at this
    exact (decide_eq_true (by omega)).symm
  rw [e]
  exact fin i
 | succ d ih =>
  intro i hi hb
  have hia : i < a.length := by omega
  refine Ev.step (fun k => by rw [r21_less.l0, if_pos (by omega)]) ?_
  by_cases hib : i < b.length
  ·rw [decide_eq_true (show (i : Int) < ((CodecB.I b).length : Int) by omega)]
   refine Ev.step (fun k => by rw [r21_less.j1, if_pos rfl, if_pos (by omega), if_pos (by omega), if_pos (by omega), CodecB.I_rd, CodecB.I_rd]) ?_
   have ea : a.getD i 0 = a[i] := by rw [List.getD_eq_getElem?_getD, List.getElem?_eq_getElem hia]; rfl
   have eb : b.getD i 0 = b[i] := by rw [List.getD_eq_getElem?_getD, List.getElem?_eq_getElem hib]; rfl
   rw [ea, eb, List.drop_eq_getElem_cons hia, List.drop_eq_getElem_cons hib, lessN]
   by_cases h : a[i] = b[i]
   ·rw [if_pos h]
    exact Ev.congr (fun k => (if_pos (by rw [h])).trans (by rw [ChkB.wS i (by omega)])) (ih (i + 1) (by omega) (by omega))
   ·rw [if_neg h]
    refine Ev.congr (f := fun _ => some (decide (a[i] < b[i]))) (fun k => (if_neg (by omega)).trans (congrArg some (decide_eq_decide.mpr (by omega)))) (Ev.now _)
  ·rw [decide_eq_false (show ¬ (i : Int) < ((CodecB.I b).length : Int) by omega)]
   have e : lessN (a.drop i) (b.drop i) = decide (a.length < b.length) := by
    rw [List.drop_of_length_le (l := b) (by omega), lessN_nil]
    exact (decide_eq_false (by omega)).symm
   rw [e]
   exact fin i
theorem rless_is (a b : List Nat) (la : a.length < 100000) (lb : b.length < 100000) : Ev (fun k => r21_less.f k (CodecB.I a) (CodecB.I b)) (lessN a b) := by
 have := rless_from a b la lb a.length 0 (by omega) (by omega)
 exact this
noncomputable def rgF (t : List Ru) : Nat → Nat → Bool
 | _, 0 => true
 | i, d + 1 => may (t.getD i z42) && ((i == 0 || lessN (byt (t.getD (i - 1) z42)) (byt (t.getD i z42))) && rgF t (i + 1) d)
noncomputable def rg (t : List Ru) : Bool := rgF t 0 t.length && decide (t.length ≤ 64)
structure Wt (t : List Ru) : Prop where
 n : t.length < 100000
 w : ∀ x ∈ t, Wr x
theorem getD_ru (t : List Ru) (i : Nat) (h : i < t.length) : t.getD i z42 = t[i] := by rw [List.getD_eq_getElem?_getD, List.getElem?_eq_getElem h]; rfl
theorem right_from {t : List Ru} (h : Wt t) : ∀ (d i : Nat), i + d = t.length → (i = 0 ∨ may (t.getD (i - 1) z42) = true) → Ev (fun k => table_Right.l0 k t t (t.length : Int) (i : Int)) (rgF t i d && decide (t.length ≤ 64)) := by
 have hl := h.n
 intro d
 induction d with
 | zero =>
  intro i hi _
  refine Ev.step (f := fun _ => some (decide ((t.length : Int) ≤ 64))) (fun k => by rw [table_Right.l0, if_neg (by omega)]) ?_
  rw [rgF, Bool.true_and, show decide ((t.length : Int) ≤ 64) = decide (t.length ≤ 64) from decide_eq_decide.mpr (by omega)]
  exact Ev.now _
 | succ d ih =>
  intro i hi hp
  have hil : i < t.length := by omega
  have hw := h.w _ (List.getElem_mem hil)
  have hr := right_is_ hw.l0 hw.l1 hw.w0 hw.w1 t[i].f2
  rw [rgF, getD_ru t i hil]
  refine Ev.step (fun k => by rw [table_Right.l0, if_pos (by omega), if_pos (by omega), if_pos (by omega), rd_ru t i hil]) (Ev.bind hr ?_)
  rw [show mayI t[i].f0 t[i].f1 t[i].f2 = may t[i] from rfl]
  cases hm : may t[i]
  ·rw [Bool.false_and, Bool.false_and]
   exact Ev.congr (fun k => if_neg Bool.false_ne_true) (Ev.now _)
  ·rw [Bool.true_and]
   have next := ih (i + 1) (by omega) (.inr (by rw [Nat.add_sub_cancel, getD_ru t i hil]; exact hm))
   refine Ev.congr (fun k => if_pos rfl) ?_
   by_cases h0 : i = 0
   ·subst h0
    rw [show ((0 : Nat) == 0) = true from rfl, Bool.true_or, Bool.true_and]
    exact Ev.congr (fun k => (if_neg (by omega)).trans (by rw [ChkB.wS 0 (by omega)])) next
   ·have hi1 : i - 1 < t.length := by omega
    have hm1 : may t[i - 1] = true := by
     rcases hp with e | e
     ·exact absurd e h0
     ·rw [getD_ru t (i - 1) hi1] at e; exact e
    have hw1 := h.w _ (List.getElem_mem hi1)
    have w : wrap64 ((i : Int) - 1) = ((i - 1 : Nat) : Int) := by unfold wrap64; omega
    rw [beq_eq_false_iff_ne.mpr h0, Bool.false_or, getD_ru t (i - 1) hi1]
    refine Ev.congr (fun k => (if_pos (by omega)).trans (by rw [w, if_pos (by omega), if_pos (by omega), rd_ru t (i - 1) hi1])) (Ev.bind (bytes_ru hw1 hm1) (Ev.bind (bytes_ru hw hm) ?_))
    rw [bless_str (byt_bs_ru hw1 hm1) (byt_bs_ru hw hm)]
    cases lessN (byt t[i - 1]) (byt t[i])
    ·rw [Bool.false_and, Bool.false_and]
     exact Ev.congr (fun k => if_neg Bool.false_ne_true) (Ev.now _)
    ·rw [Bool.true_and]
     exact Ev.congr (fun k => (if_pos rfl).trans (by rw [ChkB.wS i (by omega)])) next
theorem right_is {t : List Ru} (h : Wt t) : Ev (fun k => table_Right.f k t) (rg t) := right_from h t.length 0 (by omega) (.inl rfl)
theorem rright_from {t : List Ru} (h : Wt t) : ∀ (d i : Nat), i + d = t.length → (i = 0 ∨ may (t.getD (i - 1) z42) = true) → Ev (fun k => r21_Right.l0 k (t.map toR) (i : Int)) (rgF t i d && decide (t.length ≤ 64)) := by
 have hl := h.n
 have hlen : (t.map toR).length = t.length := List.length_map ..
 intro d
 induction d with
 | zero =>
  intro i hi _
  refine Ev.step (f := fun _ => some (decide (((t.map toR).length : Int) ≤ 64))) (fun k => by rw [r21_Right.l0, if_neg (by omega)]) ?_
  rw [rgF, Bool.true_and, show decide (((t.map toR).length : Int) ≤ 64) = decide (t.length ≤ 64) from decide_eq_decide.mpr (by omega)]
  exact Ev.now _
 | succ d ih =>
  intro i hi hp
  have hil : i < t.length := by omega
  have hw := h.w _ (List.getElem_mem hil)
  have hr : Ev (fun k => r21_May.f k (toR t[i]).f0 (toR t[i]).f1 (toR t[i]).f2) (may t[i]) := rmay_is hw.l0 hw.l1 hw.w0 hw.w1 t[i].f2
  rw [rgF, getD_ru t i hil]
  refine Ev.step (fun k => by rw [r21_Right.l0, if_pos (by omega), if_pos (by omega), rd_rr t i hil]) (Ev.bind hr ?_)
  cases hm : may t[i]
  ·rw [Bool.false_and, Bool.false_and]
   exact Ev.congr (fun k => if_neg Bool.false_ne_true) (Ev.now _)
  ·rw [Bool.true_and]
   have next := ih (i + 1) (by omega) (.inr (by rw [Nat.add_sub_cancel, getD_ru t i hil]; exact hm))
   refine Ev.congr (fun k => if_pos rfl) ?_
   by_cases h0 : i = 0
   ·subst h0
    rw [show ((0 : Nat) == 0) = true from rfl, Bool.true_or, Bool.true_and]
    exact Ev.congr (fun k => (if_neg (by omega)).trans (by rw [ChkB.wS 0 (by omega)])) next
   ·have hi1 : i - 1 < t.length := by omega
    have hm1 : may t[i - 1] = true := by
     rcases hp with e | e
     ·exact absurd e h0
     ·rw [getD_ru t (i - 1) hi1] at e; exact e
    have hw1 := h.w _ (List.getElem_mem hi1)
    have w : wrap64 ((i : Int) - 1) = ((i - 1 : Nat) : Int) := by unfold wrap64; omega
    have n1 := byt_len_ru hw1 hm1
    have n2 := byt_len_ru hw hm
    rw [beq_eq_false_iff_ne.mpr h0, Bool.false_or, getD_ru t (i - 1) hi1]
    refine Ev.congr (fun k => (if_pos (by omega)).trans (by rw [w, if_pos (by omega), if_pos (by omega), rd_rr t (i - 1) hi1])) (Ev.bind (rbytes_rr hw1 hm1) (Ev.bind (rbytes_rr hw hm) (Ev.bind (rless_is (byt t[i - 1]) (byt t[i]) (by omega) (by omega)) ?_)))
    cases lessN (byt t[i - 1]) (byt t[i])
    ·rw [Bool.false_and, Bool.false_and]
     exact Ev.congr (fun k => if_neg Bool.false_ne_true) (Ev.now _)
    ·rw [Bool.true_and]
     exact Ev.congr (fun k => (if_pos rfl).trans (by rw [ChkB.wS i (by omega)])) next
theorem rright_is {t : List Ru} (h : Wt t) : Ev (fun k => r21_Right.f k (t.map toR)) (rg t) := rright_from h t.length 0 (by omega) (.inl rfl)
theorem rgF_may {t : List Ru} : ∀ (d i : Nat), i + d = t.length → rgF t i d = true → ∀ j, i ≤ j → ∀ hj : j < t.length, may t[j] = true := by
 intro d
 induction d with
 | zero => intro i hi _ j h1 h2; omega
 | succ d ih =>
  intro i hi hr j h1 h2
  rw [rgF, Bool.and_eq_true, Bool.and_eq_true] at hr
  by_cases e : j = i
  ·subst e
   rw [getD_ru t j h2] at hr
   exact hr.1
  ·exact ih (i + 1) (by omega) hr.2.2 j (by omega) h2
theorem rg_may {t : List Ru} (h : rg t = true) : t.length ≤ 64 ∧ ∀ x ∈ t, may x = true := by
 unfold rg at h
 rw [Bool.and_eq_true, decide_eq_true_eq] at h
 refine ⟨h.2, fun x hx => ?_⟩
 obtain ⟨j, hj, rfl⟩ := List.getElem_of_mem hx
 exact rgF_may t.length 0 (by omega) h.1 j (by omega) hj
theorem as_from (t : List Ru) (hl : t.length < 100000) : ∀ (d i : Nat) (acc : List Rr), i + d = t.length → acc.length = i → Ev (fun k => l21_As.l0 k t acc (i : Int)) (acc ++ (t.drop i).map toR) := by
 intro d
 induction d with
 | zero =>
  intro i acc hi ha
  rw [List.drop_of_length_le (by omega), List.map_nil, List.append_nil]
  exact Ev.step (f := fun _ => some acc) (fun k => by rw [l21_As.l0, if_neg (by omega)]) (Ev.now _)
 | succ d ih =>
  intro i acc hi ha
  have hil : i < t.length := by omega
  have := ih (i + 1) (acc ++ [toR t[i]]) (by omega) (by rw [List.length_append]; simp; omega)
  rw [List.append_assoc] at this
  rw [List.drop_eq_getElem_cons hil, List.map_cons]
  refine Ev.step (fun k => ?_) this
  rw [l21_As.l0, if_pos (by omega), if_pos (by omega), rd_ru t i hil]
  unfold l21_as.f
  rw [Option.bind_some, if_pos (by omega), ChkB.wS i (by omega)]
  rfl
theorem as_is (t : List Ru) (hl : t.length < 100000) : Ev (fun k => l21_As.f k t) (t.map toR) := by
 have := as_from t hl t.length 0 [] (by omega) rfl
 rw [List.drop_zero, List.nil_append] at this
 exact this
noncomputable def grN (t : List Ru) : Bool := (t.any fun x => decide (100 < x.f0.length) || decide (100 < x.f1.length)) || decide (100 < t.length)
theorem great_from (t : List Ru) (hl : t.length < 9223372036854775808) : ∀ (d i : Nat), i + d = t.length → Ev (fun k => l21_Great.l0 k t (i : Int)) (((t.drop i).any fun x => decide (100 < x.f0.length) || decide (100 < x.f1.length)) || decide (100 < t.length)) := by
 intro d
 induction d with
 | zero =>
  intro i hi
  rw [List.drop_of_length_le (by omega), List.any_nil, Bool.false_or]
  refine Ev.step (f := fun _ => some (decide (100 < t.length))) (fun k => ?_) (Ev.now _)
  rw [l21_Great.l0, if_neg (by omega)]
  exact congrArg some (decide_eq_decide.mpr (by omega))
 | succ d ih =>
  intro i hi
  have hil : i < t.length := by omega
  rw [List.drop_eq_getElem_cons hil, List.any_cons]
  refine Ev.step (fun k => by rw [l21_Great.l0, if_pos (by omega), if_pos (by omega), rd_ru t i hil]) ?_
  by_cases h1 : 100 < t[i].f0.length
  ·rw [decide_eq_true h1, Bool.true_or, Bool.true_or, Bool.true_or]
   exact Ev.congr (fun k => if_pos (by omega)) (Ev.now _)
  ·rw [decide_eq_false h1, Bool.false_or]
   refine Ev.congr (fun k => if_neg (by omega)) ?_
   by_cases h2 : 100 < t[i].f1.length
   ·rw [decide_eq_true h2, Bool.true_or, Bool.true_or]
    exact Ev.congr (fun k => if_pos (by omega)) (Ev.now _)
   ·rw [decide_eq_false h2, Bool.false_or]
    exact Ev.congr (fun k => (if_neg (by omega)).trans (by rw [show wrap64 ((i : Int) + 1) = ((i + 1 : Nat) : Int) by unfold wrap64; omega])) (ih (i + 1) (by omega))
theorem great_is (t : List Ru) (hl : t.length < 9223372036854775808) : Ev (fun k => l21_Great.f k t) (grN t) := by
 have := great_from t hl t.length 0 (by omega)
 rw [List.drop_zero] at this
 exact this
def Wq (x : Ru) : Prop := (∀ y ∈ x.f0, Q.wfIns y) ∧ (∀ y ∈ x.f1, Q.wfIns y) ∧ (Lit.int .u32 x.f2).wf = true
theorem wt_of {t : List Ru} (hq : ∀ x ∈ t, Wq x) (hg : grN t = false) : Wt t := by
 unfold grN at hg
 rw [Bool.or_eq_false_iff, decide_eq_false_iff_not, List.any_eq_false] at hg
 refine ⟨by omega, fun x hx => ?_⟩
 have h := hg.1 x hx
 simp only [Bool.or_eq_true, decide_eq_true_eq] at h
 obtain ⟨q0, q1, q2⟩ := hq x hx
 have r := ChkB.u32_range q2
 exact ⟨by omega, by omega, q0, q1, r.1, r.2⟩
end Go.Proofs.YtahacmdhhfmhiaaDoor.TabB
/- What is read from a table's bytes by the program's function: what was written, and nothing else. No condition but sizes far beyond the laws'. -/
namespace Go.Proofs.YtahacmdhhfmhiaaDoor.TabD
set_option linter.unusedVariables false
set_option linter.unusedSimpArgs false
open Go.RowKit Go.Proofs.YtahacmdhhfmhiaaDoorW.PrintWords Go.Proofs.YtahacmdhhfmhiaaDoorW.PrintLast Go.Proofs.YtahacmdhhfmhiaaDoorW.PrintMore Go.Proofs.YtahacmdhhfmhiaaDoor.M Go.Proofs.YtahacmdhhfmhiaaDoor.InsOps Go.Proofs.YtahacmdhhfmhiaaDoor.RightB Go.Proofs.YtahacmdhhfmhiaaDoor.Hex Go.Proofs.YtahacmdhhfmhiaaDoor.TabA Go.Proofs.YtahacmdhhfmhiaaDoor.TabB
def pad (b : List Nat) : List Nat := 0 :: 0 :: 0 :: 0 :: b
def v4 (b : List Nat) : Nat := CodecB.kOf (pad b) 4
noncomputable def p1 (b : List Nat) : List In × Int := CodecB.decoded ((b.drop 6).take (8 * b.getD 4 0))
noncomputable def p2 (b : List Nat) : List In × Int := CodecB.decoded (((b.drop 6).take (8 * b.getD 4 0 + 8 * b.getD 5 0)).drop (8 * b.getD 4 0))
theorem w8 (n : Nat) (h : n < 256) : wrap64 (8 * (wrap64 ((n : Nat) : Int))) = ((8 * n : Nat) : Int) := by
 rw [ChkB.w64s (x := (n : Int)) (by omega) (by omega), ChkB.w64s (by omega) (by omega)]
 omega
theorem map_inj : ∀ {a b : List Nat}, Bs a → Bs b → a.map UInt8.ofNat = b.map UInt8.ofNat → a = b
 | [], [], _, _, _ => rfl
 | [], _ :: _, _, _, h => by cases h
 | _ :: _, [], _, _, h => by cases h
 | x :: a, y :: b, ha, hb, h => by
  simp only [List.map_cons, List.cons.injEq] at h
  have hx := ha x List.mem_cons_self
  have hy := hb y List.mem_cons_self
  have e := congrArg UInt8.toNat h.1
  simp at e
  rw [show x = y by omega, map_inj (fun z hz => ha z (List.mem_cons_of_mem _ hz)) (fun z hz => hb z (List.mem_cons_of_mem _ hz)) h.2]
theorem same_from (t : List Ru) (h : Wt t) : ∀ (d i : Nat), i + d = t.length → Ev (fun k => r21_Same.l0 k (t.map toR) (t.map toR) (i : Int)) true := by
 have hlen : (t.map toR).length = t.length := List.length_map ..
 have hn := h.n
 intro d
 induction d with
 | zero => intro i hi; exact Ev.step (f := fun _ => some true) (fun k => by rw [r21_Same.l0, if_neg (by omega)]) (Ev.now _)
 | succ d ih =>
  intro i hi
  have hil : i < t.length := by omega
  have hw := h.w _ (List.getElem_mem hil)
  have s0 : Ev (fun k => r03_Same.f k (toR t[i]).f0 (toR t[i]).f0) true := CodecB.same_is _ hw.l0
  have s1 : Ev (fun k => r03_Same.f k (toR t[i]).f1 (toR t[i]).f1) true := CodecB.same_is _ hw.l1
  refine Ev.step (fun k => by rw [r21_Same.l0, if_pos (by omega), if_pos (by omega), if_pos (by omega), if_pos rfl, rd_rr t i hil]) (Ev.bind s0 (Ev.congr (fun k => if_pos rfl) (Ev.bind s1 (Ev.congr (fun k => if_pos rfl) ?_))))
  rw [ChkB.wS i (by omega)]
  exact ih (i + 1) (by omega)
theorem same_is (t : List Ru) (h : Wt t) : Ev (fun k => r21_Same.f k (t.map toR) (t.map toR)) true := by
 unfold r21_Same.f
 exact Ev.congr (fun k => if_pos rfl) (same_from t h t.length 0 (by omega))
end Go.Proofs.YtahacmdhhfmhiaaDoor.TabD
/- The document's examples of tables hold. No condition. -/
namespace Go.Proofs.YtahacmdhhfmhiaaDoor.TabK
open Go.RowKit Go.Proofs.YtahacmdhhfmhiaaDoorW.PrintWords Go.Proofs.YtahacmdhhfmhiaaDoorW.PrintLast Go.Proofs.YtahacmdhhfmhiaaDoorW.PrintMore Go.Proofs.YtahacmdhhfmhiaaDoor.M
theorem knows_is : Ev (fun k => l21_knows.f k) true := Ev.congr (fun _ => show l21_knows0.f 80 = some true by decide +kernel) (Ev.now _)
end Go.Proofs.YtahacmdhhfmhiaaDoor.TabK
/- A table with one rule more, by the program's function: the rules in their one order. No condition but sizes far beyond the laws'. -/
namespace Go.Proofs.YtahacmdhhfmhiaaDoor.TabL
set_option linter.unusedVariables false
set_option linter.unusedSimpArgs false
open Go.RowKit Go.Proofs.YtahacmdhhfmhiaaDoorW.PrintWords Go.Proofs.YtahacmdhhfmhiaaDoorW.PrintLast Go.Proofs.YtahacmdhhfmhiaaDoorW.PrintMore Go.Proofs.YtahacmdhhfmhiaaDoor.M Go.Proofs.YtahacmdhhfmhiaaDoor.InsOps Go.Proofs.YtahacmdhhfmhiaaDoor.RightB Go.Proofs.YtahacmdhhfmhiaaDoor.Hex Go.Proofs.YtahacmdhhfmhiaaDoor.TabA Go.Proofs.YtahacmdhhfmhiaaDoor.TabB Go.Proofs.YtahacmdhhfmhiaaDoor.TabD
theorem lessN_irrefl : ∀ a : List Nat, lessN a a = false
 | [] => rfl
 | x :: a => by rw [lessN, if_pos rfl]; exact lessN_irrefl a
theorem lessN_trans : ∀ (a b c : List Nat), lessN a b = true → lessN b c = true → lessN a c = true
 | _, _, [], _, h => by rw [lessN_nil] at h; cases h
 | _, [], _ :: _, h, _ => by rw [lessN_nil] at h; cases h
 | [], _ :: _, _ :: _, _, _ => rfl
 | x :: a, y :: b, z :: c, h1, h2 => by
  rw [lessN] at h1 h2 ⊢
  by_cases e1 : x = y
  ·subst e1
   rw [if_pos rfl] at h1
   by_cases e2 : x = z
   ·subst e2
    rw [if_pos rfl] at h2 ⊢
    exact lessN_trans a b c h1 h2
   ·rw [if_neg e2] at h2 ⊢
    exact h2
  ·rw [if_neg e1, decide_eq_true_eq] at h1
   by_cases e2 : y = z
   ·subst e2
    rw [if_neg e1]
    exact decide_eq_true h1
   ·rw [if_neg e2, decide_eq_true_eq] at h2
    rw [if_neg (by omega)]
    exact decide_eq_true (by omega)
theorem lessN_total : ∀ (a b : List Nat), lessN a b = false → a ≠ b → lessN b a = true
 | [], [], _, h => absurd rfl h
 | [], _ :: _, h, _ => by rw [lessN] at h; cases h
 | _ :: _, [], _, _ => rfl
 | x :: a, y :: b, h, hne => by
  rw [lessN] at h ⊢
  by_cases e : x = y
  ·subst e
   rw [if_pos rfl] at h ⊢
   exact lessN_total a b h (fun e => hne (by rw [e]))
  ·rw [if_neg e, decide_eq_false_iff_not] at h
   rw [if_neg (fun h => e h.symm)]
   exact decide_eq_true (by omega)
def plN : List Ru → Ru → Nat × Bool
 | [], _ => (0, false)
 | y :: r, x => if lessN (byt y) (byt x) = true then ((plN r x).1 + 1, (plN r x).2) else (0, decide (byt y = byt x))
theorem plN_le (t : List Ru) (x : Ru) : (plN t x).1 ≤ t.length := by
 induction t with
 | nil => exact Nat.le_refl _
 | cons y r ih =>
  rw [plN]
  split
  ·show (plN r x).1 + 1 ≤ r.length + 1
   omega
  ·exact Nat.zero_le _
theorem str_eq {a b : List Nat} (ha : Bs a) (hb : Bs b) : ((str a).toList == (str b).toList) = decide (a = b) := by
 rw [ByteArray.toList_eq, ByteArray.toList_eq]
 show (a.map UInt8.ofNat == b.map UInt8.ofNat) = _
 by_cases h : a = b
 ·subst h
  simp
 ·rw [decide_eq_false h]
  exact beq_eq_false_iff_ne.mpr fun e => h (map_inj ha hb e)
section
variable {t : List Ru} (h : Wt t) (hm : ∀ x ∈ t, may x = true) {x : Ru} (hx : Wr x) (mx : may x = true)
include h hm hx mx
theorem place_from : ∀ (d i : Nat), i + d = t.length → Ev (fun k => table_place.l0 k t t (t.length : Int) (i : Int) x.f0 x.f1 x.f2) (((i + (plN (t.drop i) x).1 : Nat) : Int), (plN (t.drop i) x).2) := by
 have hn := h.n
 intro d
 induction d with
 | zero =>
  intro i hi
  rw [List.drop_of_length_le (by omega)]
  refine Ev.step (f := fun _ => some ((t.length : Int), false)) (fun k => by rw [table_place.l0, if_neg (by omega)]) ?_
  rw [show ((i + (plN [] x).1 : Nat) : Int) = (t.length : Int) by show ((i + 0 : Nat) : Int) = _; omega]
  exact Ev.now _
 | succ d ih =>
  intro i hi
  have hil : i < t.length := by omega
  have hw := h.w _ (List.getElem_mem hil)
  have hmi := hm _ (List.getElem_mem hil)
  rw [List.drop_eq_getElem_cons hil, plN]
  refine Ev.step (fun k => by rw [table_place.l0, if_pos (by omega), if_pos (by omega), if_pos (by omega), rd_ru t i hil]) (Ev.bind (bytes_ru hw hmi) (Ev.bind (bytes_ru hx mx) ?_))
  rw [bless_str (byt_bs_ru hw hmi) (byt_bs_ru hx mx)]
  cases hlt : lessN (byt t[i]) (byt x)
  ·rw [if_neg Bool.false_ne_true]
   refine Ev.congr (fun k => if_neg Bool.false_ne_true) (Ev.bind (bytes_ru hw hmi) (Ev.bind (bytes_ru hx mx) ?_))
   rw [str_eq (byt_bs_ru hw hmi) (byt_bs_ru hx mx)]
   exact Ev.now _
  ·rw [if_pos rfl]
   have e := ih (i + 1) (by omega)
   rw [show i + 1 + (plN (t.drop (i + 1)) x).1 = i + ((plN (t.drop (i + 1)) x).1 + 1) by omega] at e
   exact Ev.congr (fun k => (if_pos rfl).trans (by rw [ChkB.wS i (by omega)])) e
theorem place_is : Ev (fun k => table_place.f k t x.f0 x.f1 x.f2) (((plN t x).1 : Int), (plN t x).2) := by
 have e := place_from h hm hx mx t.length 0 (by omega)
 rw [List.drop_zero, Nat.zero_add] at e
 exact e
end
theorem own_is {x : Ru} (h : Wr x) : table_own.f x.f0 x.f1 x.f2 = some (x.f0, x.f1, x.f2) := by
 have h0 := h.l0
 have h1 := h.l1
 unfold table_own.f
 rw [Option.bind_some, if_pos (show ([] : List In).length + x.f0.length < 4398046511104 by rw [List.length_nil]; omega), Option.bind_some, if_pos (show ([] : List In).length + x.f1.length < 4398046511104 by rw [List.length_nil]; omega), List.nil_append, List.nil_append]
theorem learn_l1 {s : List Ru} (h : Wt s) : ∀ (d i : Nat) (acc : List Ru), i + d = s.length → acc.length < 1000000 + i → Ev (fun k => table_Learn.l1 k acc s (s.length : Int) (i : Int)) (acc ++ s.drop i, 0) := by
 have hn := h.n
 intro d
 induction d with
 | zero =>
  intro i acc hi ha
  rw [List.drop_of_length_le (by omega), List.append_nil]
  exact Ev.step (f := fun _ => some (acc, 0)) (fun k => by rw [table_Learn.l1, if_neg (by omega)]) (Ev.now _)
 | succ d ih =>
  intro i acc hi ha
  have hil : i < s.length := by omega
  have hw := h.w _ (List.getElem_mem hil)
  have e := ih (i + 1) (acc ++ [s[i]]) (by omega) (by rw [List.length_append]; simp; omega)
  rw [List.append_assoc] at e
  rw [List.drop_eq_getElem_cons hil]
  refine Ev.step (fun k => ?_) e
  rw [table_Learn.l1, if_pos (by omega), if_pos (by omega), if_pos (by omega), rd_ru s i hil, own_is hw, Option.bind_some, if_pos (by omega), ChkB.wS i (by omega)]
theorem learn_l0 {t s : List Ru} (h : Wt s) {p : Nat} (hp : p ≤ t.length) (ht : Wt (t.drop p)) {x : Ru} (hx : Wr x) : ∀ (d i : Nat) (acc : List Ru), i + d = s.length → acc.length = i → Ev (fun k => table_Learn.l0 k t (p : Int) acc s (s.length : Int) (i : Int) x.f0 x.f1 x.f2) ((acc ++ s.drop i) ++ x :: t.drop p, 0) := by
 have hn := h.n
 intro d
 induction d with
 | zero =>
  intro i acc hi ha
  rw [List.drop_of_length_le (l := s) (by omega), List.append_nil]
  have e := learn_l1 ht (t.drop p).length 0 (acc ++ [x]) (by omega) (by rw [List.length_append]; simp; omega)
  rw [List.drop_zero, List.append_assoc] at e
  have e : Ev (fun k => table_Learn.l1 k (acc ++ [x]) (t.drop p) ((t.drop p).length : Int) 0) (acc ++ x :: t.drop p, 0) := e
  refine Ev.step (fun k => ?_) e
  rw [table_Learn.l0, if_neg (by omega), own_is hx, Option.bind_some, if_pos (by omega), if_pos (by omega), if_pos (by omega), Option.bind_some, Int.toNat_natCast]
 | succ d ih =>
  intro i acc hi ha
  have hil : i < s.length := by omega
  have hw := h.w _ (List.getElem_mem hil)
  have e := ih (i + 1) (acc ++ [s[i]]) (by omega) (by rw [List.length_append]; simp; omega)
  rw [List.append_assoc acc [s[i]] (s.drop (i + 1))] at e
  rw [List.drop_eq_getElem_cons hil]
  refine Ev.step (fun k => ?_) e
  rw [table_Learn.l0, if_pos (by omega), if_pos (by omega), if_pos (by omega), rd_ru s i hil, own_is hw, Option.bind_some, if_pos (by omega), ChkB.wS i (by omega)]
def ins : List Ru → Ru → List Ru
 | [], x => [x]
 | y :: r, x => if lessN (byt y) (byt x) = true then y :: ins r x else if byt y = byt x then y :: r else x :: y :: r
def insN (t : List Ru) (x : Ru) : List Ru := if (plN t x).2 = true then t else t.take (plN t x).1 ++ x :: t.drop (plN t x).1
theorem insN_ins (t : List Ru) (x : Ru) : insN t x = ins t x := by
 induction t with
 | nil => rfl
 | cons y r ih =>
  unfold insN at ih ⊢
  rw [plN, ins]
  by_cases h : lessN (byt y) (byt x) = true
  ·rw [if_pos h, if_pos h]
   show (if (plN r x).2 = true then y :: r else (y :: r).take ((plN r x).1 + 1) ++ x :: (y :: r).drop ((plN r x).1 + 1)) = y :: ins r x
   rw [← ih]
   split
   ·rfl
   ·rfl
  ·rw [if_neg h, if_neg h]
   by_cases e : byt y = byt x
   ·rw [if_pos e]
    show (if decide (byt y = byt x) = true then y :: r else _) = _
    rw [if_pos (decide_eq_true e)]
   ·rw [if_neg e]
    show (if decide (byt y = byt x) = true then y :: r else _) = _
    rw [if_neg (by simp [e])]
    rfl
theorem wt_sub {s t : List Ru} (h : Wt t) (hl : s.length ≤ t.length) (hs : ∀ x ∈ s, x ∈ t) : Wt s := ⟨by have := h.n; omega, fun x hx => h.w x (hs x hx)⟩
theorem learn_is {t : List Ru} (h : Wt t) (hr : rg t = true) (hl : t.length < 64) {x : Ru} (hx : Wr x) (mx : may x = true) : Ev (fun k => table_Learn.f k t x.f0 x.f1 x.f2) (ins t x, 0) := by
 obtain ⟨_, hm⟩ := rg_may hr
 have hp := plN_le t x
 rw [← insN_ins]
 unfold table_Learn.f
 refine Ev.bind (right_is h) ?_
 rw [hr]
 have e1 : Ev (fun k => table_Rule_right.f k x.f0 x.f1 x.f2) (may x) := right_is_ hx.l0 hx.l1 hx.w0 hx.w1 x.f2
 rw [mx] at e1
 refine Ev.congr (fun k => if_pos rfl) (Ev.bind e1 ?_)
 refine Ev.step (fun k => by rw [table_Learn.j0, if_neg (by decide)]) (Ev.bind (place_is h hm hx mx) ?_)
 unfold insN
 cases hb : (plN t x).2
 ·rw [if_neg Bool.false_ne_true]
  have hwt : Wt (t.take (plN t x).1) := wt_sub h (by rw [List.length_take]; omega) (fun y hy => List.mem_of_mem_take hy)
  have hwd : Wt (t.drop (plN t x).1) := wt_sub h (by rw [List.length_drop]; omega) (fun y hy => List.mem_of_mem_drop hy)
  have e := learn_l0 (t := t) hwt hp hwd hx (t.take (plN t x).1).length 0 [] (by omega) rfl
  rw [List.drop_zero, List.nil_append] at e
  have e : Ev (fun k => table_Learn.l0 k t ((plN t x).1 : Int) [] (t.take (plN t x).1) ((t.take (plN t x).1).length : Int) 0 x.f0 x.f1 x.f2) (t.take (plN t x).1 ++ x :: t.drop (plN t x).1, 0) := e
  refine Ev.congr (fun k => (if_neg Bool.false_ne_true).trans ((if_neg (by omega)).trans ((if_pos (by omega)).trans ((if_pos (by omega)).trans (by rw [Option.bind_some, Int.toNat_natCast]))))) e
 ·rw [if_pos rfl]
  exact Ev.congr (fun k => if_pos rfl) (Ev.now _)
def Up : List Ru → Prop
 | [] => True
 | x :: r => (∀ y ∈ r, lessN (byt x) (byt y) = true) ∧ Up r
theorem rgF_up {t : List Ru} : ∀ (d i : Nat), i + d = t.length → rgF t i d = true → Up (t.drop i) ∧ (0 < i → ∀ y ∈ t.drop i, lessN (byt (t.getD (i - 1) z42)) (byt y) = true) := by
 intro d
 induction d with
 | zero =>
  intro i hi _
  rw [List.drop_of_length_le (by omega)]
  exact ⟨trivial, fun _ y hy => by simp at hy⟩
 | succ d ih =>
  intro i hi hr
  have hil : i < t.length := by omega
  rw [rgF, getD_ru t i hil, Bool.and_eq_true, Bool.and_eq_true] at hr
  obtain ⟨h1, h2⟩ := ih (i + 1) (by omega) hr.2.2
  have h2 := h2 (by omega)
  rw [Nat.add_sub_cancel, getD_ru t i hil] at h2
  rw [List.drop_eq_getElem_cons hil]
  refine ⟨⟨h2, h1⟩, fun h0 y hy => ?_⟩
  have hb : lessN (byt (t.getD (i - 1) z42)) (byt t[i]) = true := by
   have := hr.2.1
   rw [Bool.or_eq_true, beq_iff_eq] at this
   rcases this with e | e
   ·omega
   ·exact e
  rcases List.mem_cons.1 hy with rfl | hy
  ·exact hb
  ·exact lessN_trans _ _ _ hb (h2 y hy)
theorem up_rgF {t : List Ru} (hm : ∀ x ∈ t, may x = true) : ∀ (d i : Nat), i + d = t.length → Up (t.drop i) → (0 < i → ∀ y ∈ t.drop i, lessN (byt (t.getD (i - 1) z42)) (byt y) = true) → rgF t i d = true := by
 intro d
 induction d with
 | zero => intro i _ _ _; rfl
 | succ d ih =>
  intro i hi hu hb
  have hil : i < t.length := by omega
  rw [List.drop_eq_getElem_cons hil] at hu hb
  rw [rgF, getD_ru t i hil, hm _ (List.getElem_mem hil), Bool.true_and, ih (i + 1) (by omega) hu.2 (fun _ => by rw [Nat.add_sub_cancel, getD_ru t i hil]; exact hu.1), Bool.and_true, Bool.or_eq_true, beq_iff_eq]
  by_cases h0 : i = 0
  ·exact .inl h0
  ·exact .inr (hb (by omega) _ List.mem_cons_self)
theorem rg_iff (t : List Ru) : rg t = true ↔ (∀ x ∈ t, may x = true) ∧ Up t ∧ t.length ≤ 64 := by
 constructor
 ·intro h
  obtain ⟨h1, h2⟩ := rg_may h
  refine ⟨h2, ?_, h1⟩
  unfold rg at h
  rw [Bool.and_eq_true] at h
  have := (rgF_up t.length 0 (by omega) h.1).1
  rw [List.drop_zero] at this
  exact this
 ·rintro ⟨h1, h2, h3⟩
  unfold rg
  rw [up_rgF h1 t.length 0 (by omega) (by rw [List.drop_zero]; exact h2) (fun h => by omega), decide_eq_true h3]
  rfl
theorem mem_ins {t : List Ru} {x z : Ru} (h : z ∈ ins t x) : z ∈ t ∨ z = x := by
 induction t with
 | nil => exact .inr (by simpa [ins] using h)
 | cons y r ih =>
  rw [ins] at h
  split at h
  ·rcases List.mem_cons.1 h with rfl | h
   ·exact .inl List.mem_cons_self
   ·exact (ih h).imp (List.mem_cons_of_mem _) id
  ·split at h
   ·exact .inl h
   ·rcases List.mem_cons.1 h with rfl | h
    ·exact .inr rfl
    ·exact .inl h
theorem len_ins (t : List Ru) (x : Ru) : (ins t x).length ≤ t.length + 1 := by
 induction t with
 | nil => exact Nat.le_refl _
 | cons y r ih =>
  rw [ins]
  split
  ·show (ins r x).length + 1 ≤ r.length + 1 + 1
   omega
  ·split
   ·show r.length + 1 ≤ r.length + 1 + 1
    omega
   ·exact Nat.le_refl _
end Go.Proofs.YtahacmdhhfmhiaaDoor.TabL
/- What is answered of a table with one rule more, and of what it finds for a window: by the program's functions and by the document's. No condition but sizes far beyond the laws'. -/
namespace Go.Proofs.YtahacmdhhfmhiaaDoor.TabV
set_option linter.unusedVariables false
set_option linter.unusedSimpArgs false
open Go.RowKit Go.Proofs.YtahacmdhhfmhiaaDoorW.PrintWords Go.Proofs.YtahacmdhhfmhiaaDoorW.PrintLast Go.Proofs.YtahacmdhhfmhiaaDoorW.PrintMore Go.Proofs.YtahacmdhhfmhiaaDoor.M Go.Proofs.YtahacmdhhfmhiaaDoor.InsOps Go.Proofs.YtahacmdhhfmhiaaDoor.RightB Go.Proofs.YtahacmdhhfmhiaaDoor.Hex Go.Proofs.YtahacmdhhfmhiaaDoor.TabA Go.Proofs.YtahacmdhhfmhiaaDoor.TabB Go.Proofs.YtahacmdhhfmhiaaDoor.TabD Go.Proofs.YtahacmdhhfmhiaaDoor.TabL
def mapR (p : List Ru × Int) : List Rr × Int := (p.1.map toR, p.2)
noncomputable def lrn (t : List Ru) (x : Ru) : List Ru × Int :=
 if rg t = true ∧ may x = true then (if (plN t x).2 = true then (t, 0) else if 64 ≤ t.length then (t, 3) else (ins t x, 0)) else (t, 1)
theorem learn_all {t : List Ru} (h : Wt t) {x : Ru} (hx : Wr x) : Ev (fun k => table_Learn.f k t x.f0 x.f1 x.f2) (lrn t x) := by
 have no : Ev (fun k => table_Learn.j0 k t true x.f0 x.f1 x.f2) (t, 1) := Ev.step (f := fun _ => some (t, 1)) (fun k => by rw [table_Learn.j0, if_pos rfl]) (Ev.now _)
 have e1 : Ev (fun k => table_Rule_right.f k x.f0 x.f1 x.f2) (may x) := right_is_ hx.l0 hx.l1 hx.w0 hx.w1 x.f2
 unfold lrn
 cases hr : rg t
 ·rw [if_neg (fun e => Bool.false_ne_true e.1)]
  unfold table_Learn.f
  refine Ev.bind (right_is h) ?_
  rw [hr]
  exact Ev.congr (fun k => if_neg Bool.false_ne_true) no
 ·cases mx : may x
  ·rw [if_neg (fun e => Bool.false_ne_true e.2)]
   unfold table_Learn.f
   refine Ev.bind (right_is h) ?_
   rw [hr]
   rw [mx] at e1
   exact Ev.congr (fun k => if_pos rfl) (Ev.bind e1 no)
  ·rw [if_pos ⟨rfl, rfl⟩]
   obtain ⟨h64, hm⟩ := rg_may hr
   by_cases hl : t.length < 64
   ·have e := learn_is h hr hl hx mx
    have hi := insN_ins t x
    unfold insN at hi
    by_cases hb : (plN t x).2 = true
    ·rw [if_pos hb]
     rw [if_pos hb] at hi
     rw [← hi] at e
     exact e
    ·rw [if_neg hb, if_neg (by omega)]
     exact e
   ·unfold table_Learn.f
    refine Ev.bind (right_is h) ?_
    rw [hr]
    rw [mx] at e1
    refine Ev.congr (fun k => if_pos rfl) (Ev.bind e1 ?_)
    refine Ev.step (fun k => by rw [table_Learn.j0, if_neg (by decide)]) (Ev.bind (place_is h hm hx mx) ?_)
    cases hb : (plN t x).2
    ·rw [if_neg Bool.false_ne_true, if_pos (by omega)]
     exact Ev.congr (fun k => (if_neg Bool.false_ne_true).trans (if_pos (by omega))) (Ev.now _)
    ·rw [if_pos rfl]
     exact Ev.congr (fun k => if_pos rfl) (Ev.now _)
def rl (t : List Ru) (x : Ru) : List Ru → List Ru → List Ru → List Ru × Int
 | [], lo, hi => if 64 ≤ t.length then (t, 3) else ((lo ++ [x]) ++ hi, 0)
 | y :: s, lo, hi => if byt y = byt x then (t, 0) else if lessN (byt y) (byt x) = true then rl t x s (lo ++ [y]) hi else rl t x s lo (hi ++ [y])
theorem rlearn_from {t : List Ru} (h : Wt t) (hm : ∀ x ∈ t, may x = true) (hl : t.length ≤ 64) {x : Ru} (hx : Wr x) (mx : may x = true) : ∀ (d i : Nat) (lo hi : List Ru), i + d = t.length → lo.length ≤ i → hi.length ≤ i →
  Ev (fun k => r21_Learn.l0 k (t.map toR) (lo.map toR) (hi.map toR) (i : Int) x.f0 x.f1 x.f2) (mapR (rl t x (t.drop i) lo hi)) := by
 have hL : ((t.map toR).length : Int) = (t.length : Int) := by rw [List.length_map]
 have bx := rbytes_ru hx mx
 have xb := byt_bs_ru hx mx
 have xl := byt_len_ru hx mx
 intro d
 induction d with
 | zero =>
  intro i lo hi hi_ h1 h2
  rw [List.drop_of_length_le (by omega), rl]
  refine Ev.step (fun k => by rw [r21_Learn.l0, if_neg (by omega)]) ?_
  by_cases h64 : 64 ≤ t.length
  ·rw [if_pos h64]
   exact Ev.congr (fun k => if_pos (by omega)) (Ev.now _)
  ·rw [if_neg h64]
   refine Ev.congr (f := fun _ => some (((lo ++ [x]) ++ hi).map toR, (0 : Int))) (fun k => ?_) (Ev.now _)
   rw [if_neg (by omega), if_pos (by rw [List.length_map]; omega), Option.bind_some, if_pos (by rw [List.length_append, List.length_map, List.length_map]; simp; omega)]
   simp [toR]
 | succ d ih =>
  intro i lo hi hi_ h1 h2
  have hil : i < t.length := by omega
  have hy := h.w _ (List.getElem_mem hil)
  have my := hm _ (List.getElem_mem hil)
  have by_ := rbytes_rr hy my
  have yb := byt_bs_ru hy my
  have yl := byt_len_ru hy my
  have ls := rless_is (byt t[i]) (byt x) (by omega) (by omega)
  have q0 : (0 : Int) ≤ (i : Int) := by omega
  have q1 : (i : Int) < ((t.map toR).length : Int) := by omega
  have c1 : (lo.map toR).length < 2513169434916 := by rw [List.length_map]; omega
  have c2 : (hi.map toR).length < 2513169434916 := by rw [List.length_map]; omega
  rw [List.drop_eq_getElem_cons hil, rl]
  refine Ev.step (fun k => by rw [r21_Learn.l0, if_pos q1, if_pos q0, rd_rr t i hil]) (Ev.bind by_ (Ev.bind bx ?_))
  by_cases e : byt t[i] = byt x
  ·rw [if_pos e]
   exact Ev.congr (fun k => if_pos (by rw [e])) (Ev.now _)
  ·rw [if_neg e]
   refine Ev.congr (fun k => if_neg (fun q => e ((CrcB.str_inj yb xb).mp q))) (Ev.bind by_ (Ev.bind bx (Ev.bind ls ?_)))
   cases hb : lessN (byt t[i]) (byt x)
   ·rw [if_neg Bool.false_ne_true]
    have e2 := ih (i + 1) lo (hi ++ [t[i]]) (by omega) (by omega) (by rw [List.length_append]; simp; omega)
    rw [List.map_append, ← ChkB.wS i (by omega)] at e2
    exact Ev.congr (fun k => (if_neg Bool.false_ne_true).trans (if_pos c2)) e2
   ·rw [if_pos rfl]
    have e2 := ih (i + 1) (lo ++ [t[i]]) hi (by omega) (by rw [List.length_append]; simp; omega) (by omega)
    rw [List.map_append, ← ChkB.wS i (by omega)] at e2
    exact Ev.congr (fun k => (if_pos rfl).trans (if_pos c1)) e2
theorem rl_high (t : List Ru) (x : Ru) : ∀ (s lo hi : List Ru), (∀ z ∈ s, byt z ≠ byt x ∧ lessN (byt z) (byt x) = false) → rl t x s lo hi = if 64 ≤ t.length then (t, 3) else (lo ++ x :: (hi ++ s), 0)
 | [], lo, hi, _ => by rw [rl]; simp
 | z :: s, lo, hi, h => by
  obtain ⟨h1, h2⟩ := h z List.mem_cons_self
  rw [rl, if_neg h1, h2, if_neg Bool.false_ne_true, rl_high t x s lo (hi ++ [z]) (fun y hy => h y (List.mem_cons_of_mem _ hy))]
  simp
theorem rl_is (t : List Ru) (x : Ru) : ∀ (s lo : List Ru), Up s → rl t x s lo [] = if (plN s x).2 = true then (t, 0) else if 64 ≤ t.length then (t, 3) else (lo ++ ins s x, 0)
 | [], lo, _ => by rw [rl, plN, ins]; simp
 | y :: s, lo, h => by
  obtain ⟨h1, h2⟩ := h
  rw [rl, plN, ins]
  by_cases e : byt y = byt x
  ·have hn : lessN (byt y) (byt x) = false := by rw [e]; exact lessN_irrefl _
   rw [if_pos e, hn, if_neg Bool.false_ne_true, if_pos (decide_eq_true e)]
  ·rw [if_neg e]
   cases hb : lessN (byt y) (byt x)
   ·have hh : ∀ z ∈ s, byt z ≠ byt x ∧ lessN (byt z) (byt x) = false := fun z hz => by
     have g := lessN_total (byt y) (byt x) hb e
     have g2 := lessN_trans _ _ _ g (h1 z hz)
     refine ⟨fun q => ?_, ?_⟩
     ·rw [q, lessN_irrefl] at g2
      exact Bool.noConfusion g2
     ·cases hz2 : lessN (byt z) (byt x)
      ·rfl
      ·have := lessN_trans _ _ _ g2 hz2
       rw [lessN_irrefl] at this
       exact Bool.noConfusion this
    rw [if_neg Bool.false_ne_true, if_neg Bool.false_ne_true, if_neg Bool.false_ne_true, rl_high t x s lo ([] ++ [y]) hh, if_neg e]
    show _ = if decide (byt y = byt x) = true then (t, 0) else if 64 ≤ t.length then (t, 3) else (lo ++ x :: y :: s, 0)
    rw [decide_eq_false e, if_neg Bool.false_ne_true]
    rfl
   ·rw [if_pos rfl, if_pos rfl, if_pos rfl, rl_is t x s (lo ++ [y]) h2]
    simp
theorem rlearn_all {t : List Ru} (h : Wt t) {x : Ru} (hx : Wr x) : Ev (fun k => r21_Learn.f k (t.map toR) x.f0 x.f1 x.f2) (mapR (lrn t x)) := by
 have no : Ev (fun k => r21_Learn.j0 k (t.map toR) true x.f0 x.f1 x.f2) (mapR (t, 1)) := Ev.step (f := fun _ => some (mapR (t, 1))) (fun k => by rw [r21_Learn.j0, if_pos rfl]; rfl) (Ev.now _)
 have e1 : Ev (fun k => r21_May.f k x.f0 x.f1 x.f2) (may x) := rmay_is hx.l0 hx.l1 hx.w0 hx.w1 x.f2
 unfold r21_Learn.f lrn
 refine Ev.bind (rright_is h) ?_
 cases hr : rg t
 ·rw [if_neg (fun e => Bool.false_ne_true e.1)]
  exact Ev.congr (fun k => if_neg Bool.false_ne_true) no
 ·refine Ev.congr (fun k => if_pos rfl) (Ev.bind e1 ?_)
  cases mx : may x
  ·rw [if_neg (fun e => Bool.false_ne_true e.2)]
   exact no
  ·rw [if_pos ⟨rfl, rfl⟩]
   obtain ⟨h64, hm⟩ := rg_may hr
   have e := rlearn_from h hm h64 hx mx t.length 0 [] [] (by omega) (Nat.le_refl _) (Nat.le_refl _)
   rw [List.drop_zero, rl_is t x t [] ((rg_iff t).1 hr).2.1] at e
   have e : Ev (fun k => r21_Learn.l0 k (t.map toR) ([] : List Rr) ([] : List Rr) 0 x.f0 x.f1 x.f2) _ := e
   exact Ev.step (fun k => by rw [r21_Learn.j0, if_neg (by decide)]) e
noncomputable def fnd (w : List In) (v : Int) : List Ru → List In × Bool
 | [] => ([], false)
 | y :: s => @ite _ (y.f0 = w ∧ v = y.f2) (Classical.propDecidable _) (y.f1, true) (fnd w v s)
theorem fnd_wf (w : List In) (v : Int) : ∀ (t : List Ru), (∀ y ∈ t, y.f1.length < 100000) → (fnd w v t).1.length < 100000
 | [], _ => by simp [fnd]
 | y :: s, h => by
  rw [fnd]
  split
  ·exact h y List.mem_cons_self
  ·exact fnd_wf w v s (fun z hz => h z (List.mem_cons_of_mem _ hz))
theorem ne_or {x y : S59} (h : x ≠ y) : (!(x.f0 == y.f0) || (!(x.f1 == y.f1) || (!(x.f2 == y.f2) || (!(x.f3 == y.f3))))) = true := by
 obtain ⟨a, b, c, d⟩ := x
 obtain ⟨a', b', c', d'⟩ := y
 refine Classical.byContradiction fun hn => h ?_
 simp at hn
 obtain ⟨rfl, rfl, rfl, rfl⟩ := hn
 rfl
theorem tsame_from {a b : List S59} (hl : a.length = b.length) (hn : a.length < 100000) : ∀ d i, i + d = a.length → ∃ v, Ev (fun k => table_same.l0 k a b (a.length : Int) (i : Int)) v ∧ (v = true ↔ a.drop i = b.drop i) := by
 intro d
 induction d with
 | zero =>
  intro i hi
  refine ⟨true, Ev.step (f := fun _ => some true) (fun k => by rw [table_same.l0, if_neg (by omega)]) (Ev.now _), ?_⟩
  rw [List.drop_of_length_le (by omega), List.drop_of_length_le (by omega)]
  simp
 | succ d ih =>
  intro i hi
  have hia : i < a.length := by omega
  have hib : i < b.length := by omega
  by_cases e : a[i] = b[i]
  ·obtain ⟨v, hv, hv2⟩ := ih (i + 1) (by omega)
   refine ⟨v, Ev.step (fun k => ?_) hv, ?_⟩
   ·rw [table_same.l0, if_pos (by omega), if_pos (by omega), if_pos (by omega), if_pos (by omega), CodecB.rd_at a i hia, CodecB.rd_at b i hib, e, if_neg (by simp), CodecB.wS i (by omega)]
   ·rw [hv2, List.drop_eq_getElem_cons hia, List.drop_eq_getElem_cons hib, e]
    exact ⟨fun h => by rw [h], fun h => (List.cons.inj h).2⟩
  ·refine ⟨false, Ev.step (f := fun _ => some false) (fun k => ?_) (Ev.now _), ?_⟩
   ·rw [table_same.l0, if_pos (by omega), if_pos (by omega), if_pos (by omega), if_pos (by omega), CodecB.rd_at a i hia, CodecB.rd_at b i hib, if_pos (ne_or e)]
   ·rw [List.drop_eq_getElem_cons hia, List.drop_eq_getElem_cons hib]
    exact ⟨fun h => Bool.noConfusion h, fun h => absurd (List.cons.inj h).1 e⟩
theorem rsame_from {a b : List S59} (hl : a.length = b.length) (hn : a.length < 100000) : ∀ d i, i + d = a.length → ∃ v, Ev (fun k => r03_Same.l0 k a b (i : Int)) v ∧ (v = true ↔ a.drop i = b.drop i) := by
 intro d
 induction d with
 | zero =>
  intro i hi
  refine ⟨true, Ev.step (f := fun _ => some true) (fun k => by rw [r03_Same.l0, if_neg (by omega)]) (Ev.now _), ?_⟩
  rw [List.drop_of_length_le (by omega), List.drop_of_length_le (by omega)]
  simp
 | succ d ih =>
  intro i hi
  have hia : i < a.length := by omega
  have hib : i < b.length := by omega
  by_cases e : a[i] = b[i]
  ·obtain ⟨v, hv, hv2⟩ := ih (i + 1) (by omega)
   refine ⟨v, Ev.step (fun k => ?_) hv, ?_⟩
   ·rw [r03_Same.l0, if_pos (by omega), if_pos (by omega), if_pos (by omega), CodecB.rd_at a i hia, CodecB.rd_at b i hib, e, if_neg (by simp), CodecB.wS i (by omega)]
   ·rw [hv2, List.drop_eq_getElem_cons hia, List.drop_eq_getElem_cons hib, e]
    exact ⟨fun h => by rw [h], fun h => (List.cons.inj h).2⟩
  ·refine ⟨false, Ev.step (f := fun _ => some false) (fun k => ?_) (Ev.now _), ?_⟩
   ·rw [r03_Same.l0, if_pos (by omega), if_pos (by omega), if_pos (by omega), CodecB.rd_at a i hia, CodecB.rd_at b i hib, if_pos (ne_or e)]
   ·rw [List.drop_eq_getElem_cons hia, List.drop_eq_getElem_cons hib]
    exact ⟨fun h => Bool.noConfusion h, fun h => absurd (List.cons.inj h).1 e⟩
theorem tsame_is (a b : List S59) (hn : a.length < 100000) : ∃ v, Ev (fun k => table_same.f k a b) v ∧ (v = true ↔ a = b) := by
 unfold table_same.f
 by_cases hl : a.length = b.length
 ·obtain ⟨v, hv, h2⟩ := tsame_from hl hn a.length 0 (by omega)
  exact ⟨v, Ev.congr (fun k => if_pos (by omega)) hv, h2⟩
 ·exact ⟨false, Ev.congr (fun k => if_neg (by omega)) (Ev.now _), ⟨fun h => Bool.noConfusion h, fun h => absurd (congrArg List.length h) hl⟩⟩
theorem rsame_is (a b : List S59) (hn : a.length < 100000) : ∃ v, Ev (fun k => r03_Same.f k a b) v ∧ (v = true ↔ a = b) := by
 unfold r03_Same.f
 by_cases hl : a.length = b.length
 ·obtain ⟨v, hv, h2⟩ := rsame_from hl hn a.length 0 (by omega)
  exact ⟨v, Ev.congr (fun k => if_pos (by omega)) hv, h2⟩
 ·exact ⟨false, Ev.congr (fun k => if_neg (by omega)) (Ev.now _), ⟨fun h => Bool.noConfusion h, fun h => absurd (congrArg List.length h) hl⟩⟩
theorem land_is {v : Int} (h0 : 0 ≤ v) (h1 : v < 4294967296) : Go.bits .and .u32 v 262143 = Int.tmod v 262144 := by
 obtain ⟨n, rfl⟩ := Int.eq_ofNat_of_zero_le h0
 have h : n &&& 262143 = n % 262144 := by
  rw [show (262143 : Nat) = 2 ^ 18 - 1 by decide, Nat.and_two_pow_sub_one_eq_mod]
 have := Go.u32_and_nat n 262143 (by omega) (by decide)
 rw [h] at this
 rw [Int.tmod_eq_emod_of_nonneg (by omega)]
 exact this
theorem find_from {t : List Ru} (h : Wt t) (w : List In) {live : Int} (h0 : 0 ≤ live) (h1 : live < 4294967296) : ∀ d i, i + d = t.length →
  Ev (fun k => table_Find.l0 k w live t (t.length : Int) (i : Int)) (fnd w (Int.tmod live 262144) (t.drop i)) := by
 have hl := h.n
 have hv := land_is h0 h1
 intro d
 induction d with
 | zero =>
  intro i hi
  rw [List.drop_of_length_le (by omega), fnd]
  exact Ev.step (f := fun _ => some ([], false)) (fun k => by rw [table_Find.l0, if_neg (by omega)]) (Ev.now _)
 | succ d ih =>
  intro i hi
  have hil : i < t.length := by omega
  have wy := h.w _ (List.getElem_mem hil)
  obtain ⟨v1, e1, i1⟩ := tsame_is t[i].f0 w wy.l0
  have e2 := ih (i + 1) (by omega)
  rw [← ChkB.wS i (by omega)] at e2
  rw [List.drop_eq_getElem_cons hil, fnd]
  refine Ev.step (fun k => by rw [table_Find.l0, if_pos (by omega), if_pos (by omega), if_pos (by omega), rd_ru t i hil, hv]) (Ev.bind e1 ?_)
  cases v1
  ·rw [if_neg (fun q => Bool.false_ne_true (i1.2 q.1))]
   exact Ev.congr (fun k => if_neg Bool.false_ne_true) e2
  ·by_cases g : Int.tmod live 262144 = t[i].f2
   ·rw [if_pos ⟨i1.1 rfl, g⟩]
    have c : ([] : List In).length + t[i].f1.length < 4398046511104 := by
     have := wy.l1
     rw [List.length_nil]
     omega
    exact Ev.congr (f := fun _ => some (t[i].f1, true)) (fun k => (if_pos rfl).trans ((if_pos g).trans (by rw [Option.bind_some, if_pos c, List.nil_append]))) (Ev.now _)
   ·rw [if_neg (fun q => g q.2)]
    exact Ev.congr (fun k => (if_pos rfl).trans (if_neg g)) e2
theorem rfind_from {t : List Ru} (h : Wt t) (w : List In) (live : Int) : ∀ d i, i + d = t.length →
  Ev (fun k => r21_Find.l0 k (t.map toR) w live (i : Int)) (fnd w (Int.tmod live 262144) (t.drop i)) := by
 have hl := h.n
 have hL : ((t.map toR).length : Int) = (t.length : Int) := by rw [List.length_map]
 intro d
 induction d with
 | zero =>
  intro i hi
  rw [List.drop_of_length_le (by omega), fnd]
  exact Ev.step (f := fun _ => some ([], false)) (fun k => by rw [r21_Find.l0, if_neg (by omega)]) (Ev.now _)
 | succ d ih =>
  intro i hi
  have hil : i < t.length := by omega
  have wy := h.w _ (List.getElem_mem hil)
  obtain ⟨v1, e1, i1⟩ := rsame_is t[i].f0 w wy.l0
  have e2 := ih (i + 1) (by omega)
  rw [← ChkB.wS i (by omega)] at e2
  rw [List.drop_eq_getElem_cons hil, fnd]
  refine Ev.step (fun k => by rw [r21_Find.l0, if_pos (by omega), if_pos (by omega), rd_rr t i hil]) ?_
  by_cases g : Int.tmod live 262144 = t[i].f2
  ·refine Ev.congr (fun k => if_pos g) (Ev.bind e1 ?_)
   cases v1
   ·rw [if_neg (fun q => Bool.false_ne_true (i1.2 q.1))]
    exact Ev.congr (fun k => if_neg Bool.false_ne_true) e2
   ·rw [if_pos ⟨i1.1 rfl, g⟩]
    exact Ev.congr (fun k => if_pos rfl) (Ev.now _)
  ·rw [if_neg (fun q => g q.2)]
   exact Ev.congr (fun k => if_neg g) e2
noncomputable def fndT (t : List Ru) (w : List In) (live : Int) : List In × Bool := if rg t = true then fnd w (Int.tmod live 262144) t else ([], false)
theorem find_is {t : List Ru} (h : Wt t) (w : List In) {live : Int} (h0 : 0 ≤ live) (h1 : live < 4294967296) : Ev (fun k => table_Find.f k t w live) (fndT t w live) := by
 unfold table_Find.f fndT
 refine Ev.bind (right_is h) ?_
 cases hr : rg t
 ·rw [if_neg Bool.false_ne_true]
  exact Ev.congr (fun k => if_neg Bool.false_ne_true) (Ev.now _)
 ·rw [if_pos rfl]
  exact Ev.congr (fun k => if_pos rfl) (find_from h w h0 h1 t.length 0 (by omega))
theorem rfind_is {t : List Ru} (h : Wt t) (w : List In) (live : Int) : Ev (fun k => r21_Find.f k (t.map toR) w live) (fndT t w live) := by
 unfold r21_Find.f fndT
 refine Ev.bind (rright_is h) ?_
 cases hr : rg t
 ·rw [if_neg Bool.false_ne_true]
  exact Ev.congr (fun k => if_neg Bool.false_ne_true) (Ev.now _)
 ·rw [if_pos rfl]
  exact Ev.congr (fun k => if_pos rfl) (rfind_from h w live t.length 0 (by omega))
theorem fndT_len {t : List Ru} (h : Wt t) (w : List In) (live : Int) : (fndT t w live).1.length < 100000 := by
 unfold fndT
 split
 ·exact fnd_wf _ _ _ (fun y hy => (h.w y hy).l1)
 ·simp
theorem lrn_wt {t : List Ru} (h : Wt t) (hl : t.length ≤ 100) {x : Ru} (hx : Wr x) : Wt (lrn t x).1 := by
 unfold lrn
 split
 ·split
  ·exact h
  ·split
   ·exact h
   ·have := len_ins t x
    exact ⟨by show (ins t x).length < _; omega, fun y hy => (mem_ins hy).elim (h.w y) (fun e => by rw [e]; exact hx)⟩
 ·exact h
end Go.Proofs.YtahacmdhhfmhiaaDoor.TabV
