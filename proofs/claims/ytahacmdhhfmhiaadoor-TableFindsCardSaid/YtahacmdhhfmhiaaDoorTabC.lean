/- Windows and rules: which are right, and their bytes, by the program's and the document's functions: the same. No condition but sizes far beyond the laws'. -/
import Derived.Test.YtahacmdhhfmhiaaDoorChkB
import Derived.Test.YtahacmdhhfmhiaaDoorCodA
import Derived.Test.YtahacmdhhfmhiaaDoorM7
import Derived.Test.YtahacmdhhfmhiaaDoorMB
import Derived.Test.YtahacmdhhfmhiaaDoorMF
import Derived.Test.YtahacmdhhfmhiaaDoorCrcA
import Derived.Test.YtahacmdhhfmhiaaDoorMA
import Derived.Test.YtahacmdhhfmhiaaDoorM12
import Derived.Test.YtahacmdhhfmhiaaDoorM14
import Derived.Test.YtahacmdhhfmhiaaDoorM33
import Derived.Test.YtahacmdhhfmhiaaDoorM34
import Derived.Test.YtahacmdhhfmhiaaDoorMC
import Derived.Test.YtahacmdhhfmhiaaDoorM17
import Derived.Test.YtahacmdhhfmhiaaDoorM18
import Derived.Test.YtahacmdhhfmhiaaDoorM44
import Derived.Test.YtahacmdhhfmhiaaDoorM24
import Derived.Test.YtahacmdhhfmhiaaDoorMD
import Derived.Test.YtahacmdhhfmhiaaDoorM21
namespace Go.Proofs.YtahacmdhhfmhiaaDoor.TabA
set_option linter.unusedVariables false
set_option linter.unusedSimpArgs false
open Go.RowKit Go.Proofs.YtahacmdhhfmhiaaDoorW.PrintWords Go.Proofs.YtahacmdhhfmhiaaDoorW.PrintLast Go.Proofs.YtahacmdhhfmhiaaDoorW.PrintMore Go.Proofs.YtahacmdhhfmhiaaDoor.M Go.Proofs.YtahacmdhhfmhiaaDoor.InsOps Go.Proofs.YtahacmdhhfmhiaaDoor.RightB Go.Proofs.YtahacmdhhfmhiaaDoor.Hex
abbrev In := S59
noncomputable def pre (x : In) : Bool := !(x.f0 == 5) && (!(branchI x.f0) && !(ChkB.endI x))
noncomputable def okW (x : In) : Bool := pre x && (ChkB.one x 1 == 0)
noncomputable def winI (w : List In) : Bool := w.all okW && decide (w.length ≤ 32)
theorem drop_all (p : In → Bool) (w : List In) (i : Nat) (h : i < w.length) : (w.drop i).all p = (p w[i] && (w.drop (i + 1)).all p) := by rw [ChkB.drop_at w i h, List.all_cons]
theorem pre_5 {x : In} (h : x.f0 = 5) : pre x = false := by unfold pre; simp [h]
theorem pre_b {x : In} (h : branchI x.f0 = true) : pre x = false := by unfold pre; simp [h]
theorem pre_e {x : In} (h : ChkB.endI x = true) : pre x = false := by unfold pre; simp [h]
theorem pre_ok {x : In} (h5 : ¬ x.f0 = 5) (hb : branchI x.f0 = false) (he : ChkB.endI x = false) : pre x = true := by
 unfold pre
 rw [hb, he, beq_eq_false_iff_ne.mpr h5]
 rfl
theorem pre_un {x : In} (h : pre x = true) : x.f0 ≠ 5 ∧ branchI x.f0 = false ∧ ChkB.endI x = false := by
 unfold pre at h
 simp only [Bool.and_eq_true, Bool.not_eq_true', beq_eq_false_iff_ne] at h
 exact ⟨h.1, h.2.1, h.2.2⟩
theorem one_pre {x : In} (h : pre x = true) (a b : Int) : ChkB.one x a = ChkB.one x b := by
 obtain ⟨h5, hb, _⟩ := pre_un h
 have hf : ∀ c : Int, ChkB.far x c = false := fun c => by
  unfold ChkB.far
  rw [if_neg h5, hb]
  rfl
 unfold ChkB.one
 rw [hf a, hf b]
theorem rwin_from (w : List In) (hl : w.length < 100000) (hw : ∀ x ∈ w, Q.wfIns x) : ∀ (d i : Nat), i + d = w.length → Ev (fun k => r17_Right.l0 k w (i : Int)) ((w.drop i).all okW && decide (w.length ≤ 32)) := by
 intro d
 induction d with
 | zero =>
  intro i hi
  rw [List.drop_of_length_le (by omega)]
  refine Ev.step (f := fun _ => some (decide ((w.length : Int) ≤ 32))) (fun k => by rw [r17_Right.l0, if_neg (by omega)]) ?_
  rw [show decide ((w.length : Int) ≤ 32) = decide (w.length ≤ 32) from decide_eq_decide.mpr (by omega)]
  exact Ev.now _
 | succ d ih =>
  intro i hi
  have hil : i < w.length := by omega
  rw [drop_all okW w i hil]
  refine Ev.step (fun k => by rw [r17_Right.l0, if_pos (by omega), if_pos (by omega), ChkB.rd_at w i hil]) ?_
  have no : pre w[i] = false → Ev (fun _ => some false) (okW w[i] && (w.drop (i + 1)).all okW && decide (w.length ≤ 32)) := fun h => by
   unfold okW
   rw [h, Bool.false_and, Bool.false_and, Bool.false_and]
   exact Ev.now _
  by_cases h5 : w[i].f0 = 5
  ·exact Ev.congr (fun k => if_pos h5) (no (pre_5 h5))
  refine Ev.congr (fun k => if_neg h5) (Ev.bind (rbranchI_is _ _ _ _) ?_)
  cases hb : branchI w[i].f0
  ·refine Ev.congr (fun k => (if_neg Bool.false_ne_true).trans (by rw [ChkB.rends_is, Option.bind_some])) ?_
   cases he : ChkB.endI w[i]
   ·have ho := ChkB.one_is w[i] (hw _ (List.getElem_mem hil)) 0 2 (by omega) (by omega)
    have ho : Ev (fun k => r05_One.f k w[i].f0 w[i].f1 w[i].f2 w[i].f3 0 2) (ChkB.one w[i] 1) := ho
    refine Ev.congr (fun k => if_neg Bool.false_ne_true) (Ev.bind ho ?_)
    by_cases h1 : ChkB.one w[i] 1 = 0
    ·have e : okW w[i] = true := by unfold okW; rw [pre_ok h5 hb he, h1]; rfl
     rw [e, Bool.true_and]
     exact Ev.congr (fun k => (if_pos h1).trans (by rw [ChkB.wS i (by omega)])) (ih (i + 1) (by omega))
    ·have e : okW w[i] = false := by unfold okW; rw [beq_eq_false_iff_ne.mpr h1, Bool.and_false]
     rw [e, Bool.false_and, Bool.false_and]
     exact Ev.congr (fun k => if_neg h1) (Ev.now _)
   ·exact Ev.congr (fun k => if_pos rfl) (no (pre_e he))
  ·exact Ev.congr (fun k => if_pos rfl) (no (pre_b hb))
theorem rwin_is (w : List In) (hl : w.length < 100000) (hw : ∀ x ∈ w, Q.wfIns x) : Ev (fun k => r17_Right.f k w) (winI w) := by
 have := rwin_from w hl hw w.length 0 (by omega)
 rw [List.drop_zero] at this
 exact this
def retA : In := ⟨22, 0, 0, 0⟩
theorem right_ret : rightI 22 0 0 0 = true := by
 obtain ⟨i, hi, ho, hk, hw⟩ : ∃ i, i < 39 ∧ opsL[i]? = some 22 ∧ hasK i = false ∧ hasW i = false := ⟨opsL.idxOf 22, by decide, by decide, by decide, by decide⟩
 rw [(rightI_row hi ho _ _ _).1]
 unfold right
 rw [hk, hw]
 rfl
theorem one_ret (left : Int) : ChkB.one retA left = 0 := by
 unfold ChkB.one ChkB.rt retA
 rw [if_pos right_ret, if_pos (show check_ruleE 22 0 = 0 by unfold check_ruleE; simp)]
 have : ChkB.far (⟨22, 0, 0, 0⟩ : ChkB.In) left = false := by
  unfold ChkB.far
  rw [if_neg (show ¬ (22 : Int) = 5 by decide), ChkB.branch_22]
  rfl
 rw [this, if_neg Bool.false_ne_true]
theorem sound_pre (w : List In) (hl : w.length ≤ 32) (hp : w.all pre = true) : ((ChkB.chk (w ++ [retA])).2 == 0) = w.all okW := by
 have hlen : (w ++ [retA]).length = w.length + 1 := by rw [List.length_append]; rfl
 have hp := List.all_eq_true.1 hp
 have hlast : (w ++ [retA]).getD ((w ++ [retA]).length - 1) z59 = retA := by
  rw [hlen, List.getD_eq_getElem?_getD, show w.length + 1 - 1 = w.length by omega, List.getElem?_append_right (Nat.le_refl _), Nat.sub_self]
  rfl
 have key : (ChkB.chk (w ++ [retA])).2 = 0 ↔ w.all okW = true := by
  rw [ChkB.sound_iff, List.all_eq_true]
  constructor
  ·rintro ⟨_, _, h3, _⟩ x hx
   obtain ⟨q, hq, rfl⟩ := List.getElem_of_mem hx
   have h := h3 q (by omega)
   rw [List.getElem_append_left hq] at h
   unfold okW
   rw [hp _ hx, Bool.true_and, beq_iff_eq, one_pre (hp _ hx) 1 (((w ++ [retA]).length : Int) - 1 - (q : Int))]
   exact h
  ·intro h
   refine ⟨by omega, by omega, fun q hq => ?_, ?_⟩
   ·by_cases hqw : q < w.length
    ·have hx := List.getElem_mem hqw
     have := h _ hx
     unfold okW at this
     rw [hp _ hx, Bool.true_and, beq_iff_eq] at this
     rw [List.getElem_append_left hqw, one_pre (hp _ hx) _ 1]
     exact this
    ·rw [List.getElem_append_right (by omega)]
     have e : ([retA] : List In)[q - w.length]'(by simp; omega) = retA := by simp
     rw [e]
     exact one_ret _
   ·rw [hlast]
    rfl
 cases hb : w.all okW
 ·exact beq_eq_false_iff_ne.mpr fun e => by rw [key.1 e] at hb; cases hb
 ·rw [key.2 hb]; rfl
theorem win_from (w : List In) (hl : w.length ≤ 32) (hw : ∀ x ∈ w, Q.wfIns x) : ∀ (d i : Nat), i + d = w.length → Ev (fun k => window_Right.l0 k w w (w.length : Int) (i : Int)) ((w.drop i).all pre && ((ChkB.chk (w ++ [retA])).2 == 0)) := by
 have hwr : ∀ x ∈ w ++ [retA], Q.wfIns x := fun x hx => by
  rcases List.mem_append.1 hx with h | h
  ·exact hw x h
  ·rw [List.mem_singleton.1 h]
   exact ⟨by decide, by decide, by decide, by decide⟩
 have hs := ChkB.sound_is (w ++ [retA]) (by rw [List.length_append]; simp; omega) hwr
 intro d
 induction d with
 | zero =>
  intro i hi
  rw [List.drop_of_length_le (by omega)]
  refine Ev.step (f := fun k => (check_Sound.f k (w ++ [retA])).bind fun t => some t) (fun k => ?_) (Ev.bind hs (Ev.now _))
  rw [window_Right.l0, if_neg (by omega), Option.bind_some, if_pos (by simp; omega), Option.bind_some, if_pos (by simp; omega)]
  rfl
 | succ d ih =>
  intro i hi
  have hil : i < w.length := by omega
  rw [drop_all pre w i hil]
  refine Ev.step (fun k => by rw [window_Right.l0, if_pos (by omega), if_pos (by omega), if_pos (by omega), ChkB.rd_at w i hil]) ?_
  have no : pre w[i] = false → Ev (fun _ => some false) (pre w[i] && (w.drop (i + 1)).all pre && ((ChkB.chk (w ++ [retA])).2 == 0)) := fun h => by
   rw [h, Bool.false_and, Bool.false_and]
   exact Ev.now _
  by_cases h5 : w[i].f0 = 5
  ·exact Ev.congr (fun k => if_pos h5) (no (pre_5 h5))
  refine Ev.congr (fun k => (if_neg h5).trans (by rw [branchI_is, Option.bind_some])) ?_
  cases hb : branchI w[i].f0
  ·refine Ev.congr (fun k => (if_neg Bool.false_ne_true).trans (by rw [ChkB.ends_is, Option.bind_some])) ?_
   cases he : ChkB.endI w[i]
   ·rw [pre_ok h5 hb he, Bool.true_and]
    exact Ev.congr (fun k => (if_neg Bool.false_ne_true).trans (by rw [ChkB.wS i (by omega)])) (ih (i + 1) (by omega))
   ·exact Ev.congr (fun k => if_pos rfl) (no (pre_e he))
  ·exact Ev.congr (fun k => if_pos rfl) (no (pre_b hb))
theorem okW_pre {w : List In} (h : w.all pre = false) : w.all okW = false := by
 cases hb : w.all okW
 ·rfl
 ·exfalso
  have : w.all pre = true := List.all_eq_true.2 fun x hx => by
   have := List.all_eq_true.1 hb x hx
   unfold okW at this
   exact (Bool.and_eq_true_iff.mp this).1
  rw [h] at this
  cases this
theorem win_is (w : List In) (hl : w.length < 100000) (hw : ∀ x ∈ w, Q.wfIns x) : Ev (fun k => window_Right.f k w) (winI w) := by
 unfold window_Right.f winI
 by_cases h : w.length ≤ 32
 ·rw [decide_eq_true h, Bool.and_true]
  refine Ev.congr (fun k => if_neg (by omega)) ?_
  have e := win_from w h hw w.length 0 (by omega)
  rw [List.drop_zero] at e
  cases hp : w.all pre
  ·rw [hp, Bool.false_and] at e
   rw [okW_pre hp]
   exact e
  ·rw [sound_pre w h hp, hp, Bool.true_and] at e
   exact e
 ·rw [decide_eq_false h, Bool.and_false]
  exact Ev.congr (fun k => if_pos (by omega)) (Ev.now _)
noncomputable def mayI (a b : List In) (v : Int) : Bool := winI a && (winI b && (decide (b.length < a.length) && decide (v < 262144)))
section
variable {a b : List In} (ha : a.length < 100000) (hb : b.length < 100000) (wa : ∀ x ∈ a, Q.wfIns x) (wb : ∀ x ∈ b, Q.wfIns x) (v : Int)
include ha hb wa wb
theorem right_is_ : Ev (fun k => table_Rule_right.f k a b v) (mayI a b v) := by
 unfold table_Rule_right.f mayI
 refine Ev.bind (win_is a ha wa) ?_
 cases winI a
 ·exact Ev.congr (fun k => if_neg Bool.false_ne_true) (by rw [Bool.false_and]; exact Ev.now _)
 ·rw [Bool.true_and]
  refine Ev.congr (fun k => if_pos rfl) (Ev.bind (win_is b hb wb) ?_)
  cases winI b
  ·exact Ev.congr (fun k => if_neg Bool.false_ne_true) (by rw [Bool.false_and]; exact Ev.now _)
  ·rw [Bool.true_and]
   refine Ev.congr (fun k => if_pos rfl) ?_
   by_cases h : b.length < a.length
   ·rw [decide_eq_true h, Bool.true_and]
    exact Ev.congr (fun k => if_pos (by omega)) (Ev.now _)
   ·rw [decide_eq_false h, Bool.false_and]
    exact Ev.congr (fun k => if_neg (by omega)) (Ev.now _)
theorem rmay_is : Ev (fun k => r21_May.f k a b v) (mayI a b v) := by
 unfold r21_May.f mayI
 refine Ev.bind (rwin_is a ha wa) ?_
 cases winI a
 ·exact Ev.congr (fun k => if_neg Bool.false_ne_true) (by rw [Bool.false_and]; exact Ev.now _)
 ·rw [Bool.true_and]
  refine Ev.congr (fun k => if_pos rfl) (Ev.bind (rwin_is b hb wb) ?_)
  cases winI b
  ·exact Ev.congr (fun k => if_neg Bool.false_ne_true) (by rw [Bool.false_and]; exact Ev.now _)
  ·rw [Bool.true_and]
   refine Ev.congr (fun k => if_pos rfl) ?_
   by_cases h : b.length < a.length
   ·rw [decide_eq_true h, Bool.true_and]
    exact Ev.congr (fun k => if_pos (by omega)) (Ev.now _)
   ·rw [decide_eq_false h, Bool.false_and]
    exact Ev.congr (fun k => if_neg (by omega)) (Ev.now _)
end
def bytN (a b : List In) (c : Nat) : List Nat := CodecB.enc4 c ++ ([a.length % 256, b.length % 256] ++ (CodecB.encL a ++ CodecB.encL b))
theorem win_good {w : List In} (hw : ∀ x ∈ w, Q.wfIns x) (h : winI w = true) : w.length ≤ 32 ∧ ∀ x ∈ w, CodecB.GoodI x := by
 unfold winI at h
 rw [Bool.and_eq_true, decide_eq_true_eq] at h
 refine ⟨h.2, fun x hx => CodecB.good_of (hw x hx).2.2.2 ?_⟩
 have := List.all_eq_true.1 h.1 x hx
 unfold okW at this
 rw [Bool.and_eq_true, beq_iff_eq] at this
 have h1 := this.2
 unfold ChkB.one at h1
 cases hr : ChkB.rt x
 ·rw [hr] at h1; simp at h1
 ·exact hr
theorem win_chk {w : List In} (hw : ∀ x ∈ w, Q.wfIns x) (h : winI w = true) : CodecB.chk w = 0 := by
 obtain ⟨h1, h2⟩ := win_good hw h
 unfold CodecB.chk
 rw [if_neg (by omega), if_pos (CodecB.good_okL h2)]
theorem head_i (a b : List In) (c : Nat) (hc : c < 4294967296) : ([((c : Nat) : Int) % 256, ((c : Nat) : Int) / 256 % 256, ((c : Nat) : Int) / 65536 % 256, ((c : Nat) : Int) / 16777216 % 256, (a.length : Int) % 256, (b.length : Int) % 256] : List Int) = CodecB.I (CodecB.enc4 c ++ [a.length % 256, b.length % 256]) := by
 simp only [CodecB.I, CodecB.enc4, List.cons_append, List.nil_append, List.map_cons, List.map_nil, Int.natCast_emod, Int.natCast_ediv]
 rfl
theorem head_r (a b : List In) (c : Nat) (hc : c < 4294967296) : ([(Int.tmod (c : Int) 256) % 256, ((Int.tdiv (c : Int) 256) % 4294967296) % 256, ((Int.tdiv (c : Int) 65536) % 4294967296) % 256, ((Int.tdiv (c : Int) 16777216) % 4294967296) % 256, (a.length : Int) % 256, (b.length : Int) % 256] : List Int) = CodecB.I (CodecB.enc4 c ++ [a.length % 256, b.length % 256]) := by
 rw [← head_i a b c hc]
 have h0 : (0 : Int) ≤ (c : Int) := by omega
 rw [Int.tmod_eq_emod_of_nonneg h0, Int.tdiv_eq_ediv_of_nonneg h0, Int.tdiv_eq_ediv_of_nonneg h0, Int.tdiv_eq_ediv_of_nonneg h0]
 congr 1
 ·omega
 congr 1
 ·omega
 congr 1
 ·omega
 congr 1
 omega
theorem byt_bs {a b : List In} (ha : ∀ x ∈ a, CodecB.GoodI x) (hb : ∀ x ∈ b, CodecB.GoodI x) (c : Nat) : Bs (bytN a b c) := by
 intro x hx
 rcases List.mem_append.1 hx with h | h
 ·exact CodecB.enc4_bs c x h
 rcases List.mem_append.1 h with h | h
 ·simp at h; omega
 rcases List.mem_append.1 h with h | h
 ·exact CodecB.encL_bs ha x h
 ·exact CodecB.encL_bs hb x h
theorem byt_len (a b : List In) (c : Nat) : (bytN a b c).length = 6 + 8 * a.length + 8 * b.length := by
 unfold bytN
 simp only [List.length_append, CodecB.encL_len, List.length_cons, List.length_nil]
 have : (CodecB.enc4 c).length = 4 := rfl
 omega
section
variable {a b : List In} (wa : ∀ x ∈ a, Q.wfIns x) (wb : ∀ x ∈ b, Q.wfIns x) (ha : winI a = true) (hb : winI b = true) (c : Nat) (hc : c < 4294967296)
include wa wb ha hb hc
theorem bytes_is : Ev (fun k => table_Rule_bytes.f k a b (c : Int)) (str (bytN a b c)) := by
 obtain ⟨la, ga⟩ := win_good wa ha
 obtain ⟨lb, gb⟩ := win_good wb hb
 have e1 := CodecB.encode_is a (by omega) wa
 have e2 := CodecB.encode_is b (by omega) wb
 rw [win_chk wa ha, if_pos rfl] at e1
 rw [win_chk wb hb, if_pos rfl] at e2
 unfold table_Rule_bytes.f
 rw [head_i a b c hc]
 refine Ev.congr (fun k => Option.bind_some _ _) (Ev.bind e1 ?_)
 have n1 : (CodecB.I (CodecB.enc4 c ++ [a.length % 256, b.length % 256])).length + (CodecB.I (CodecB.encL a)).length < 140737488355328 := by
  rw [CodecB.I_length, CodecB.I_length, CodecB.encL_len]
  have : (CodecB.enc4 c ++ [a.length % 256, b.length % 256]).length = 6 := rfl
  omega
 refine Ev.congr (fun k => (if_pos n1).trans (Option.bind_some _ _)) (Ev.bind e2 ?_)
 have n2 : (CodecB.I (CodecB.enc4 c ++ [a.length % 256, b.length % 256]) ++ CodecB.I (CodecB.encL a)).length + (CodecB.I (CodecB.encL b)).length < 140737488355328 := by
  rw [List.length_append, CodecB.I_length, CodecB.I_length, CodecB.I_length, CodecB.encL_len, CodecB.encL_len]
  have : (CodecB.enc4 c ++ [a.length % 256, b.length % 256]).length = 6 := rfl
  omega
 refine Ev.congr (fun k => if_pos n2) ?_
 rw [← CodecB.I_append, ← CodecB.I_append, CodecB.I_str, show (CodecB.enc4 c ++ [a.length % 256, b.length % 256] ++ CodecB.encL a) ++ CodecB.encL b = bytN a b c by unfold bytN; simp only [List.append_assoc]]
 exact Ev.now _
theorem rbytes_is : Ev (fun k => r21_Bytes.f k a b (c : Int)) (CodecB.I (bytN a b c)) := by
 obtain ⟨la, ga⟩ := win_good wa ha
 obtain ⟨lb, gb⟩ := win_good wb hb
 have e1 := CodecB.rencode_is a (by omega) ga
 have e2 := CodecB.rencode_is b (by omega) gb
 unfold r21_Bytes.f
 rw [head_r a b c hc]
 refine Ev.congr (fun k => Option.bind_some _ _) (Ev.bind e1 ?_)
 have n1 : (CodecB.I (CodecB.enc4 c ++ [a.length % 256, b.length % 256])).length + (CodecB.I (CodecB.encL a)).length < 140737488355328 := by
  rw [CodecB.I_length, CodecB.I_length, CodecB.encL_len]
  have : (CodecB.enc4 c ++ [a.length % 256, b.length % 256]).length = 6 := rfl
  omega
 refine Ev.congr (fun k => (if_pos n1).trans (Option.bind_some _ _)) (Ev.bind e2 ?_)
 have n2 : (CodecB.I (CodecB.enc4 c ++ [a.length % 256, b.length % 256]) ++ CodecB.I (CodecB.encL a)).length + (CodecB.I (CodecB.encL b)).length < 140737488355328 := by
  rw [List.length_append, CodecB.I_length, CodecB.I_length, CodecB.I_length, CodecB.encL_len, CodecB.encL_len]
  have : (CodecB.enc4 c ++ [a.length % 256, b.length % 256]).length = 6 := rfl
  omega
 refine Ev.congr (fun k => if_pos n2) ?_
 rw [← CodecB.I_append, ← CodecB.I_append, show (CodecB.enc4 c ++ [a.length % 256, b.length % 256] ++ CodecB.encL a) ++ CodecB.encL b = bytN a b c by unfold bytN; simp only [List.append_assoc]]
 exact Ev.now _
end
end Go.Proofs.YtahacmdhhfmhiaaDoor.TabA
/- Tables: which are right, and their bytes, by the program's and the document's functions: the same. No condition but sizes far beyond the laws'. -/
namespace Go.Proofs.YtahacmdhhfmhiaaDoor.TabB
set_option linter.unusedVariables false
set_option linter.unusedSimpArgs false
open Go.RowKit Go.Proofs.YtahacmdhhfmhiaaDoorW.PrintWords Go.Proofs.YtahacmdhhfmhiaaDoorW.PrintLast Go.Proofs.YtahacmdhhfmhiaaDoorW.PrintMore Go.Proofs.YtahacmdhhfmhiaaDoor.M Go.Proofs.YtahacmdhhfmhiaaDoor.InsOps Go.Proofs.YtahacmdhhfmhiaaDoor.RightB Go.Proofs.YtahacmdhhfmhiaaDoor.Hex Go.Proofs.YtahacmdhhfmhiaaDoor.TabA
abbrev Ru := S42
abbrev Rr := S45
def toR (x : Ru) : Rr := ⟨x.f0, x.f1, x.f2⟩
structure Wr (x : Ru) : Prop where
 l0 : x.f0.length < 100000
 l1 : x.f1.length < 100000
 w0 : ∀ y ∈ x.f0, Q.wfIns y
 w1 : ∀ y ∈ x.f1, Q.wfIns y
 v0 : 0 ≤ x.f2
 v1 : x.f2 < 4294967296
noncomputable def may (x : Ru) : Bool := mayI x.f0 x.f1 x.f2
def byt (x : Ru) : List Nat := bytN x.f0 x.f1 x.f2.toNat
theorem rd_ru (l : List Ru) (i : Nat) (h : i < l.length) : rd_T42 l (i : Int) = l[i] := by
 unfold rd_T42
 rw [List.getD_eq_getElem?_getD, Int.toNat_natCast, List.getElem?_eq_getElem h]
 rfl
theorem rd_rr (l : List Ru) (i : Nat) (h : i < l.length) : rd_T45 (l.map toR) (i : Int) = toR l[i] := by
 unfold rd_T45
 rw [List.getD_eq_getElem?_getD, Int.toNat_natCast, List.getElem?_map, List.getElem?_eq_getElem h]
 rfl
theorem may_un {x : Ru} (h : may x = true) : winI x.f0 = true ∧ winI x.f1 = true ∧ x.f1.length < x.f0.length ∧ x.f2 < 262144 := by
 unfold may mayI at h
 simp only [Bool.and_eq_true, decide_eq_true_eq] at h
 exact h
theorem v_eq {x : Ru} (h : Wr x) : ((x.f2.toNat : Nat) : Int) = x.f2 := Int.toNat_of_nonneg h.v0
theorem bytes_ru {x : Ru} (h : Wr x) (hm : may x = true) : Ev (fun k => table_Rule_bytes.f k x.f0 x.f1 x.f2) (str (byt x)) := by
 obtain ⟨h1, h2, _, _⟩ := may_un hm
 have e := bytes_is h.w0 h.w1 h1 h2 x.f2.toNat (by have := h.v0; have := h.v1; omega)
 rw [v_eq h] at e
 exact e
theorem rbytes_ru {x : Ru} (h : Wr x) (hm : may x = true) : Ev (fun k => r21_Bytes.f k x.f0 x.f1 x.f2) (CodecB.I (byt x)) := by
 obtain ⟨h1, h2, _, _⟩ := may_un hm
 have e := rbytes_is h.w0 h.w1 h1 h2 x.f2.toNat (by have := h.v0; have := h.v1; omega)
 rw [v_eq h] at e
 exact e
theorem rbytes_rr {x : Ru} (h : Wr x) (hm : may x = true) : Ev (fun k => r21_Bytes.f k (toR x).f0 (toR x).f1 (toR x).f2) (CodecB.I (byt x)) := rbytes_ru h hm
theorem byt_bs_ru {x : Ru} (h : Wr x) (hm : may x = true) : Bs (byt x) := by
 obtain ⟨h1, h2, _, _⟩ := may_un hm
 exact byt_bs (win_good h.w0 h1).2 (win_good h.w1 h2).2 _
theorem byt_len_ru {x : Ru} (h : Wr x) (hm : may x = true) : (byt x).length ≤ 518 := by
 obtain ⟨h1, h2, _, _⟩ := may_un hm
 have a := (win_good h.w0 h1).1
 have b := (win_good h.w1 h2).1
 unfold byt
 rw [byt_len]
 omega
def lessN : List Nat → List Nat → Bool
 | _, [] => false
 | [], _ :: _ => true
 | a :: x, b :: y => if a = b then lessN x y else decide (a < b)
theorem bless : ∀ (a b : List Nat), Bs a → Bs b → Op.bytesLess (a.map UInt8.ofNat) (b.map UInt8.ofNat) = lessN a b
 | _, [], _, _ => by cases ‹List Nat› <;> rfl
 | [], _ :: _, _, _ => rfl
 | a :: x, b :: y, ha, hb => by
  have h1 := ha a List.mem_cons_self
  have h2 := hb b List.mem_cons_self
  have ih := bless x y (fun z hz => ha z (List.mem_cons_of_mem _ hz)) (fun z hz => hb z (List.mem_cons_of_mem _ hz))
  simp only [List.map_cons, Op.bytesLess, lessN, ih]
  have e1 : (UInt8.ofNat a == UInt8.ofNat b) = decide (a = b) := by
   by_cases h : a = b
   ·subst h
    simp
   ·rw [decide_eq_false h, beq_eq_false_iff_ne]
    intro hh
    have := congrArg UInt8.toNat hh
    simp at this
    omega
  have e2 : decide (UInt8.ofNat a < UInt8.ofNat b) = decide (a < b) := by
   refine decide_eq_decide.mpr ?_
   rw [UInt8.lt_iff_toNat_lt]
   simp
   rw [Nat.mod_eq_of_lt (by omega), Nat.mod_eq_of_lt (by omega)]
  rw [e1, e2]
  by_cases h : a = b
  ·subst h
   simp
  ·simp [h]
theorem bless_str {a b : List Nat} (ha : Bs a) (hb : Bs b) : Op.bytesLess (str a).toList (str b).toList = lessN a b := by
 rw [ByteArray.toList_eq, ByteArray.toList_eq]
 exact bless a b ha hb
theorem lessN_nil (a : List Nat) : lessN a [] = false := by cases a <;> rfl
theorem rless_from (a b : List Nat) (la : a.length < 100000) (lb : b.length < 100000) : ∀ (d i : Nat), i + d = a.length → i ≤ b.length → Ev (fun k => r21_less.l0 k (CodecB.I a) (CodecB.I b) (i : Int)) (lessN (a.drop i) (b.drop i)) := by
 have na := CodecB.I_length a
 have nb := CodecB.I_length b
 have fin : ∀ i : Nat, Ev (fun k => r21_less.j1 k (CodecB.I a) (CodecB.I b) (i : Int) false) (decide (a.length < b.length)) := fun i =>
  Ev.step (f := fun _ => some (decide (a.length < b.length))) (fun k => by
   rw [r21_less.j1, if_neg Bool.false_ne_true, na, nb]
   exact congrArg some (decide_eq_decide.mpr (by omega))) (Ev.now _)
 intro d
 induction d with
 | zero =>
  intro i hi hb
  refine Ev.step (fun k => by rw [r21_less.l0, if_neg (by omega)]) ?_
  have e : lessN (a.drop i) (b.drop i) = decide (a.length < b.length) := by
   rw [List.drop_of_length_le (l := a) (by omega)]
   cases hd : b.drop i with
   | nil =>
    have := congrArg List.length hd
    rw [List.length_drop, List.length_nil] at this
    rw [lessN_nil]
    exact (decide_eq_false (by omega)).symm
   | cons y r =>
    have := congrArg List.length hd
    rw [List.length_drop, List.length_cons] at this
    exact (decide_eq_true (by omega)).symm
  rw [e]
  exact fin i
 | succ d ih =>
  intro i hi hb
  have hia : i < a.length := by omega
  refine Ev.step (fun k => by rw [r21_less.l0, if_pos (by omega)]) ?_
  by_cases hib : i < b.length
  ·rw [decide_eq_true (show (i : Int) < ((CodecB.I b).length : Int) by omega)]
   refine Ev.step (fun k => by rw [r21_less.j1, if_pos rfl, if_pos (by omega), if_pos (by omega), if_pos (by omega), CodecB.I_rd, CodecB.I_rd]) ?_
   have ea : a.getD i 0 = a[i] := by rw [List.getD_eq_getElem?_getD, List.getElem?_eq_getElem hia]; rfl
   have eb : b.getD i 0 = b[i] := by rw [List.getD_eq_getElem?_getD, List.getElem?_eq_getElem hib]; rfl
   rw [ea, eb, List.drop_eq_getElem_cons hia, List.drop_eq_getElem_cons hib, lessN]
   by_cases h : a[i] = b[i]
   ·rw [if_pos h]
    exact Ev.congr (fun k => (if_pos (by rw [h])).trans (by rw [ChkB.wS i (by omega)])) (ih (i + 1) (by omega) (by omega))
   ·rw [if_neg h]
    refine Ev.congr (f := fun _ => some (decide (a[i] < b[i]))) (fun k => (if_neg (by omega)).trans (congrArg some (decide_eq_decide.mpr (by omega)))) (Ev.now _)
  ·rw [decide_eq_false (show ¬ (i : Int) < ((CodecB.I b).length : Int) by omega)]
   have e : lessN (a.drop i) (b.drop i) = decide (a.length < b.length) := by
    rw [List.drop_of_length_le (l := b) (by omega), lessN_nil]
    exact (decide_eq_false (by omega)).symm
   rw [e]
   exact fin i
theorem rless_is (a b : List Nat) (la : a.length < 100000) (lb : b.length < 100000) : Ev (fun k => r21_less.f k (CodecB.I a) (CodecB.I b)) (lessN a b) := by
 have := rless_from a b la lb a.length 0 (by omega) (by omega)
 exact this
noncomputable def rgF (t : List Ru) : Nat → Nat → Bool
 | _, 0 => true
 | i, d + 1 => may (t.getD i z42) && ((i == 0 || lessN (byt (t.getD (i - 1) z42)) (byt (t.getD i z42))) && rgF t (i + 1) d)
noncomputable def rg (t : List Ru) : Bool := rgF t 0 t.length && decide (t.length ≤ 64)
structure Wt (t : List Ru) : Prop where
 n : t.length < 100000
 w : ∀ x ∈ t, Wr x
theorem getD_ru (t : List Ru) (i : Nat) (h : i < t.length) : t.getD i z42 = t[i] := by rw [List.getD_eq_getElem?_getD, List.getElem?_eq_getElem h]; rfl
theorem right_from {t : List Ru} (h : Wt t) : ∀ (d i : Nat), i + d = t.length → (i = 0 ∨ may (t.getD (i - 1) z42) = true) → Ev (fun k => table_Right.l0 k t t (t.length : Int) (i : Int)) (rgF t i d && decide (t.length ≤ 64)) := by
 have hl := h.n
 intro d
 induction d with
 | zero =>
  intro i hi _
  refine Ev.step (f := fun _ => some (decide ((t.length : Int) ≤ 64))) (fun k => by rw [table_Right.l0, if_neg (by omega)]) ?_
  rw [rgF, Bool.true_and, show decide ((t.length : Int) ≤ 64) = decide (t.length ≤ 64) from decide_eq_decide.mpr (by omega)]
  exact Ev.now _
 | succ d ih =>
  intro i hi hp
  have hil : i < t.length := by omega
  have hw := h.w _ (List.getElem_mem hil)
  have hr := right_is_ hw.l0 hw.l1 hw.w0 hw.w1 t[i].f2
  rw [rgF, getD_ru t i hil]
  refine Ev.step (fun k => by rw [table_Right.l0, if_pos (by omega), if_pos (by omega), if_pos (by omega), rd_ru t i hil]) (Ev.bind hr ?_)
  rw [show mayI t[i].f0 t[i].f1 t[i].f2 = may t[i] from rfl]
  cases hm : may t[i]
  ·rw [Bool.false_and, Bool.false_and]
   exact Ev.congr (fun k => if_neg Bool.false_ne_true) (Ev.now _)
  ·rw [Bool.true_and]
   have next := ih (i + 1) (by omega) (.inr (by rw [Nat.add_sub_cancel, getD_ru t i hil]; exact hm))
   refine Ev.congr (fun k => if_pos rfl) ?_
   by_cases h0 : i = 0
   ·subst h0
    rw [show ((0 : Nat) == 0) = true from rfl, Bool.true_or, Bool.true_and]
    exact Ev.congr (fun k => (if_neg (by omega)).trans (by rw [ChkB.wS 0 (by omega)])) next
   ·have hi1 : i - 1 < t.length := by omega
    have hm1 : may t[i - 1] = true := by
     rcases hp with e | e
     ·exact absurd e h0
     ·rw [getD_ru t (i - 1) hi1] at e; exact e
    have hw1 := h.w _ (List.getElem_mem hi1)
    have w : wrap64 ((i : Int) - 1) = ((i - 1 : Nat) : Int) := by unfold wrap64; omega
    rw [beq_eq_false_iff_ne.mpr h0, Bool.false_or, getD_ru t (i - 1) hi1]
    refine Ev.congr (fun k => (if_pos (by omega)).trans (by rw [w, if_pos (by omega), if_pos (by omega), rd_ru t (i - 1) hi1])) (Ev.bind (bytes_ru hw1 hm1) (Ev.bind (bytes_ru hw hm) ?_))
    rw [bless_str (byt_bs_ru hw1 hm1) (byt_bs_ru hw hm)]
    cases lessN (byt t[i - 1]) (byt t[i])
    ·rw [Bool.false_and, Bool.false_and]
     exact Ev.congr (fun k => if_neg Bool.false_ne_true) (Ev.now _)
    ·rw [Bool.true_and]
     exact Ev.congr (fun k => (if_pos rfl).trans (by rw [ChkB.wS i (by omega)])) next
theorem right_is {t : List Ru} (h : Wt t) : Ev (fun k => table_Right.f k t) (rg t) := right_from h t.length 0 (by omega) (.inl rfl)
theorem rright_from {t : List Ru} (h : Wt t) : ∀ (d i : Nat), i + d = t.length → (i = 0 ∨ may (t.getD (i - 1) z42) = true) → Ev (fun k => r21_Right.l0 k (t.map toR) (i : Int)) (rgF t i d && decide (t.length ≤ 64)) := by
 have hl := h.n
 have hlen : (t.map toR).length = t.length := List.length_map ..
 intro d
 induction d with
 | zero =>
  intro i hi _
  refine Ev.step (f := fun _ => some (decide (((t.map toR).length : Int) ≤ 64))) (fun k => by rw [r21_Right.l0, if_neg (by omega)]) ?_
  rw [rgF, Bool.true_and, show decide (((t.map toR).length : Int) ≤ 64) = decide (t.length ≤ 64) from decide_eq_decide.mpr (by omega)]
  exact Ev.now _
 | succ d ih =>
  intro i hi hp
  have hil : i < t.length := by omega
  have hw := h.w _ (List.getElem_mem hil)
  have hr : Ev (fun k => r21_May.f k (toR t[i]).f0 (toR t[i]).f1 (toR t[i]).f2) (may t[i]) := rmay_is hw.l0 hw.l1 hw.w0 hw.w1 t[i].f2
  rw [rgF, getD_ru t i hil]
  refine Ev.step (fun k => by rw [r21_Right.l0, if_pos (by omega), if_pos (by omega), rd_rr t i hil]) (Ev.bind hr ?_)
  cases hm : may t[i]
  ·rw [Bool.false_and, Bool.false_and]
   exact Ev.congr (fun k => if_neg Bool.false_ne_true) (Ev.now _)
  ·rw [Bool.true_and]
   have next := ih (i + 1) (by omega) (.inr (by rw [Nat.add_sub_cancel, getD_ru t i hil]; exact hm))
   refine Ev.congr (fun k => if_pos rfl) ?_
   by_cases h0 : i = 0
   ·subst h0
    rw [show ((0 : Nat) == 0) = true from rfl, Bool.true_or, Bool.true_and]
    exact Ev.congr (fun k => (if_neg (by omega)).trans (by rw [ChkB.wS 0 (by omega)])) next
   ·have hi1 : i - 1 < t.length := by omega
    have hm1 : may t[i - 1] = true := by
     rcases hp with e | e
     ·exact absurd e h0
     ·rw [getD_ru t (i - 1) hi1] at e; exact e
    have hw1 := h.w _ (List.getElem_mem hi1)
    have w : wrap64 ((i : Int) - 1) = ((i - 1 : Nat) : Int) := by unfold wrap64; omega
    have n1 := byt_len_ru hw1 hm1
    have n2 := byt_len_ru hw hm
    rw [beq_eq_false_iff_ne.mpr h0, Bool.false_or, getD_ru t (i - 1) hi1]
    refine Ev.congr (fun k => (if_pos (by omega)).trans (by rw [w, if_pos (by omega), if_pos (by omega), rd_rr t (i - 1) hi1])) (Ev.bind (rbytes_rr hw1 hm1) (Ev.bind (rbytes_rr hw hm) (Ev.bind (rless_is (byt t[i - 1]) (byt t[i]) (by omega) (by omega)) ?_)))
    cases lessN (byt t[i - 1]) (byt t[i])
    ·rw [Bool.false_and, Bool.false_and]
     exact Ev.congr (fun k => if_neg Bool.false_ne_true) (Ev.now _)
    ·rw [Bool.true_and]
     exact Ev.congr (fun k => (if_pos rfl).trans (by rw [ChkB.wS i (by omega)])) next
theorem rright_is {t : List Ru} (h : Wt t) : Ev (fun k => r21_Right.f k (t.map toR)) (rg t) := rright_from h t.length 0 (by omega) (.inl rfl)
theorem rgF_may {t : List Ru} : ∀ (d i : Nat), i + d = t.length → rgF t i d = true → ∀ j, i ≤ j → ∀ hj : j < t.length, may t[j] = true := by
 intro d
 induction d with
 | zero => intro i hi _ j h1 h2; omega
 | succ d ih =>
  intro i hi hr j h1 h2
  rw [rgF, Bool.and_eq_true, Bool.and_eq_true] at hr
  by_cases e : j = i
  ·subst e
   rw [getD_ru t j h2] at hr
   exact hr.1
  ·exact ih (i + 1) (by omega) hr.2.2 j (by omega) h2
theorem rg_may {t : List Ru} (h : rg t = true) : t.length ≤ 64 ∧ ∀ x ∈ t, may x = true := by
 unfold rg at h
 rw [Bool.and_eq_true, decide_eq_true_eq] at h
 refine ⟨h.2, fun x hx => ?_⟩
 obtain ⟨j, hj, rfl⟩ := List.getElem_of_mem hx
 exact rgF_may t.length 0 (by omega) h.1 j (by omega) hj
theorem as_from (t : List Ru) (hl : t.length < 100000) : ∀ (d i : Nat) (acc : List Rr), i + d = t.length → acc.length = i → Ev (fun k => l21_As.l0 k t acc (i : Int)) (acc ++ (t.drop i).map toR) := by
 intro d
 induction d with
 | zero =>
  intro i acc hi ha
  rw [List.drop_of_length_le (by omega), List.map_nil, List.append_nil]
  exact Ev.step (f := fun _ => some acc) (fun k => by rw [l21_As.l0, if_neg (by omega)]) (Ev.now _)
 | succ d ih =>
  intro i acc hi ha
  have hil : i < t.length := by omega
  have := ih (i + 1) (acc ++ [toR t[i]]) (by omega) (by rw [List.length_append]; simp; omega)
  rw [List.append_assoc] at this
  rw [List.drop_eq_getElem_cons hil, List.map_cons]
  refine Ev.step (fun k => ?_) this
  rw [l21_As.l0, if_pos (by omega), if_pos (by omega), rd_ru t i hil]
  unfold l21_as.f
  rw [Option.bind_some, if_pos (by omega), ChkB.wS i (by omega)]
  rfl
theorem as_is (t : List Ru) (hl : t.length < 100000) : Ev (fun k => l21_As.f k t) (t.map toR) := by
 have := as_from t hl t.length 0 [] (by omega) rfl
 rw [List.drop_zero, List.nil_append] at this
 exact this
theorem bytesOf_str {l : List Nat} (h : Bs l) : bytesOf (str l) = CodecB.I l := by
 have := bytes_str h
 unfold numsL at this
 unfold bytesOf CodecB.I
 rw [← this, List.map_map]
 simp [Function.comp_def, this]
def encT (t : List Ru) : List Nat := t.flatMap byt
theorem str_size (l : List Nat) : (str l).size = l.length := by
 show (l.map UInt8.ofNat).toArray.size = _
 simp
theorem enc_from {t : List Ru} (h : Wt t) (hm : ∀ x ∈ t, may x = true) (hl : t.length ≤ 64) : ∀ (d i : Nat) (acc : List Nat), i + d = t.length → acc.length ≤ 5 + 518 * i → Bs acc → Ev (fun k => table_Encode.l0 k (CodecB.I acc) t (t.length : Int) (i : Int)) (CodecB.I ((acc ++ encT (t.drop i)) ++ CrcPlain.four (CrcPlain.crc (acc ++ encT (t.drop i)))), 0) := by
 intro d
 induction d with
 | zero =>
  intro i acc hi ha hb
  rw [List.drop_of_length_le (by omega), encT, List.flatMap_nil, List.append_nil]
  exact Ev.step (f := fun k => (crc_Seal.f k (CodecB.I acc)).bind fun t => some (t, 0)) (fun k => by rw [table_Encode.l0, if_neg (by omega)]) (Ev.bind (CrcB.seal_is acc hb (by omega)) (Ev.now _))
 | succ d ih =>
  intro i acc hi ha hb
  have hil : i < t.length := by omega
  have hw := h.w _ (List.getElem_mem hil)
  have hmi := hm _ (List.getElem_mem hil)
  have hbx := byt_bs_ru hw hmi
  have hlx := byt_len_ru hw hmi
  have := ih (i + 1) (acc ++ byt t[i]) (by omega) (by rw [List.length_append]; omega) (fun y hy => (List.mem_append.1 hy).elim (hb y) (hbx y))
  rw [List.drop_eq_getElem_cons hil, show encT (t[i] :: t.drop (i + 1)) = byt t[i] ++ encT (t.drop (i + 1)) from rfl, ← List.append_assoc]
  refine Ev.step (fun k => by rw [table_Encode.l0, if_pos (by omega), if_pos (by omega), if_pos (by omega), rd_ru t i hil]) (Ev.bind (bytes_ru hw hmi) ?_)
  refine Ev.congr (fun k => ?_) this
  rw [str_size, CodecB.I_length, if_pos (by omega), bytesOf_str hbx, ← CodecB.I_append, ChkB.wS i (by omega)]
def headT (t : List Ru) : List Nat := [72, 82, 84, 49, t.length % 256]
theorem head_bs (t : List Ru) : Bs (headT t) := by
 intro x hx
 unfold headT at hx
 simp at hx
 omega
theorem head_I (t : List Ru) : CodecB.I (headT t) = ([72, 82, 84, 49] : List Int) ++ [(t.length : Int) % 256] := by
 simp [CodecB.I, headT]
def tabN (t : List Ru) : List Nat := (headT t ++ encT t) ++ CrcPlain.four (CrcPlain.crc (headT t ++ encT t))
theorem encode_ok {t : List Ru} (h : Wt t) (hr : rg t = true) : Ev (fun k => table_Encode.f k t) (CodecB.I (tabN t), 0) := by
 obtain ⟨h64, hm⟩ := rg_may hr
 have e := enc_from h hm h64 t.length 0 (headT t) (by omega) (show 5 ≤ 5 + 518 * 0 by omega) (head_bs t)
 rw [List.drop_zero, head_I] at e
 have e : Ev (fun k => table_Encode.l0 k (([72, 82, 84, 49] : List Int) ++ [(t.length : Int) % 256]) t (t.length : Int) 0) (CodecB.I (tabN t), 0) := e
 unfold table_Encode.f
 refine Ev.bind (right_is h) ?_
 rw [hr]
 refine Ev.congr (fun k => (if_pos rfl).trans (by rw [Option.bind_some, if_pos (show ([72, 82, 84, 49] : List Int).length < 140737488355328 by decide)])) e
theorem encode_no {t : List Ru} (h : Wt t) (hr : rg t = false) : Ev (fun k => table_Encode.f k t) ([], 1) := by
 unfold table_Encode.f
 refine Ev.bind (right_is h) ?_
 rw [hr]
 exact Ev.congr (fun k => if_neg Bool.false_ne_true) (Ev.now _)
noncomputable def grN (t : List Ru) : Bool := (t.any fun x => decide (100 < x.f0.length) || decide (100 < x.f1.length)) || decide (100 < t.length)
theorem great_from (t : List Ru) (hl : t.length < 9223372036854775808) : ∀ (d i : Nat), i + d = t.length → Ev (fun k => l21_Great.l0 k t (i : Int)) (((t.drop i).any fun x => decide (100 < x.f0.length) || decide (100 < x.f1.length)) || decide (100 < t.length)) := by
 intro d
 induction d with
 | zero =>
  intro i hi
  rw [List.drop_of_length_le (by omega), List.any_nil, Bool.false_or]
  refine Ev.step (f := fun _ => some (decide (100 < t.length))) (fun k => ?_) (Ev.now _)
  rw [l21_Great.l0, if_neg (by omega)]
  exact congrArg some (decide_eq_decide.mpr (by omega))
 | succ d ih =>
  intro i hi
  have hil : i < t.length := by omega
  rw [List.drop_eq_getElem_cons hil, List.any_cons]
  refine Ev.step (fun k => by rw [l21_Great.l0, if_pos (by omega), if_pos (by omega), rd_ru t i hil]) ?_
  by_cases h1 : 100 < t[i].f0.length
  ·rw [decide_eq_true h1, Bool.true_or, Bool.true_or, Bool.true_or]
   exact Ev.congr (fun k => if_pos (by omega)) (Ev.now _)
  ·rw [decide_eq_false h1, Bool.false_or]
   refine Ev.congr (fun k => if_neg (by omega)) ?_
   by_cases h2 : 100 < t[i].f1.length
   ·rw [decide_eq_true h2, Bool.true_or, Bool.true_or]
    exact Ev.congr (fun k => if_pos (by omega)) (Ev.now _)
   ·rw [decide_eq_false h2, Bool.false_or]
    exact Ev.congr (fun k => (if_neg (by omega)).trans (by rw [show wrap64 ((i : Int) + 1) = ((i + 1 : Nat) : Int) by unfold wrap64; omega])) (ih (i + 1) (by omega))
theorem great_is (t : List Ru) (hl : t.length < 9223372036854775808) : Ev (fun k => l21_Great.f k t) (grN t) := by
 have := great_from t hl t.length 0 (by omega)
 rw [List.drop_zero] at this
 exact this
def Wq (x : Ru) : Prop := (∀ y ∈ x.f0, Q.wfIns y) ∧ (∀ y ∈ x.f1, Q.wfIns y) ∧ (Lit.int .u32 x.f2).wf = true
theorem wt_of {t : List Ru} (hq : ∀ x ∈ t, Wq x) (hg : grN t = false) : Wt t := by
 unfold grN at hg
 rw [Bool.or_eq_false_iff, decide_eq_false_iff_not, List.any_eq_false] at hg
 refine ⟨by omega, fun x hx => ?_⟩
 have h := hg.1 x hx
 simp only [Bool.or_eq_true, decide_eq_true_eq] at h
 obtain ⟨q0, q1, q2⟩ := hq x hx
 have r := ChkB.u32_range q2
 exact ⟨by omega, by omega, q0, q1, r.1, r.2⟩
end Go.Proofs.YtahacmdhhfmhiaaDoor.TabB
/- What is read from a table's bytes by the program's function: what was written, and nothing else. No condition but sizes far beyond the laws'. -/
namespace Go.Proofs.YtahacmdhhfmhiaaDoor.TabD
set_option linter.unusedVariables false
set_option linter.unusedSimpArgs false
open Go.RowKit Go.Proofs.YtahacmdhhfmhiaaDoorW.PrintWords Go.Proofs.YtahacmdhhfmhiaaDoorW.PrintLast Go.Proofs.YtahacmdhhfmhiaaDoorW.PrintMore Go.Proofs.YtahacmdhhfmhiaaDoor.M Go.Proofs.YtahacmdhhfmhiaaDoor.InsOps Go.Proofs.YtahacmdhhfmhiaaDoor.RightB Go.Proofs.YtahacmdhhfmhiaaDoor.Hex Go.Proofs.YtahacmdhhfmhiaaDoor.TabA Go.Proofs.YtahacmdhhfmhiaaDoor.TabB
def pad (b : List Nat) : List Nat := 0 :: 0 :: 0 :: 0 :: b
theorem pad_get (b : List Nat) (j : Nat) : (pad b).getD (4 + j) 0 = b.getD j 0 := by rw [Nat.add_comm]; rfl
theorem pad_bs {b : List Nat} (h : Bs b) : Bs (pad b) := by
 intro x hx
 simp only [pad, List.mem_cons] at hx
 rcases hx with rfl | rfl | rfl | rfl | hx
 ·decide
 ·decide
 ·decide
 ·decide
 ·exact h x hx
def v4 (b : List Nat) : Nat := CodecB.kOf (pad b) 4
theorem v4_eq (b : List Nat) : v4 b = b.getD 0 0 + 256 * b.getD 1 0 + 65536 * b.getD 2 0 + 16777216 * b.getD 3 0 := by
 unfold v4
 rw [CodecB.kOf4]
 rfl
noncomputable def p1 (b : List Nat) : List In × Int := CodecB.decoded ((b.drop 6).take (8 * b.getD 4 0))
noncomputable def p2 (b : List Nat) : List In × Int := CodecB.decoded (((b.drop 6).take (8 * b.getD 4 0 + 8 * b.getD 5 0)).drop (8 * b.getD 4 0))
noncomputable def decR (b : List Nat) : Option (Ru × List Nat) :=
 if b.length < 6 then none else if (b.drop 6).length < 8 * b.getD 4 0 + 8 * b.getD 5 0 then none
 else if (p1 b).2 = 0 ∧ (p2 b).2 = 0 then some (⟨(p1 b).1, (p2 b).1, (v4 b : Int)⟩, (b.drop 6).drop (8 * b.getD 4 0 + 8 * b.getD 5 0)) else none
abbrev Res := List In × List In × Int × List Int × Bool
def Fits (b : List Nat) (res : Res) : Prop := match decR b with
 | none => res.2.2.2.2 = false
 | some p => res = (p.1.f0, p.1.f1, p.1.f2, CodecB.I p.2, true)
theorem take_bs {b : List Nat} (h : Bs b) (n : Nat) : Bs (b.take n) := fun x hx => h x (List.mem_of_mem_take hx)
theorem drop_bs {b : List Nat} (h : Bs b) (n : Nat) : Bs (b.drop n) := fun x hx => h x (List.mem_of_mem_drop hx)
theorem I_take (l : List Nat) (n : Nat) : (CodecB.I l).take n = CodecB.I (l.take n) := by simp [CodecB.I, List.map_take]
theorem w8 (n : Nat) (h : n < 256) : wrap64 (8 * (wrap64 ((n : Nat) : Int))) = ((8 * n : Nat) : Int) := by
 rw [ChkB.w64s (x := (n : Int)) (by omega) (by omega), ChkB.w64s (by omega) (by omega)]
 omega
theorem w88 (n m : Nat) (h : n < 256) (g : m < 256) : wrap64 (((8 * n : Nat) : Int) + ((8 * m : Nat) : Int)) = ((8 * n + 8 * m : Nat) : Int) := by
 rw [ChkB.w64s (by omega) (by omega)]
 omega
theorem rule_last {b : List Nat} (hb : Bs b) (hl : b.length < 90000) (h6 : 6 ≤ b.length) (v : Int) (hv : v = (v4 b : Int)) : ∃ res : Res, Ev (fun k => table_rule.l0 k (CodecB.I b) 4 v) res ∧ Fits b res := by
 have hI := CodecB.I_length b
 have g4 := CodecB.bs_getD hb 4
 have g5 := CodecB.bs_getD hb 5
 have r4 : rd (CodecB.I b) 4 = ((b.getD 4 0 : Nat) : Int) := CodecB.I_rd b 4
 have r5 : rd (CodecB.I b) 5 = ((b.getD 5 0 : Nat) : Int) := CodecB.I_rd b 5
 have e4 : wrap64 (8 * (wrap64 (rd (CodecB.I b) 4))) = ((8 * b.getD 4 0 : Nat) : Int) := by rw [r4]; exact w8 _ g4
 have e5 : wrap64 (8 * (wrap64 (rd (CodecB.I b) 5))) = ((8 * b.getD 5 0 : Nat) : Int) := by rw [r5]; exact w8 _ g5
 have e6 : wrap64 (((8 * b.getD 4 0 : Nat) : Int) + ((8 * b.getD 5 0 : Nat) : Int)) = ((8 * b.getD 4 0 + 8 * b.getD 5 0 : Nat) : Int) := w88 _ _ g4 g5
 have hd : (CodecB.I (b.drop 6)).length = (b.drop 6).length := CodecB.I_length _
 have hd6 : (b.drop 6).length = b.length - 6 := List.length_drop
 unfold Fits decR
 rw [if_neg (by omega)]
 have head : ∀ {res : Res}, Ev (fun k => if ((CodecB.I (b.drop 6)).length : Int) < ((8 * b.getD 4 0 + 8 * b.getD 5 0 : Nat) : Int) then some (([] : List In), ([] : List In), (0 : Int), ([] : List Int), false) else (if 0 ≤ ((8 * b.getD 4 0 : Nat) : Int) then (if ((8 * b.getD 4 0 : Nat) : Int) ≤ ((CodecB.I (b.drop 6)).length : Int) then ((codec_Decode.f k ((CodecB.I (b.drop 6)).take (((8 * b.getD 4 0 : Nat) : Int)).toNat)).bind fun bt259 => (if ((8 * b.getD 4 0 : Nat) : Int) ≤ ((8 * b.getD 4 0 + 8 * b.getD 5 0 : Nat) : Int) then (if ((8 * b.getD 4 0 + 8 * b.getD 5 0 : Nat) : Int) ≤ ((CodecB.I (b.drop 6)).length : Int) then ((codec_Decode.f k (((CodecB.I (b.drop 6)).take (((8 * b.getD 4 0 + 8 * b.getD 5 0 : Nat) : Int)).toNat).drop (((8 * b.getD 4 0 : Nat) : Int)).toNat)).bind fun bt268 => (if 0 ≤ ((8 * b.getD 4 0 + 8 * b.getD 5 0 : Nat) : Int) then ((some ((CodecB.I (b.drop 6)).drop (((8 * b.getD 4 0 + 8 * b.getD 5 0 : Nat) : Int)).toNat : List Int)).bind fun y272 => (if bt259.2 = 0 then (some (bt259.1, bt268.1, v, y272, (bt268.2 == 0))) else (some (bt259.1, bt268.1, v, y272, false)))) else (none))) else (none)) else (none))) else (none)) else (none))) res → Ev (fun k => table_rule.l0 k (CodecB.I b) 4 v) res := fun h => by
  refine Ev.step (fun k => ?_) h
  rw [table_rule.l0, if_neg (by omega), if_pos (by omega), if_pos (by omega), if_pos (by omega), CodecB.I_drop, Option.bind_some, e4, e5, e6]
 by_cases hs : (b.drop 6).length < 8 * b.getD 4 0 + 8 * b.getD 5 0
 ·rw [if_pos hs]
  exact ⟨_, head (Ev.congr (fun k => if_pos (by omega)) (Ev.now _)), rfl⟩
 ·rw [if_neg hs]
  have d1 := CodecB.decode_is ((b.drop 6).take (8 * b.getD 4 0)) (take_bs (drop_bs hb 6) _) (by rw [List.length_take]; omega)
  have d2 := CodecB.decode_is (((b.drop 6).take (8 * b.getD 4 0 + 8 * b.getD 5 0)).drop (8 * b.getD 4 0)) (drop_bs (take_bs (drop_bs hb 6) _) _) (by rw [List.length_drop, List.length_take]; omega)
  have d1 : Ev (fun k => codec_Decode.f k ((CodecB.I (b.drop 6)).take (((8 * b.getD 4 0 : Nat) : Int)).toNat)) (p1 b) := by rw [Int.toNat_natCast, I_take]; exact d1
  have d2 : Ev (fun k => codec_Decode.f k (((CodecB.I (b.drop 6)).take (((8 * b.getD 4 0 + 8 * b.getD 5 0 : Nat) : Int)).toNat).drop (((8 * b.getD 4 0 : Nat) : Int)).toNat)) (p2 b) := by rw [Int.toNat_natCast, Int.toNat_natCast, I_take, CodecB.I_drop]; exact d2
  have body : ∀ {res : Res}, Ev (fun k => if (p1 b).2 = 0 then (some ((p1 b).1, (p2 b).1, v, (CodecB.I (b.drop 6)).drop (((8 * b.getD 4 0 + 8 * b.getD 5 0 : Nat) : Int)).toNat, ((p2 b).2 == 0))) else (some ((p1 b).1, (p2 b).1, v, (CodecB.I (b.drop 6)).drop (((8 * b.getD 4 0 + 8 * b.getD 5 0 : Nat) : Int)).toNat, false))) res → Ev (fun k => table_rule.l0 k (CodecB.I b) 4 v) res := fun h =>
   head (Ev.congr (fun k => (if_neg (by omega)).trans ((if_pos (by omega)).trans (if_pos (by omega)))) (Ev.bind d1 (Ev.congr (fun k => (if_pos (by omega)).trans (if_pos (by omega))) (Ev.bind d2 (Ev.congr (fun k => (if_pos (by omega)).trans (Option.bind_some _ _)) h)))))
  by_cases h1 : (p1 b).2 = 0
  ·by_cases h2 : (p2 b).2 = 0
   ·rw [if_pos ⟨h1, h2⟩]
    refine ⟨_, body (Ev.congr (fun k => if_pos h1) (Ev.now _)), ?_⟩
    show _ = _
    rw [Int.toNat_natCast, CodecB.I_drop, hv, h2]
    rfl
   ·rw [if_neg (fun h => h2 h.2)]
    refine ⟨_, body (Ev.congr (fun k => if_pos h1) (Ev.now _)), ?_⟩
    exact beq_eq_false_iff_ne.mpr h2
  ·rw [if_neg (fun h => h1 h.1)]
   exact ⟨_, body (Ev.congr (fun k => if_neg h1) (Ev.now _)), rfl⟩
theorem rule_from {b : List Nat} (hb : Bs b) (hl : b.length < 90000) (h6 : 6 ≤ b.length) : ∀ (d j : Nat), j + d = 4 → ∃ res : Res, Ev (fun k => table_rule.l0 k (CodecB.I b) (j : Int) (CodecB.kOf (pad b) j : Int)) res ∧ Fits b res := by
 have hI := CodecB.I_length b
 intro d
 induction d with
 | zero =>
  intro j hj
  obtain rfl : j = 4 := by omega
  exact rule_last hb hl h6 _ rfl
 | succ d ih =>
  intro j hj
  obtain ⟨res, e, f⟩ := ih (j + 1) (by omega)
  have ho := CodecB.or_k (pad_bs hb) j (by omega)
  rw [pad_get] at ho
  have w8 : wrap64 (8 * (j : Int)) = ((8 * j : Nat) : Int) := by unfold wrap64; omega
  refine ⟨res, Ev.step (fun k => ?_) e, f⟩
  rw [table_rule.l0, if_pos (by omega), if_pos (by omega), if_pos (by omega), w8, if_pos (by omega), CodecB.I_rd, ho, ChkB.wS j (by omega)]
theorem rule_is {b : List Nat} (hb : Bs b) (hl : b.length < 90000) : ∃ res : Res, Ev (fun k => table_rule.f k (CodecB.I b)) res ∧ Fits b res := by
 have hI := CodecB.I_length b
 by_cases h6 : b.length < 6
 ·refine ⟨([], [], 0, [], false), ?_, ?_⟩
  ·unfold table_rule.f
   exact Ev.congr (fun k => if_pos (by omega)) (Ev.now _)
  ·unfold Fits decR
   rw [if_pos h6]
 ·obtain ⟨res, e, f⟩ := rule_from hb hl (by omega) 4 0 (by omega)
  have e : Ev (fun k => table_rule.l0 k (CodecB.I b) 0 0) res := e
  refine ⟨res, ?_, f⟩
  unfold table_rule.f
  exact Ev.congr (fun k => if_neg (by omega)) e
theorem decoded_enc {a : List In} (ha : ∀ x ∈ a, CodecB.GoodI x) (hl : a.length ≤ 4096) : CodecB.decoded (CodecB.encL a) = (a, 0) := by
 unfold CodecB.decoded
 have e := CodecB.encL_len a
 rw [if_neg (by omega), if_pos (by omega), show (CodecB.encL a).length / 8 = a.length by omega, CodecB.decG_enc a [] ha, List.nil_append]
theorem decR_enc {x : Ru} (h : Wr x) (hm : may x = true) (r : List Nat) : decR (byt x ++ r) = some (x, r) := by
 obtain ⟨m0, m1, m2, m3⟩ := may_un hm
 obtain ⟨l0, g0⟩ := win_good h.w0 m0
 obtain ⟨l1, g1⟩ := win_good h.w1 m1
 have v0 := h.v0
 have v1 := h.v1
 have n0 := CodecB.encL_len x.f0
 have n1 := CodecB.encL_len x.f1
 obtain ⟨c, hc⟩ : ∃ c, c = x.f2.toNat := ⟨_, rfl⟩
 have hcx : (c : Int) = x.f2 := by omega
 have hb : byt x ++ r = (c % 256) :: (c / 256 % 256) :: (c / 65536 % 256) :: (c / 16777216 % 256) :: (x.f0.length % 256) :: (x.f1.length % 256) :: (CodecB.encL x.f0 ++ (CodecB.encL x.f1 ++ r)) := by
  unfold byt bytN CodecB.enc4
  rw [← hc]
  simp only [List.cons_append, List.nil_append, List.append_assoc]
 rw [hb]
 have q4 : x.f0.length % 256 = x.f0.length := Nat.mod_eq_of_lt (by omega)
 have q5 : x.f1.length % 256 = x.f1.length := Nat.mod_eq_of_lt (by omega)
 rw [q4, q5]
 obtain ⟨B, hB⟩ : ∃ B, B = (c % 256) :: (c / 256 % 256) :: (c / 65536 % 256) :: (c / 16777216 % 256) :: x.f0.length :: x.f1.length :: (CodecB.encL x.f0 ++ (CodecB.encL x.f1 ++ r)) := ⟨_, rfl⟩
 have e4 : B.getD 4 0 = x.f0.length := by rw [hB]; rfl
 have e5 : B.getD 5 0 = x.f1.length := by rw [hB]; rfl
 have ed : B.drop 6 = CodecB.encL x.f0 ++ (CodecB.encL x.f1 ++ r) := by rw [hB]; rfl
 have el : B.length = 6 + (B.drop 6).length := by rw [hB]; simp; omega
 have ev : v4 B = c := by
  rw [v4_eq, hB]
  show c % 256 + 256 * (c / 256 % 256) + 65536 * (c / 65536 % 256) + 16777216 * (c / 16777216 % 256) = c
  omega
 have t1 : p1 B = (x.f0, 0) := by
  unfold p1
  rw [e4, ed, ← n0, List.take_left, decoded_enc g0 (by omega)]
 have t2 : p2 B = (x.f1, 0) := by
  unfold p2
  rw [e4, e5, ed, ← n0, ← n1, ← List.append_assoc, show (CodecB.encL x.f0).length + (CodecB.encL x.f1).length = (CodecB.encL x.f0 ++ CodecB.encL x.f1).length from List.length_append.symm, List.take_left, List.drop_left, decoded_enc g1 (by omega)]
 rw [← hB]
 unfold decR
 rw [if_neg (by omega), if_neg (by rw [e4, e5, ed, List.length_append, List.length_append]; omega), if_pos ⟨by rw [t1], by rw [t2]⟩, t1, t2, ev, hcx, e4, e5, ed, ← n0, ← n1, ← List.append_assoc, show (CodecB.encL x.f0).length + (CodecB.encL x.f1).length = (CodecB.encL x.f0 ++ CodecB.encL x.f1).length from List.length_append.symm, List.drop_left]
theorem good_wf {y : In} (h : CodecB.GoodI y) : Q.wfIns y := by
 obtain ⟨i, a, b, c, hi, ho, e1, e2, e3, l1, l2, l3, _⟩ := h
 have := CodecB.op_small hi ho
 refine ⟨?_, ?_, ?_, ?_⟩
 ·simp [Lit.wf, IntKind.min, IntKind.max, IntKind.signed, IntKind.bits]; omega
 ·rw [e1]; simp [Lit.wf, IntKind.min, IntKind.max, IntKind.signed, IntKind.bits]; omega
 ·rw [e2]; simp [Lit.wf, IntKind.min, IntKind.max, IntKind.signed, IntKind.bits]; omega
 ·rw [e3]; simp [Lit.wf, IntKind.min, IntKind.max, IntKind.signed, IntKind.bits]; omega
theorem dec_zero {b : List Nat} (hb : Bs b) (h : (CodecB.decoded b).2 = 0) : 8 * (CodecB.decoded b).1.length = b.length ∧ (∀ x ∈ (CodecB.decoded b).1, CodecB.GoodI x) ∧ CodecB.encL (CodecB.decoded b).1 = b := by
 rcases CodecB.decoded_cases b hb with ⟨e, he, hne⟩ | ⟨g, he, h1, _, h3, h4⟩
 ·rw [he] at h; exact absurd h hne
 ·rw [he]; exact ⟨h1, h3, h4⟩
theorem six_of (b : List Nat) (h : 6 ≤ b.length) : ∃ b0 b1 b2 b3 b4 b5 s, b = b0 :: b1 :: b2 :: b3 :: b4 :: b5 :: s := by
 match b, h with
 | b0 :: b1 :: b2 :: b3 :: b4 :: b5 :: s, _ => exact ⟨_, _, _, _, _, _, _, rfl⟩
theorem decR_inv {b : List Nat} (hb : Bs b) {x : Ru} {r : List Nat} (h : decR b = some (x, r)) : b = byt x ++ r ∧ Wr x ∧ Bs r := by
 unfold decR at h
 split at h
 ·cases h
 rename_i h6
 split at h
 ·cases h
 rename_i hs
 split at h
 ·rename_i hz
  obtain ⟨z1, z2⟩ := hz
  simp only [Option.some.injEq, Prod.mk.injEq] at h
  obtain ⟨rfl, rfl⟩ := h
  have g4 := CodecB.bs_getD hb 4
  have g5 := CodecB.bs_getD hb 5
  obtain ⟨a1, a2, a3⟩ := dec_zero (take_bs (drop_bs hb 6) _) z1
  obtain ⟨c1, c2, c3⟩ := dec_zero (drop_bs (take_bs (drop_bs hb 6) _) _) z2
  have a1 : 8 * (p1 b).1.length = ((b.drop 6).take (8 * b.getD 4 0)).length := a1
  have c1 : 8 * (p2 b).1.length = (((b.drop 6).take (8 * b.getD 4 0 + 8 * b.getD 5 0)).drop (8 * b.getD 4 0)).length := c1
  have a3 : CodecB.encL (p1 b).1 = (b.drop 6).take (8 * b.getD 4 0) := a3
  have c3 : CodecB.encL (p2 b).1 = ((b.drop 6).take (8 * b.getD 4 0 + 8 * b.getD 5 0)).drop (8 * b.getD 4 0) := c3
  rw [List.length_take] at a1
  rw [List.length_drop, List.length_take] at c1
  have k4 : (p1 b).1.length = b.getD 4 0 := by omega
  have k5 : (p2 b).1.length = b.getD 5 0 := by omega
  have hv4 := v4_eq b
  have q0 := CodecB.bs_getD hb 0
  have q1 := CodecB.bs_getD hb 1
  have q2 := CodecB.bs_getD hb 2
  have q3 := CodecB.bs_getD hb 3
  refine ⟨?_, ⟨by show (p1 b).1.length < 100000; omega, by show (p2 b).1.length < 100000; omega, fun y hy => good_wf (a2 y hy), fun y hy => good_wf (c2 y hy), by show (0 : Int) ≤ (v4 b : Int); omega, by show (v4 b : Int) < 4294967296; omega⟩, drop_bs (drop_bs hb 6) _⟩
  show b = bytN (p1 b).1 (p2 b).1 ((v4 b : Nat) : Int).toNat ++ _
  unfold bytN
  rw [Int.toNat_natCast, k4, k5, a3, c3]
  have e : (b.drop 6).take (8 * b.getD 4 0) ++ ((b.drop 6).take (8 * b.getD 4 0 + 8 * b.getD 5 0)).drop (8 * b.getD 4 0) = (b.drop 6).take (8 * b.getD 4 0 + 8 * b.getD 5 0) := by
   have := List.take_append_drop (8 * b.getD 4 0) ((b.drop 6).take (8 * b.getD 4 0 + 8 * b.getD 5 0))
   rw [List.take_take, Nat.min_eq_left (by omega)] at this
   exact this
  rw [e, List.append_assoc, List.append_assoc, List.take_append_drop]
  obtain ⟨b0, b1, b2, b3, b4, b5, s, hbe⟩ := six_of b (by omega)
  rw [hbe] at hv4 q0 q1 q2 q3 g4 g5 ⊢
  have hv4 : v4 (b0 :: b1 :: b2 :: b3 :: b4 :: b5 :: s) = b0 + 256 * b1 + 65536 * b2 + 16777216 * b3 := hv4
  have q0 : b0 < 256 := q0
  have q1 : b1 < 256 := q1
  have q2 : b2 < 256 := q2
  have q3 : b3 < 256 := q3
  have g4 : b4 < 256 := g4
  have g5 : b5 < 256 := g5
  rw [hv4]
  show b0 :: b1 :: b2 :: b3 :: b4 :: b5 :: s = (b0 + 256 * b1 + 65536 * b2 + 16777216 * b3) % 256 :: (b0 + 256 * b1 + 65536 * b2 + 16777216 * b3) / 256 % 256 :: (b0 + 256 * b1 + 65536 * b2 + 16777216 * b3) / 65536 % 256 :: (b0 + 256 * b1 + 65536 * b2 + 16777216 * b3) / 16777216 % 256 :: b4 % 256 :: b5 % 256 :: s
  rw [show (b0 + 256 * b1 + 65536 * b2 + 16777216 * b3) % 256 = b0 by omega, show (b0 + 256 * b1 + 65536 * b2 + 16777216 * b3) / 256 % 256 = b1 by omega, show (b0 + 256 * b1 + 65536 * b2 + 16777216 * b3) / 65536 % 256 = b2 by omega, show (b0 + 256 * b1 + 65536 * b2 + 16777216 * b3) / 16777216 % 256 = b3 by omega, Nat.mod_eq_of_lt g4, Nat.mod_eq_of_lt g5]
 ·cases h
noncomputable def decT : Nat → List Nat → List Ru → List Ru × Int
 | 0, b, acc => if b.length = 0 ∧ rg acc = true then (acc, 0) else ([], 2)
 | n + 1, b, acc => match decR b with
  | none => ([], 2)
  | some p => decT n p.2 (acc ++ [p.1])
theorem decT_from : ∀ (n i : Nat) (b : List Nat) (acc : List Ru), i + n < 300 → acc.length = i → Bs b → b.length < 90000 → Wt acc → Ev (fun k => table_Decode.l0 k (CodecB.I b) acc ((i + n : Nat) : Int) (i : Int)) (decT n b acc) := by
 intro n
 induction n with
 | zero =>
  intro i b acc hn hi hb hl ha
  have hI := CodecB.I_length b
  rw [decT]
  refine Ev.step (fun k => by rw [table_Decode.l0, if_neg (by omega)]) ?_
  by_cases h0 : b.length = 0
  ·refine Ev.congr (fun k => if_neg (by omega)) (Ev.bind (right_is ha) ?_)
   cases hr : rg acc
   ·rw [if_neg (show ¬ (b.length = 0 ∧ false = true) from fun h => Bool.false_ne_true h.2)]
    exact Ev.congr (fun k => if_neg Bool.false_ne_true) (Ev.now _)
   ·rw [if_pos (show b.length = 0 ∧ true = true from ⟨h0, rfl⟩)]
    exact Ev.congr (fun k => if_pos rfl) (Ev.now _)
  ·rw [if_neg (show ¬ (b.length = 0 ∧ rg acc = true) from fun h => h0 h.1)]
   exact Ev.congr (fun k => if_pos (by omega)) (Ev.now _)
 | succ n ih =>
  intro i b acc hn hi hb hl ha
  obtain ⟨res, e, f⟩ := rule_is hb hl
  rw [decT]
  refine Ev.step (fun k => by rw [table_Decode.l0, if_pos (by omega)]) (Ev.bind e ?_)
  unfold Fits at f
  cases hd : decR b with
  | none =>
   rw [hd] at f
   have f : res.2.2.2.2 = false := f
   rw [f]
   exact Ev.congr (fun k => if_neg Bool.false_ne_true) (Ev.now _)
  | some p =>
   obtain ⟨x, r⟩ := p
   rw [hd] at f
   have f : res = (x.f0, x.f1, x.f2, CodecB.I r, true) := f
   obtain ⟨h1, h2, h3⟩ := decR_inv hb hd
   have hlr : r.length < 90000 := by
    have := congrArg List.length h1
    rw [List.length_append] at this
    omega
   have e2 := ih (i + 1) r (acc ++ [x]) (by omega) (by rw [List.length_append]; simp; omega) h3 hlr ⟨by rw [List.length_append]; simp; omega, fun y hy => (List.mem_append.1 hy).elim (ha.w y) (fun h => by rw [List.mem_singleton.1 h]; exact h2)⟩
   rw [show i + 1 + n = i + (n + 1) by omega] at e2
   rw [f]
   exact Ev.congr (fun k => (if_pos rfl).trans ((if_pos (by omega)).trans (by rw [ChkB.wS i (by omega)]))) e2
theorem decT_enc : ∀ (s acc : List Ru), (∀ x ∈ s, Wr x ∧ may x = true) → rg (acc ++ s) = true → decT s.length (encT s) acc = (acc ++ s, 0) := by
 intro s
 induction s with
 | nil =>
  intro acc _ hr
  rw [List.append_nil] at hr ⊢
  show (if (encT []).length = 0 ∧ rg acc = true then (acc, 0) else ([], 2)) = _
  rw [if_pos ⟨rfl, hr⟩]
 | cons x s ih =>
  intro acc hs hr
  obtain ⟨hw, hm⟩ := hs x List.mem_cons_self
  show (match decR (byt x ++ encT s) with | none => ([], 2) | some p => decT s.length p.2 (acc ++ [p.1])) = _
  rw [decR_enc hw hm]
  show decT s.length (encT s) (acc ++ [x]) = _
  rw [ih (acc ++ [x]) (fun y hy => hs y (List.mem_cons_of_mem _ hy)) (by rw [List.append_assoc]; exact hr), List.append_assoc]
  rfl
theorem decT_inv : ∀ (n : Nat) (b : List Nat) (acc u : List Ru), Bs b → Wt acc → acc.length + n < 300 → decT n b acc = (u, 0) → ∃ s, u = acc ++ s ∧ s.length = n ∧ b = encT s ∧ rg u = true ∧ Wt u := by
 intro n
 induction n with
 | zero =>
  intro b acc u hb ha hn h
  rw [decT] at h
  split at h
  ·rename_i hc
   simp only [Prod.mk.injEq, and_true] at h
   subst h
   exact ⟨[], by simp, rfl, List.eq_nil_of_length_eq_zero hc.1, hc.2, ha⟩
  ·simp at h
 | succ n ih =>
  intro b acc u hb ha hn h
  rw [decT] at h
  cases hd : decR b with
  | none => rw [hd] at h; simp at h
  | some p =>
   obtain ⟨x, r⟩ := p
   rw [hd] at h
   obtain ⟨h1, h2, h3⟩ := decR_inv hb hd
   obtain ⟨s, g1, g2, g3, g4, g5⟩ := ih r (acc ++ [x]) u h3 ⟨by rw [List.length_append]; simp; omega, fun y hy => (List.mem_append.1 hy).elim (ha.w y) (fun h => by rw [List.mem_singleton.1 h]; exact h2)⟩ (by rw [List.length_append]; simp; omega) h
   refine ⟨x :: s, by rw [g1, List.append_assoc]; rfl, by rw [List.length_cons, g2], ?_, g4, g5⟩
   rw [h1, g3]
   rfl
theorem decT_no : ∀ (n : Nat) (b : List Nat) (acc : List Ru), (decT n b acc).2 ≠ 0 → (decT n b acc).1 = [] := by
 intro n
 induction n with
 | zero => intro b acc; rw [decT]; split <;> simp
 | succ n ih =>
  intro b acc
  rw [decT]
  cases decR b with
  | none => simp
  | some p => exact ih _ _
noncomputable def decTab (l : List Nat) : List Ru × Int :=
 if (CrcB.opened l).2 = 0 then
  if (CrcB.opened l).1.length ≤ 4 then ([], 2) else if (CrcB.opened l).1.take 4 = [72, 82, 84, 49] then decT ((CrcB.opened l).1.getD 4 0) ((CrcB.opened l).1.drop 5) [] else ([], 2)
 else ([], ((CrcB.opened l).2 : Int))
theorem map_inj : ∀ {a b : List Nat}, Bs a → Bs b → a.map UInt8.ofNat = b.map UInt8.ofNat → a = b
 | [], [], _, _, _ => rfl
 | [], _ :: _, _, _, h => by cases h
 | _ :: _, [], _, _, h => by cases h
 | x :: a, y :: b, ha, hb, h => by
  simp only [List.map_cons, List.cons.injEq] at h
  have hx := ha x List.mem_cons_self
  have hy := hb y List.mem_cons_self
  have e := congrArg UInt8.toNat h.1
  simp at e
  rw [show x = y by omega, map_inj (fun z hz => ha z (List.mem_cons_of_mem _ hz)) (fun z hz => hb z (List.mem_cons_of_mem _ hz)) h.2]
theorem opened_bs {l : List Nat} (hb : Bs l) : Bs (CrcB.opened l).1 ∧ (CrcB.opened l).1.length ≤ l.length := by
 unfold CrcB.opened
 split
 ·exact ⟨fun x hx => by simp at hx, by simp⟩
 ·split
  ·exact ⟨take_bs hb _, by rw [List.length_take]; omega⟩
  ·exact ⟨fun x hx => by simp at hx, by simp⟩
theorem decode_is {l : List Nat} (hb : Bs l) (hl : l.length < 90000) : Ev (fun k => table_Decode.f k (CodecB.I l)) (decTab l) := by
 have ho : Ev (fun k => crc_Open.f k (CodecB.I l)) (CodecB.I (CrcB.opened l).1, ((CrcB.opened l).2 : Int)) := CrcB.open_is l hb (by omega)
 obtain ⟨xb, xl⟩ := opened_bs hb
 unfold table_Decode.f decTab
 refine Ev.bind ho ?_
 by_cases h0 : (CrcB.opened l).2 = 0
 ·rw [if_pos h0]
  refine Ev.congr (fun k => if_pos (show ((CrcB.opened l).2 : Int) = 0 by omega)) ?_
  generalize (CrcB.opened l).1 = x at xb xl ⊢
  have hI := CodecB.I_length x
  have no : Ev (fun k => table_Decode.j0 k (CodecB.I x) true) ([], 2) := Ev.step (f := fun _ => some ([], 2)) (fun k => by rw [table_Decode.j0, if_pos rfl]) (Ev.now _)
  by_cases h4 : x.length ≤ 4
  ·rw [if_pos h4]
   exact Ev.congr (fun k => if_pos (show ((CodecB.I x).length : Int) ≤ 4 by omega)) no
  ·rw [if_neg h4]
   refine Ev.congr (fun k => (if_neg (show ¬ ((CodecB.I x).length : Int) ≤ 4 by omega)).trans (if_pos (show (4 : Int) ≤ ((CodecB.I x).length : Int) by omega))) ?_
   have hm : ((strOfNums ((CodecB.I x).take 4)).toList != ([72, 82, 84, 49] : List UInt8)) = !decide (x.take 4 = [72, 82, 84, 49]) := by
    rw [I_take, CodecB.I_str, ByteArray.toList_eq]
    show ((x.take 4).map UInt8.ofNat != ([72, 82, 84, 49] : List Nat).map UInt8.ofNat) = _
    by_cases h : x.take 4 = [72, 82, 84, 49]
    ·rw [h]; rfl
    ·rw [decide_eq_false h]
     exact bne_iff_ne.mpr fun e => h (map_inj (take_bs xb 4) (fun z hz => by simp at hz; omega) e)
   rw [hm]
   by_cases h : x.take 4 = [72, 82, 84, 49]
   ·rw [if_pos h, decide_eq_true h]
    have hx4 := CodecB.bs_getD xb 4
    have e := decT_from (x.getD 4 0) 0 (x.drop 5) [] (by omega) rfl (drop_bs xb 5) (by rw [List.length_drop]; omega) ⟨by simp, fun y hy => by simp at hy⟩
    rw [Nat.zero_add, ← CodecB.I_drop] at e
    have r4 : wrap64 (rd (CodecB.I x) 4) = ((x.getD 4 0 : Nat) : Int) := by
     rw [show rd (CodecB.I x) 4 = ((x.getD 4 0 : Nat) : Int) from CodecB.I_rd x 4]
     unfold wrap64
     omega
    have e : Ev (fun k => table_Decode.l0 k ((CodecB.I x).drop (5 : Int).toNat) [] (wrap64 (rd (CodecB.I x) 4)) 0) (decT (x.getD 4 0) (x.drop 5) []) := by rw [r4]; exact e
    exact Ev.step (fun k => by rw [table_Decode.j0, if_neg (by decide), if_pos (show (4 : Int) < ((CodecB.I x).length : Int) by omega), if_pos (show (5 : Int) ≤ ((CodecB.I x).length : Int) by omega)]) e
   ·rw [if_neg h, decide_eq_false h]
    exact no
 ·rw [if_neg h0]
  exact Ev.congr (fun k => if_neg (show ¬ ((CrcB.opened l).2 : Int) = 0 by omega)) (Ev.now _)
theorem opened_seal (x : List Nat) : CrcB.opened (x ++ CrcPlain.four (CrcPlain.crc x)) = (x, 0) := by
 unfold CrcB.opened
 have h4 : (x ++ CrcPlain.four (CrcPlain.crc x)).length = x.length + 4 := by rw [List.length_append]; rfl
 rw [if_neg (by omega), h4, Nat.add_sub_cancel, List.take_left, if_pos rfl]
theorem opened_inv {l : List Nat} (h : (CrcB.opened l).2 = 0) : l = (CrcB.opened l).1 ++ CrcPlain.four (CrcPlain.crc (CrcB.opened l).1) := by
 unfold CrcB.opened at h ⊢
 split at h
 ·cases h
 ·split at h
  ·rename_i h1 h2
   rw [if_neg h1, if_pos h2]
   exact h2.symm
  ·cases h
theorem tab_read {t : List Ru} (h : Wt t) (hr : rg t = true) : decTab (tabN t) = (t, 0) := by
 obtain ⟨h64, hm⟩ := rg_may hr
 unfold decTab tabN
 rw [opened_seal]
 have q : t.length % 256 = t.length := Nat.mod_eq_of_lt (by omega)
 have e : headT t ++ encT t = 72 :: 82 :: 84 :: 49 :: t.length :: encT t := by unfold headT; rw [q]; rfl
 rw [if_pos rfl, e]
 rw [if_neg (by simp)]
 show (if ([72, 82, 84, 49] : List Nat) = [72, 82, 84, 49] then decT t.length (encT t) [] else ([], 2)) = (t, 0)
 rw [if_pos rfl]
 rw [decT_enc t [] (fun x hx => ⟨h.w x hx, hm x hx⟩) (by rw [List.nil_append]; exact hr), List.nil_append]
theorem tab_back {l : List Nat} (hb : Bs l) {u : List Ru} (h : decTab l = (u, 0)) : tabN u = l ∧ rg u = true ∧ Wt u := by
 unfold decTab at h
 split at h
 ·rename_i h0
  obtain ⟨xb, _⟩ := opened_bs hb
  have hl := opened_inv h0
  split at h
  ·simp at h
  ·rename_i h4
   split at h
   ·rename_i hm
    have hx4 := CodecB.bs_getD xb 4
    obtain ⟨s, g1, g2, g3, g4, g5⟩ := decT_inv _ _ _ _ (drop_bs xb 5) ⟨by simp, fun y hy => by simp at hy⟩ (show ([] : List Ru).length + (CrcB.opened l).1.getD 4 0 < 300 by rw [List.length_nil]; omega) h
    rw [List.nil_append] at g1
    subst g1
    refine ⟨?_, g4, g5⟩
    have e : headT u ++ encT u = (CrcB.opened l).1 := by
     rw [← g3]
     unfold headT
     rw [g2, Nat.mod_eq_of_lt hx4]
     generalize (CrcB.opened l).1 = x at *
     match x, h4, hm with
     | x0 :: x1 :: x2 :: x3 :: x4 :: r, _, hm =>
      simp at hm
      obtain ⟨rfl, rfl, rfl, rfl⟩ := hm
      rfl
     | [], h4, _ => simp at h4
     | [_], h4, _ => simp at h4
     | [_, _], h4, _ => simp at h4
     | [_, _, _], h4, _ => simp at h4
     | [_, _, _, _], h4, _ => simp at h4
    unfold tabN
    rw [e]
    exact hl.symm
   ·simp at h
 ·rename_i h0
  simp only [Prod.mk.injEq] at h
  omega
theorem tab_no {l : List Nat} (h : (decTab l).2 ≠ 0) : (decTab l).1 = [] := by
 unfold decTab at h ⊢
 split
 ·rename_i h0
  rw [if_pos h0] at h
  split
  ·rfl
  ·rename_i h4
   rw [if_neg h4] at h
   split
   ·rename_i hm
    rw [if_pos hm] at h
    exact decT_no _ _ _ h
   ·rfl
 ·rfl
theorem same_from (t : List Ru) (h : Wt t) : ∀ (d i : Nat), i + d = t.length → Ev (fun k => r21_Same.l0 k (t.map toR) (t.map toR) (i : Int)) true := by
 have hlen : (t.map toR).length = t.length := List.length_map ..
 have hn := h.n
 intro d
 induction d with
 | zero => intro i hi; exact Ev.step (f := fun _ => some true) (fun k => by rw [r21_Same.l0, if_neg (by omega)]) (Ev.now _)
 | succ d ih =>
  intro i hi
  have hil : i < t.length := by omega
  have hw := h.w _ (List.getElem_mem hil)
  have s0 : Ev (fun k => r03_Same.f k (toR t[i]).f0 (toR t[i]).f0) true := CodecB.same_is _ hw.l0
  have s1 : Ev (fun k => r03_Same.f k (toR t[i]).f1 (toR t[i]).f1) true := CodecB.same_is _ hw.l1
  refine Ev.step (fun k => by rw [r21_Same.l0, if_pos (by omega), if_pos (by omega), if_pos (by omega), if_pos rfl, rd_rr t i hil]) (Ev.bind s0 (Ev.congr (fun k => if_pos rfl) (Ev.bind s1 (Ev.congr (fun k => if_pos rfl) ?_))))
  rw [ChkB.wS i (by omega)]
  exact ih (i + 1) (by omega)
theorem same_is (t : List Ru) (h : Wt t) : Ev (fun k => r21_Same.f k (t.map toR) (t.map toR)) true := by
 unfold r21_Same.f
 exact Ev.congr (fun k => if_pos rfl) (same_from t h t.length 0 (by omega))
end Go.Proofs.YtahacmdhhfmhiaaDoor.TabD
/- The document's examples of tables hold. No condition. -/
namespace Go.Proofs.YtahacmdhhfmhiaaDoor.TabK
open Go.RowKit Go.Proofs.YtahacmdhhfmhiaaDoorW.PrintWords Go.Proofs.YtahacmdhhfmhiaaDoorW.PrintLast Go.Proofs.YtahacmdhhfmhiaaDoorW.PrintMore Go.Proofs.YtahacmdhhfmhiaaDoor.M
theorem knows_is : Ev (fun k => l21_knows.f k) true := Ev.of l21_knows.mono (k := 80) (by decide +kernel)
end Go.Proofs.YtahacmdhhfmhiaaDoor.TabK
/- A table with one rule more, by the program's function: the rules in their one order. No condition but sizes far beyond the laws'. -/
namespace Go.Proofs.YtahacmdhhfmhiaaDoor.TabL
set_option linter.unusedVariables false
set_option linter.unusedSimpArgs false
open Go.RowKit Go.Proofs.YtahacmdhhfmhiaaDoorW.PrintWords Go.Proofs.YtahacmdhhfmhiaaDoorW.PrintLast Go.Proofs.YtahacmdhhfmhiaaDoorW.PrintMore Go.Proofs.YtahacmdhhfmhiaaDoor.M Go.Proofs.YtahacmdhhfmhiaaDoor.InsOps Go.Proofs.YtahacmdhhfmhiaaDoor.RightB Go.Proofs.YtahacmdhhfmhiaaDoor.Hex Go.Proofs.YtahacmdhhfmhiaaDoor.TabA Go.Proofs.YtahacmdhhfmhiaaDoor.TabB Go.Proofs.YtahacmdhhfmhiaaDoor.TabD
theorem lessN_irrefl : ∀ a : List Nat, lessN a a = false
 | [] => rfl
 | x :: a => by rw [lessN, if_pos rfl]; exact lessN_irrefl a
theorem lessN_trans : ∀ (a b c : List Nat), lessN a b = true → lessN b c = true → lessN a c = true
 | _, _, [], _, h => by rw [lessN_nil] at h; cases h
 | _, [], _ :: _, h, _ => by rw [lessN_nil] at h; cases h
 | [], _ :: _, _ :: _, _, _ => rfl
 | x :: a, y :: b, z :: c, h1, h2 => by
  rw [lessN] at h1 h2 ⊢
  by_cases e1 : x = y
  ·subst e1
   rw [if_pos rfl] at h1
   by_cases e2 : x = z
   ·subst e2
    rw [if_pos rfl] at h2 ⊢
    exact lessN_trans a b c h1 h2
   ·rw [if_neg e2] at h2 ⊢
    exact h2
  ·rw [if_neg e1, decide_eq_true_eq] at h1
   by_cases e2 : y = z
   ·subst e2
    rw [if_neg e1]
    exact decide_eq_true h1
   ·rw [if_neg e2, decide_eq_true_eq] at h2
    rw [if_neg (by omega)]
    exact decide_eq_true (by omega)
theorem lessN_total : ∀ (a b : List Nat), lessN a b = false → a ≠ b → lessN b a = true
 | [], [], _, h => absurd rfl h
 | [], _ :: _, h, _ => by rw [lessN] at h; cases h
 | _ :: _, [], _, _ => rfl
 | x :: a, y :: b, h, hne => by
  rw [lessN] at h ⊢
  by_cases e : x = y
  ·subst e
   rw [if_pos rfl] at h ⊢
   exact lessN_total a b h (fun e => hne (by rw [e]))
  ·rw [if_neg e, decide_eq_false_iff_not] at h
   rw [if_neg (fun h => e h.symm)]
   exact decide_eq_true (by omega)
def plN : List Ru → Ru → Nat × Bool
 | [], _ => (0, false)
 | y :: r, x => if lessN (byt y) (byt x) = true then ((plN r x).1 + 1, (plN r x).2) else (0, decide (byt y = byt x))
theorem plN_le (t : List Ru) (x : Ru) : (plN t x).1 ≤ t.length := by
 induction t with
 | nil => exact Nat.le_refl _
 | cons y r ih =>
  rw [plN]
  split
  ·show (plN r x).1 + 1 ≤ r.length + 1
   omega
  ·exact Nat.zero_le _
theorem str_eq {a b : List Nat} (ha : Bs a) (hb : Bs b) : ((str a).toList == (str b).toList) = decide (a = b) := by
 rw [ByteArray.toList_eq, ByteArray.toList_eq]
 show (a.map UInt8.ofNat == b.map UInt8.ofNat) = _
 by_cases h : a = b
 ·subst h
  simp
 ·rw [decide_eq_false h]
  exact beq_eq_false_iff_ne.mpr fun e => h (map_inj ha hb e)
section
variable {t : List Ru} (h : Wt t) (hm : ∀ x ∈ t, may x = true) {x : Ru} (hx : Wr x) (mx : may x = true)
include h hm hx mx
theorem place_from : ∀ (d i : Nat), i + d = t.length → Ev (fun k => table_place.l0 k t t (t.length : Int) (i : Int) x.f0 x.f1 x.f2) (((i + (plN (t.drop i) x).1 : Nat) : Int), (plN (t.drop i) x).2) := by
 have hn := h.n
 intro d
 induction d with
 | zero =>
  intro i hi
  rw [List.drop_of_length_le (by omega)]
  refine Ev.step (f := fun _ => some ((t.length : Int), false)) (fun k => by rw [table_place.l0, if_neg (by omega)]) ?_
  rw [show ((i + (plN [] x).1 : Nat) : Int) = (t.length : Int) by show ((i + 0 : Nat) : Int) = _; omega]
  exact Ev.now _
 | succ d ih =>
  intro i hi
  have hil : i < t.length := by omega
  have hw := h.w _ (List.getElem_mem hil)
  have hmi := hm _ (List.getElem_mem hil)
  rw [List.drop_eq_getElem_cons hil, plN]
  refine Ev.step (fun k => by rw [table_place.l0, if_pos (by omega), if_pos (by omega), if_pos (by omega), rd_ru t i hil]) (Ev.bind (bytes_ru hw hmi) (Ev.bind (bytes_ru hx mx) ?_))
  rw [bless_str (byt_bs_ru hw hmi) (byt_bs_ru hx mx)]
  cases hlt : lessN (byt t[i]) (byt x)
  ·rw [if_neg Bool.false_ne_true]
   refine Ev.congr (fun k => if_neg Bool.false_ne_true) (Ev.bind (bytes_ru hw hmi) (Ev.bind (bytes_ru hx mx) ?_))
   rw [str_eq (byt_bs_ru hw hmi) (byt_bs_ru hx mx)]
   exact Ev.now _
  ·rw [if_pos rfl]
   have e := ih (i + 1) (by omega)
   rw [show i + 1 + (plN (t.drop (i + 1)) x).1 = i + ((plN (t.drop (i + 1)) x).1 + 1) by omega] at e
   exact Ev.congr (fun k => (if_pos rfl).trans (by rw [ChkB.wS i (by omega)])) e
theorem place_is : Ev (fun k => table_place.f k t x.f0 x.f1 x.f2) (((plN t x).1 : Int), (plN t x).2) := by
 have e := place_from h hm hx mx t.length 0 (by omega)
 rw [List.drop_zero, Nat.zero_add] at e
 exact e
end
theorem own_is {x : Ru} (h : Wr x) : table_own.f x.f0 x.f1 x.f2 = some (x.f0, x.f1, x.f2) := by
 have h0 := h.l0
 have h1 := h.l1
 unfold table_own.f
 rw [Option.bind_some, if_pos (show ([] : List In).length + x.f0.length < 4398046511104 by rw [List.length_nil]; omega), Option.bind_some, if_pos (show ([] : List In).length + x.f1.length < 4398046511104 by rw [List.length_nil]; omega), List.nil_append, List.nil_append]
theorem learn_l1 {s : List Ru} (h : Wt s) : ∀ (d i : Nat) (acc : List Ru), i + d = s.length → acc.length < 1000000 + i → Ev (fun k => table_Learn.l1 k acc s (s.length : Int) (i : Int)) (acc ++ s.drop i, 0) := by
 have hn := h.n
 intro d
 induction d with
 | zero =>
  intro i acc hi ha
  rw [List.drop_of_length_le (by omega), List.append_nil]
  exact Ev.step (f := fun _ => some (acc, 0)) (fun k => by rw [table_Learn.l1, if_neg (by omega)]) (Ev.now _)
 | succ d ih =>
  intro i acc hi ha
  have hil : i < s.length := by omega
  have hw := h.w _ (List.getElem_mem hil)
  have e := ih (i + 1) (acc ++ [s[i]]) (by omega) (by rw [List.length_append]; simp; omega)
  rw [List.append_assoc] at e
  rw [List.drop_eq_getElem_cons hil]
  refine Ev.step (fun k => ?_) e
  rw [table_Learn.l1, if_pos (by omega), if_pos (by omega), if_pos (by omega), rd_ru s i hil, own_is hw, Option.bind_some, if_pos (by omega), ChkB.wS i (by omega)]
theorem learn_l0 {t s : List Ru} (h : Wt s) {p : Nat} (hp : p ≤ t.length) (ht : Wt (t.drop p)) {x : Ru} (hx : Wr x) : ∀ (d i : Nat) (acc : List Ru), i + d = s.length → acc.length = i → Ev (fun k => table_Learn.l0 k t (p : Int) acc s (s.length : Int) (i : Int) x.f0 x.f1 x.f2) ((acc ++ s.drop i) ++ x :: t.drop p, 0) := by
 have hn := h.n
 intro d
 induction d with
 | zero =>
  intro i acc hi ha
  rw [List.drop_of_length_le (l := s) (by omega), List.append_nil]
  have e := learn_l1 ht (t.drop p).length 0 (acc ++ [x]) (by omega) (by rw [List.length_append]; simp; omega)
  rw [List.drop_zero, List.append_assoc] at e
  have e : Ev (fun k => table_Learn.l1 k (acc ++ [x]) (t.drop p) ((t.drop p).length : Int) 0) (acc ++ x :: t.drop p, 0) := e
  refine Ev.step (fun k => ?_) e
  rw [table_Learn.l0, if_neg (by omega), own_is hx, Option.bind_some, if_pos (by omega), if_pos (by omega), if_pos (by omega), Option.bind_some, Int.toNat_natCast]
 | succ d ih =>
  intro i acc hi ha
  have hil : i < s.length := by omega
  have hw := h.w _ (List.getElem_mem hil)
  have e := ih (i + 1) (acc ++ [s[i]]) (by omega) (by rw [List.length_append]; simp; omega)
  rw [List.append_assoc acc [s[i]] (s.drop (i + 1))] at e
  rw [List.drop_eq_getElem_cons hil]
  refine Ev.step (fun k => ?_) e
  rw [table_Learn.l0, if_pos (by omega), if_pos (by omega), if_pos (by omega), rd_ru s i hil, own_is hw, Option.bind_some, if_pos (by omega), ChkB.wS i (by omega)]
def ins : List Ru → Ru → List Ru
 | [], x => [x]
 | y :: r, x => if lessN (byt y) (byt x) = true then y :: ins r x else if byt y = byt x then y :: r else x :: y :: r
def insN (t : List Ru) (x : Ru) : List Ru := if (plN t x).2 = true then t else t.take (plN t x).1 ++ x :: t.drop (plN t x).1
theorem insN_ins (t : List Ru) (x : Ru) : insN t x = ins t x := by
 induction t with
 | nil => rfl
 | cons y r ih =>
  unfold insN at ih ⊢
  rw [plN, ins]
  by_cases h : lessN (byt y) (byt x) = true
  ·rw [if_pos h, if_pos h]
   show (if (plN r x).2 = true then y :: r else (y :: r).take ((plN r x).1 + 1) ++ x :: (y :: r).drop ((plN r x).1 + 1)) = y :: ins r x
   rw [← ih]
   split
   ·rfl
   ·rfl
  ·rw [if_neg h, if_neg h]
   by_cases e : byt y = byt x
   ·rw [if_pos e]
    show (if decide (byt y = byt x) = true then y :: r else _) = _
    rw [if_pos (decide_eq_true e)]
   ·rw [if_neg e]
    show (if decide (byt y = byt x) = true then y :: r else _) = _
    rw [if_neg (by simp [e])]
    rfl
theorem wt_sub {s t : List Ru} (h : Wt t) (hl : s.length ≤ t.length) (hs : ∀ x ∈ s, x ∈ t) : Wt s := ⟨by have := h.n; omega, fun x hx => h.w x (hs x hx)⟩
theorem learn_is {t : List Ru} (h : Wt t) (hr : rg t = true) (hl : t.length < 64) {x : Ru} (hx : Wr x) (mx : may x = true) : Ev (fun k => table_Learn.f k t x.f0 x.f1 x.f2) (ins t x, 0) := by
 obtain ⟨_, hm⟩ := rg_may hr
 have hp := plN_le t x
 rw [← insN_ins]
 unfold table_Learn.f
 refine Ev.bind (right_is h) ?_
 rw [hr]
 have e1 : Ev (fun k => table_Rule_right.f k x.f0 x.f1 x.f2) (may x) := right_is_ hx.l0 hx.l1 hx.w0 hx.w1 x.f2
 rw [mx] at e1
 refine Ev.congr (fun k => if_pos rfl) (Ev.bind e1 ?_)
 refine Ev.step (fun k => by rw [table_Learn.j0, if_neg (by decide)]) (Ev.bind (place_is h hm hx mx) ?_)
 unfold insN
 cases hb : (plN t x).2
 ·rw [if_neg Bool.false_ne_true]
  have hwt : Wt (t.take (plN t x).1) := wt_sub h (by rw [List.length_take]; omega) (fun y hy => List.mem_of_mem_take hy)
  have hwd : Wt (t.drop (plN t x).1) := wt_sub h (by rw [List.length_drop]; omega) (fun y hy => List.mem_of_mem_drop hy)
  have e := learn_l0 (t := t) hwt hp hwd hx (t.take (plN t x).1).length 0 [] (by omega) rfl
  rw [List.drop_zero, List.nil_append] at e
  have e : Ev (fun k => table_Learn.l0 k t ((plN t x).1 : Int) [] (t.take (plN t x).1) ((t.take (plN t x).1).length : Int) 0 x.f0 x.f1 x.f2) (t.take (plN t x).1 ++ x :: t.drop (plN t x).1, 0) := e
  refine Ev.congr (fun k => (if_neg Bool.false_ne_true).trans ((if_neg (by omega)).trans ((if_pos (by omega)).trans ((if_pos (by omega)).trans (by rw [Option.bind_some, Int.toNat_natCast]))))) e
 ·rw [if_pos rfl]
  exact Ev.congr (fun k => if_pos rfl) (Ev.now _)
def Up : List Ru → Prop
 | [] => True
 | x :: r => (∀ y ∈ r, lessN (byt x) (byt y) = true) ∧ Up r
theorem rgF_up {t : List Ru} : ∀ (d i : Nat), i + d = t.length → rgF t i d = true → Up (t.drop i) ∧ (0 < i → ∀ y ∈ t.drop i, lessN (byt (t.getD (i - 1) z42)) (byt y) = true) := by
 intro d
 induction d with
 | zero =>
  intro i hi _
  rw [List.drop_of_length_le (by omega)]
  exact ⟨trivial, fun _ y hy => by simp at hy⟩
 | succ d ih =>
  intro i hi hr
  have hil : i < t.length := by omega
  rw [rgF, getD_ru t i hil, Bool.and_eq_true, Bool.and_eq_true] at hr
  obtain ⟨h1, h2⟩ := ih (i + 1) (by omega) hr.2.2
  have h2 := h2 (by omega)
  rw [Nat.add_sub_cancel, getD_ru t i hil] at h2
  rw [List.drop_eq_getElem_cons hil]
  refine ⟨⟨h2, h1⟩, fun h0 y hy => ?_⟩
  have hb : lessN (byt (t.getD (i - 1) z42)) (byt t[i]) = true := by
   have := hr.2.1
   rw [Bool.or_eq_true, beq_iff_eq] at this
   rcases this with e | e
   ·omega
   ·exact e
  rcases List.mem_cons.1 hy with rfl | hy
  ·exact hb
  ·exact lessN_trans _ _ _ hb (h2 y hy)
theorem up_rgF {t : List Ru} (hm : ∀ x ∈ t, may x = true) : ∀ (d i : Nat), i + d = t.length → Up (t.drop i) → (0 < i → ∀ y ∈ t.drop i, lessN (byt (t.getD (i - 1) z42)) (byt y) = true) → rgF t i d = true := by
 intro d
 induction d with
 | zero => intro i _ _ _; rfl
 | succ d ih =>
  intro i hi hu hb
  have hil : i < t.length := by omega
  rw [List.drop_eq_getElem_cons hil] at hu hb
  rw [rgF, getD_ru t i hil, hm _ (List.getElem_mem hil), Bool.true_and, ih (i + 1) (by omega) hu.2 (fun _ => by rw [Nat.add_sub_cancel, getD_ru t i hil]; exact hu.1), Bool.and_true, Bool.or_eq_true, beq_iff_eq]
  by_cases h0 : i = 0
  ·exact .inl h0
  ·exact .inr (hb (by omega) _ List.mem_cons_self)
theorem rg_iff (t : List Ru) : rg t = true ↔ (∀ x ∈ t, may x = true) ∧ Up t ∧ t.length ≤ 64 := by
 constructor
 ·intro h
  obtain ⟨h1, h2⟩ := rg_may h
  refine ⟨h2, ?_, h1⟩
  unfold rg at h
  rw [Bool.and_eq_true] at h
  have := (rgF_up t.length 0 (by omega) h.1).1
  rw [List.drop_zero] at this
  exact this
 ·rintro ⟨h1, h2, h3⟩
  unfold rg
  rw [up_rgF h1 t.length 0 (by omega) (by rw [List.drop_zero]; exact h2) (fun h => by omega), decide_eq_true h3]
  rfl
theorem mem_ins {t : List Ru} {x z : Ru} (h : z ∈ ins t x) : z ∈ t ∨ z = x := by
 induction t with
 | nil => exact .inr (by simpa [ins] using h)
 | cons y r ih =>
  rw [ins] at h
  split at h
  ·rcases List.mem_cons.1 h with rfl | h
   ·exact .inl List.mem_cons_self
   ·exact (ih h).imp (List.mem_cons_of_mem _) id
  ·split at h
   ·exact .inl h
   ·rcases List.mem_cons.1 h with rfl | h
    ·exact .inr rfl
    ·exact .inl h
theorem ins_mem {t : List Ru} {x z : Ru} (h : z ∈ t) : z ∈ ins t x := by
 induction t with
 | nil => cases h
 | cons y r ih =>
  rw [ins]
  split
  ·rcases List.mem_cons.1 h with rfl | h
   ·exact List.mem_cons_self
   ·exact List.mem_cons_of_mem _ (ih h)
  ·split
   ·exact h
   ·exact List.mem_cons_of_mem _ h
theorem ins_self (t : List Ru) (x : Ru) : x ∈ ins t x ∨ ∃ y ∈ t, byt y = byt x := by
 induction t with
 | nil => exact .inl (by simp [ins])
 | cons y r ih =>
  rw [ins]
  split
  ·rcases ih with h | ⟨z, hz, e⟩
   ·exact .inl (List.mem_cons_of_mem _ h)
   ·exact .inr ⟨z, List.mem_cons_of_mem _ hz, e⟩
  ·split
   ·rename_i e
    exact .inr ⟨y, List.mem_cons_self, e⟩
   ·exact .inl List.mem_cons_self
theorem up_ins {t : List Ru} (x : Ru) (h : Up t) : Up (ins t x) := by
 induction t with
 | nil => exact ⟨fun y hy => by simp at hy, trivial⟩
 | cons y r ih =>
  rw [ins]
  split
  ·rename_i hl
   refine ⟨fun z hz => ?_, ih h.2⟩
   rcases mem_ins hz with hz | rfl
   ·exact h.1 z hz
   ·exact hl
  ·rename_i hl
   split
   ·exact h
   ·rename_i hne
    have hxy := lessN_total _ _ (by simpa using hl) hne
    refine ⟨fun z hz => ?_, h⟩
    rcases List.mem_cons.1 hz with rfl | hz
    ·exact hxy
    ·exact lessN_trans _ _ _ hxy (h.1 z hz)
theorem len_ins (t : List Ru) (x : Ru) : (ins t x).length ≤ t.length + 1 := by
 induction t with
 | nil => exact Nat.le_refl _
 | cons y r ih =>
  rw [ins]
  split
  ·show (ins r x).length + 1 ≤ r.length + 1 + 1
   omega
  ·split
   ·show r.length + 1 ≤ r.length + 1 + 1
    omega
   ·exact Nat.le_refl _
theorem up_one : ∀ (s t : List Ru), Up s → Up t → (∀ z, z ∈ s ↔ z ∈ t) → s = t
 | [], [], _, _, _ => rfl
 | [], b :: _, _, _, h => by have := (h b).2 List.mem_cons_self; cases this
 | a :: _, [], _, _, h => by have := (h a).1 List.mem_cons_self; cases this
 | a :: s, b :: t, hs, ht, h => by
  have hab : a = b := by
   rcases List.mem_cons.1 ((h a).1 List.mem_cons_self) with e | h1
   ·exact e
   ·rcases List.mem_cons.1 ((h b).2 List.mem_cons_self) with e | h2
    ·exact e.symm
    ·have := lessN_trans _ _ _ (hs.1 b h2) (ht.1 a h1)
     rw [lessN_irrefl] at this
     cases this
  subst hab
  refine congrArg (a :: ·) (up_one s t hs.2 ht.2 fun z => ⟨fun hz => ?_, fun hz => ?_⟩)
  ·rcases List.mem_cons.1 ((h z).1 (List.mem_cons_of_mem _ hz)) with rfl | h1
   ·have := hs.1 z hz
    rw [lessN_irrefl] at this
    cases this
   ·exact h1
  ·rcases List.mem_cons.1 ((h z).2 (List.mem_cons_of_mem _ hz)) with rfl | h1
   ·have := ht.1 z hz
    rw [lessN_irrefl] at this
    cases this
   ·exact h1
theorem byt_inj {x y : Ru} (hx : Wr x) (mx : may x = true) (hy : Wr y) (my : may y = true) (h : byt x = byt y) : x = y := by
 have e1 := decR_enc hx mx []
 have e2 := decR_enc hy my []
 rw [h, e2] at e1
 exact (congrArg Prod.fst (Option.some.inj e1)).symm
structure Tb (t : List Ru) : Prop where
 w : Wt t
 m : ∀ x ∈ t, may x = true
 u : Up t
theorem tb_of {t : List Ru} (h : Wt t) (hr : rg t = true) : Tb t := ⟨h, (rg_may hr).2, ((rg_iff t).1 hr).2.1⟩
theorem tb_rg {t : List Ru} (h : Tb t) (hl : t.length ≤ 64) : rg t = true := (rg_iff t).2 ⟨h.m, h.u, hl⟩
theorem tb_ins {t : List Ru} (h : Tb t) (hl : t.length ≤ 64) {x : Ru} (hx : Wr x) (mx : may x = true) : Tb (ins t x) := by
 have hle := len_ins t x
 refine ⟨⟨by omega, fun y hy => ?_⟩, fun y hy => ?_, up_ins x h.u⟩
 ·rcases mem_ins hy with hy | rfl
  ·exact h.w.w y hy
  ·exact hx
 ·rcases mem_ins hy with hy | rfl
  ·exact h.m y hy
  ·exact mx
theorem mem_iff {t : List Ru} (h : Tb t) {x : Ru} (hx : Wr x) (mx : may x = true) (z : Ru) : z ∈ ins t x ↔ z ∈ t ∨ z = x := by
 refine ⟨mem_ins, fun hz => ?_⟩
 rcases hz with hz | rfl
 ·exact ins_mem hz
 ·rcases ins_self t z with h1 | ⟨y, hy, e⟩
  ·exact h1
  ·rw [← byt_inj (h.w.w y hy) (h.m y hy) hx mx e]
   exact ins_mem hy
end Go.Proofs.YtahacmdhhfmhiaaDoor.TabL
