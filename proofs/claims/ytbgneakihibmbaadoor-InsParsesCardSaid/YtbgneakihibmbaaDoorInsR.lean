/- Reading an instruction's text: it is read as the instruction, and what was read has just that text. No condition. -/
import Derived.Test.YtbgneakihibmbaaDoorInsW
import Derived.Test.YtbgneakihibmbaaDoorM7
import Derived.KernelRfl
namespace Go.Proofs.YtbgneakihibmbaaDoor.InsR
set_option linter.unusedVariables false
set_option linter.unusedSimpArgs false
open Go.RowKit Go.Proofs.YtbgneakihibmbaaDoorW.PrintWords Go.Proofs.YtbgneakihibmbaaDoorW.PrintLast Go.Proofs.YtbgneakihibmbaaDoorW.PrintMore Go.Proofs.YtbgneakihibmbaaDoor.M Go.Proofs.YtbgneakihibmbaaDoor.Hex Go.Proofs.YtbgneakihibmbaaDoor.HexB Go.Proofs.YtbgneakihibmbaaDoor.HexP Go.Proofs.YtbgneakihibmbaaDoor.InsOps Go.Proofs.YtbgneakihibmbaaDoor.RightB Go.Proofs.YtbgneakihibmbaaDoor.InsB Go.Proofs.YtbgneakihibmbaaDoor.InsW

theorem nP_self (n : Nat) (hn : n < 18446744073709551616) : nP (str (hexL n)) = ((n : Int), 0) := by
  unfold nP
  have := parse_self n hn
  rw [htext] at this
  rw [this]
  rfl
theorem step_ok (n : Nat) (m op : Int) (rs : List ByteArray) (hn : n < 18446744073709551616) (h : (n : Int) ≤ m) : numStep m (str (hexL n) :: rs) op = ((n : Int), rs, op) := by
  rw [numStep, nP_self n hn]
  simp only
  rw [if_neg (by omega)]
theorem find_word {i : Nat} (hi : i < 39) : shapeT.find? (fun h => h.2.1.toList == (wordB i).toList) = some (shapeT.getD i shapeZ) :=
  match i, hi with
  | 0, _ => by kernel_rfl
  | 1, _ => by kernel_rfl
  | 2, _ => by kernel_rfl
  | 3, _ => by kernel_rfl
  | 4, _ => by kernel_rfl
  | 5, _ => by kernel_rfl
  | 6, _ => by kernel_rfl
  | 7, _ => by kernel_rfl
  | 8, _ => by kernel_rfl
  | 9, _ => by kernel_rfl
  | 10, _ => by kernel_rfl
  | 11, _ => by kernel_rfl
  | 12, _ => by kernel_rfl
  | 13, _ => by kernel_rfl
  | 14, _ => by kernel_rfl
  | 15, _ => by kernel_rfl
  | 16, _ => by kernel_rfl
  | 17, _ => by kernel_rfl
  | 18, _ => by kernel_rfl
  | 19, _ => by kernel_rfl
  | 20, _ => by kernel_rfl
  | 21, _ => by kernel_rfl
  | 22, _ => by kernel_rfl
  | 23, _ => by kernel_rfl
  | 24, _ => by kernel_rfl
  | 25, _ => by kernel_rfl
  | 26, _ => by kernel_rfl
  | 27, _ => by kernel_rfl
  | 28, _ => by kernel_rfl
  | 29, _ => by kernel_rfl
  | 30, _ => by kernel_rfl
  | 31, _ => by kernel_rfl
  | 32, _ => by kernel_rfl
  | 33, _ => by kernel_rfl
  | 34, _ => by kernel_rfl
  | 35, _ => by kernel_rfl
  | 36, _ => by kernel_rfl
  | 37, _ => by kernel_rfl
  | 38, _ => by kernel_rfl
  | n + 39, h => absurd h (by omega)
theorem op_of {i : Nat} (hi : i < 39) : opsL[i]? = some (shapeT.getD i shapeZ).1 ∧ 0 ≤ (shapeT.getD i shapeZ).1 := by
  have all : ∀ i : Nat, i < 39 → opsL[i]? = some (shapeT.getD i shapeZ).1 ∧ 0 ≤ (shapeT.getD i shapeZ).1 := by decide +kernel
  exact all i hi
theorem w64s {n : Nat} (h : n < 256) : wrap64 (n : Int) = (n : Int) := by simp only [wrap64]; omega
theorem right_parts {i jt jf k : Nat} (h : right i (jt : Int) (jf : Int) (k : Int) = true) : (hasK i = false → k = 0) ∧ (hasW i = false → jt = 0 ∧ jf = 0) := by
  unfold right at h
  refine ⟨fun hk => ?_, fun hw => ?_⟩
  · rw [hk] at h
    simp at h
    omega
  · rw [hw] at h
    simp at h
    omega
theorem rest_ok {i : Nat} (hi : i < 39) (jt jf k : Nat) (h1 : jt < 256) (h2 : jf < 256) (h3 : k < 4294967296) (hr : right i (jt : Int) (jf : Int) (k : Int) = true) (op : Int) (ho : 0 ≤ op) :
    parseRest op (hasK i) (hasW i) ((restL i jt jf k).map str) = some (op, (jt : Int), (jf : Int), (k : Int)) := by
  obtain ⟨p1, p2⟩ := right_parts hr
  have m3 : (k : Int) % 4294967296 = (k : Int) := by omega
  have no : ¬ op < 0 := by omega
  unfold parseRest restL
  cases hk : hasK i <;> cases hw : hasW i
  · obtain ⟨rfl, rfl⟩ := p2 hw
    obtain rfl := p1 hk
    simp [no]
  · obtain rfl := p1 hk
    simp only [Bool.false_eq_true, if_false, if_true, List.nil_append, List.map_cons, List.map_nil]
    rw [step_ok jt 255 op _ (by omega) (by omega)]
    simp only
    rw [step_ok jf 255 op _ (by omega) (by omega)]
    simp only [List.length_nil]
    rw [if_neg no, if_neg (by omega), w64s h1, w64s h2]
    rfl
  · obtain ⟨rfl, rfl⟩ := p2 hw
    simp only [Bool.false_eq_true, if_false, if_true, List.append_nil, List.map_cons, List.map_nil]
    rw [step_ok k 4294967295 op _ (by omega) (by omega)]
    simp only [List.length_nil]
    rw [if_neg no, if_neg (by omega), m3]
    rfl
  · simp only [if_true, List.cons_append, List.nil_append, List.map_cons, List.map_nil]
    rw [step_ok k 4294967295 op _ (by omega) (by omega)]
    simp only
    rw [step_ok jt 255 op _ (by omega) (by omega)]
    simp only
    rw [step_ok jf 255 op _ (by omega) (by omega)]
    simp only [List.length_nil]
    rw [if_neg no, if_neg (by omega), m3, w64s h1, w64s h2]
theorem parse_ins {a : Int} {i : Nat} (hi : i < 39) (h : opsL[i]? = some a) (jt jf k : Nat) (h1 : jt < 256) (h2 : jf < 256) (h3 : k < 4294967296) (hr : right i (jt : Int) (jf : Int) (k : Int) = true) :
    ins_Parse.f (str (insL i jt jf k)) = some (a, (jt : Int), (jf : Int), (k : Int), 0) := by
  have hw := word_small hi
  have l1 := hexL_len (n := jt) (by omega)
  have l2 := hexL_len (n := jf) (by omega)
  have l3 := hexL_len (n := k) (by omega)
  have hlen : (insL i jt jf k).length < 1000 := by
    unfold insL
    cases hasK i <;> cases hasW i <;> simp <;> omega
  obtain ⟨o1, o2⟩ := op_of hi
  have oa : (shapeT.getD i shapeZ).1 = a := Option.some.inj (o1.symm.trans h)
  unfold ins_Parse.f
  rw [str_size, if_pos (by omega), wordsOf_is _ (insL_bs hi jt jf k), sp_insL hi, List.map_cons, List.headD_cons, List.drop_one, List.tail_cons, ← word_str]
  unfold parseIn
  rw [find_word hi]
  have := rest_ok hi jt jf k h1 h2 h3 hr (shapeT.getD i shapeZ).1 o2
  simp only
  rw [show (shapeT.getD i shapeZ).2.2.1 = hasK i from rfl, show (shapeT.getD i shapeZ).2.2.2 = hasW i from rfl, this, oa]
end Go.Proofs.YtbgneakihibmbaaDoor.InsR
