/- What the program's and the document's functions of instructions' texts compute. No condition but that the fields are numbers of their kinds. -/
import Derived.Test.YtacfdcgogadamaaDoorHexA
import Derived.Test.YtacfdcgogadamaaDoorOpsA
import Derived.Test.YtacfdcgogadamaaDoorM2
import Derived.Test.YtacfdcgogadamaaDoorM26
import Derived.Test.YtacfdcgogadamaaDoorM8
import Derived.KernelRfl
namespace Go.Proofs.YtacfdcgogadamaaDoor.InsB
set_option linter.unusedVariables false
set_option linter.unusedSimpArgs false
open Go.RowKit Go.Proofs.YtacfdcgogadamaaDoorW.PrintWords Go.Proofs.YtacfdcgogadamaaDoorW.PrintLast Go.Proofs.YtacfdcgogadamaaDoorW.PrintMore Go.Proofs.YtacfdcgogadamaaDoor.M Go.Proofs.YtacfdcgogadamaaDoor.Hex Go.Proofs.YtacfdcgogadamaaDoor.HexB Go.Proofs.YtacfdcgogadamaaDoor.InsOps Go.Proofs.YtacfdcgogadamaaDoor.RightB
/-! ### texts -/
/-- The bytes of an instruction's text: row i, K, ways. -/
def wordL (i : Nat) : List Nat := numsL (wordB i)
def insL (i jt jf k : Nat) : List Nat := wordL i ++ ((if hasK i then 32 :: hexL k else []) ++ (if hasW i then 32 :: hexL jt ++ 32 :: hexL jf else []))
theorem word_small {i : Nat} (hi : i < 39) : (wordL i).length ≤ 5 := by
  have all : ∀ i : Nat, i < 39 → (wordL i).length ≤ 5 := by decide +kernel
  exact all i hi
theorem word_str (i : Nat) : wordB i = str (wordL i) := (str_bytes _).symm
theorem sp : (⟨#[32]⟩ : ByteArray) = str [32] := rfl
theorem uw {n : Nat} (h : n < 18446744073709551616) : IntKind.u64.wrap (n : Int) = (n : Int) := by
  simp only [IntKind.wrap, IntKind.bits, IntKind.signed]
  simp
  omega
theorem ways_part {x : List Nat} (hx : x.length < 1000) (a : Int) (w : ByteArray) (i jt jf : Nat) (k : Int) (h1 : jt < 256) (h2 : jf < 256) :
    Ev (fun n => ins_Print.j0 n (str x) a (jt : Int) (jf : Int) k a w (hasK i) (hasW i)) (str (x ++ if hasW i then 32 :: hexL jt ++ 32 :: hexL jf else []), 0) := by
  cases hw : hasW i
  · exact Ev.step (f := fun _ => some (str (x ++ if false then 32 :: hexL jt ++ 32 :: hexL jf else []), 0)) (fun n => by simp [ins_Print.j0]) (Ev.now _)
  · have l1 := hexL_len (n := jt) (by omega)
    have l2 := hexL_len (n := jf) (by omega)
    refine Ev.step (fun n => by simp only [ins_Print.j0, if_true, uw (show jt < 18446744073709551616 by omega), uw (show jf < 18446744073709551616 by omega)]; rfl) ?_
    refine Ev.bind (text_is jt (by omega)) ?_
    refine RightB.Ev.ifp (by simp only [sp, htext, ← str_append, str_size, List.length_append, List.length_cons, List.length_nil]; omega) ?_
    refine RightB.Ev.ifp (by simp only [sp, htext, ← str_append, str_size, List.length_append, List.length_cons, List.length_nil]; omega) ?_
    refine Ev.bind (text_is jf (by omega)) ?_
    refine RightB.Ev.ifp (by simp only [sp, htext, ← str_append, str_size, List.length_append, List.length_cons, List.length_nil]; omega) ?_
    refine RightB.Ev.ifp (by simp only [sp, htext, ← str_append, str_size, List.length_append, List.length_cons, List.length_nil]; omega) ?_
    simp only [sp, htext, ← str_append]
    simp only [if_true, List.append_assoc, List.cons_append, List.nil_append, List.singleton_append]
    exact Ev.now _
theorem print_is {a : Int} {i : Nat} (hi : i < 39) (h : opsL[i]? = some a) (jt jf k : Nat) (h1 : jt < 256) (h2 : jf < 256) (h3 : k < 4294967296) (hr : right i (jt : Int) (jf : Int) (k : Int) = true) :
    Ev (fun n => ins_Print.f n a (jt : Int) (jf : Int) (k : Int)) (str (insL i jt jf k), 0) := by
  unfold ins_Print.f
  have R := right_is hi h (jt : Int) (jf : Int) (k : Int)
  rw [hr] at R
  refine Ev.bind R ?_
  simp only [if_true]
  rw [of_some hi h]
  simp only [Option.bind_some]
  have e1 : (shapeT.getD i shapeZ).2.2.1 = hasK i := rfl
  have e2 : (shapeT.getD i shapeZ).2.2.2 = hasW i := rfl
  have e3 : (shapeT.getD i shapeZ).2.1 = str (wordL i) := (str_bytes _).symm
  rw [e1, e2, e3]
  have hw := word_small hi
  have hk := hexL_len (n := k) (by omega)
  cases hh : hasK i
  · simp only [Bool.false_eq_true, if_false]
    have := ways_part (x := wordL i) (by omega) a (str (wordL i)) i jt jf (k : Int) h1 h2
    rw [hh] at this
    have e : insL i jt jf k = wordL i ++ if hasW i then 32 :: hexL jt ++ 32 :: hexL jf else [] := by simp [insL, hh]
    rw [e]
    exact this
  · simp only [if_true, uw (show k < 18446744073709551616 by omega)]
    refine Ev.bind (text_is k (by omega)) ?_
    refine RightB.Ev.ifp (by simp only [sp, htext, ← str_append, str_size, List.length_append, List.length_cons, List.length_nil]; omega) ?_
    refine RightB.Ev.ifp (by simp only [sp, htext, ← str_append, str_size, List.length_append, List.length_cons, List.length_nil]; omega) ?_
    simp only [sp, htext, ← str_append]
    have := ways_part (x := wordL i ++ ([32] ++ hexL k)) (by simp only [List.length_append, List.length_cons, List.length_nil]; omega) a (str (wordL i)) i jt jf (k : Int) h1 h2
    rw [hh] at this
    have e : insL i jt jf k = wordL i ++ ([32] ++ hexL k) ++ if hasW i then 32 :: hexL jt ++ 32 :: hexL jf else [] := by simp [insL, hh]
    rw [e]
    exact this
theorem print_wrong {a : Int} {jt jf k : Int} (h : Ev (fun n => ins_Right.f n a jt jf k) false) : Ev (fun n => ins_Print.f n a jt jf k) (str [], 1) := by
  unfold ins_Print.f
  refine Ev.bind h ?_
  simp only [Bool.false_eq_true, if_false]
  exact Ev.now _
end Go.Proofs.YtacfdcgogadamaaDoor.InsB

/- The words of a text, as lists; reading an instruction's text. No condition. -/
namespace Go.Proofs.YtacfdcgogadamaaDoor.InsW
set_option linter.unusedVariables false
set_option linter.unusedSimpArgs false
open Go.RowKit Go.Proofs.YtacfdcgogadamaaDoorW.PrintWords Go.Proofs.YtacfdcgogadamaaDoorW.PrintLast Go.Proofs.YtacfdcgogadamaaDoorW.PrintMore Go.Proofs.YtacfdcgogadamaaDoor.M Go.Proofs.YtacfdcgogadamaaDoor.Hex Go.Proofs.YtacfdcgogadamaaDoor.HexB Go.Proofs.YtacfdcgogadamaaDoor.HexP Go.Proofs.YtacfdcgogadamaaDoor.InsOps Go.Proofs.YtacfdcgogadamaaDoor.RightB Go.Proofs.YtacfdcgogadamaaDoor.InsB

def sp : List Nat → List Nat → List (List Nat)
  | cur, [] => [cur]
  | cur, c :: l => if c = 32 then cur :: sp [] l else sp (cur ++ [c]) l
def joinL : List (List Nat) → List Nat
  | [] => []
  | [w] => w
  | w :: v :: ws => w ++ 32 :: joinL (v :: ws)
theorem sp_ne (cur l : List Nat) : ∃ w ws, sp cur l = w :: ws := by
  induction l generalizing cur with
  | nil => exact ⟨cur, [], rfl⟩
  | cons c l ih =>
    rw [sp]
    split
    · exact ⟨cur, _, rfl⟩
    · exact ih _
theorem join_sp (cur l : List Nat) : joinL (sp cur l) = cur ++ l := by
  induction l generalizing cur with
  | nil => simp [sp, joinL]
  | cons c l ih =>
    rw [sp]
    split
    · rename_i h
      obtain ⟨w, ws, e⟩ := sp_ne [] l
      have := ih []
      rw [e] at this ⊢
      rw [joinL, this, h]
      rfl
    · rw [ih]; simp
theorem sp_word (cur w rest : List Nat) (h : ∀ x ∈ w, x ≠ 32) : sp cur (w ++ 32 :: rest) = (cur ++ w) :: sp [] rest := by
  induction w generalizing cur with
  | nil => simp [sp]
  | cons c w ih =>
    rw [List.cons_append, sp, if_neg (h c List.mem_cons_self), ih _ (fun x hx => h x (List.mem_cons_of_mem _ hx))]
    simp
theorem sp_last (cur w : List Nat) (h : ∀ x ∈ w, x ≠ 32) : sp cur w = [cur ++ w] := by
  induction w generalizing cur with
  | nil => simp [sp]
  | cons c w ih =>
    rw [sp, if_neg (h c List.mem_cons_self), ih _ (fun x hx => h x (List.mem_cons_of_mem _ hx))]
    simp
theorem wordsGo_is (l : List Nat) (hb : Bs l) : ∀ (m pos frm : Nat), pos + m = l.length → frm ≤ pos → wordsGo (str l) m frm = (sp ((l.take pos).drop frm) (l.drop pos)).map str := by
  intro m
  induction m with
  | zero =>
    intro pos frm hp hf
    rw [wordsGo, str_size, str_extract, List.drop_of_length_le (by omega : l.length ≤ pos), sp, show pos = l.length by omega]
    rfl
  | succ m ih =>
    intro pos frm hp hf
    have hlt : pos < l.length := by omega
    have e : (str l).size - (m + 1) = pos := by rw [str_size]; omega
    have e2 : (str l).size - m = pos + 1 := by rw [str_size]; omega
    have hd := List.drop_eq_getElem_cons hlt
    have hg : ((str l).get! pos = 32) ↔ l[pos] = 32 := by
      have h1 := str_get l pos hlt hb
      constructor
      · intro h; rw [h] at h1; exact h1.symm
      · intro h; apply UInt8.toNat_inj.1; rw [h1, h]; rfl
    rw [wordsGo, e, e2, hd, sp]
    by_cases hc : l[pos] = 32
    · rw [if_pos (hg.2 hc), if_pos hc, str_extract, List.map_cons, ih (pos + 1) (pos + 1) (by omega) (by omega)]
      rw [List.drop_of_length_le (by rw [List.length_take]; omega : (l.take (pos + 1)).length ≤ pos + 1)]
    · rw [if_neg (fun h => hc (hg.1 h)), if_neg hc, ih (pos + 1) frm (by omega) (by omega)]
      congr 2
      rw [List.take_succ_eq_append_getElem hlt, List.drop_append_of_le_length (by rw [List.length_take]; omega)]
theorem wordsOf_is (l : List Nat) (hb : Bs l) : wordsOf (str l) = (sp [] l).map str := by
  unfold wordsOf
  rw [str_size, wordsGo_is l hb l.length 0 0 (by omega) (by omega)]
  rfl

theorem wordL_bs {i : Nat} (hi : i < 39) : Bs (wordL i) := bytes_bs _
theorem wordL_ne {i : Nat} (hi : i < 39) : ∀ x ∈ wordL i, x ≠ 32 := by
  have all : ∀ i : Nat, i < 39 → ∀ x ∈ wordL i, x ≠ 32 := by decide +kernel
  exact all i hi
theorem insL_bs {i : Nat} (hi : i < 39) (jt jf k : Nat) : Bs (insL i jt jf k) := by
  unfold insL
  refine bs_append.2 ⟨wordL_bs hi, bs_append.2 ⟨?_, ?_⟩⟩
  · split
    · intro x hx
      rcases List.mem_cons.1 hx with rfl | hx
      · omega
      · exact hexL_bs k x hx
    · intro x hx; cases hx
  · split
    · intro x hx
      simp only [List.mem_append, List.mem_cons] at hx
      rcases hx with (rfl | hx) | (rfl | hx)
      · omega
      · exact hexL_bs jt x hx
      · omega
      · exact hexL_bs jf x hx
    · intro x hx; cases hx
def restL (i jt jf k : Nat) : List (List Nat) := (if hasK i then [hexL k] else []) ++ (if hasW i then [hexL jt, hexL jf] else [])
theorem sp_insL {i : Nat} (hi : i < 39) (jt jf k : Nat) : sp [] (insL i jt jf k) = wordL i :: restL i jt jf k := by
  have h0 := wordL_ne hi
  have h1 := hexL_ne k
  have h2 := hexL_ne jt
  have h3 := hexL_ne jf
  unfold insL restL
  cases hasK i <;> cases hasW i
  · simp only [Bool.false_eq_true, if_false, List.append_nil]
    rw [sp_last _ _ h0]; rfl
  · simp only [Bool.false_eq_true, if_false, if_true, List.nil_append, List.cons_append]
    rw [sp_word _ _ _ h0, sp_word _ _ _ h2, sp_last _ _ h3]; rfl
  · simp only [Bool.false_eq_true, if_false, if_true, List.nil_append, List.append_nil]
    rw [sp_word _ _ _ h0, sp_last _ _ h1]; rfl
  · simp only [if_true, List.cons_append]
    rw [sp_word _ _ _ h0, sp_word _ _ _ h1, sp_word _ _ _ h2, sp_last _ _ h3]; rfl
end Go.Proofs.YtacfdcgogadamaaDoor.InsW

/- Reading an instruction's text: it is read as the instruction, and what was read has just that text. No condition. -/
namespace Go.Proofs.YtacfdcgogadamaaDoor.InsR
set_option linter.unusedVariables false
set_option linter.unusedSimpArgs false
open Go.RowKit Go.Proofs.YtacfdcgogadamaaDoorW.PrintWords Go.Proofs.YtacfdcgogadamaaDoorW.PrintLast Go.Proofs.YtacfdcgogadamaaDoorW.PrintMore Go.Proofs.YtacfdcgogadamaaDoor.M Go.Proofs.YtacfdcgogadamaaDoor.Hex Go.Proofs.YtacfdcgogadamaaDoor.HexB Go.Proofs.YtacfdcgogadamaaDoor.HexP Go.Proofs.YtacfdcgogadamaaDoor.InsOps Go.Proofs.YtacfdcgogadamaaDoor.RightB Go.Proofs.YtacfdcgogadamaaDoor.InsB Go.Proofs.YtacfdcgogadamaaDoor.InsW

theorem nP_self (n : Nat) (hn : n < 18446744073709551616) : nP (str (hexL n)) = ((n : Int), 0) := by
  unfold nP
  have := parse_self n hn
  rw [htext] at this
  rw [this]
  rfl
theorem step_ok (n : Nat) (m op : Int) (rs : List ByteArray) (hn : n < 18446744073709551616) (h : (n : Int) ≤ m) : numStep m (str (hexL n) :: rs) op = ((n : Int), rs, op) := by
  rw [numStep, nP_self n hn]
  simp only
  rw [if_neg (by omega)]
theorem find_word {i : Nat} (hi : i < 39) : shapeT.find? (fun h => h.2.1.toList == (wordB i).toList) = some (shapeT.getD i shapeZ) :=
  match i, hi with
  | 0, _ => by kernel_rfl
  | 1, _ => by kernel_rfl
  | 2, _ => by kernel_rfl
  | 3, _ => by kernel_rfl
  | 4, _ => by kernel_rfl
  | 5, _ => by kernel_rfl
  | 6, _ => by kernel_rfl
  | 7, _ => by kernel_rfl
  | 8, _ => by kernel_rfl
  | 9, _ => by kernel_rfl
  | 10, _ => by kernel_rfl
  | 11, _ => by kernel_rfl
  | 12, _ => by kernel_rfl
  | 13, _ => by kernel_rfl
  | 14, _ => by kernel_rfl
  | 15, _ => by kernel_rfl
  | 16, _ => by kernel_rfl
  | 17, _ => by kernel_rfl
  | 18, _ => by kernel_rfl
  | 19, _ => by kernel_rfl
  | 20, _ => by kernel_rfl
  | 21, _ => by kernel_rfl
  | 22, _ => by kernel_rfl
  | 23, _ => by kernel_rfl
  | 24, _ => by kernel_rfl
  | 25, _ => by kernel_rfl
  | 26, _ => by kernel_rfl
  | 27, _ => by kernel_rfl
  | 28, _ => by kernel_rfl
  | 29, _ => by kernel_rfl
  | 30, _ => by kernel_rfl
  | 31, _ => by kernel_rfl
  | 32, _ => by kernel_rfl
  | 33, _ => by kernel_rfl
  | 34, _ => by kernel_rfl
  | 35, _ => by kernel_rfl
  | 36, _ => by kernel_rfl
  | 37, _ => by kernel_rfl
  | 38, _ => by kernel_rfl
  | n + 39, h => absurd h (by omega)
theorem op_of {i : Nat} (hi : i < 39) : opsL[i]? = some (shapeT.getD i shapeZ).1 ∧ 0 ≤ (shapeT.getD i shapeZ).1 := by
  have all : ∀ i : Nat, i < 39 → opsL[i]? = some (shapeT.getD i shapeZ).1 ∧ 0 ≤ (shapeT.getD i shapeZ).1 := by decide +kernel
  exact all i hi
theorem w64s {n : Nat} (h : n < 256) : wrap64 (n : Int) = (n : Int) := by simp only [wrap64]; omega
theorem right_parts {i jt jf k : Nat} (h : right i (jt : Int) (jf : Int) (k : Int) = true) : (hasK i = false → k = 0) ∧ (hasW i = false → jt = 0 ∧ jf = 0) := by
  unfold right at h
  refine ⟨fun hk => ?_, fun hw => ?_⟩
  · rw [hk] at h
    simp at h
    omega
  · rw [hw] at h
    simp at h
    omega
theorem rest_ok {i : Nat} (hi : i < 39) (jt jf k : Nat) (h1 : jt < 256) (h2 : jf < 256) (h3 : k < 4294967296) (hr : right i (jt : Int) (jf : Int) (k : Int) = true) (op : Int) (ho : 0 ≤ op) :
    parseRest op (hasK i) (hasW i) ((restL i jt jf k).map str) = some (op, (jt : Int), (jf : Int), (k : Int)) := by
  obtain ⟨p1, p2⟩ := right_parts hr
  have m3 : (k : Int) % 4294967296 = (k : Int) := by omega
  have no : ¬ op < 0 := by omega
  unfold parseRest restL
  cases hk : hasK i <;> cases hw : hasW i
  · obtain ⟨rfl, rfl⟩ := p2 hw
    obtain rfl := p1 hk
    simp [no]
  · obtain rfl := p1 hk
    simp only [Bool.false_eq_true, if_false, if_true, List.nil_append, List.map_cons, List.map_nil]
    rw [step_ok jt 255 op _ (by omega) (by omega)]
    simp only
    rw [step_ok jf 255 op _ (by omega) (by omega)]
    simp only [List.length_nil]
    rw [if_neg no, if_neg (by omega), w64s h1, w64s h2]
    rfl
  · obtain ⟨rfl, rfl⟩ := p2 hw
    simp only [Bool.false_eq_true, if_false, if_true, List.append_nil, List.map_cons, List.map_nil]
    rw [step_ok k 4294967295 op _ (by omega) (by omega)]
    simp only [List.length_nil]
    rw [if_neg no, if_neg (by omega), m3]
    rfl
  · simp only [if_true, List.cons_append, List.nil_append, List.map_cons, List.map_nil]
    rw [step_ok k 4294967295 op _ (by omega) (by omega)]
    simp only
    rw [step_ok jt 255 op _ (by omega) (by omega)]
    simp only
    rw [step_ok jf 255 op _ (by omega) (by omega)]
    simp only [List.length_nil]
    rw [if_neg no, if_neg (by omega), m3, w64s h1, w64s h2]
theorem parse_ins {a : Int} {i : Nat} (hi : i < 39) (h : opsL[i]? = some a) (jt jf k : Nat) (h1 : jt < 256) (h2 : jf < 256) (h3 : k < 4294967296) (hr : right i (jt : Int) (jf : Int) (k : Int) = true) :
    ins_Parse.f (str (insL i jt jf k)) = some (a, (jt : Int), (jf : Int), (k : Int), 0) := by
  have hw := word_small hi
  have l1 := hexL_len (n := jt) (by omega)
  have l2 := hexL_len (n := jf) (by omega)
  have l3 := hexL_len (n := k) (by omega)
  have hlen : (insL i jt jf k).length < 1000 := by
    unfold insL
    cases hasK i <;> cases hasW i <;> simp <;> omega
  obtain ⟨o1, o2⟩ := op_of hi
  have oa : (shapeT.getD i shapeZ).1 = a := Option.some.inj (o1.symm.trans h)
  unfold ins_Parse.f
  rw [str_size, if_pos (by omega), wordsOf_is _ (insL_bs hi jt jf k), sp_insL hi, List.map_cons, List.headD_cons, List.drop_one, List.tail_cons, ← word_str]
  unfold parseIn
  rw [find_word hi]
  have := rest_ok hi jt jf k h1 h2 h3 hr (shapeT.getD i shapeZ).1 o2
  simp only
  rw [show (shapeT.getD i shapeZ).2.2.1 = hasK i from rfl, show (shapeT.getD i shapeZ).2.2.2 = hasW i from rfl, this, oa]
end Go.Proofs.YtacfdcgogadamaaDoor.InsR

/- What was read as an instruction has just the instruction's text. No condition. -/
namespace Go.Proofs.YtacfdcgogadamaaDoor.InsO
set_option linter.unusedVariables false
set_option linter.unusedSimpArgs false
open Go.RowKit Go.Proofs.YtacfdcgogadamaaDoorW.PrintWords Go.Proofs.YtacfdcgogadamaaDoorW.PrintLast Go.Proofs.YtacfdcgogadamaaDoorW.PrintMore Go.Proofs.YtacfdcgogadamaaDoor.M Go.Proofs.YtacfdcgogadamaaDoor.Hex Go.Proofs.YtacfdcgogadamaaDoor.HexB Go.Proofs.YtacfdcgogadamaaDoor.HexP Go.Proofs.YtacfdcgogadamaaDoor.InsOps Go.Proofs.YtacfdcgogadamaaDoor.RightB Go.Proofs.YtacfdcgogadamaaDoor.InsB Go.Proofs.YtacfdcgogadamaaDoor.InsW Go.Proofs.YtacfdcgogadamaaDoor.InsR

theorem sp_bs : ∀ (l cur : List Nat), Bs cur → Bs l → ∀ w ∈ sp cur l, Bs w := by
  intro l
  induction l with
  | nil => intro cur hc _ w hw; simp only [InsW.sp, List.mem_singleton] at hw; rw [hw]; exact hc
  | cons c l ih =>
    intro cur hc hl w hw
    have hl' : Bs l := fun x hx => hl x (List.mem_cons_of_mem _ hx)
    rw [InsW.sp] at hw
    split at hw
    · rcases List.mem_cons.1 hw with rfl | hw
      · exact hc
      · exact ih [] (fun x hx => by cases hx) hl' w hw
    · exact ih _ (bs_append.2 ⟨hc, fun x hx => by simp only [List.mem_singleton] at hx; rw [hx]; exact hl c List.mem_cons_self⟩) hl' w hw
theorem step_inv {m op : Int} {rest rs : List ByteArray} {v op' : Int} (hm : m < 18446744073709551616) (h : numStep m rest op = (v, rs, op')) (ho : 0 ≤ op') :
    ∃ n : Nat, rest = str (hexL n) :: rs ∧ v = (n : Int) ∧ (n : Int) ≤ m ∧ op' = op := by
  cases rest with
  | nil => simp only [numStep, Prod.mk.injEq] at h; omega
  | cons r rs' =>
    simp only [numStep, Prod.mk.injEq] at h
    obtain ⟨h1, h2, h3⟩ := h
    split at h3
    · omega
    · rename_i hc
      have hc2 : (nP r).2 = 0 := by
        apply Classical.byContradiction
        intro c
        exact hc (.inl c)
      obtain ⟨n, e1, e2, e3⟩ := parse_only r (nP r).1 (by rw [nP_is r, hc2])
      refine ⟨n, by rw [e3, h2]; rfl, by omega, ?_, h3.symm⟩
      have : ¬ (nP r).1 > m := fun c => hc (.inr c)
      omega
theorem map_str_inj : ∀ {a b : List (List Nat)}, (∀ w ∈ a, Bs w) → (∀ w ∈ b, Bs w) → a.map str = b.map str → a = b := by
  intro a
  induction a with
  | nil => intro b _ _ h; cases b with
    | nil => rfl
    | cons => simp at h
  | cons x a ih => intro b ha hb h; cases b with
    | nil => simp at h
    | cons y b =>
      simp only [List.map_cons, List.cons.injEq] at h
      rw [(str_inj (ha x List.mem_cons_self) (hb y List.mem_cons_self)).1 h.1, ih (fun w hw => ha w (List.mem_cons_of_mem _ hw)) (fun w hw => hb w (List.mem_cons_of_mem _ hw)) h.2]
theorem rest_inv {i : Nat} {op jt jf k r1 : Int} {rest : List ByteArray} (h : parseRest op (hasK i) (hasW i) rest = some (r1, jt, jf, k)) :
    ∃ x y z : Nat, jt = (x : Int) ∧ jf = (y : Int) ∧ k = (z : Int) ∧ x < 256 ∧ y < 256 ∧ z < 4294967296 ∧ right i (x : Int) (y : Int) (z : Int) = true ∧ rest = (restL i x y z).map str ∧ r1 = op := by
  unfold parseRest at h
  cases hk : hasK i <;> cases hw : hasW i <;> simp only [hk, hw, Bool.false_eq_true, if_false, if_true] at h
  · split at h
    · cases h
    · split at h
      · cases h
      · rename_i h1 h2
        simp only [Option.some.injEq, Prod.mk.injEq] at h
        obtain ⟨e1, e2, e3, e4⟩ := h
        have : rest = [] := List.eq_nil_of_length_eq_zero (by omega)
        exact ⟨0, 0, 0, by omega, by omega, by omega, by omega, by omega, by omega, by simp [right, hk, hw], by simp [restL, hk, hw, this], e1.symm⟩
  · generalize hb : numStep 255 rest op = b at h
    obtain ⟨v1, rs1, o1⟩ := b
    simp only at h
    generalize hc : numStep 255 rs1 o1 = c at h
    obtain ⟨v2, rs2, o2⟩ := c
    simp only at h
    split at h
    · cases h
    · split at h
      · cases h
      · rename_i h1 h2
        simp only [Option.some.injEq, Prod.mk.injEq] at h
        obtain ⟨e1, e2, e3, e4⟩ := h
        obtain ⟨y, f1, f2, f3, f4⟩ := step_inv (by omega) hc (by omega)
        obtain ⟨x, g1, g2, g3, g4⟩ := step_inv (by omega) hb (by omega)
        have : rs2 = [] := List.eq_nil_of_length_eq_zero (by omega)
        rw [g2, w64s (by omega)] at e2
        rw [f2, w64s (by omega)] at e3
        refine ⟨x, y, 0, e2.symm, e3.symm, by omega, by omega, by omega, by omega, ?_, ?_, by omega⟩
        · simp [right, hk, hw]; omega
        · rw [g1, f1, this]; simp [restL, hk, hw]
  · generalize ha : numStep 4294967295 rest op = a at h
    obtain ⟨v0, rs0, o0⟩ := a
    simp only at h
    split at h
    · cases h
    · split at h
      · cases h
      · rename_i h1 h2
        simp only [Option.some.injEq, Prod.mk.injEq] at h
        obtain ⟨e1, e2, e3, e4⟩ := h
        obtain ⟨z, f1, f2, f3, f4⟩ := step_inv (by omega) ha (by omega)
        have : rs0 = [] := List.eq_nil_of_length_eq_zero (by omega)
        refine ⟨0, 0, z, by omega, by omega, by omega, by omega, by omega, by omega, by simp [right, hk, hw], ?_, by omega⟩
        rw [f1, this]; simp [restL, hk, hw]
  · generalize ha : numStep 4294967295 rest op = a at h
    obtain ⟨v0, rs0, o0⟩ := a
    simp only at h
    generalize hb : numStep 255 rs0 o0 = b at h
    obtain ⟨v1, rs1, o1⟩ := b
    simp only at h
    generalize hc : numStep 255 rs1 o1 = c at h
    obtain ⟨v2, rs2, o2⟩ := c
    simp only at h
    split at h
    · cases h
    · split at h
      · cases h
      · rename_i h1 h2
        simp only [Option.some.injEq, Prod.mk.injEq] at h
        obtain ⟨e1, e2, e3, e4⟩ := h
        obtain ⟨y, f1, f2, f3, f4⟩ := step_inv (by omega) hc (by omega)
        obtain ⟨x, g1, g2, g3, g4⟩ := step_inv (by omega) hb (by omega)
        obtain ⟨z, k1, k2, k3, k4⟩ := step_inv (by omega) ha (by omega)
        have : rs2 = [] := List.eq_nil_of_length_eq_zero (by omega)
        rw [g2, w64s (by omega)] at e2
        rw [f2, w64s (by omega)] at e3
        refine ⟨x, y, z, e2.symm, e3.symm, by omega, by omega, by omega, by omega, ?_, ?_, by omega⟩
        · simp [right, hk, hw]; omega
        · rw [k1, g1, f1, this]; simp [restL, hk, hw]
theorem join_insL {i : Nat} (hi : i < 39) (x y z : Nat) : joinL (wordL i :: restL i x y z) = insL i x y z := by
  have := join_sp [] (insL i x y z)
  rw [sp_insL hi] at this
  exact this
theorem shape_at {h : Int × ByteArray × Bool × Bool} (hm : h ∈ shapeT) : ∃ i, i < 39 ∧ shapeT.getD i shapeZ = h := by
  obtain ⟨i, hi, e⟩ := List.getElem_of_mem hm
  exact ⟨i, by simpa [shape_len] using hi, by rw [List.getD_eq_getElem?_getD, List.getElem?_eq_getElem hi, Option.getD_some, e]⟩
/-- What is read: nothing, or an instruction by its own text. -/
theorem parse_cases (l : List Nat) (hb : Bs l) (hlen : l.length < 10000) :
    ins_Parse.f (str l) = some (0, 0, 0, 0, 2) ∨ ∃ (op : Int) (i x y z : Nat), ins_Parse.f (str l) = some (op, (x : Int), (y : Int), (z : Int), 0) ∧ i < 39 ∧ opsL[i]? = some op ∧ x < 256 ∧ y < 256 ∧ z < 4294967296 ∧ right i (x : Int) (y : Int) (z : Int) = true ∧ l = insL i x y z := by
  have hw := sp_bs l [] (fun x hx => by cases hx) hb
  have hj := join_sp [] l
  obtain ⟨w, ws, e⟩ := sp_ne [] l
  rw [e] at hw hj
  unfold ins_Parse.f
  rw [str_size, if_pos (by omega), wordsOf_is l hb, e, List.map_cons, List.headD_cons, List.drop_one, List.tail_cons]
  unfold parseIn
  cases hf : shapeT.find? (fun h => h.2.1.toList == (str w).toList) with
  | none => exact .inl rfl
  | some h =>
    have hp := List.find?_some hf
    have hm := List.mem_of_find?_eq_some hf
    obtain ⟨i, hi, rfl⟩ := shape_at hm
    have hww : wordB i = str w := toList_inj.1 (eq_of_beq hp)
    have hwl : wordL i = w := (str_inj (wordL_bs hi) (hw w List.mem_cons_self)).1 (by rw [← word_str, hww])
    simp only
    cases hr : parseRest (shapeT.getD i shapeZ).1 (shapeT.getD i shapeZ).2.2.1 (shapeT.getD i shapeZ).2.2.2 (ws.map str) with
    | none => exact .inl rfl
    | some r =>
      obtain ⟨r1, jt, jf, k⟩ := r
      obtain ⟨x, y, z, rfl, rfl, rfl, hx, hy, hz, hrt, hrest, rfl⟩ := rest_inv (i := i) hr
      refine .inr ⟨(shapeT.getD i shapeZ).1, i, x, y, z, rfl, hi, (op_of hi).1, hx, hy, hz, hrt, ?_⟩
      have hws : ws = restL i x y z := by
        refine map_str_inj (fun v hv => hw v (List.mem_cons_of_mem _ hv)) ?_ hrest
        intro v hv
        have hin : Bs (insL i x y z) := insL_bs hi x y z
        have := sp_bs (insL i x y z) [] (fun x hx => by cases hx) hin
        rw [sp_insL hi] at this
        exact this v (List.mem_cons_of_mem _ hv)
      rw [hws, ← hwl, join_insL hi] at hj
      exact hj.symm
end Go.Proofs.YtacfdcgogadamaaDoor.InsO
