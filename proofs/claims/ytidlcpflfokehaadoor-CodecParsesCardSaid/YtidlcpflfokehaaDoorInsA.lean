/- What the program's and the document's functions of instructions' texts compute. No condition but that the fields are numbers of their kinds. -/
import Derived.Test.YtidlcpflfokehaaDoorHexA
import Derived.Test.YtidlcpflfokehaaDoorOpsA
import Derived.Test.YtidlcpflfokehaaDoorM3
import Derived.Test.YtidlcpflfokehaaDoorM14
import Derived.Test.YtidlcpflfokehaaDoorM16
import Derived.Test.YtidlcpflfokehaaDoorM6
import Derived.KernelRfl
import Derived.Test.YtidlcpflfokehaaDoorM12
import Derived.Test.YtidlcpflfokehaaDoorM17
import Derived.Test.YtidlcpflfokehaaDoorM18
namespace Go.Proofs.YtidlcpflfokehaaDoor.InsB
set_option linter.unusedVariables false
set_option linter.unusedSimpArgs false
open Go.RowKit Go.Proofs.YtidlcpflfokehaaDoorW.PrintWords Go.Proofs.YtidlcpflfokehaaDoorW.PrintLast Go.Proofs.YtidlcpflfokehaaDoorW.PrintMore Go.Proofs.YtidlcpflfokehaaDoor.M Go.Proofs.YtidlcpflfokehaaDoor.Hex Go.Proofs.YtidlcpflfokehaaDoor.HexB Go.Proofs.YtidlcpflfokehaaDoor.InsOps Go.Proofs.YtidlcpflfokehaaDoor.RightB
/-! ### texts -/
/-- The bytes of an instruction's text: row i, K, ways. -/
def wordL (i : Nat) : List Nat := numsL (wordB i)
def insL (i jt jf k : Nat) : List Nat := wordL i ++ ((if hasK i then 32 :: hexL k else []) ++ (if hasW i then 32 :: hexL jt ++ 32 :: hexL jf else []))
theorem word_small {i : Nat} (hi : i < 39) : (wordL i).length ≤ 5 := by
  have all : ∀ i : Nat, i < 39 → (wordL i).length ≤ 5 := by decide +kernel
  exact all i hi
theorem word_str (i : Nat) : wordB i = str (wordL i) := (str_bytes _).symm
theorem words_is {i : Nat} (hi : i < 39) : ∃ l, hurdleref02_Words.f = some l ∧ (l.length : Int) = 39 ∧ rdOf ByteArray.empty l (i : Int) = str (wordL i) := by
  refine ⟨_, rfl, rfl, ?_⟩
  rw [← word_str]
  exact match i, hi with
    | 0, _ => rfl
    | 1, _ => rfl
    | 2, _ => rfl
    | 3, _ => rfl
    | 4, _ => rfl
    | 5, _ => rfl
    | 6, _ => rfl
    | 7, _ => rfl
    | 8, _ => rfl
    | 9, _ => rfl
    | 10, _ => rfl
    | 11, _ => rfl
    | 12, _ => rfl
    | 13, _ => rfl
    | 14, _ => rfl
    | 15, _ => rfl
    | 16, _ => rfl
    | 17, _ => rfl
    | 18, _ => rfl
    | 19, _ => rfl
    | 20, _ => rfl
    | 21, _ => rfl
    | 22, _ => rfl
    | 23, _ => rfl
    | 24, _ => rfl
    | 25, _ => rfl
    | 26, _ => rfl
    | 27, _ => rfl
    | 28, _ => rfl
    | 29, _ => rfl
    | 30, _ => rfl
    | 31, _ => rfl
    | 32, _ => rfl
    | 33, _ => rfl
    | 34, _ => rfl
    | 35, _ => rfl
    | 36, _ => rfl
    | 37, _ => rfl
    | 38, _ => rfl
    | n + 39, h => absurd h (by omega)
theorem sp : (⟨#[32]⟩ : ByteArray) = str [32] := rfl
theorem uw {n : Nat} (h : n < 18446744073709551616) : IntKind.u64.wrap (n : Int) = (n : Int) := by
  simp only [IntKind.wrap, IntKind.bits, IntKind.signed]
  simp
  omega
theorem rways_part {x : List Nat} (hx : x.length < 1000) (a : Int) {i : Nat} (hi : i < 39) (jt jf : Nat) (k : Int) (h1 : jt < 256) (h2 : jf < 256) :
    Ev (fun n => hurdleref02_Print.j0 n (i : Int) (str x) a (jt : Int) (jf : Int) k) (str (x ++ if hasW i then 32 :: hexL jt ++ 32 :: hexL jf else [])) := by
  cases hw : hasW i
  · exact Ev.step (f := fun _ => some (str (x ++ if false then 32 :: hexL jt ++ 32 :: hexL jf else []))) (fun n => by simp [hurdleref02_Print.j0, branch_is hi, hw]) (Ev.now _)
  · have l1 := hexL_len (n := jt) (by omega)
    have l2 := hexL_len (n := jf) (by omega)
    refine Ev.step (fun n => by simp only [hurdleref02_Print.j0, branch_is hi, hw, Option.bind_some, if_true, uw (show jt < 18446744073709551616 by omega), uw (show jf < 18446744073709551616 by omega)]; rfl) ?_
    refine RightB.Ev.ifp (by simp only [sp, htext, ← str_append, str_size, List.length_append, List.length_cons, List.length_nil]; omega) ?_
    refine Ev.bind (rtext_is jt (by omega)) ?_
    refine RightB.Ev.ifp (by simp only [sp, htext, ← str_append, str_size, List.length_append, List.length_cons, List.length_nil]; omega) ?_
    refine RightB.Ev.ifp (by simp only [sp, htext, ← str_append, str_size, List.length_append, List.length_cons, List.length_nil]; omega) ?_
    refine Ev.bind (rtext_is jf (by omega)) ?_
    refine RightB.Ev.ifp (by simp only [sp, htext, ← str_append, str_size, List.length_append, List.length_cons, List.length_nil]; omega) ?_
    simp only [sp, htext, ← str_append]
    simp only [if_true, List.append_assoc, List.cons_append, List.nil_append, List.singleton_append]
    exact Ev.now _
theorem rprint_is {a : Int} {i : Nat} (hi : i < 39) (h : opsL[i]? = some a) (jt jf k : Nat) (h1 : jt < 256) (h2 : jf < 256) (h3 : k < 4294967296) :
    Ev (fun n => hurdleref02_Print.f n a (jt : Int) (jf : Int) (k : Int)) (str (insL i jt jf k)) := by
  unfold hurdleref02_Print.f
  refine Ev.bind (place_some hi h) ?_
  obtain ⟨l, w1, w2, w3⟩ := words_is hi
  rw [w1]
  simp only [Option.bind_some]
  rw [w3, w2]
  refine RightB.Ev.ifp (by omega) ?_
  refine RightB.Ev.ifp (by omega) ?_
  simp only [plain_is hi, Option.bind_some]
  have hw := word_small hi
  have hk := hexL_len (n := k) (by omega)
  cases hh : hasK i
  · simp only [Bool.not_false, if_true]
    have := rways_part (x := wordL i) (by omega) a hi jt jf (k : Int) h1 h2
    have e : insL i jt jf k = wordL i ++ if hasW i then 32 :: hexL jt ++ 32 :: hexL jf else [] := by simp [insL, hh]
    rw [e]
    exact this
  · simp only [Bool.not_true, Bool.false_eq_true, if_false, uw (show k < 18446744073709551616 by omega)]
    refine RightB.Ev.ifp (by simp only [sp, htext, ← str_append, str_size, List.length_append, List.length_cons, List.length_nil]; omega) ?_
    refine Ev.bind (rtext_is k (by omega)) ?_
    refine RightB.Ev.ifp (by simp only [sp, htext, ← str_append, str_size, List.length_append, List.length_cons, List.length_nil]; omega) ?_
    simp only [sp, htext, ← str_append]
    have := rways_part (x := wordL i ++ [32] ++ hexL k) (by simp only [List.length_append, List.length_cons, List.length_nil]; omega) a hi jt jf (k : Int) h1 h2
    have e : insL i jt jf k = wordL i ++ [32] ++ hexL k ++ if hasW i then 32 :: hexL jt ++ 32 :: hexL jf else [] := by simp [insL, hh]
    rw [e]
    exact this
end Go.Proofs.YtidlcpflfokehaaDoor.InsB

/- The words of a text, as lists; reading an instruction's text. No condition. -/
namespace Go.Proofs.YtidlcpflfokehaaDoor.InsW
set_option linter.unusedVariables false
set_option linter.unusedSimpArgs false
open Go.RowKit Go.Proofs.YtidlcpflfokehaaDoorW.PrintWords Go.Proofs.YtidlcpflfokehaaDoorW.PrintLast Go.Proofs.YtidlcpflfokehaaDoorW.PrintMore Go.Proofs.YtidlcpflfokehaaDoor.M Go.Proofs.YtidlcpflfokehaaDoor.Hex Go.Proofs.YtidlcpflfokehaaDoor.HexB Go.Proofs.YtidlcpflfokehaaDoor.HexP Go.Proofs.YtidlcpflfokehaaDoor.InsOps Go.Proofs.YtidlcpflfokehaaDoor.RightB Go.Proofs.YtidlcpflfokehaaDoor.InsB

def sp : List Nat → List Nat → List (List Nat)
  | cur, [] => [cur]
  | cur, c :: l => if c = 32 then cur :: sp [] l else sp (cur ++ [c]) l
def joinL : List (List Nat) → List Nat
  | [] => []
  | [w] => w
  | w :: v :: ws => w ++ 32 :: joinL (v :: ws)
theorem sp_ne (cur l : List Nat) : ∃ w ws, sp cur l = w :: ws := by
  induction l generalizing cur with
  | nil => exact ⟨cur, [], rfl⟩
  | cons c l ih =>
    rw [sp]
    split
    · exact ⟨cur, _, rfl⟩
    · exact ih _
theorem join_sp (cur l : List Nat) : joinL (sp cur l) = cur ++ l := by
  induction l generalizing cur with
  | nil => simp [sp, joinL]
  | cons c l ih =>
    rw [sp]
    split
    · rename_i h
      obtain ⟨w, ws, e⟩ := sp_ne [] l
      have := ih []
      rw [e] at this ⊢
      rw [joinL, this, h]
      rfl
    · rw [ih]; simp
theorem sp_word (cur w rest : List Nat) (h : ∀ x ∈ w, x ≠ 32) : sp cur (w ++ 32 :: rest) = (cur ++ w) :: sp [] rest := by
  induction w generalizing cur with
  | nil => simp [sp]
  | cons c w ih =>
    rw [List.cons_append, sp, if_neg (h c List.mem_cons_self), ih _ (fun x hx => h x (List.mem_cons_of_mem _ hx))]
    simp
theorem sp_last (cur w : List Nat) (h : ∀ x ∈ w, x ≠ 32) : sp cur w = [cur ++ w] := by
  induction w generalizing cur with
  | nil => simp [sp]
  | cons c w ih =>
    rw [sp, if_neg (h c List.mem_cons_self), ih _ (fun x hx => h x (List.mem_cons_of_mem _ hx))]
    simp
theorem wordsGo_is (l : List Nat) (hb : Bs l) : ∀ (m pos frm : Nat), pos + m = l.length → frm ≤ pos → wordsGo (str l) m frm = (sp ((l.take pos).drop frm) (l.drop pos)).map str := by
  intro m
  induction m with
  | zero =>
    intro pos frm hp hf
    rw [wordsGo, str_size, str_extract, List.drop_of_length_le (by omega : l.length ≤ pos), sp, show pos = l.length by omega]
    rfl
  | succ m ih =>
    intro pos frm hp hf
    have hlt : pos < l.length := by omega
    have e : (str l).size - (m + 1) = pos := by rw [str_size]; omega
    have e2 : (str l).size - m = pos + 1 := by rw [str_size]; omega
    have hd := List.drop_eq_getElem_cons hlt
    have hg : ((str l).get! pos = 32) ↔ l[pos] = 32 := by
      have h1 := str_get l pos hlt hb
      constructor
      · intro h; rw [h] at h1; exact h1.symm
      · intro h; apply UInt8.toNat_inj.1; rw [h1, h]; rfl
    rw [wordsGo, e, e2, hd, sp]
    by_cases hc : l[pos] = 32
    · rw [if_pos (hg.2 hc), if_pos hc, str_extract, List.map_cons, ih (pos + 1) (pos + 1) (by omega) (by omega)]
      rw [List.drop_of_length_le (by rw [List.length_take]; omega : (l.take (pos + 1)).length ≤ pos + 1)]
    · rw [if_neg (fun h => hc (hg.1 h)), if_neg hc, ih (pos + 1) frm (by omega) (by omega)]
      congr 2
      rw [List.take_succ_eq_append_getElem hlt, List.drop_append_of_le_length (by rw [List.length_take]; omega)]
theorem wordsOf_is (l : List Nat) (hb : Bs l) : wordsOf (str l) = (sp [] l).map str := by
  unfold wordsOf
  rw [str_size, wordsGo_is l hb l.length 0 0 (by omega) (by omega)]
  rfl

theorem wordL_bs {i : Nat} (hi : i < 39) : Bs (wordL i) := bytes_bs _
theorem wordL_ne {i : Nat} (hi : i < 39) : ∀ x ∈ wordL i, x ≠ 32 := by
  have all : ∀ i : Nat, i < 39 → ∀ x ∈ wordL i, x ≠ 32 := by decide +kernel
  exact all i hi
theorem insL_bs {i : Nat} (hi : i < 39) (jt jf k : Nat) : Bs (insL i jt jf k) := by
  unfold insL
  refine bs_append.2 ⟨wordL_bs hi, bs_append.2 ⟨?_, ?_⟩⟩
  · split
    · intro x hx
      rcases List.mem_cons.1 hx with rfl | hx
      · omega
      · exact hexL_bs k x hx
    · intro x hx; cases hx
  · split
    · intro x hx
      simp only [List.mem_append, List.mem_cons] at hx
      rcases hx with (rfl | hx) | (rfl | hx)
      · omega
      · exact hexL_bs jt x hx
      · omega
      · exact hexL_bs jf x hx
    · intro x hx; cases hx
def restL (i jt jf k : Nat) : List (List Nat) := (if hasK i then [hexL k] else []) ++ (if hasW i then [hexL jt, hexL jf] else [])
theorem sp_insL {i : Nat} (hi : i < 39) (jt jf k : Nat) : sp [] (insL i jt jf k) = wordL i :: restL i jt jf k := by
  have h0 := wordL_ne hi
  have h1 := hexL_ne k
  have h2 := hexL_ne jt
  have h3 := hexL_ne jf
  unfold insL restL
  cases hasK i <;> cases hasW i
  · simp only [Bool.false_eq_true, if_false, List.append_nil]
    rw [sp_last _ _ h0]; rfl
  · simp only [Bool.false_eq_true, if_false, if_true, List.nil_append, List.cons_append]
    rw [sp_word _ _ _ h0, sp_word _ _ _ h2, sp_last _ _ h3]; rfl
  · simp only [Bool.false_eq_true, if_false, if_true, List.nil_append, List.append_nil]
    rw [sp_word _ _ _ h0, sp_last _ _ h1]; rfl
  · simp only [if_true, List.cons_append]
    rw [sp_word _ _ _ h0, sp_word _ _ _ h1, sp_word _ _ _ h2, sp_last _ _ h3]; rfl
end Go.Proofs.YtidlcpflfokehaaDoor.InsW

/- Reading an instruction's text: it is read as the instruction, and what was read has just that text. No condition. -/
namespace Go.Proofs.YtidlcpflfokehaaDoor.InsR
set_option linter.unusedVariables false
set_option linter.unusedSimpArgs false
open Go.RowKit Go.Proofs.YtidlcpflfokehaaDoorW.PrintWords Go.Proofs.YtidlcpflfokehaaDoorW.PrintLast Go.Proofs.YtidlcpflfokehaaDoorW.PrintMore Go.Proofs.YtidlcpflfokehaaDoor.M Go.Proofs.YtidlcpflfokehaaDoor.Hex Go.Proofs.YtidlcpflfokehaaDoor.HexB Go.Proofs.YtidlcpflfokehaaDoor.HexP Go.Proofs.YtidlcpflfokehaaDoor.InsOps Go.Proofs.YtidlcpflfokehaaDoor.RightB Go.Proofs.YtidlcpflfokehaaDoor.InsB Go.Proofs.YtidlcpflfokehaaDoor.InsW

theorem nP_self (n : Nat) (hn : n < 18446744073709551616) : nP (str (hexL n)) = ((n : Int), 0) := by
  unfold nP
  have := parse_self n hn
  rw [htext] at this
  rw [this]
  rfl
theorem step_ok (n : Nat) (m op : Int) (rs : List ByteArray) (hn : n < 18446744073709551616) (h : (n : Int) ≤ m) : numStep m (str (hexL n) :: rs) op = ((n : Int), rs, op) := by
  rw [numStep, nP_self n hn]
  simp only
  rw [if_neg (by omega)]
theorem find_word {i : Nat} (hi : i < 39) : shapeT.find? (fun h => h.2.1.toList == (wordB i).toList) = some (shapeT.getD i shapeZ) :=
  match i, hi with
  | 0, _ => by kernel_rfl
  | 1, _ => by kernel_rfl
  | 2, _ => by kernel_rfl
  | 3, _ => by kernel_rfl
  | 4, _ => by kernel_rfl
  | 5, _ => by kernel_rfl
  | 6, _ => by kernel_rfl
  | 7, _ => by kernel_rfl
  | 8, _ => by kernel_rfl
  | 9, _ => by kernel_rfl
  | 10, _ => by kernel_rfl
  | 11, _ => by kernel_rfl
  | 12, _ => by kernel_rfl
  | 13, _ => by kernel_rfl
  | 14, _ => by kernel_rfl
  | 15, _ => by kernel_rfl
  | 16, _ => by kernel_rfl
  | 17, _ => by kernel_rfl
  | 18, _ => by kernel_rfl
  | 19, _ => by kernel_rfl
  | 20, _ => by kernel_rfl
  | 21, _ => by kernel_rfl
  | 22, _ => by kernel_rfl
  | 23, _ => by kernel_rfl
  | 24, _ => by kernel_rfl
  | 25, _ => by kernel_rfl
  | 26, _ => by kernel_rfl
  | 27, _ => by kernel_rfl
  | 28, _ => by kernel_rfl
  | 29, _ => by kernel_rfl
  | 30, _ => by kernel_rfl
  | 31, _ => by kernel_rfl
  | 32, _ => by kernel_rfl
  | 33, _ => by kernel_rfl
  | 34, _ => by kernel_rfl
  | 35, _ => by kernel_rfl
  | 36, _ => by kernel_rfl
  | 37, _ => by kernel_rfl
  | 38, _ => by kernel_rfl
  | n + 39, h => absurd h (by omega)
theorem op_of {i : Nat} (hi : i < 39) : opsL[i]? = some (shapeT.getD i shapeZ).1 ∧ 0 ≤ (shapeT.getD i shapeZ).1 := by
  have all : ∀ i : Nat, i < 39 → opsL[i]? = some (shapeT.getD i shapeZ).1 ∧ 0 ≤ (shapeT.getD i shapeZ).1 := by decide +kernel
  exact all i hi
theorem w64s {n : Nat} (h : n < 256) : wrap64 (n : Int) = (n : Int) := by simp only [wrap64]; omega
theorem right_parts {i jt jf k : Nat} (h : right i (jt : Int) (jf : Int) (k : Int) = true) : (hasK i = false → k = 0) ∧ (hasW i = false → jt = 0 ∧ jf = 0) := by
  unfold right at h
  refine ⟨fun hk => ?_, fun hw => ?_⟩
  · rw [hk] at h
    simp at h
    omega
  · rw [hw] at h
    simp at h
    omega
theorem rest_ok {i : Nat} (hi : i < 39) (jt jf k : Nat) (h1 : jt < 256) (h2 : jf < 256) (h3 : k < 4294967296) (hr : right i (jt : Int) (jf : Int) (k : Int) = true) (op : Int) (ho : 0 ≤ op) :
    parseRest op (hasK i) (hasW i) ((restL i jt jf k).map str) = some (op, (jt : Int), (jf : Int), (k : Int)) := by
  obtain ⟨p1, p2⟩ := right_parts hr
  have m3 : (k : Int) % 4294967296 = (k : Int) := by omega
  have no : ¬ op < 0 := by omega
  unfold parseRest restL
  cases hk : hasK i <;> cases hw : hasW i
  · obtain ⟨rfl, rfl⟩ := p2 hw
    obtain rfl := p1 hk
    simp [no]
  · obtain rfl := p1 hk
    simp only [Bool.false_eq_true, if_false, if_true, List.nil_append, List.map_cons, List.map_nil]
    rw [step_ok jt 255 op _ (by omega) (by omega)]
    simp only
    rw [step_ok jf 255 op _ (by omega) (by omega)]
    simp only [List.length_nil]
    rw [if_neg no, if_neg (by omega), w64s h1, w64s h2]
    rfl
  · obtain ⟨rfl, rfl⟩ := p2 hw
    simp only [Bool.false_eq_true, if_false, if_true, List.append_nil, List.map_cons, List.map_nil]
    rw [step_ok k 4294967295 op _ (by omega) (by omega)]
    simp only [List.length_nil]
    rw [if_neg no, if_neg (by omega), m3]
    rfl
  · simp only [if_true, List.cons_append, List.nil_append, List.map_cons, List.map_nil]
    rw [step_ok k 4294967295 op _ (by omega) (by omega)]
    simp only
    rw [step_ok jt 255 op _ (by omega) (by omega)]
    simp only
    rw [step_ok jf 255 op _ (by omega) (by omega)]
    simp only [List.length_nil]
    rw [if_neg no, if_neg (by omega), m3, w64s h1, w64s h2]
theorem parse_ins {a : Int} {i : Nat} (hi : i < 39) (h : opsL[i]? = some a) (jt jf k : Nat) (h1 : jt < 256) (h2 : jf < 256) (h3 : k < 4294967296) (hr : right i (jt : Int) (jf : Int) (k : Int) = true) :
    ins_Parse.f (str (insL i jt jf k)) = some (a, (jt : Int), (jf : Int), (k : Int), 0) := by
  have hw := word_small hi
  have l1 := hexL_len (n := jt) (by omega)
  have l2 := hexL_len (n := jf) (by omega)
  have l3 := hexL_len (n := k) (by omega)
  have hlen : (insL i jt jf k).length < 1000 := by
    unfold insL
    cases hasK i <;> cases hasW i <;> simp <;> omega
  obtain ⟨o1, o2⟩ := op_of hi
  have oa : (shapeT.getD i shapeZ).1 = a := Option.some.inj (o1.symm.trans h)
  unfold ins_Parse.f
  rw [str_size, if_pos (by omega), wordsOf_is _ (insL_bs hi jt jf k), sp_insL hi, List.map_cons, List.headD_cons, List.drop_one, List.tail_cons, ← word_str]
  unfold parseIn
  rw [find_word hi]
  have := rest_ok hi jt jf k h1 h2 h3 hr (shapeT.getD i shapeZ).1 o2
  simp only
  rw [show (shapeT.getD i shapeZ).2.2.1 = hasK i from rfl, show (shapeT.getD i shapeZ).2.2.2 = hasW i from rfl, this, oa]
end Go.Proofs.YtidlcpflfokehaaDoor.InsR

/- What was read as an instruction has just the instruction's text. No condition. -/
namespace Go.Proofs.YtidlcpflfokehaaDoor.InsO
set_option linter.unusedVariables false
set_option linter.unusedSimpArgs false
open Go.RowKit Go.Proofs.YtidlcpflfokehaaDoorW.PrintWords Go.Proofs.YtidlcpflfokehaaDoorW.PrintLast Go.Proofs.YtidlcpflfokehaaDoorW.PrintMore Go.Proofs.YtidlcpflfokehaaDoor.M Go.Proofs.YtidlcpflfokehaaDoor.Hex Go.Proofs.YtidlcpflfokehaaDoor.HexB Go.Proofs.YtidlcpflfokehaaDoor.HexP Go.Proofs.YtidlcpflfokehaaDoor.InsOps Go.Proofs.YtidlcpflfokehaaDoor.RightB Go.Proofs.YtidlcpflfokehaaDoor.InsB Go.Proofs.YtidlcpflfokehaaDoor.InsW Go.Proofs.YtidlcpflfokehaaDoor.InsR

theorem sp_bs : ∀ (l cur : List Nat), Bs cur → Bs l → ∀ w ∈ sp cur l, Bs w := by
  intro l
  induction l with
  | nil => intro cur hc _ w hw; simp only [InsW.sp, List.mem_singleton] at hw; rw [hw]; exact hc
  | cons c l ih =>
    intro cur hc hl w hw
    have hl' : Bs l := fun x hx => hl x (List.mem_cons_of_mem _ hx)
    rw [InsW.sp] at hw
    split at hw
    · rcases List.mem_cons.1 hw with rfl | hw
      · exact hc
      · exact ih [] (fun x hx => by cases hx) hl' w hw
    · exact ih _ (bs_append.2 ⟨hc, fun x hx => by simp only [List.mem_singleton] at hx; rw [hx]; exact hl c List.mem_cons_self⟩) hl' w hw
theorem step_inv {m op : Int} {rest rs : List ByteArray} {v op' : Int} (hm : m < 18446744073709551616) (h : numStep m rest op = (v, rs, op')) (ho : 0 ≤ op') :
    ∃ n : Nat, rest = str (hexL n) :: rs ∧ v = (n : Int) ∧ (n : Int) ≤ m ∧ op' = op := by
  cases rest with
  | nil => simp only [numStep, Prod.mk.injEq] at h; omega
  | cons r rs' =>
    simp only [numStep, Prod.mk.injEq] at h
    obtain ⟨h1, h2, h3⟩ := h
    split at h3
    · omega
    · rename_i hc
      have hc2 : (nP r).2 = 0 := by
        apply Classical.byContradiction
        intro c
        exact hc (.inl c)
      obtain ⟨n, e1, e2, e3⟩ := parse_only r (nP r).1 (by rw [nP_is r, hc2])
      refine ⟨n, by rw [e3, h2]; rfl, by omega, ?_, h3.symm⟩
      have : ¬ (nP r).1 > m := fun c => hc (.inr c)
      omega
theorem map_str_inj : ∀ {a b : List (List Nat)}, (∀ w ∈ a, Bs w) → (∀ w ∈ b, Bs w) → a.map str = b.map str → a = b := by
  intro a
  induction a with
  | nil => intro b _ _ h; cases b with
    | nil => rfl
    | cons => simp at h
  | cons x a ih => intro b ha hb h; cases b with
    | nil => simp at h
    | cons y b =>
      simp only [List.map_cons, List.cons.injEq] at h
      rw [(str_inj (ha x List.mem_cons_self) (hb y List.mem_cons_self)).1 h.1, ih (fun w hw => ha w (List.mem_cons_of_mem _ hw)) (fun w hw => hb w (List.mem_cons_of_mem _ hw)) h.2]
theorem rest_inv {i : Nat} {op jt jf k r1 : Int} {rest : List ByteArray} (h : parseRest op (hasK i) (hasW i) rest = some (r1, jt, jf, k)) :
    ∃ x y z : Nat, jt = (x : Int) ∧ jf = (y : Int) ∧ k = (z : Int) ∧ x < 256 ∧ y < 256 ∧ z < 4294967296 ∧ right i (x : Int) (y : Int) (z : Int) = true ∧ rest = (restL i x y z).map str ∧ r1 = op := by
  unfold parseRest at h
  cases hk : hasK i <;> cases hw : hasW i <;> simp only [hk, hw, Bool.false_eq_true, if_false, if_true] at h
  · split at h
    · cases h
    · split at h
      · cases h
      · rename_i h1 h2
        simp only [Option.some.injEq, Prod.mk.injEq] at h
        obtain ⟨e1, e2, e3, e4⟩ := h
        have : rest = [] := List.eq_nil_of_length_eq_zero (by omega)
        exact ⟨0, 0, 0, by omega, by omega, by omega, by omega, by omega, by omega, by simp [right, hk, hw], by simp [restL, hk, hw, this], e1.symm⟩
  · generalize hb : numStep 255 rest op = b at h
    obtain ⟨v1, rs1, o1⟩ := b
    simp only at h
    generalize hc : numStep 255 rs1 o1 = c at h
    obtain ⟨v2, rs2, o2⟩ := c
    simp only at h
    split at h
    · cases h
    · split at h
      · cases h
      · rename_i h1 h2
        simp only [Option.some.injEq, Prod.mk.injEq] at h
        obtain ⟨e1, e2, e3, e4⟩ := h
        obtain ⟨y, f1, f2, f3, f4⟩ := step_inv (by omega) hc (by omega)
        obtain ⟨x, g1, g2, g3, g4⟩ := step_inv (by omega) hb (by omega)
        have : rs2 = [] := List.eq_nil_of_length_eq_zero (by omega)
        rw [g2, w64s (by omega)] at e2
        rw [f2, w64s (by omega)] at e3
        refine ⟨x, y, 0, e2.symm, e3.symm, by omega, by omega, by omega, by omega, ?_, ?_, by omega⟩
        · simp [right, hk, hw]; omega
        · rw [g1, f1, this]; simp [restL, hk, hw]
  · generalize ha : numStep 4294967295 rest op = a at h
    obtain ⟨v0, rs0, o0⟩ := a
    simp only at h
    split at h
    · cases h
    · split at h
      · cases h
      · rename_i h1 h2
        simp only [Option.some.injEq, Prod.mk.injEq] at h
        obtain ⟨e1, e2, e3, e4⟩ := h
        obtain ⟨z, f1, f2, f3, f4⟩ := step_inv (by omega) ha (by omega)
        have : rs0 = [] := List.eq_nil_of_length_eq_zero (by omega)
        refine ⟨0, 0, z, by omega, by omega, by omega, by omega, by omega, by omega, by simp [right, hk, hw], ?_, by omega⟩
        rw [f1, this]; simp [restL, hk, hw]
  · generalize ha : numStep 4294967295 rest op = a at h
    obtain ⟨v0, rs0, o0⟩ := a
    simp only at h
    generalize hb : numStep 255 rs0 o0 = b at h
    obtain ⟨v1, rs1, o1⟩ := b
    simp only at h
    generalize hc : numStep 255 rs1 o1 = c at h
    obtain ⟨v2, rs2, o2⟩ := c
    simp only at h
    split at h
    · cases h
    · split at h
      · cases h
      · rename_i h1 h2
        simp only [Option.some.injEq, Prod.mk.injEq] at h
        obtain ⟨e1, e2, e3, e4⟩ := h
        obtain ⟨y, f1, f2, f3, f4⟩ := step_inv (by omega) hc (by omega)
        obtain ⟨x, g1, g2, g3, g4⟩ := step_inv (by omega) hb (by omega)
        obtain ⟨z, k1, k2, k3, k4⟩ := step_inv (by omega) ha (by omega)
        have : rs2 = [] := List.eq_nil_of_length_eq_zero (by omega)
        rw [g2, w64s (by omega)] at e2
        rw [f2, w64s (by omega)] at e3
        refine ⟨x, y, z, e2.symm, e3.symm, by omega, by omega, by omega, by omega, ?_, ?_, by omega⟩
        · simp [right, hk, hw]; omega
        · rw [k1, g1, f1, this]; simp [restL, hk, hw]
theorem join_insL {i : Nat} (hi : i < 39) (x y z : Nat) : joinL (wordL i :: restL i x y z) = insL i x y z := by
  have := join_sp [] (insL i x y z)
  rw [sp_insL hi] at this
  exact this
theorem shape_at {h : Int × ByteArray × Bool × Bool} (hm : h ∈ shapeT) : ∃ i, i < 39 ∧ shapeT.getD i shapeZ = h := by
  obtain ⟨i, hi, e⟩ := List.getElem_of_mem hm
  exact ⟨i, by simpa [shape_len] using hi, by rw [List.getD_eq_getElem?_getD, List.getElem?_eq_getElem hi, Option.getD_some, e]⟩
/-- What is read: nothing, or an instruction by its own text. -/
theorem parse_cases (l : List Nat) (hb : Bs l) (hlen : l.length < 10000) :
    ins_Parse.f (str l) = some (0, 0, 0, 0, 2) ∨ ∃ (op : Int) (i x y z : Nat), ins_Parse.f (str l) = some (op, (x : Int), (y : Int), (z : Int), 0) ∧ i < 39 ∧ opsL[i]? = some op ∧ x < 256 ∧ y < 256 ∧ z < 4294967296 ∧ right i (x : Int) (y : Int) (z : Int) = true ∧ l = insL i x y z := by
  have hw := sp_bs l [] (fun x hx => by cases hx) hb
  have hj := join_sp [] l
  obtain ⟨w, ws, e⟩ := sp_ne [] l
  rw [e] at hw hj
  unfold ins_Parse.f
  rw [str_size, if_pos (by omega), wordsOf_is l hb, e, List.map_cons, List.headD_cons, List.drop_one, List.tail_cons]
  unfold parseIn
  cases hf : shapeT.find? (fun h => h.2.1.toList == (str w).toList) with
  | none => exact .inl rfl
  | some h =>
    have hp := List.find?_some hf
    have hm := List.mem_of_find?_eq_some hf
    obtain ⟨i, hi, rfl⟩ := shape_at hm
    have hww : wordB i = str w := toList_inj.1 (eq_of_beq hp)
    have hwl : wordL i = w := (str_inj (wordL_bs hi) (hw w List.mem_cons_self)).1 (by rw [← word_str, hww])
    simp only
    cases hr : parseRest (shapeT.getD i shapeZ).1 (shapeT.getD i shapeZ).2.2.1 (shapeT.getD i shapeZ).2.2.2 (ws.map str) with
    | none => exact .inl rfl
    | some r =>
      obtain ⟨r1, jt, jf, k⟩ := r
      obtain ⟨x, y, z, rfl, rfl, rfl, hx, hy, hz, hrt, hrest, rfl⟩ := rest_inv (i := i) hr
      refine .inr ⟨(shapeT.getD i shapeZ).1, i, x, y, z, rfl, hi, (op_of hi).1, hx, hy, hz, hrt, ?_⟩
      have hws : ws = restL i x y z := by
        refine map_str_inj (fun v hv => hw v (List.mem_cons_of_mem _ hv)) ?_ hrest
        intro v hv
        have hin : Bs (insL i x y z) := insL_bs hi x y z
        have := sp_bs (insL i x y z) [] (fun x hx => by cases hx) hin
        rw [sp_insL hi] at this
        exact this v (List.mem_cons_of_mem _ hv)
      rw [hws, ← hwl, join_insL hi] at hj
      exact hj.symm
end Go.Proofs.YtidlcpflfokehaaDoor.InsO

/- What the document's function reads from an instruction's text. No condition. -/
namespace Go.Proofs.YtidlcpflfokehaaDoor.RefP
set_option linter.unusedVariables false
set_option linter.unusedSimpArgs false
open Go.RowKit Go.Proofs.YtidlcpflfokehaaDoorW.PrintWords Go.Proofs.YtidlcpflfokehaaDoorW.PrintLast Go.Proofs.YtidlcpflfokehaaDoorW.PrintMore Go.Proofs.YtidlcpflfokehaaDoor.M Go.Proofs.YtidlcpflfokehaaDoor.Hex Go.Proofs.YtidlcpflfokehaaDoor.HexB Go.Proofs.YtidlcpflfokehaaDoor.HexP Go.Proofs.YtidlcpflfokehaaDoor.InsOps Go.Proofs.YtidlcpflfokehaaDoor.RightB Go.Proofs.YtidlcpflfokehaaDoor.InsB Go.Proofs.YtidlcpflfokehaaDoor.InsW Go.Proofs.YtidlcpflfokehaaDoor.InsR Go.Proofs.YtidlcpflfokehaaDoor.InsO

theorem ev_uniq {α : Type} {g : Nat → Option α} {a b : α} (h : Ev g a) (h' : Ev g b) : a = b := by
  obtain ⟨K, hK⟩ := h
  obtain ⟨J, hJ⟩ := h'
  exact Option.some.inj ((hK (max K J) (Nat.le_max_left _ _)).symm.trans (hJ (max K J) (Nat.le_max_right _ _)))
/-! ### a text cut at a mark -/
def spm (m : Nat) : List Nat → List Nat → List (List Nat)
  | cur, [] => [cur]
  | cur, c :: l => if c = m then cur :: spm m [] l else spm m (cur ++ [c]) l
theorem spm_sp : ∀ (l cur : List Nat), spm 32 cur l = InsW.sp cur l := by
  intro l
  induction l with
  | nil => intro cur; rfl
  | cons c l ih => intro cur; rw [spm, InsW.sp, ih, ih]
theorem cut_from (mk : Nat) (L : List Nat) (hb : Bs L) (hL : L.length < 1000000) : ∀ (m pos : Nat) (out : List (List Nat)) (c : List Nat), pos + m = L.length → out.length ≤ pos → c.length ≤ pos →
    Ev (fun k => hurdleref02_Cut.l0 k (str L) (mk : Int) (out.map str) (str c) (pos : Int)) ((out ++ spm mk c (L.drop pos)).map str) := by
  intro m
  induction m with
  | zero =>
    intro pos out c h ho hc
    refine Ev.step (f := fun _ => some ((out ++ spm mk c (L.drop pos)).map str)) (fun k => ?_) (Ev.now _)
    rw [hurdleref02_Cut.l0, str_size, if_neg (by omega), List.length_map, if_pos (by omega), List.drop_of_length_le (by omega), spm, List.map_append]
    rfl
  | succ m ih =>
    intro pos out c h ho hc
    have hp : pos < L.length := by omega
    have hbt := bt_str L pos hp hb
    have hw := w64n (n := pos) (by omega)
    have hd : L.drop pos = L[pos] :: L.drop (pos + 1) := List.drop_eq_getElem_cons hp
    by_cases hm : L[pos] = mk
    · refine Ev.step (f := fun k => hurdleref02_Cut.l0 k (str L) (mk : Int) ((out ++ [c]).map str) (str []) ((pos + 1 : Nat) : Int)) (fun k => ?_) ?_
      · rw [hurdleref02_Cut.l0, str_size, if_pos (by omega), if_pos (by omega), hbt, if_pos (by omega), List.length_map, if_pos (by omega), hw, List.map_append]
        rfl
      · have := ih (pos + 1) (out ++ [c]) [] (by omega) (by rw [List.length_append]; simp; omega) (by simp)
        rw [hd, spm, if_pos hm]
        rw [List.append_assoc] at this
        exact this
    · refine Ev.step (f := fun k => hurdleref02_Cut.l0 k (str L) (mk : Int) (out.map str) (str (c ++ [L[pos]])) ((pos + 1 : Nat) : Int)) (fun k => ?_) ?_
      · have he : (str L).extract pos (pos + 1) = str [L[pos]] := by
          rw [str_extract, List.drop_take, hd, show pos + 1 - pos = 1 by omega]
          rfl
        rw [hurdleref02_Cut.l0, str_size, if_pos (by omega), if_pos (by omega), hbt, if_neg (by omega), hw, if_pos (by omega), if_pos (by omega)]
        simp only [Int.toNat_natCast]
        rw [he, str_size, str_size, if_pos (by simp; omega), ← str_append]
      · have := ih (pos + 1) out (c ++ [L[pos]]) (by omega) (by omega) (by rw [List.length_append]; simp; omega)
        rw [hd, spm, if_neg hm]
        exact this
theorem cut_is (mk : Nat) (L : List Nat) (hb : Bs L) (hL : L.length < 1000000) : Ev (fun k => hurdleref02_Cut.f k (str L) (mk : Int)) ((spm mk [] L).map str) :=
  cut_from mk L hb hL L.length 0 [] [] (by omega) (by simp) (by simp)
/-! ### a number's text -/
theorem u64_any (z : Int) : ∃ n : Nat, n < 18446744073709551616 ∧ IntKind.u64.wrap z = (n : Int) := by
  refine ⟨(IntKind.u64.wrap z).toNat, ?_, ?_⟩ <;>
  · simp only [IntKind.wrap, IntKind.bits, IntKind.signed]
    simp
    omega
theorem rl_any (s : ByteArray) (hs : s.size < 1000) : ∀ (m pos v : Nat), pos + m = s.size → v < 18446744073709551616 → ∃ (r : Nat) (b : Bool), r < 18446744073709551616 ∧ Ev (fun k => hurdleref01_Parse.l0 k s (v : Int) (pos : Int)) ((r : Int), b) := by
  intro m
  induction m with
  | zero =>
    intro pos v h hv
    by_cases he : (htext v).toList = s.toList
    · refine ⟨v, true, hv, Ev.step (fun k => by rw [hurdleref01_Parse.l0, if_neg (by omega)]) (Ev.bind (rtext_is v hv) ?_)⟩
      rw [if_pos he]
      exact Ev.now _
    · refine ⟨0, false, by omega, Ev.step (fun k => by rw [hurdleref01_Parse.l0, if_neg (by omega)]) (Ev.bind (rtext_is v hv) ?_)⟩
      rw [if_neg he]
      exact Ev.now _
  | succ m ih =>
    intro pos v h hv
    by_cases h97 : bt s (pos : Int) ≥ 97
    · obtain ⟨n, hn, e⟩ := u64_any ((IntKind.u64.wrap ((v : Int) * 16)) + (IntKind.u64.wrap ((IntKind.u64.wrap (bt s (pos : Int))) - 87)))
      obtain ⟨r, b, hr, hh⟩ := ih (pos + 1) n (by omega) hn
      refine ⟨r, b, hr, Ev.step (fun k => ?_) hh⟩
      rw [hurdleref01_Parse.l0, if_pos (by omega), if_pos (by omega), if_pos h97, w64n (by omega), e]
    · obtain ⟨n, hn, e⟩ := u64_any ((IntKind.u64.wrap ((v : Int) * 16)) + (IntKind.u64.wrap ((IntKind.u64.wrap (bt s (pos : Int))) - 48)))
      obtain ⟨r, b, hr, hh⟩ := ih (pos + 1) n (by omega) hn
      refine ⟨r, b, hr, Ev.step (fun k => ?_) hh⟩
      rw [hurdleref01_Parse.l0, if_pos (by omega), if_pos (by omega), if_neg h97, w64n (by omega), e]
theorem rparse_any (s : ByteArray) : ∃ (r : Nat) (b : Bool), r < 18446744073709551616 ∧ Ev (fun k => hurdleref01_Parse.f k s) ((r : Int), b) := by
  by_cases h3 : s.size < 3
  · refine ⟨0, false, by omega, Ev.congr (fun k => if_pos (by omega)) (Ev.step (f := fun _ => some ((0 : Int), false)) (fun k => ?_) (Ev.now _))⟩
    rw [hurdleref01_Parse.j0, if_pos rfl]
  · by_cases h18 : s.size > 18
    · refine ⟨0, false, by omega, Ev.congr (fun k => if_neg (by omega)) (Ev.step (f := fun _ => some ((0 : Int), false)) (fun k => ?_) (Ev.now _))⟩
      rw [hurdleref01_Parse.j0, if_pos (decide_eq_true (by omega))]
    · obtain ⟨r, b, hr, hh⟩ := rl_any s (by omega) (s.size - 2) 2 0 (by omega) (by omega)
      refine ⟨r, b, hr, Ev.congr (fun k => if_neg (by omega)) (Ev.step (fun k => ?_) hh)⟩
      rw [hurdleref01_Parse.j0, if_neg (by simp; omega)]
      rfl
theorem valL_ge : ∀ (l : List Nat) (n r : Nat), valL l n = some r → n ≤ r := by
  intro l
  induction l with
  | nil => intro n r h; exact Nat.le_of_eq (Option.some.inj h)
  | cons c l ih =>
    intro n r h
    rw [valL] at h
    split at h
    · have := ih _ _ h
      omega
    · cases h
theorem step_hi {v d : Nat} (hv : v * 16 + d < 18446744073709551616) : IntKind.u64.wrap ((IntKind.u64.wrap ((v : Int) * 16)) + (IntKind.u64.wrap ((IntKind.u64.wrap ((87 + d : Nat) : Int)) - 87))) = ((v * 16 + d : Nat) : Int) := by
  simp only [IntKind.wrap, IntKind.bits, IntKind.signed]
  simp
  omega
theorem step_lo {v d : Nat} (hv : v * 16 + d < 18446744073709551616) : IntKind.u64.wrap ((IntKind.u64.wrap ((v : Int) * 16)) + (IntKind.u64.wrap ((IntKind.u64.wrap ((48 + d : Nat) : Int)) - 48))) = ((v * 16 + d : Nat) : Int) := by
  simp only [IntKind.wrap, IntKind.bits, IntKind.signed]
  simp
  omega
theorem rl_val (L : List Nat) (hb : Bs L) (hlen : L.length < 1000) : ∀ (m pos v r : Nat), pos + m = L.length → valL (L.drop pos) v = some r → r < 18446744073709551616 → htext r = str L →
    Ev (fun k => hurdleref01_Parse.l0 k (str L) (v : Int) (pos : Int)) ((r : Int), true) := by
  intro m
  induction m with
  | zero =>
    intro pos v r h hv hr he
    rw [List.drop_of_length_le (by omega)] at hv
    obtain rfl : v = r := Option.some.inj hv
    refine Ev.step (fun k => by rw [hurdleref01_Parse.l0, str_size, if_neg (by omega)]) (Ev.bind (rtext_is v hr) ?_)
    rw [if_pos (by rw [he])]
    exact Ev.now _
  | succ m ih =>
    intro pos v r h hv hr he
    have hp : pos < L.length := by omega
    have hbt := bt_str L pos hp hb
    have hd : L.drop pos = L[pos] :: L.drop (pos + 1) := List.drop_eq_getElem_cons hp
    rw [hd, valL] at hv
    cases hx : hexV L[pos] with
    | none => rw [hx] at hv; cases hv
    | some d =>
      rw [hx] at hv
      obtain ⟨hd16, hc⟩ := hexV_some hx
      have hge := valL_ge _ _ _ hv
      refine Ev.step (fun k => ?_) (ih (pos + 1) (v * 16 + d) r (by omega) hv hr he)
      rw [hurdleref01_Parse.l0, str_size, if_pos (by omega), if_pos (by omega), hbt, hc, chr, w64n (by omega)]
      by_cases h10 : d < 10
      · rw [if_pos h10, if_neg (by omega), step_lo (by omega)]
      · rw [if_neg h10, if_pos (by omega), step_hi (by omega)]
theorem rparse_hex (n : Nat) (hn : n < 18446744073709551616) : Ev (fun k => hurdleref01_Parse.f k (str (hexL n))) ((n : Int), true) := by
  have h1 := hexL_len hn
  have h3 := hexL_len3 n
  refine Ev.congr (fun k => if_neg (by rw [str_size]; omega)) (Ev.step (fun k => ?_) (rl_val (hexL n) (hexL_bs n) (by omega) ((hexL n).length - 2) 2 0 n (by omega) ?_ hn rfl))
  · rw [hurdleref01_Parse.j0, str_size, if_neg (by simp; omega)]
    rfl
  · rw [hexL_drop]
    exact valL_self n
theorem tm {v m : Nat} : Int.tmod (v : Int) (m : Int) = ((v % m : Nat) : Int) := by
  rw [Int.tmod_eq_emod_of_nonneg (by omega)]
  omega
/-! ### the parts behind the word -/
theorem k_part {i : Nat} (hi : i < 39) (x0 : ByteArray) (x4 x5 x8 : List ByteArray) (op : Int) : ∃ (kk : Nat) (rest : List ByteArray), kk < 4294967296 ∧
    (∀ r, Ev (fun k => hurdleref02_Parse.j3 k x0 x4 x5 (i : Int) rest op 0 0 (kk : Int)) r → Ev (fun k => hurdleref02_Parse.j2 k x0 x4 x5 (i : Int) x8 (hasK i && decide ((x8.length : Int) > 0)) op 0 0 0) r) ∧
    (∀ z ys, z < 4294967296 → (hasK i = false → z = 0) → x8 = (if hasK i then [str (hexL z)] else []) ++ ys → kk = z ∧ rest = ys) := by
  cases hk : hasK i
  · refine ⟨0, x8, by omega, fun r h => Ev.step (fun k => ?_) h, fun z ys _ h0 he => ⟨(h0 rfl).symm, ?_⟩⟩
    · rw [hurdleref02_Parse.j2, Bool.false_and, if_neg (by simp)]
      rfl
    · simpa using he
  · cases x8 with
    | nil =>
      refine ⟨0, [], by omega, fun r h => Ev.step (fun k => ?_) h, fun z ys _ h0 he => ?_⟩
      · rw [hurdleref02_Parse.j2, if_neg (by simp)]
        rfl
      · simp at he
    | cons s t =>
      obtain ⟨v, b, hv, hp⟩ := rparse_any s
      refine ⟨v % 4294967296, t, by omega, fun r h => Ev.step (fun k => ?_) (Ev.bind hp (f := fun k bt => hurdleref02_Parse.j3 k x0 x4 x5 (i : Int) t op 0 0 ((Int.tmod bt.1 4294967296) % 4294967296)) ?_), fun z ys hz h0 he => ?_⟩
      · rw [hurdleref02_Parse.j2, if_pos (by simp), if_pos (by simp)]
        simp only [show (1 : Int) ≤ ((s :: t).length : Int) from by simp; omega, if_true]
        rfl
      · simp only
        rw [show Int.tmod (v : Int) 4294967296 % 4294967296 = ((v % 4294967296 : Nat) : Int) from by rw [show (4294967296 : Int) = ((4294967296 : Nat) : Int) from rfl, tm]; omega]
        exact h
      · simp only [if_true, List.cons_append, List.nil_append, List.cons.injEq] at he
        obtain ⟨rfl, rfl⟩ := he
        have := ev_uniq hp (rparse_hex z (by omega))
        have h1 := congrArg Prod.fst this
        simp only at h1
        exact ⟨by omega, rfl⟩
theorem w_part {i : Nat} (hi : i < 39) (x0 : ByteArray) (x4 x5 x8 : List ByteArray) (op kk : Int) : ∃ jt jf : Nat, jt < 256 ∧ jf < 256 ∧
    (∀ r, Ev (fun k => hurdleref02_Parse.j5 k x0 x4 x5 (i : Int) op (jt : Int) (jf : Int) kk) r → Ev (fun k => hurdleref02_Parse.j3 k x0 x4 x5 (i : Int) x8 op 0 0 kk) r) ∧
    (∀ x y, x < 256 → y < 256 → (hasW i = false → x = 0 ∧ y = 0) → x8 = (if hasW i then [str (hexL x), str (hexL y)] else []) → jt = x ∧ jf = y) := by
  have skip : ∀ r, Ev (fun k => hurdleref02_Parse.j5 k x0 x4 x5 (i : Int) op 0 0 kk) r → Ev (fun k => hurdleref02_Parse.j4 k x0 x4 x5 (i : Int) x8 false op 0 0 kk) r :=
    fun r h => Ev.step (fun k => by rw [hurdleref02_Parse.j4, if_neg (by simp)]) h
  cases hw : hasW i
  · refine ⟨0, 0, by omega, by omega, fun r h => Ev.step (fun k => ?_) (skip r h), fun x y _ _ h0 _ => ⟨(h0 rfl).1.symm, (h0 rfl).2.symm⟩⟩
    rw [hurdleref02_Parse.j3, branch_is hi, hw, Option.bind_some, if_neg (by simp)]
  · match x8, skip with
    | [], skip =>
      refine ⟨0, 0, by omega, by omega, fun r h => Ev.step (fun k => ?_) (skip r h), fun x y _ _ h0 he => by simp at he⟩
      rw [hurdleref02_Parse.j3, branch_is hi, hw, Option.bind_some, if_pos rfl]
      rfl
    | [a], skip =>
      refine ⟨0, 0, by omega, by omega, fun r h => Ev.step (fun k => ?_) (skip r h), fun x y _ _ h0 he => by simp at he⟩
      rw [hurdleref02_Parse.j3, branch_is hi, hw, Option.bind_some, if_pos rfl]
      rfl
    | a :: b :: c :: t, skip =>
      refine ⟨0, 0, by omega, by omega, fun r h => Ev.step (fun k => ?_) (skip r h), fun x y _ _ h0 he => by simp at he⟩
      rw [hurdleref02_Parse.j3, branch_is hi, hw, Option.bind_some, if_pos rfl]
      rw [show (((a :: b :: c :: t).length : Int) == 2) = false from by rw [beq_eq_false_iff_ne]; simp only [List.length_cons]; omega]
    | [a, b], skip =>
      obtain ⟨v, _, hv, hp⟩ := rparse_any a
      obtain ⟨u, _, hu, hq⟩ := rparse_any b
      refine ⟨v % 256, u % 256, by omega, by omega, fun r h => Ev.step (f := fun k => hurdleref02_Parse.j4 k x0 x4 x5 (i : Int) [a, b] true op 0 0 kk) (fun k => ?_) (Ev.step (fun k => ?_) (Ev.bind hp (f := fun k bt => (hurdleref01_Parse.f k b).bind fun bu => hurdleref02_Parse.j5 k x0 x4 x5 (i : Int) op (wrap64 (Int.tmod bt.1 256)) (wrap64 (Int.tmod bu.1 256)) kk) (Ev.bind hq (f := fun k bu => hurdleref02_Parse.j5 k x0 x4 x5 (i : Int) op (wrap64 (Int.tmod ((v : Int), (_ : Bool)).1 256)) (wrap64 (Int.tmod bu.1 256)) kk) ?_))), fun x y hx hy h0 he => ?_⟩
      · rw [hurdleref02_Parse.j3, branch_is hi, hw, Option.bind_some, if_pos rfl]
        rfl
      · rw [hurdleref02_Parse.j4, if_pos rfl, if_pos (by simp)]
        simp only [show (1 : Int) < (([a, b] : List ByteArray).length : Int) from by simp, if_true]
        rfl
      · simp only
        rw [show Int.tmod (v : Int) 256 = ((v % 256 : Nat) : Int) from tm (m := 256), show Int.tmod (u : Int) 256 = ((u % 256 : Nat) : Int) from tm (m := 256), w64s (by omega), w64s (by omega)]
        exact h
      · simp only [if_true, List.cons.injEq, and_true] at he
        obtain ⟨rfl, rfl⟩ := he
        have h1 := congrArg Prod.fst (ev_uniq hp (rparse_hex x (by omega)))
        have h2 := congrArg Prod.fst (ev_uniq hq (rparse_hex y (by omega)))
        simp only at h1 h2
        exact ⟨by omega, by omega⟩
theorem wordL_inj {i j : Nat} (hi : i < 39) (hj : j < 39) (h : wordL i = wordL j) : i = j := by
  have all : ∀ i : Nat, i < 39 → ∀ j : Nat, j < 39 → wordL i = wordL j → i = j := by decide +kernel
  exact all i hi j hj h
theorem words_at : ∃ wl, hurdleref02_Words.f = some wl ∧ (wl.length : Int) = 39 ∧ ∀ i : Nat, i < 39 → rdOf ByteArray.empty wl (i : Int) = str (wordL i) := by
  obtain ⟨wl, h1, h2, _⟩ := words_is (i := 0) (by omega)
  refine ⟨wl, h1, h2, fun i hi => ?_⟩
  obtain ⟨wl', g1, _, g3⟩ := words_is hi
  obtain rfl : wl = wl' := Option.some.inj (h1.symm.trans g1)
  exact g3
theorem skip_round {i : Nat} (hi : i < 39) {x0 : ByteArray} {w : List Nat} {ws : List (List Nat)} {wl : List ByteArray} (hwb : Bs w) (h2 : (wl.length : Int) = 39) (h3 : rdOf ByteArray.empty wl (i : Int) = str (wordL i))
    (hs : wordL i ≠ w ∨ 4 < (w :: ws).length) {r : Int × Int × Int × Int × Bool} (h : Ev (fun k => hurdleref02_Parse.l0 k x0 ((w :: ws).map str) wl ((i + 1 : Nat) : Int)) r) :
    Ev (fun k => hurdleref02_Parse.l0 k x0 ((w :: ws).map str) wl (i : Int)) r := by
  refine Ev.step (f := fun k => hurdleref02_Parse.j1 k x0 ((w :: ws).map str) wl (i : Int) true) (fun k => ?_) (Ev.step (fun k => ?_) h)
  · rw [hurdleref02_Parse.l0, if_pos (by omega), if_pos (by omega), if_pos (by simp), h3, show rdOf ByteArray.empty ((w :: ws).map str) 0 = str w from rfl]
    by_cases he : (str (wordL i)).toList = (str w).toList
    · rw [if_pos he]
      have hh : wordL i = w := (str_inj (wordL_bs hi) hwb).1 (toList_inj.1 he)
      have hl : 4 < (w :: ws).length := hs.resolve_left (fun q => q hh)
      rw [decide_eq_true (by rw [List.length_map]; omega)]
    · rw [if_neg he]
  · rw [hurdleref02_Parse.j1, if_pos rfl, w64n (by omega)]
theorem take_round {i : Nat} (hi : i < 39) {op : Int} (ho : opsL[i]? = some op) {l : List Nat} {w : List Nat} {ws : List (List Nat)} {wl : List ByteArray} (h2 : (wl.length : Int) = 39) (h3 : rdOf ByteArray.empty wl (i : Int) = str (wordL i))
    (hw : wordL i = w) (hlen : (w :: ws).length ≤ 4) : ∃ x y z : Nat, x < 256 ∧ y < 256 ∧ z < 4294967296 ∧
    (∀ r, (right i (x : Int) (y : Int) (z : Int) = true → str (insL i x y z) = str l → r = (op, (x : Int), (y : Int), (z : Int), true)) → ((right i (x : Int) (y : Int) (z : Int) = true → str (insL i x y z) ≠ str l) → Ev (fun k => hurdleref02_Parse.l0 k (str l) ((w :: ws).map str) wl ((i + 1 : Nat) : Int)) r) →
      Ev (fun k => hurdleref02_Parse.l0 k (str l) ((w :: ws).map str) wl (i : Int)) r) ∧
    (∀ x' y' z' : Nat, x' < 256 → y' < 256 → z' < 4294967296 → right i (x' : Int) (y' : Int) (z' : Int) = true → ws.map str = (restL i x' y' z').map str → x = x' ∧ y = y' ∧ z = z') := by
  obtain ⟨z, rest, hz, kp, kv⟩ := k_part hi (str l) ((w :: ws).map str) wl (ws.map str) op
  obtain ⟨x, y, hx, hy, wp, wv⟩ := w_part hi (str l) ((w :: ws).map str) wl rest op (z : Int)
  refine ⟨x, y, z, hx, hy, hz, fun r hr1 hr2 => ?_, fun x' y' z' hx' hy' hz' hr he => ?_⟩
  · refine Ev.step (f := fun k => hurdleref02_Parse.j1 k (str l) ((w :: ws).map str) wl (i : Int) false) (fun k => ?_) (Ev.step (fun k => ?_) (kp r (wp r (Ev.step (f := fun k => (hurdleref02_Right.f k op (x : Int) (y : Int) (z : Int)).bind fun t => if t = true then ((hurdleref02_Print.f k op (x : Int) (y : Int) (z : Int)).bind fun t' => if t'.toList = (str l).toList then some (op, (x : Int), (y : Int), (z : Int), true) else hurdleref02_Parse.l0 k (str l) ((w :: ws).map str) wl ((i + 1 : Nat) : Int)) else hurdleref02_Parse.l0 k (str l) ((w :: ws).map str) wl ((i + 1 : Nat) : Int)) (fun k => ?_) (Ev.bind (rright_is hi ho (x : Int) (y : Int) (z : Int)) ?_)))))
    · rw [hurdleref02_Parse.l0, if_pos (by omega), if_pos (by omega), if_pos (by simp), h3, show rdOf ByteArray.empty ((w :: ws).map str) 0 = str w from rfl, if_pos (by rw [hw]), decide_eq_false (by rw [List.length_map]; omega)]
    · rw [hurdleref02_Parse.j1, if_neg (by simp), ops_is, Option.bind_some, if_pos (by omega), if_pos (by rw [show opsL.length = 39 from by decide +kernel]; omega), if_pos (by simp; omega), Option.bind_some, plain_is hi, Option.bind_some]
      rw [show rd opsL (i : Int) = op from by unfold rd; rw [Int.toNat_natCast, List.getD_eq_getElem?_getD, ho]; rfl]
      rw [show ((w :: ws).map str).drop 1 = ws.map str from rfl]
      cases hasK i <;> rfl
    · rw [hurdleref02_Parse.j5, w64n (by omega)]
    · cases hrt : right i (x : Int) (y : Int) (z : Int)
      · simp only [Bool.false_eq_true, if_false]
        exact hr2 (fun q => by rw [hrt] at q; cases q)
      · simp only [if_true]
        refine Ev.bind (rprint_is hi ho x y z hx hy hz) ?_
        by_cases he : str (insL i x y z) = str l
        · refine Ev.congr (fun _ => if_pos (by rw [he])) ?_
          rw [hr1 hrt he]
          exact Ev.now _
        · exact Ev.congr (fun _ => if_neg (fun q => he (toList_inj.1 q))) (hr2 (fun _ => he))
  · have hp := right_parts hr
    have hm : ws.map str = (if hasK i then [str (hexL z')] else []) ++ (if hasW i then [str (hexL x'), str (hexL y')] else []) := by
      rw [he]
      unfold restL
      cases hasK i <;> cases hasW i <;> rfl
    obtain ⟨rfl, hrest⟩ := kv z' _ hz' hp.1 hm
    obtain ⟨rfl, rfl⟩ := wv x' y' hx' hy' hp.2 hrest
    exact ⟨rfl, rfl, rfl⟩
theorem parse_enter (l : List Nat) (hb : Bs l) (hlen : l.length < 1000000) (r : Int × Int × Int × Int × Bool)
    (h : ∀ wl w ws, InsW.sp [] l = w :: ws → Bs w → (wl.length : Int) = 39 → (∀ i : Nat, i < 39 → rdOf ByteArray.empty wl (i : Int) = str (wordL i)) → Ev (fun k => hurdleref02_Parse.l0 k (str l) ((w :: ws).map str) wl ((0 : Nat) : Int)) r) : Ev (fun k => hurdleref02_Parse.f k (str l)) r := by
  unfold hurdleref02_Parse.f
  refine Ev.bind (cut_is 32 l hb hlen) ?_
  rw [spm_sp]
  unfold hurdleref02_Parse.g
  obtain ⟨wl, h1, h2, h3⟩ := words_at
  obtain ⟨w, ws, e⟩ := sp_ne [] l
  simp only [h1, Option.bind_some]
  rw [e]
  exact h wl w ws e (sp_bs l [] (fun x hx => by cases hx) hb w (by rw [e]; exact List.mem_cons_self)) h2 h3
/-- A right instruction's text is read as it. -/
theorem rparse_ins {a : Int} {i : Nat} (hi : i < 39) (ho : opsL[i]? = some a) (x y z : Nat) (h1 : x < 256) (h2 : y < 256) (h3 : z < 4294967296) (hr : right i (x : Int) (y : Int) (z : Int) = true) :
    Ev (fun k => hurdleref02_Parse.f k (str (insL i x y z))) (a, (x : Int), (y : Int), (z : Int), true) := by
  have hw := word_small hi
  have l1 := hexL_len (n := x) (by omega)
  have l2 := hexL_len (n := y) (by omega)
  have l3 := hexL_len (n := z) (by omega)
  have hlen : (insL i x y z).length < 1000 := by
    unfold insL
    cases hasK i <;> cases hasW i <;> simp <;> omega
  refine parse_enter _ (insL_bs hi x y z) (by omega) _ fun wl w ws e hwb g2 g3 => ?_
  rw [sp_insL hi] at e
  obtain ⟨rfl, rfl⟩ := List.cons.inj e
  have main : ∀ (m j : Nat), j + m = i → Ev (fun k => hurdleref02_Parse.l0 k (str (insL i x y z)) ((wordL i :: restL i x y z).map str) wl (j : Int)) (a, (x : Int), (y : Int), (z : Int), true) := by
    intro m
    induction m with
    | zero =>
      intro j hj
      obtain rfl : j = i := hj
      obtain ⟨x', y', z', _, _, _, hgo, hval⟩ := take_round (l := insL j x y z) (ws := restL j x y z) hi ho g2 (g3 j hi) rfl (by unfold restL; cases hasK j <;> cases hasW j <;> simp)
      obtain ⟨rfl, rfl, rfl⟩ := hval x y z h1 h2 h3 hr rfl
      exact hgo _ (fun _ _ => rfl) (fun q => absurd rfl (q hr))
    | succ m ih =>
      intro j hj
      refine skip_round (by omega) hwb g2 (g3 j (by omega)) (.inl fun q => ?_) (ih (j + 1) (by omega))
      have := wordL_inj (by omega) hi q
      omega
  exact main i 0 (by omega)
/-- Any other text is refused. -/
theorem rparse_none (l : List Nat) (hb : Bs l) (hlen : l.length < 1000000) (hn : ∀ i x y z : Nat, i < 39 → x < 256 → y < 256 → z < 4294967296 → right i (x : Int) (y : Int) (z : Int) = true → str l ≠ str (insL i x y z)) :
    Ev (fun k => hurdleref02_Parse.f k (str l)) (0, 0, 0, 0, false) := by
  refine parse_enter l hb hlen _ fun wl w ws e hwb g2 g3 => ?_
  have main : ∀ (m j : Nat), j + m = 39 → Ev (fun k => hurdleref02_Parse.l0 k (str l) ((w :: ws).map str) wl (j : Int)) (0, 0, 0, 0, false) := by
    intro m
    induction m with
    | zero =>
      intro j hj
      refine Ev.step (f := fun _ => some (0, 0, 0, 0, false)) (fun k => ?_) (Ev.now _)
      rw [hurdleref02_Parse.l0, if_neg (by omega)]
    | succ m ih =>
      intro j hj
      by_cases hs : wordL j ≠ w ∨ 4 < (w :: ws).length
      · exact skip_round (by omega) hwb g2 (g3 j (by omega)) hs (ih (j + 1) (by omega))
      · have hww : wordL j = w := Classical.byContradiction fun q => hs (.inl q)
        obtain ⟨x, y, z, hx, hy, hz, hgo, _⟩ := take_round (l := l) (ws := ws) (by omega) (op_of (i := j) (by omega)).1 g2 (g3 j (by omega)) hww (Nat.le_of_not_lt fun q => hs (.inr q))
        exact hgo _ (fun hr he => absurd he.symm (hn j x y z (by omega) hx hy hz hr)) (fun _ => ih (j + 1) (by omega))
  exact main 39 0 (by omega)
/-- Both functions tell the same. -/
theorem parse_both (l : List Nat) (hb : Bs l) (hlen : l.length < 10000) :
    (ins_Parse.f (str l) = some (0, 0, 0, 0, 2) ∧ Ev (fun k => hurdleref02_Parse.f k (str l)) (0, 0, 0, 0, false)) ∨
    ∃ (op : Int) (i x y z : Nat), ins_Parse.f (str l) = some (op, (x : Int), (y : Int), (z : Int), 0) ∧ Ev (fun k => hurdleref02_Parse.f k (str l)) (op, (x : Int), (y : Int), (z : Int), true) ∧ i < 39 ∧ opsL[i]? = some op ∧ x < 256 ∧ y < 256 ∧ z < 4294967296 ∧ right i (x : Int) (y : Int) (z : Int) = true ∧ l = insL i x y z := by
  rcases parse_cases l hb hlen with h | ⟨op, i, x, y, z, h, hi, ho, hx, hy, hz, hr, rfl⟩
  · refine .inl ⟨h, rparse_none l hb (by omega) fun i x y z hi hx hy hz hr he => ?_⟩
    rw [he, parse_ins hi (op_of hi).1 x y z hx hy hz hr] at h
    simp at h
  · exact .inr ⟨op, i, x, y, z, h, rparse_ins hi ho x y z hx hy hz hr, hi, ho, hx, hy, hz, hr, rfl⟩
end Go.Proofs.YtidlcpflfokehaaDoor.RefP
