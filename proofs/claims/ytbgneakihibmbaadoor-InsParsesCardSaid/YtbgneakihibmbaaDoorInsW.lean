/- The words of a text, as lists; reading an instruction's text. No condition. -/
import Derived.Test.YtbgneakihibmbaaDoorHexP
import Derived.Test.YtbgneakihibmbaaDoorInsB
import Derived.Test.YtbgneakihibmbaaDoorM7
namespace Go.Proofs.YtbgneakihibmbaaDoor.InsW
set_option linter.unusedVariables false
set_option linter.unusedSimpArgs false
open Go.RowKit Go.Proofs.YtbgneakihibmbaaDoorW.PrintWords Go.Proofs.YtbgneakihibmbaaDoorW.PrintLast Go.Proofs.YtbgneakihibmbaaDoorW.PrintMore Go.Proofs.YtbgneakihibmbaaDoor.M Go.Proofs.YtbgneakihibmbaaDoor.Hex Go.Proofs.YtbgneakihibmbaaDoor.HexB Go.Proofs.YtbgneakihibmbaaDoor.HexP Go.Proofs.YtbgneakihibmbaaDoor.InsOps Go.Proofs.YtbgneakihibmbaaDoor.RightB Go.Proofs.YtbgneakihibmbaaDoor.InsB

def sp : List Nat → List Nat → List (List Nat)
  | cur, [] => [cur]
  | cur, c :: l => if c = 32 then cur :: sp [] l else sp (cur ++ [c]) l
def joinL : List (List Nat) → List Nat
  | [] => []
  | [w] => w
  | w :: v :: ws => w ++ 32 :: joinL (v :: ws)
theorem sp_ne (cur l : List Nat) : ∃ w ws, sp cur l = w :: ws := by
  induction l generalizing cur with
  | nil => exact ⟨cur, [], rfl⟩
  | cons c l ih =>
    rw [sp]
    split
    · exact ⟨cur, _, rfl⟩
    · exact ih _
theorem join_sp (cur l : List Nat) : joinL (sp cur l) = cur ++ l := by
  induction l generalizing cur with
  | nil => simp [sp, joinL]
  | cons c l ih =>
    rw [sp]
    split
    · rename_i h
      obtain ⟨w, ws, e⟩ := sp_ne [] l
      have := ih []
      rw [e] at this ⊢
      rw [joinL, this, h]
      rfl
    · rw [ih]; simp
theorem sp_word (cur w rest : List Nat) (h : ∀ x ∈ w, x ≠ 32) : sp cur (w ++ 32 :: rest) = (cur ++ w) :: sp [] rest := by
  induction w generalizing cur with
  | nil => simp [sp]
  | cons c w ih =>
    rw [List.cons_append, sp, if_neg (h c List.mem_cons_self), ih _ (fun x hx => h x (List.mem_cons_of_mem _ hx))]
    simp
theorem sp_last (cur w : List Nat) (h : ∀ x ∈ w, x ≠ 32) : sp cur w = [cur ++ w] := by
  induction w generalizing cur with
  | nil => simp [sp]
  | cons c w ih =>
    rw [sp, if_neg (h c List.mem_cons_self), ih _ (fun x hx => h x (List.mem_cons_of_mem _ hx))]
    simp
theorem wordsGo_is (l : List Nat) (hb : Bs l) : ∀ (m pos frm : Nat), pos + m = l.length → frm ≤ pos → wordsGo (str l) m frm = (sp ((l.take pos).drop frm) (l.drop pos)).map str := by
  intro m
  induction m with
  | zero =>
    intro pos frm hp hf
    rw [wordsGo, str_size, str_extract, List.drop_of_length_le (by omega : l.length ≤ pos), sp, show pos = l.length by omega]
    rfl
  | succ m ih =>
    intro pos frm hp hf
    have hlt : pos < l.length := by omega
    have e : (str l).size - (m + 1) = pos := by rw [str_size]; omega
    have e2 : (str l).size - m = pos + 1 := by rw [str_size]; omega
    have hd := List.drop_eq_getElem_cons hlt
    have hg : ((str l).get! pos = 32) ↔ l[pos] = 32 := by
      have h1 := str_get l pos hlt hb
      constructor
      · intro h; rw [h] at h1; exact h1.symm
      · intro h; apply UInt8.toNat_inj.1; rw [h1, h]; rfl
    rw [wordsGo, e, e2, hd, sp]
    by_cases hc : l[pos] = 32
    · rw [if_pos (hg.2 hc), if_pos hc, str_extract, List.map_cons, ih (pos + 1) (pos + 1) (by omega) (by omega)]
      rw [List.drop_of_length_le (by rw [List.length_take]; omega : (l.take (pos + 1)).length ≤ pos + 1)]
    · rw [if_neg (fun h => hc (hg.1 h)), if_neg hc, ih (pos + 1) frm (by omega) (by omega)]
      congr 2
      rw [List.take_succ_eq_append_getElem hlt, List.drop_append_of_le_length (by rw [List.length_take]; omega)]
theorem wordsOf_is (l : List Nat) (hb : Bs l) : wordsOf (str l) = (sp [] l).map str := by
  unfold wordsOf
  rw [str_size, wordsGo_is l hb l.length 0 0 (by omega) (by omega)]
  rfl

theorem wordL_bs {i : Nat} (hi : i < 39) : Bs (wordL i) := bytes_bs _
theorem wordL_ne {i : Nat} (hi : i < 39) : ∀ x ∈ wordL i, x ≠ 32 := by
  have all : ∀ i : Nat, i < 39 → ∀ x ∈ wordL i, x ≠ 32 := by decide +kernel
  exact all i hi
theorem insL_bs {i : Nat} (hi : i < 39) (jt jf k : Nat) : Bs (insL i jt jf k) := by
  unfold insL
  refine bs_append.2 ⟨wordL_bs hi, bs_append.2 ⟨?_, ?_⟩⟩
  · split
    · intro x hx
      rcases List.mem_cons.1 hx with rfl | hx
      · omega
      · exact hexL_bs k x hx
    · intro x hx; cases hx
  · split
    · intro x hx
      simp only [List.mem_append, List.mem_cons] at hx
      rcases hx with (rfl | hx) | (rfl | hx)
      · omega
      · exact hexL_bs jt x hx
      · omega
      · exact hexL_bs jf x hx
    · intro x hx; cases hx
def restL (i jt jf k : Nat) : List (List Nat) := (if hasK i then [hexL k] else []) ++ (if hasW i then [hexL jt, hexL jf] else [])
theorem sp_insL {i : Nat} (hi : i < 39) (jt jf k : Nat) : sp [] (insL i jt jf k) = wordL i :: restL i jt jf k := by
  have h0 := wordL_ne hi
  have h1 := hexL_ne k
  have h2 := hexL_ne jt
  have h3 := hexL_ne jf
  unfold insL restL
  cases hasK i <;> cases hasW i
  · simp only [Bool.false_eq_true, if_false, List.append_nil]
    rw [sp_last _ _ h0]; rfl
  · simp only [Bool.false_eq_true, if_false, if_true, List.nil_append, List.cons_append]
    rw [sp_word _ _ _ h0, sp_word _ _ _ h2, sp_last _ _ h3]; rfl
  · simp only [Bool.false_eq_true, if_false, if_true, List.nil_append, List.append_nil]
    rw [sp_word _ _ _ h0, sp_last _ _ h1]; rfl
  · simp only [if_true, List.cons_append]
    rw [sp_word _ _ _ h0, sp_word _ _ _ h1, sp_word _ _ _ h2, sp_last _ _ h3]; rfl
end Go.Proofs.YtbgneakihibmbaaDoor.InsW
