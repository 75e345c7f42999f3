/- What the program's and the document's functions of instructions' texts compute. No condition but that the fields are numbers of their kinds. -/
import Derived.Test.YtbgneakihibmbaaDoorHexB
import Derived.Test.YtbgneakihibmbaaDoorRightB
import Derived.Test.YtbgneakihibmbaaDoorM3
import Derived.Test.YtbgneakihibmbaaDoorM5
import Derived.Test.YtbgneakihibmbaaDoorM11
import Derived.Test.YtbgneakihibmbaaDoorM13
namespace Go.Proofs.YtbgneakihibmbaaDoor.InsB
set_option linter.unusedVariables false
set_option linter.unusedSimpArgs false
open Go.RowKit Go.Proofs.YtbgneakihibmbaaDoorW.PrintWords Go.Proofs.YtbgneakihibmbaaDoorW.PrintLast Go.Proofs.YtbgneakihibmbaaDoorW.PrintMore Go.Proofs.YtbgneakihibmbaaDoor.M Go.Proofs.YtbgneakihibmbaaDoor.Hex Go.Proofs.YtbgneakihibmbaaDoor.HexB Go.Proofs.YtbgneakihibmbaaDoor.InsOps Go.Proofs.YtbgneakihibmbaaDoor.RightB
/-! ### texts -/
/-- The bytes of an instruction's text: row i, K, ways. -/
def wordL (i : Nat) : List Nat := numsL (wordB i)
def insL (i jt jf k : Nat) : List Nat := wordL i ++ ((if hasK i then 32 :: hexL k else []) ++ (if hasW i then 32 :: hexL jt ++ 32 :: hexL jf else []))
theorem word_small {i : Nat} (hi : i < 39) : (wordL i).length ≤ 5 := by
  have all : ∀ i : Nat, i < 39 → (wordL i).length ≤ 5 := by decide +kernel
  exact all i hi
theorem word_str (i : Nat) : wordB i = str (wordL i) := (str_bytes _).symm
theorem words_is {i : Nat} (hi : i < 39) : ∃ l, hurdleref02_Words.f = some l ∧ (l.length : Int) = 39 ∧ rdOf ByteArray.empty l (i : Int) = str (wordL i) := by
  refine ⟨_, rfl, rfl, ?_⟩
  rw [← word_str]
  exact match i, hi with
    | 0, _ => rfl
    | 1, _ => rfl
    | 2, _ => rfl
    | 3, _ => rfl
    | 4, _ => rfl
    | 5, _ => rfl
    | 6, _ => rfl
    | 7, _ => rfl
    | 8, _ => rfl
    | 9, _ => rfl
    | 10, _ => rfl
    | 11, _ => rfl
    | 12, _ => rfl
    | 13, _ => rfl
    | 14, _ => rfl
    | 15, _ => rfl
    | 16, _ => rfl
    | 17, _ => rfl
    | 18, _ => rfl
    | 19, _ => rfl
    | 20, _ => rfl
    | 21, _ => rfl
    | 22, _ => rfl
    | 23, _ => rfl
    | 24, _ => rfl
    | 25, _ => rfl
    | 26, _ => rfl
    | 27, _ => rfl
    | 28, _ => rfl
    | 29, _ => rfl
    | 30, _ => rfl
    | 31, _ => rfl
    | 32, _ => rfl
    | 33, _ => rfl
    | 34, _ => rfl
    | 35, _ => rfl
    | 36, _ => rfl
    | 37, _ => rfl
    | 38, _ => rfl
    | n + 39, h => absurd h (by omega)
theorem sp : (⟨#[32]⟩ : ByteArray) = str [32] := rfl
theorem uw {n : Nat} (h : n < 18446744073709551616) : IntKind.u64.wrap (n : Int) = (n : Int) := by
  simp only [IntKind.wrap, IntKind.bits, IntKind.signed]
  simp
  omega
theorem ways_part {x : List Nat} (hx : x.length < 1000) (a : Int) (w : ByteArray) (i jt jf : Nat) (k : Int) (h1 : jt < 256) (h2 : jf < 256) :
    Ev (fun n => ins_Print.j0 n (str x) a (jt : Int) (jf : Int) k a w (hasK i) (hasW i)) (str (x ++ if hasW i then 32 :: hexL jt ++ 32 :: hexL jf else []), 0) := by
  cases hw : hasW i
  · exact Ev.step (f := fun _ => some (str (x ++ if false then 32 :: hexL jt ++ 32 :: hexL jf else []), 0)) (fun n => by simp [ins_Print.j0]) (Ev.now _)
  · have l1 := hexL_len (n := jt) (by omega)
    have l2 := hexL_len (n := jf) (by omega)
    refine Ev.step (fun n => by simp only [ins_Print.j0, if_true, uw (show jt < 18446744073709551616 by omega), uw (show jf < 18446744073709551616 by omega)]; rfl) ?_
    refine Ev.bind (text_is jt (by omega)) ?_
    refine RightB.Ev.ifp (by simp only [sp, htext, ← str_append, str_size, List.length_append, List.length_cons, List.length_nil]; omega) ?_
    refine RightB.Ev.ifp (by simp only [sp, htext, ← str_append, str_size, List.length_append, List.length_cons, List.length_nil]; omega) ?_
    refine Ev.bind (text_is jf (by omega)) ?_
    refine RightB.Ev.ifp (by simp only [sp, htext, ← str_append, str_size, List.length_append, List.length_cons, List.length_nil]; omega) ?_
    refine RightB.Ev.ifp (by simp only [sp, htext, ← str_append, str_size, List.length_append, List.length_cons, List.length_nil]; omega) ?_
    simp only [sp, htext, ← str_append]
    simp only [if_true, List.append_assoc, List.cons_append, List.nil_append, List.singleton_append]
    exact Ev.now _
theorem print_is {a : Int} {i : Nat} (hi : i < 39) (h : opsL[i]? = some a) (jt jf k : Nat) (h1 : jt < 256) (h2 : jf < 256) (h3 : k < 4294967296) (hr : right i (jt : Int) (jf : Int) (k : Int) = true) :
    Ev (fun n => ins_Print.f n a (jt : Int) (jf : Int) (k : Int)) (str (insL i jt jf k), 0) := by
  unfold ins_Print.f
  have R := right_is hi h (jt : Int) (jf : Int) (k : Int)
  rw [hr] at R
  refine Ev.bind R ?_
  simp only [if_true]
  rw [of_some hi h]
  simp only [Option.bind_some]
  have e1 : (shapeT.getD i shapeZ).2.2.1 = hasK i := rfl
  have e2 : (shapeT.getD i shapeZ).2.2.2 = hasW i := rfl
  have e3 : (shapeT.getD i shapeZ).2.1 = str (wordL i) := (str_bytes _).symm
  rw [e1, e2, e3]
  have hw := word_small hi
  have hk := hexL_len (n := k) (by omega)
  cases hh : hasK i
  · simp only [Bool.false_eq_true, if_false]
    have := ways_part (x := wordL i) (by omega) a (str (wordL i)) i jt jf (k : Int) h1 h2
    rw [hh] at this
    have e : insL i jt jf k = wordL i ++ if hasW i then 32 :: hexL jt ++ 32 :: hexL jf else [] := by simp [insL, hh]
    rw [e]
    exact this
  · simp only [if_true, uw (show k < 18446744073709551616 by omega)]
    refine Ev.bind (text_is k (by omega)) ?_
    refine RightB.Ev.ifp (by simp only [sp, htext, ← str_append, str_size, List.length_append, List.length_cons, List.length_nil]; omega) ?_
    refine RightB.Ev.ifp (by simp only [sp, htext, ← str_append, str_size, List.length_append, List.length_cons, List.length_nil]; omega) ?_
    simp only [sp, htext, ← str_append]
    have := ways_part (x := wordL i ++ ([32] ++ hexL k)) (by simp only [List.length_append, List.length_cons, List.length_nil]; omega) a (str (wordL i)) i jt jf (k : Int) h1 h2
    rw [hh] at this
    have e : insL i jt jf k = wordL i ++ ([32] ++ hexL k) ++ if hasW i then 32 :: hexL jt ++ 32 :: hexL jf else [] := by simp [insL, hh]
    rw [e]
    exact this
theorem print_wrong {a : Int} {jt jf k : Int} (h : Ev (fun n => ins_Right.f n a jt jf k) false) : Ev (fun n => ins_Print.f n a jt jf k) (str [], 1) := by
  unfold ins_Print.f
  refine Ev.bind h ?_
  simp only [Bool.false_eq_true, if_false]
  exact Ev.now _
theorem rways_part {x : List Nat} (hx : x.length < 1000) (a : Int) {i : Nat} (hi : i < 39) (jt jf : Nat) (k : Int) (h1 : jt < 256) (h2 : jf < 256) :
    Ev (fun n => hurdleref02_Print.j0 n (i : Int) (str x) a (jt : Int) (jf : Int) k) (str (x ++ if hasW i then 32 :: hexL jt ++ 32 :: hexL jf else [])) := by
  cases hw : hasW i
  · exact Ev.step (f := fun _ => some (str (x ++ if false then 32 :: hexL jt ++ 32 :: hexL jf else []))) (fun n => by simp [hurdleref02_Print.j0, branch_is hi, hw]) (Ev.now _)
  · have l1 := hexL_len (n := jt) (by omega)
    have l2 := hexL_len (n := jf) (by omega)
    refine Ev.step (fun n => by simp only [hurdleref02_Print.j0, branch_is hi, hw, Option.bind_some, if_true, uw (show jt < 18446744073709551616 by omega), uw (show jf < 18446744073709551616 by omega)]; rfl) ?_
    refine RightB.Ev.ifp (by simp only [sp, htext, ← str_append, str_size, List.length_append, List.length_cons, List.length_nil]; omega) ?_
    refine Ev.bind (rtext_is jt (by omega)) ?_
    refine RightB.Ev.ifp (by simp only [sp, htext, ← str_append, str_size, List.length_append, List.length_cons, List.length_nil]; omega) ?_
    refine RightB.Ev.ifp (by simp only [sp, htext, ← str_append, str_size, List.length_append, List.length_cons, List.length_nil]; omega) ?_
    refine Ev.bind (rtext_is jf (by omega)) ?_
    refine RightB.Ev.ifp (by simp only [sp, htext, ← str_append, str_size, List.length_append, List.length_cons, List.length_nil]; omega) ?_
    simp only [sp, htext, ← str_append]
    simp only [if_true, List.append_assoc, List.cons_append, List.nil_append, List.singleton_append]
    exact Ev.now _
theorem rprint_is {a : Int} {i : Nat} (hi : i < 39) (h : opsL[i]? = some a) (jt jf k : Nat) (h1 : jt < 256) (h2 : jf < 256) (h3 : k < 4294967296) :
    Ev (fun n => hurdleref02_Print.f n a (jt : Int) (jf : Int) (k : Int)) (str (insL i jt jf k)) := by
  unfold hurdleref02_Print.f
  refine Ev.bind (place_some hi h) ?_
  obtain ⟨l, w1, w2, w3⟩ := words_is hi
  rw [w1]
  simp only [Option.bind_some]
  rw [w3, w2]
  refine RightB.Ev.ifp (by omega) ?_
  refine RightB.Ev.ifp (by omega) ?_
  simp only [plain_is hi, Option.bind_some]
  have hw := word_small hi
  have hk := hexL_len (n := k) (by omega)
  cases hh : hasK i
  · simp only [Bool.not_false, if_true]
    have := rways_part (x := wordL i) (by omega) a hi jt jf (k : Int) h1 h2
    have e : insL i jt jf k = wordL i ++ if hasW i then 32 :: hexL jt ++ 32 :: hexL jf else [] := by simp [insL, hh]
    rw [e]
    exact this
  · simp only [Bool.not_true, Bool.false_eq_true, if_false, uw (show k < 18446744073709551616 by omega)]
    refine RightB.Ev.ifp (by simp only [sp, htext, ← str_append, str_size, List.length_append, List.length_cons, List.length_nil]; omega) ?_
    refine Ev.bind (rtext_is k (by omega)) ?_
    refine RightB.Ev.ifp (by simp only [sp, htext, ← str_append, str_size, List.length_append, List.length_cons, List.length_nil]; omega) ?_
    simp only [sp, htext, ← str_append]
    have := rways_part (x := wordL i ++ [32] ++ hexL k) (by simp only [List.length_append, List.length_cons, List.length_nil]; omega) a hi jt jf (k : Int) h1 h2
    have e : insL i jt jf k = wordL i ++ [32] ++ hexL k ++ if hasW i then 32 :: hexL jt ++ 32 :: hexL jf else [] := by simp [insL, hh]
    rw [e]
    exact this
end Go.Proofs.YtbgneakihibmbaaDoor.InsB
