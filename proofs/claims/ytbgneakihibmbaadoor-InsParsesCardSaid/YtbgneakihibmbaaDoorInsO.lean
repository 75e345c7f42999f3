/- What was read as an instruction has just the instruction's text. No condition. -/
import Derived.Test.YtbgneakihibmbaaDoorInsR
namespace Go.Proofs.YtbgneakihibmbaaDoor.InsO
set_option linter.unusedVariables false
set_option linter.unusedSimpArgs false
open Go.RowKit Go.Proofs.YtbgneakihibmbaaDoorW.PrintWords Go.Proofs.YtbgneakihibmbaaDoorW.PrintLast Go.Proofs.YtbgneakihibmbaaDoorW.PrintMore Go.Proofs.YtbgneakihibmbaaDoor.M Go.Proofs.YtbgneakihibmbaaDoor.Hex Go.Proofs.YtbgneakihibmbaaDoor.HexB Go.Proofs.YtbgneakihibmbaaDoor.HexP Go.Proofs.YtbgneakihibmbaaDoor.InsOps Go.Proofs.YtbgneakihibmbaaDoor.RightB Go.Proofs.YtbgneakihibmbaaDoor.InsB Go.Proofs.YtbgneakihibmbaaDoor.InsW Go.Proofs.YtbgneakihibmbaaDoor.InsR

theorem sp_bs : ∀ (l cur : List Nat), Bs cur → Bs l → ∀ w ∈ sp cur l, Bs w := by
  intro l
  induction l with
  | nil => intro cur hc _ w hw; simp only [InsW.sp, List.mem_singleton] at hw; rw [hw]; exact hc
  | cons c l ih =>
    intro cur hc hl w hw
    have hl' : Bs l := fun x hx => hl x (List.mem_cons_of_mem _ hx)
    rw [InsW.sp] at hw
    split at hw
    · rcases List.mem_cons.1 hw with rfl | hw
      · exact hc
      · exact ih [] (fun x hx => by cases hx) hl' w hw
    · exact ih _ (bs_append.2 ⟨hc, fun x hx => by simp only [List.mem_singleton] at hx; rw [hx]; exact hl c List.mem_cons_self⟩) hl' w hw
theorem step_inv {m op : Int} {rest rs : List ByteArray} {v op' : Int} (hm : m < 18446744073709551616) (h : numStep m rest op = (v, rs, op')) (ho : 0 ≤ op') :
    ∃ n : Nat, rest = str (hexL n) :: rs ∧ v = (n : Int) ∧ (n : Int) ≤ m ∧ op' = op := by
  cases rest with
  | nil => simp only [numStep, Prod.mk.injEq] at h; omega
  | cons r rs' =>
    simp only [numStep, Prod.mk.injEq] at h
    obtain ⟨h1, h2, h3⟩ := h
    split at h3
    · omega
    · rename_i hc
      have hc2 : (nP r).2 = 0 := by
        apply Classical.byContradiction
        intro c
        exact hc (.inl c)
      obtain ⟨n, e1, e2, e3⟩ := parse_only r (nP r).1 (by rw [nP_is r, hc2])
      refine ⟨n, by rw [e3, h2]; rfl, by omega, ?_, h3.symm⟩
      have : ¬ (nP r).1 > m := fun c => hc (.inr c)
      omega
theorem map_str_inj : ∀ {a b : List (List Nat)}, (∀ w ∈ a, Bs w) → (∀ w ∈ b, Bs w) → a.map str = b.map str → a = b := by
  intro a
  induction a with
  | nil => intro b _ _ h; cases b with
    | nil => rfl
    | cons => simp at h
  | cons x a ih => intro b ha hb h; cases b with
    | nil => simp at h
    | cons y b =>
      simp only [List.map_cons, List.cons.injEq] at h
      rw [(str_inj (ha x List.mem_cons_self) (hb y List.mem_cons_self)).1 h.1, ih (fun w hw => ha w (List.mem_cons_of_mem _ hw)) (fun w hw => hb w (List.mem_cons_of_mem _ hw)) h.2]
theorem rest_inv {i : Nat} {op jt jf k r1 : Int} {rest : List ByteArray} (h : parseRest op (hasK i) (hasW i) rest = some (r1, jt, jf, k)) :
    ∃ x y z : Nat, jt = (x : Int) ∧ jf = (y : Int) ∧ k = (z : Int) ∧ x < 256 ∧ y < 256 ∧ z < 4294967296 ∧ right i (x : Int) (y : Int) (z : Int) = true ∧ rest = (restL i x y z).map str ∧ r1 = op := by
  unfold parseRest at h
  cases hk : hasK i <;> cases hw : hasW i <;> simp only [hk, hw, Bool.false_eq_true, if_false, if_true] at h
  · split at h
    · cases h
    · split at h
      · cases h
      · rename_i h1 h2
        simp only [Option.some.injEq, Prod.mk.injEq] at h
        obtain ⟨e1, e2, e3, e4⟩ := h
        have : rest = [] := List.eq_nil_of_length_eq_zero (by omega)
        exact ⟨0, 0, 0, by omega, by omega, by omega, by omega, by omega, by omega, by simp [right, hk, hw], by simp [restL, hk, hw, this], e1.symm⟩
  · generalize hb : numStep 255 rest op = b at h
    obtain ⟨v1, rs1, o1⟩ := b
    simp only at h
    generalize hc : numStep 255 rs1 o1 = c at h
    obtain ⟨v2, rs2, o2⟩ := c
    simp only at h
    split at h
    · cases h
    · split at h
      · cases h
      · rename_i h1 h2
        simp only [Option.some.injEq, Prod.mk.injEq] at h
        obtain ⟨e1, e2, e3, e4⟩ := h
        obtain ⟨y, f1, f2, f3, f4⟩ := step_inv (by omega) hc (by omega)
        obtain ⟨x, g1, g2, g3, g4⟩ := step_inv (by omega) hb (by omega)
        have : rs2 = [] := List.eq_nil_of_length_eq_zero (by omega)
        rw [g2, w64s (by omega)] at e2
        rw [f2, w64s (by omega)] at e3
        refine ⟨x, y, 0, e2.symm, e3.symm, by omega, by omega, by omega, by omega, ?_, ?_, by omega⟩
        · simp [right, hk, hw]; omega
        · rw [g1, f1, this]; simp [restL, hk, hw]
  · generalize ha : numStep 4294967295 rest op = a at h
    obtain ⟨v0, rs0, o0⟩ := a
    simp only at h
    split at h
    · cases h
    · split at h
      · cases h
      · rename_i h1 h2
        simp only [Option.some.injEq, Prod.mk.injEq] at h
        obtain ⟨e1, e2, e3, e4⟩ := h
        obtain ⟨z, f1, f2, f3, f4⟩ := step_inv (by omega) ha (by omega)
        have : rs0 = [] := List.eq_nil_of_length_eq_zero (by omega)
        refine ⟨0, 0, z, by omega, by omega, by omega, by omega, by omega, by omega, by simp [right, hk, hw], ?_, by omega⟩
        rw [f1, this]; simp [restL, hk, hw]
  · generalize ha : numStep 4294967295 rest op = a at h
    obtain ⟨v0, rs0, o0⟩ := a
    simp only at h
    generalize hb : numStep 255 rs0 o0 = b at h
    obtain ⟨v1, rs1, o1⟩ := b
    simp only at h
    generalize hc : numStep 255 rs1 o1 = c at h
    obtain ⟨v2, rs2, o2⟩ := c
    simp only at h
    split at h
    · cases h
    · split at h
      · cases h
      · rename_i h1 h2
        simp only [Option.some.injEq, Prod.mk.injEq] at h
        obtain ⟨e1, e2, e3, e4⟩ := h
        obtain ⟨y, f1, f2, f3, f4⟩ := step_inv (by omega) hc (by omega)
        obtain ⟨x, g1, g2, g3, g4⟩ := step_inv (by omega) hb (by omega)
        obtain ⟨z, k1, k2, k3, k4⟩ := step_inv (by omega) ha (by omega)
        have : rs2 = [] := List.eq_nil_of_length_eq_zero (by omega)
        rw [g2, w64s (by omega)] at e2
        rw [f2, w64s (by omega)] at e3
        refine ⟨x, y, z, e2.symm, e3.symm, by omega, by omega, by omega, by omega, ?_, ?_, by omega⟩
        · simp [right, hk, hw]; omega
        · rw [k1, g1, f1, this]; simp [restL, hk, hw]
theorem join_insL {i : Nat} (hi : i < 39) (x y z : Nat) : joinL (wordL i :: restL i x y z) = insL i x y z := by
  have := join_sp [] (insL i x y z)
  rw [sp_insL hi] at this
  exact this
theorem shape_at {h : Int × ByteArray × Bool × Bool} (hm : h ∈ shapeT) : ∃ i, i < 39 ∧ shapeT.getD i shapeZ = h := by
  obtain ⟨i, hi, e⟩ := List.getElem_of_mem hm
  exact ⟨i, by simpa [shape_len] using hi, by rw [List.getD_eq_getElem?_getD, List.getElem?_eq_getElem hi, Option.getD_some, e]⟩
/-- What is read: nothing, or an instruction by its own text. -/
theorem parse_cases (l : List Nat) (hb : Bs l) (hlen : l.length < 10000) :
    ins_Parse.f (str l) = some (0, 0, 0, 0, 2) ∨ ∃ (op : Int) (i x y z : Nat), ins_Parse.f (str l) = some (op, (x : Int), (y : Int), (z : Int), 0) ∧ i < 39 ∧ opsL[i]? = some op ∧ x < 256 ∧ y < 256 ∧ z < 4294967296 ∧ right i (x : Int) (y : Int) (z : Int) = true ∧ l = insL i x y z := by
  have hw := sp_bs l [] (fun x hx => by cases hx) hb
  have hj := join_sp [] l
  obtain ⟨w, ws, e⟩ := sp_ne [] l
  rw [e] at hw hj
  unfold ins_Parse.f
  rw [str_size, if_pos (by omega), wordsOf_is l hb, e, List.map_cons, List.headD_cons, List.drop_one, List.tail_cons]
  unfold parseIn
  cases hf : shapeT.find? (fun h => h.2.1.toList == (str w).toList) with
  | none => exact .inl rfl
  | some h =>
    have hp := List.find?_some hf
    have hm := List.mem_of_find?_eq_some hf
    obtain ⟨i, hi, rfl⟩ := shape_at hm
    have hww : wordB i = str w := toList_inj.1 (eq_of_beq hp)
    have hwl : wordL i = w := (str_inj (wordL_bs hi) (hw w List.mem_cons_self)).1 (by rw [← word_str, hww])
    simp only
    cases hr : parseRest (shapeT.getD i shapeZ).1 (shapeT.getD i shapeZ).2.2.1 (shapeT.getD i shapeZ).2.2.2 (ws.map str) with
    | none => exact .inl rfl
    | some r =>
      obtain ⟨r1, jt, jf, k⟩ := r
      obtain ⟨x, y, z, rfl, rfl, rfl, hx, hy, hz, hrt, hrest, rfl⟩ := rest_inv (i := i) hr
      refine .inr ⟨(shapeT.getD i shapeZ).1, i, x, y, z, rfl, hi, (op_of hi).1, hx, hy, hz, hrt, ?_⟩
      have hws : ws = restL i x y z := by
        refine map_str_inj (fun v hv => hw v (List.mem_cons_of_mem _ hv)) ?_ hrest
        intro v hv
        have hin : Bs (insL i x y z) := insL_bs hi x y z
        have := sp_bs (insL i x y z) [] (fun x hx => by cases hx) hin
        rw [sp_insL hi] at this
        exact this v (List.mem_cons_of_mem _ hv)
      rw [hws, ← hwl, join_insL hi] at hj
      exact hj.symm
end Go.Proofs.YtbgneakihibmbaaDoor.InsO
