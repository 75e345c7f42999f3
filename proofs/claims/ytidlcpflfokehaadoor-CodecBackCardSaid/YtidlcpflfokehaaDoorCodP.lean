/- How a filter's text is read, in plain numbers. No condition but that the text is short. -/
import Derived.Test.YtidlcpflfokehaaDoorCodA
import Derived.Test.YtidlcpflfokehaaDoorM7
namespace Go.Proofs.YtidlcpflfokehaaDoor.CodecP
set_option linter.unusedVariables false
set_option linter.unusedSimpArgs false
open Go.RowKit Go.Proofs.YtidlcpflfokehaaDoorW.PrintWords Go.Proofs.YtidlcpflfokehaaDoorW.PrintLast Go.Proofs.YtidlcpflfokehaaDoorW.PrintMore Go.Proofs.YtidlcpflfokehaaDoor.M Go.Proofs.YtidlcpflfokehaaDoor.Hex Go.Proofs.YtidlcpflfokehaaDoor.HexB Go.Proofs.YtidlcpflfokehaaDoor.HexP Go.Proofs.YtidlcpflfokehaaDoor.InsOps Go.Proofs.YtidlcpflfokehaaDoor.RightB Go.Proofs.YtidlcpflfokehaaDoor.InsB Go.Proofs.YtidlcpflfokehaaDoor.InsW Go.Proofs.YtidlcpflfokehaaDoor.InsR Go.Proofs.YtidlcpflfokehaaDoor.InsO Go.Proofs.YtidlcpflfokehaaDoor.CodecB Go.Proofs.YtidlcpflfokehaaDoor.CodecT

theorem chk_good {l : List In} (h : ∀ x ∈ l, GoodI x) (hn : l.length ≤ 4096) : chk l = 0 := by unfold chk; rw [if_neg (by omega), if_pos (good_okL h)]
theorem print_good (l : List In) (h : ∀ x ∈ l, GoodI x) (hn : l.length ≤ 4096) : Ev (fun k => codec_Print.f k l) (str (txtL l), 0) := by
  unfold codec_Print.f
  refine Ev.bind (check_is l (by omega)) ?_
  rw [chk_good h hn]
  simp only [if_true]
  have := print_from l (by omega) h l.length 0 [] (by omega) (by simp)
  rw [List.drop_zero, List.nil_append] at this
  exact this
theorem encode_good (l : List In) (h : ∀ x ∈ l, GoodI x) (hn : l.length ≤ 4096) : Ev (fun k => codec_Encode.f k l) (CodecB.I (encL l), 0) := by
  unfold codec_Encode.f
  refine Ev.bind (check_is l (by omega)) ?_
  rw [chk_good h hn]
  simp only [if_true]
  have := encode_from l (by omega) h l.length 0 [] (by omega) rfl
  simpa using this
theorem hexL_10 (n : Nat) : ∀ x ∈ hexL n, x ≠ 10 := by
  intro x hx
  unfold hexL at hx
  rcases List.mem_cons.1 hx with rfl | hx
  · decide
  rcases List.mem_cons.1 hx with rfl | hx
  · decide
  obtain ⟨d, _, rfl⟩ := List.mem_map.1 hx
  unfold chr
  split <;> omega
theorem wordL_10 {i : Nat} (hi : i < 39) : ∀ x ∈ wordL i, x ≠ 10 := by
  have all : ∀ i : Nat, i < 39 → ∀ x ∈ wordL i, x ≠ 10 := by decide +kernel
  exact all i hi
theorem insL_10 {i : Nat} (hi : i < 39) (a b c : Nat) : ∀ x ∈ insL i a b c, x ≠ 10 := by
  intro x hx
  unfold insL at hx
  rcases List.mem_append.1 hx with hx | hx
  · exact wordL_10 hi x hx
  rcases List.mem_append.1 hx with hx | hx
  · split at hx
    · rcases List.mem_cons.1 hx with rfl | hx
      · decide
      · exact hexL_10 _ x hx
    · cases hx
  · split at hx
    · rcases List.mem_append.1 hx with hx | hx
      · rcases List.mem_cons.1 hx with rfl | hx
        · decide
        · exact hexL_10 _ x hx
      · rcases List.mem_cons.1 hx with rfl | hx
        · decide
        · exact hexL_10 _ x hx
    · cases hx
theorem txtI_10 {x : In} (h : GoodI x) : ∀ y ∈ txtI x, y ≠ 10 := by
  obtain ⟨i, a, b, c, hi, ho, e1, e2, e3, l1, l2, l3, hr, e⟩ := good_txt h
  rw [e]
  exact insL_10 hi a b c
theorem parseI_is {x : In} (h : GoodI x) : ins_Parse.f (str (txtI x)) = some (x.f0, x.f1, x.f2, x.f3, 0) := by
  obtain ⟨i, a, b, c, hi, ho, e1, e2, e3, l1, l2, l3, hr, e⟩ := good_txt h
  rw [e, e1, e2, e3]
  exact parse_ins hi ho a b c l1 l2 l3 hr
/-- A line is passed. -/
theorem scan (L : List Nat) (hb : Bs L) (hL : L.length < 10000000) (out : List In) (frm : Int) (r : List In × Int × Int) (e : Nat) (he : e ≤ L.length) (hend : Ev (fun k => codec_Parse.l0 k (str L) out frm (L.length : Int) (e : Int)) r) :
    ∀ (m j : Nat), j + m = e → (∀ t, j ≤ t → (h : t < e) → L[t] ≠ 10) → Ev (fun k => codec_Parse.l0 k (str L) out frm (L.length : Int) (j : Int)) r := by
  intro m
  induction m with
  | zero =>
    intro j hj _
    rw [show j = e by omega]
    exact hend
  | succ m ih =>
    intro j hj hne
    have hjl : j < L.length := by omega
    have h10 := hne j (Nat.le_refl _) (by omega)
    refine Ev.step (fun k => ?_) (ih (j + 1) (by omega) (fun t h1 h2 => hne t (by omega) h2))
    simp only [codec_Parse.l0]
    rw [if_pos (by omega), if_pos (by omega), if_pos (by rw [str_size]; omega), bt_str L j hjl hb, if_neg (by omega), wS j (by omega)]
/-- What stands ahead of a line's end is read as an instruction. -/
theorem line_ok (L : List Nat) (hb : Bs L) (hL : L.length < 10000000) (out : List In) (f e : Nat) (he : e < L.length) (hf : f ≤ e) (h10 : L[e] = 10) (hn : out.length < 4096) (x : In) (hx : ins_Parse.f (str ((L.take e).drop f)) = some (x.f0, x.f1, x.f2, x.f3, 0)) (k : Nat) :
    codec_Parse.l0 (k + 1) (str L) out (f : Int) (L.length : Int) (e : Int) = codec_Parse.l0 k (str L) (out ++ [x]) ((e + 1 : Nat) : Int) (L.length : Int) ((e + 1 : Nat) : Int) := by
  simp only [codec_Parse.l0]
  rw [if_pos (by omega), if_pos (by omega), if_pos (by rw [str_size]; omega), bt_str L e he hb, if_pos (by omega), if_neg (by omega), if_pos (by omega), if_pos (by omega), if_pos (by rw [str_size]; omega), Int.toNat_natCast, Int.toNat_natCast, str_extract, hx]
  simp only [Option.bind_some, if_true]
  rw [if_pos (by omega), wS e (by omega)]
theorem parse_txt : ∀ (rest : List In) (pre : List Nat) (out : List In), (∀ x ∈ rest, GoodI x) → Bs pre → out.length + rest.length ≤ 4096 → (pre ++ txtL rest).length < 10000000 →
    Ev (fun k => codec_Parse.l0 k (str (pre ++ txtL rest)) out (pre.length : Int) ((pre ++ txtL rest).length : Int) (pre.length : Int)) (out ++ rest, 0, 0) := by
  intro rest
  induction rest with
  | nil =>
    intro pre out _ _ _ hl
    simp only [txtL, List.append_nil]
    refine Ev.step (f := fun _ => some (out, 0, 0)) (fun k => ?_) (Ev.now _)
    simp only [codec_Parse.l0]
    rw [if_neg (by omega), if_neg (by rw [str_size]; omega)]
  | cons x rest ih =>
    intro pre out hg hp hn hl
    have hx := hg x List.mem_cons_self
    have hr : ∀ y ∈ rest, GoodI y := fun y hy => hg y (List.mem_cons_of_mem _ hy)
    have hn' : out.length + rest.length + 1 ≤ 4096 := by simpa [Nat.add_assoc] using hn
    have hb : Bs (pre ++ txtL (x :: rest)) := bs_append.2 ⟨hp, txtL_bs hg⟩
    have eL : pre ++ txtL (x :: rest) = (pre ++ txtI x ++ [10]) ++ txtL rest := by simp only [txtL, List.append_assoc, List.cons_append, List.nil_append]
    have hlen : (pre ++ txtL (x :: rest)).length = pre.length + (txtI x).length + 1 + (txtL rest).length := by rw [eL]; simp only [List.length_append, List.length_cons, List.length_nil]
    have key := ih (pre ++ txtI x ++ [10]) (out ++ [x]) hr (bs_append.2 ⟨bs_append.2 ⟨hp, txtI_bs hx⟩, by intro y hy; simp at hy; omega⟩) (by rw [List.length_append]; simp; omega) (by rw [← eL]; exact hl)
    rw [← eL] at key
    have e1 : ((pre ++ txtI x ++ [10]).length : Int) = ((pre.length + (txtI x).length + 1 : Nat) : Int) := by simp only [List.length_append, List.length_cons, List.length_nil]
    rw [e1, List.append_assoc] at key
    have hE : pre.length + (txtI x).length < (pre ++ txtL (x :: rest)).length := by omega
    have h10 : (pre ++ txtL (x :: rest))[pre.length + (txtI x).length] = 10 := by
      have : (pre ++ txtL (x :: rest))[pre.length + (txtI x).length]? = some 10 := by
        rw [eL, List.append_assoc (pre ++ txtI x), List.getElem?_append_right (by rw [List.length_append]; omega)]
        rw [List.length_append, Nat.sub_self]
        rfl
      exact Option.some.inj ((List.getElem?_eq_getElem hE).symm.trans this)
    have hline : ((pre ++ txtL (x :: rest)).take (pre.length + (txtI x).length)).drop pre.length = txtI x := by
      rw [eL, List.append_assoc (pre ++ txtI x), List.take_append_of_le_length (by rw [List.length_append]; omega), List.take_of_length_le (by rw [List.length_append]; omega), List.drop_left]
    refine scan _ hb hl out _ _ (pre.length + (txtI x).length) (by omega) ?_ (txtI x).length pre.length (by omega) ?_
    · exact Ev.step (fun k => line_ok _ hb hl out pre.length (pre.length + (txtI x).length) hE (by omega) h10 (by omega) x (by rw [hline]; exact parseI_is hx) k) key
    · intro t h1 h2 h3
      have h4 : (txtI x)[t - pre.length]? = some 10 := by
        have : (pre ++ txtL (x :: rest))[t]? = some 10 := by rw [List.getElem?_eq_getElem (by omega), h3]
        rw [eL, List.append_assoc (pre ++ txtI x), List.getElem?_append_left (by rw [List.length_append]; omega), List.getElem?_append_right h1] at this
        exact this
      exact txtI_10 hx 10 (List.mem_of_getElem? h4) rfl
theorem parse_print (l : List In) (hg : ∀ x ∈ l, GoodI x) (hn : l.length ≤ 4096) : Ev (fun k => codec_Parse.f k (str (txtL l))) (l, 0, 0) := by
  unfold codec_Parse.f
  have h := txtL_len hg
  have := parse_txt l [] [] hg (fun x hx => by cases hx) (by simpa using hn) (by simp; omega)
  simp only [List.nil_append, List.length_nil] at this
  rw [str_size]
  exact this
/-- What a parse comes to. -/
def Read (L : List Nat) (r : List In × Int × Int) : Prop := (r.2.2 = 0 ∧ (∀ x ∈ r.1, GoodI x) ∧ txtL r.1 = L ∧ r.1.length ≤ 4096) ∨ (r.2.2 ≠ 0 ∧ r.1 = [])
theorem parse_any (L : List Nat) (hb : Bs L) (hL : L.length ≤ 5000) : ∀ (m i f : Nat) (out : List In), i + m = L.length → f ≤ i → (∀ x ∈ out, GoodI x) → txtL out = L.take f → out.length ≤ 4096 →
    ∃ r, Ev (fun k => codec_Parse.l0 k (str L) out (f : Int) (L.length : Int) (i : Int)) r ∧ Read L r := by
  intro m
  induction m with
  | zero =>
    intro i f out hi hf hg ht hn
    by_cases h1 : f < L.length
    · by_cases h2 : (out.length : Int) = 4096
      · refine ⟨([], (out.length : Int), 3), Ev.step (f := fun _ => some ([], (out.length : Int), 3)) (fun k => ?_) (Ev.now _), .inr ⟨(show (3 : Int) ≠ 0 by decide), rfl⟩⟩
        simp only [codec_Parse.l0]
        rw [if_neg (by omega), if_pos (by rw [str_size]; omega), if_pos h2]
      · refine ⟨([], (out.length : Int), 2), Ev.step (f := fun _ => some ([], (out.length : Int), 2)) (fun k => ?_) (Ev.now _), .inr ⟨(show (2 : Int) ≠ 0 by decide), rfl⟩⟩
        simp only [codec_Parse.l0]
        rw [if_neg (by omega), if_pos (by rw [str_size]; omega), if_neg h2]
    · refine ⟨(out, 0, 0), Ev.step (f := fun _ => some (out, 0, 0)) (fun k => ?_) (Ev.now _), .inl ⟨rfl, hg, ?_, hn⟩⟩
      · simp only [codec_Parse.l0]
        rw [if_neg (by omega), if_neg (by rw [str_size]; omega)]
      · rw [ht, List.take_of_length_le (by omega)]
  | succ m ih =>
    intro i f out hi hf hg ht hn
    have hil : i < L.length := by omega
    by_cases h10 : L[i] = 10
    · by_cases h2 : (out.length : Int) = 4096
      · refine ⟨([], (out.length : Int), 3), Ev.step (f := fun _ => some ([], (out.length : Int), 3)) (fun k => ?_) (Ev.now _), .inr ⟨(show (3 : Int) ≠ 0 by decide), rfl⟩⟩
        simp only [codec_Parse.l0]
        rw [if_pos (by omega), if_pos (by omega), if_pos (by rw [str_size]; omega), bt_str L i hil hb, if_pos (by omega), if_pos h2]
      · have hbl : Bs ((L.take i).drop f) := fun x hx => hb x (List.mem_of_mem_take (List.mem_of_mem_drop hx))
        have hll : ((L.take i).drop f).length < 10000 := by rw [List.length_drop, List.length_take]; omega
        rcases parse_cases _ hbl hll with hp | ⟨op, j, x, y, z, hp, hj, ho, hx, hy, hz, hr, hline⟩
        · refine ⟨([], (out.length : Int), 2), Ev.step (f := fun _ => some ([], (out.length : Int), 2)) (fun k => ?_) (Ev.now _), .inr ⟨(show (2 : Int) ≠ 0 by decide), rfl⟩⟩
          simp only [codec_Parse.l0]
          rw [if_pos (by omega), if_pos (by omega), if_pos (by rw [str_size]; omega), bt_str L i hil hb, if_pos (by omega), if_neg h2, if_pos (by omega), if_pos (by omega), if_pos (by rw [str_size]; omega), Int.toNat_natCast, Int.toNat_natCast, str_extract, hp]
          rfl
        · have hgx : GoodI ⟨op, (x : Int), (y : Int), (z : Int)⟩ := ⟨j, x, y, z, hj, ho, rfl, rfl, rfl, hx, hy, hz, hr⟩
          have htx : txtI ⟨op, (x : Int), (y : Int), (z : Int)⟩ = (L.take i).drop f := by
            rw [hline]
            unfold txtI
            rw [idx_is hj ho]
            rfl
          obtain ⟨r, h3, h4⟩ := ih (i + 1) (i + 1) (out ++ [⟨op, (x : Int), (y : Int), (z : Int)⟩]) (by omega) (Nat.le_refl _) (fun w hw => by
              rcases List.mem_append.1 hw with hw | hw
              · exact hg w hw
              · rcases List.mem_cons.1 hw with rfl | hw
                · exact hgx
                · cases hw) (by
              rw [txtL_app, ht]
              show L.take f ++ (txtI ⟨op, (x : Int), (y : Int), (z : Int)⟩ ++ [10]) = L.take (i + 1)
              rw [htx, List.take_succ_eq_append_getElem hil, h10, ← List.append_assoc]
              congr 1
              have : L.take f = (L.take i).take f := by rw [List.take_take, Nat.min_eq_left hf]
              rw [this, List.take_append_drop]) (by rw [List.length_append]; simp; omega)
          exact ⟨r, Ev.step (fun k => line_ok L hb (by omega) out f i hil hf h10 (by omega) ⟨op, (x : Int), (y : Int), (z : Int)⟩ hp k) h3, h4⟩
    · obtain ⟨r, h3, h4⟩ := ih (i + 1) f out (by omega) (by omega) hg ht hn
      refine ⟨r, Ev.step (fun k => ?_) h3, h4⟩
      simp only [codec_Parse.l0]
      rw [if_pos (by omega), if_pos (by omega), if_pos (by rw [str_size]; omega), bt_str L i hil hb, if_neg (by omega), wS i (by omega)]
theorem parse_read (L : List Nat) (hb : Bs L) (hL : L.length ≤ 5000) : ∃ r, Ev (fun k => codec_Parse.f k (str L)) r ∧ Read L r := by
  unfold codec_Parse.f
  rw [str_size]
  exact parse_any L hb hL L.length 0 0 [] (by omega) (Nat.le_refl _) (fun x hx => by cases hx) rfl (by simp)
end Go.Proofs.YtidlcpflfokehaaDoor.CodecP
