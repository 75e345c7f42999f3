/- The pure statement of CrcThree is proved. No condition. -/
import Derived.Test.YtoaflnpjmpijgaaM15
import Derived.Test.YtoaflnpjmpijgaaCrcL
namespace Go.Proofs.Ytoaflnpjmpijgaa.Pure
set_option linter.unusedVariables false
open Go.RowKit Go.Proofs.Ytoaflnpjmpijgaa.M Go.Proofs.YtoaflnpjmpijgaaW.PrintWords Go.Proofs.YtoaflnpjmpijgaaW.PrintLast Go.Proofs.Ytoaflnpjmpijgaa.CrcPlain Go.Proofs.Ytoaflnpjmpijgaa.CrcB Go.Proofs.Ytoaflnpjmpijgaa.CrcL

theorem le_zip (a b : List Nat) (h : a.length = b.length) : le (List.zipWith (fun x y => x ^^^ y) a b) = le a ^^^ le b := by
  induction a generalizing b with
  | nil => cases b with
    | nil => rfl
    | cons => cases h
  | cons x a ih => cases b with
    | nil => cases h
    | cons y b =>
      rw [List.zipWith_cons_cons, le, le, le, ih b (by simpa using h), show (256 : Nat) = 2 ^ 8 from rfl, mul_xor, xor4]
def z3 (a b c : List Nat) : List Nat := List.zipWith (fun x y => x ^^^ y) (List.zipWith (fun x y => x ^^^ y) a b) c
theorem z3_length {a b c : List Nat} (h1 : a.length = b.length) (h2 : b.length = c.length) : (z3 a b c).length = a.length := by
  simp [z3]
  omega
theorem z3_bs {a b c : List Nat} (ha : Bs a) (hb : Bs b) (hc : Bs c) : Bs (z3 a b c) := by
  intro x hx
  obtain ⟨i, hi, rfl⟩ := List.mem_iff_getElem.mp hx
  simp only [z3, List.getElem_zipWith]
  simp only [z3, List.length_zipWith] at hi
  have h1 := ha a[i] (List.getElem_mem _)
  have h2 := hb b[i] (List.getElem_mem _)
  have h3 := hc c[i] (List.getElem_mem _)
  exact Nat.xor_lt_two_pow (n := 8) (Nat.xor_lt_two_pow (n := 8) h1 h2) h3
theorem three_l0 (a b c : List Nat) (ha : Bs a) (hb : Bs b) (hc : Bs c) (h1 : a.length = b.length) (h2 : b.length = c.length) (hn : a.length < 140737488300000) (d : Nat) : ∀ j, j + d = a.length →
    Ev (fun k => hurdlelaw20_CrcThree.l0 k (I a) (I b) (I c) (I ((z3 a b c).take j)) (j : Int)) true := by
  have hz := z3_length h1 h2
  induction d with
  | zero =>
    intro j hj
    have hf : ∀ k, hurdlelaw20_CrcThree.l0 (k + 1) (I a) (I b) (I c) (I ((z3 a b c).take j)) (j : Int) = ((crc_Sum.f k (I (z3 a b c))).bind fun t290 => ((crc_Sum.f k (I a)).bind fun t291 => ((crc_Sum.f k (I b)).bind fun t292 => ((crc_Sum.f k (I c)).bind fun t293 => (if t290 = (Go.bits .xor .u32 (Go.bits .xor .u32 t291 t292) t293) then ((hurdlelaw20_knows.f k).bind fun t294 => (some t294)) else (some false)))))) := by
      intro k
      simp only [hurdlelaw20_CrcThree.l0]
      rw [if_neg (by rw [I_length]; omega), List.take_of_length_le (by omega)]
    refine Ev.step hf (Ev.bind (sum_is _ (z3_bs ha hb hc) (by omega)) (Ev.bind (sum_is _ ha (by omega)) (Ev.bind (sum_is _ hb (by omega)) (Ev.bind (sum_is _ hc (by omega)) ?_))))
    have ca := crc_lt a ha
    have cb := crc_lt b hb
    have cc := crc_lt c hc
    have e : ((crc (z3 a b c) : Nat) : Int) = Go.bits .xor .u32 (Go.bits .xor .u32 ((crc a : Nat) : Int) ((crc b : Nat) : Int)) ((crc c : Nat) : Int) := by
      rw [u32_xor_nat _ _ ca cb, u32_xor_nat _ _ (Nat.xor_lt_two_pow (n := 32) ca cb) cc, crc_three a b c (z3 a b c) h1 h2 hz]
      unfold z3
      rw [le_zip _ _ (by simp; omega), le_zip _ _ h1]
    exact Ev.congr (fun k => if_pos e) (Ev.bind knows_is (Ev.now _))
  | succ d ih =>
    intro j hj
    have hlt : j < a.length := by omega
    have e : (z3 a b c).take (j + 1) = (z3 a b c).take j ++ [a[j] ^^^ b[j] ^^^ c[j]] := by
      rw [List.take_succ_eq_append_getElem (by omega)]
      simp [z3]
    refine Ev.step (fun k => ?_) (ih (j + 1) (by omega))
    have b1 := ha a[j] (List.getElem_mem _)
    have b2 := hb b[j] (List.getElem_mem _)
    have b3 := hc c[j] (List.getElem_mem _)
    simp only [hurdlelaw20_CrcThree.l0]
    rw [if_pos (by rw [I_length]; omega), if_pos (by omega), if_pos (by rw [I_length]; omega), if_pos (by rw [I_length]; omega), if_pos (by rw [I_length, List.length_take]; omega), w64 (by omega) (by omega)]
    rw [I_rd a j hlt, I_rd b j (by omega), I_rd c j (by omega), u8_xor_nat _ _ b1 b2, u8_xor_nat _ _ (Nat.xor_lt_two_pow (n := 8) b1 b2) b3, e, I_append]
    rfl
theorem CrcThree : hurdlelaw20_CrcThree.Pure := by
  intro l0 l1 l2 _ hn0 hw0 _ hn1 hw1 _ hn2 hw2
  obtain ⟨a, rfl, ha⟩ := I_of l0 hw0
  obtain ⟨b, rfl, hb⟩ := I_of l1 hw1
  obtain ⟨c, rfl, hc⟩ := I_of l2 hw2
  rw [I_length] at hn0 hn1 hn2
  refine Ev.rounds ?_
  have hj : Ev (fun k => hurdlelaw20_CrcThree.j0 k (I a) (I b) (I c) true) true :=
    Ev.step (f := fun k => (hurdlelaw20_knows.f k).bind fun t => some t) (fun k => by simp only [hurdlelaw20_CrcThree.j0, if_true]) (Ev.bind knows_is (Ev.now _))
  unfold hurdlelaw20_CrcThree.f
  simp only [I_length]
  by_cases h0 : (a.length : Int) > 2000
  · exact Ev.congr (fun k => if_pos h0) hj
  · refine Ev.congr (fun k => if_neg h0) ?_
    by_cases h1 : (a.length : Int) = (b.length : Int)
    · refine Ev.congr (fun k => if_pos h1) ?_
      by_cases h2 : (b.length : Int) = (c.length : Int)
      · have e : ((b.length : Int) != (c.length : Int)) = false := by simp [h2]
        rw [e]
        have h := three_l0 a b c ha hb hc (by omega) (by omega) (by omega) a.length 0 (by omega)
        exact Ev.step (fun k => by simp only [hurdlelaw20_CrcThree.j0, Bool.false_eq_true, if_false]; rfl) h
      · have e : ((b.length : Int) != (c.length : Int)) = true := by simp [h2]
        rw [e]
        exact hj
    · exact Ev.congr (fun k => if_neg h1) hj

end Go.Proofs.Ytoaflnpjmpijgaa.Pure
