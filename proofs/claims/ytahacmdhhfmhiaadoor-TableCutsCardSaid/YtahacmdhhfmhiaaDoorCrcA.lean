/- The sum of bytes as a plain function of numbers: it is linear, and a turn of bits within 32 changes it. No condition. -/
import Derived.Laws.BitsAllLaws
import Derived.Lib.Bytes
import Derived.Test.YtahacmdhhfmhiaaDoorMC
namespace Go.Proofs.YtahacmdhhfmhiaaDoor.CrcPlain
def st (r : Nat) : Nat := (r / 2) ^^^ (if r % 2 = 1 then 3988292384 else 0)
def sts : Nat → Nat → Nat
 | 0, r => r
 | n + 1, r => sts n (st r)
def le : List Nat → Nat
 | [] => 0
 | x :: l => x ^^^ (256 * le l)
def run (r : Nat) (l : List Nat) : Nat := l.foldl (fun r x => sts 8 (r ^^^ x)) r
def crc (l : List Nat) : Nat := 4294967295 ^^^ run 4294967295 l
theorem xor4 (a b c d : Nat) : (a ^^^ b) ^^^ (c ^^^ d) = (a ^^^ c) ^^^ (b ^^^ d) := by
 rw [Nat.xor_assoc, Nat.xor_assoc, ← Nat.xor_assoc b c d, Nat.xor_comm b c, Nat.xor_assoc c b d]
theorem st_xor (a b : Nat) : st (a ^^^ b) = st a ^^^ st b := by
 unfold st
 rw [Nat.xor_div_two]
 have h := Nat.xor_mod_two_eq_one (a := a) (b := b)
 by_cases ha : a % 2 = 1 <;> by_cases hb : b % 2 = 1
 ·rw [if_pos ha, if_pos hb, if_neg (by rw [h]; simp [ha, hb]), xor4]; simp
 ·rw [if_pos ha, if_neg hb, if_pos (by rw [h]; simp [ha, hb]), xor4]; simp
 ·rw [if_neg ha, if_pos hb, if_pos (by rw [h]; simp [ha, hb]), xor4]; simp
 ·rw [if_neg ha, if_neg hb, if_neg (by rw [h]; simp [ha, hb]), xor4]; simp
theorem sts_xor (n a b : Nat) : sts n (a ^^^ b) = sts n a ^^^ sts n b := by
 induction n generalizing a b with
 | zero => rfl
 | succ n ih => show sts n (st (a ^^^ b)) = sts n (st a) ^^^ sts n (st b); rw [st_xor, ih]
theorem sts_add (m n r : Nat) : sts (m + n) r = sts n (sts m r) := by
 induction m generalizing r with
 | zero => rw [Nat.zero_add]; rfl
 | succ m ih => rw [Nat.succ_add]; exact ih (st r)
theorem st_double (n : Nat) : st (2 * n) = n := by
 unfold st
 rw [if_neg (by omega), Nat.mul_div_cancel_left n (by decide)]
 simp
theorem sts_pow (n m : Nat) : sts n (2 ^ n * m) = m := by
 induction n with
 | zero => simp [sts]
 | succ n ih =>
  show sts n (st (2 ^ (n + 1) * m)) = m
  rw [show 2 ^ (n + 1) * m = 2 * (2 ^ n * m) by rw [Nat.pow_succ, Nat.mul_comm (2 ^ n) 2, Nat.mul_assoc], st_double, ih]
theorem st_lt {r : Nat} (h : r < 4294967296) : st r < 4294967296 := by
 unfold st
 refine Nat.xor_lt_two_pow (n := 32) (by omega) ?_
 split <;> decide
theorem sts_lt (n : Nat) {r : Nat} (h : r < 4294967296) : sts n r < 4294967296 := by
 induction n generalizing r with
 | zero => exact h
 | succ n ih => exact ih (st_lt h)
theorem xor_ne_zero {a b : Nat} (h : a ≠ b) : a ^^^ b ≠ 0 := by
 intro e
 apply h
 have h2 : (a ^^^ b) ^^^ b = 0 ^^^ b := by rw [e]
 rwa [Nat.xor_assoc, Nat.xor_self, Nat.xor_zero, Nat.zero_xor] at h2
theorem st_ne {r : Nat} (h : r < 4294967296) (h0 : r ≠ 0) : st r ≠ 0 := by
 unfold st
 by_cases hr : r % 2 = 1
 ·rw [if_pos hr]
  exact xor_ne_zero (by omega)
 ·rw [if_neg hr, Nat.xor_zero]
  omega
theorem sts_ne (n : Nat) {r : Nat} (h : r < 4294967296) (h0 : r ≠ 0) : sts n r ≠ 0 := by
 induction n generalizing r with
 | zero => exact h0
 | succ n ih => exact ih (st_lt h) (st_ne h h0)
theorem sts_burst (n at_ m : Nat) (h : m < 4294967296) (h0 : m ≠ 0) : sts n (2 ^ at_ * m) ≠ 0 := by
 rcases Nat.le_total at_ n with h1 | h1
 ·obtain ⟨d, rfl⟩ := Nat.exists_eq_add_of_le h1
  rw [sts_add, sts_pow]
  exact sts_ne d h h0
 ·obtain ⟨d, rfl⟩ := Nat.exists_eq_add_of_le h1
  rw [Nat.pow_add, Nat.mul_assoc, sts_pow]
  exact Nat.mul_ne_zero (Nat.pos_iff_ne_zero.mp (Nat.two_pow_pos d)) h0
theorem mul_xor (n a b : Nat) : 2 ^ n * (a ^^^ b) = 2 ^ n * a ^^^ 2 ^ n * b := by
 have h := Nat.shiftLeft_xor_distrib (a := a) (b := b) (i := n)
 simpa [Nat.shiftLeft_eq, Nat.mul_comm] using h
theorem run_eq (r : Nat) (l : List Nat) : run r l = sts (8 * l.length) (r ^^^ le l) := by
 induction l generalizing r with
 | nil => simp [run, le, sts]
 | cons x l ih =>
  show run (sts 8 (r ^^^ x)) l = _
  rw [ih, List.length_cons, Nat.mul_succ, Nat.add_comm, sts_add, le, ← Nat.xor_assoc, sts_xor 8 (r ^^^ x)]
  rw [show (256 : Nat) * le l = 2 ^ 8 * le l from rfl, sts_pow]
theorem run_lt {r : Nat} (l : List Nat) (h : r < 4294967296) (hl : ∀ x ∈ l, x < 256) : run r l < 4294967296 := by
 induction l generalizing r with
 | nil => exact h
 | cons x l ih =>
  refine ih (sts_lt 8 (Nat.xor_lt_two_pow (n := 32) h ?_)) (fun y hy => hl y (List.mem_cons_of_mem _ hy))
  have := hl x List.mem_cons_self
  omega
theorem crc_lt (l : List Nat) (hl : ∀ x ∈ l, x < 256) : crc l < 4294967296 :=
 Nat.xor_lt_two_pow (n := 32) (by decide) (run_lt l (by decide) hl)
def four (v : Nat) : List Nat := [v % 256, v / 256 % 256, v / 65536 % 256, v / 16777216 % 256]
theorem add_xor (x y : Nat) (h : x < 256) : x ^^^ 256 * y = x + 256 * y := by
 have h2 : x + 256 * y = 2 ^ 8 * y + x := by omega
 rw [h2, Nat.two_pow_add_eq_or_of_lt (by simpa using h)]
 apply Nat.eq_of_testBit_eq
 intro i
 rw [Nat.testBit_xor, Nat.testBit_or, show (256 : Nat) * y = 2 ^ 8 * y from rfl]
 by_cases hi : i < 8
 ·have : (2 ^ 8 * y).testBit i = false := by rw [Nat.testBit_two_pow_mul]; simp; omega
  rw [this]; simp
 ·have : x.testBit i = false := Nat.testBit_lt_two_pow (Nat.lt_of_lt_of_le h (Nat.pow_le_pow_right (n := 2) (by decide) (by omega) : 2 ^ 8 ≤ 2 ^ i))
  rw [this]; simp
theorem le_four (v : Nat) (h : v < 4294967296) : le (four v) = v := by
 show v % 256 ^^^ 256 * (v / 256 % 256 ^^^ 256 * (v / 65536 % 256 ^^^ 256 * (v / 16777216 % 256 ^^^ 256 * 0))) = v
 rw [add_xor _ 0 (by omega), add_xor _ _ (by omega), add_xor _ _ (by omega), add_xor _ _ (by omega)]
 omega
theorem le_inj (a b : List Nat) (hl : a.length = b.length) (ha : ∀ x ∈ a, x < 256) (hb : ∀ x ∈ b, x < 256) (h : le a = le b) : a = b := by
 induction a generalizing b with
 | nil => exact (List.eq_nil_of_length_eq_zero hl.symm).symm
 | cons x a ih =>
  cases b with
  | nil => cases hl
  | cons y b =>
   have hx := ha x List.mem_cons_self
   have hy := hb y List.mem_cons_self
   rw [le, le, add_xor _ _ hx, add_xor _ _ hy] at h
   have e1 : x = y := by omega
   have e2 : le a = le b := by omega
   rw [e1, ih b (by simpa using hl) (fun z hz => ha z (List.mem_cons_of_mem _ hz)) (fun z hz => hb z (List.mem_cons_of_mem _ hz)) e2]
theorem crc_xor (a b : List Nat) (hl : a.length = b.length) : crc a ^^^ crc b = sts (8 * a.length) (le a ^^^ le b) := by
 unfold crc
 rw [xor4, Nat.xor_self, Nat.zero_xor, run_eq, run_eq, ← hl, ← sts_xor, xor4, Nat.xor_self, Nat.zero_xor]
end Go.Proofs.YtahacmdhhfmhiaaDoor.CrcPlain
/- What the program's and the document's functions of sums compute, in plain numbers. No condition but that the bytes are bytes. -/
namespace Go.Proofs.YtahacmdhhfmhiaaDoor.CrcB
set_option linter.unusedVariables false
set_option linter.unusedSimpArgs false
open Go.RowKit Go.Proofs.YtahacmdhhfmhiaaDoorW.PrintWords Go.Proofs.YtahacmdhhfmhiaaDoorW.PrintLast Go.Proofs.YtahacmdhhfmhiaaDoorW.PrintMore Go.Proofs.YtahacmdhhfmhiaaDoor.M Go.Proofs.YtahacmdhhfmhiaaDoor.CrcPlain
def I (l : List Nat) : List Int := l.map (fun n : Nat => (n : Int))
theorem I_length (l : List Nat) : (I l).length = l.length := by simp [I]
theorem I_append (a b : List Nat) : I (a ++ b) = I a ++ I b := by simp [I]
theorem I_take (l : List Nat) (n : Nat) : (I l).take n = I (l.take n) := by simp [I, List.map_take]
theorem I_drop (l : List Nat) (n : Nat) : (I l).drop n = I (l.drop n) := by simp [I, List.map_drop]
theorem I_rd (l : List Nat) (j : Nat) (h : j < l.length) : rd (I l) (j : Int) = ((l[j] : Nat) : Int) := by
 simp [rd, I, h]
def Bs (l : List Nat) : Prop := ∀ x ∈ l, x < 256
theorem str_inj {a b : List Nat} (ha : Bs a) (hb : Bs b) : (strOfNums (I a)).toList = (strOfNums (I b)).toList ↔ a = b := by
 rw [Lib.strOfNums_toList, Lib.strOfNums_toList]
 constructor
 ·intro h
  induction a generalizing b with
  | nil => cases b with
   | nil => rfl
   | cons => simp [I, Lib.bytesOf] at h
  | cons x a ih => cases b with
   | nil => simp [I, Lib.bytesOf] at h
   | cons y b =>
    simp only [I, Lib.bytesOf, List.map_cons, List.cons.injEq] at h
    have hx := ha x List.mem_cons_self
    have hy := hb y List.mem_cons_self
    have e := congrArg UInt8.toNat h.1
    simp at e
    rw [show x = y by omega, ih (fun z hz => ha z (List.mem_cons_of_mem _ hz)) (fun z hz => hb z (List.mem_cons_of_mem _ hz)) h.2]
 ·rintro rfl
  rfl
theorem w64 {x : Int} (h0 : 0 ≤ x) (h1 : x < 9223372036854775808) : wrap64 x = x := by
 unfold wrap64
 omega
theorem step_is {r : Nat} (h : r < 4294967296) : Go.bits .xor .u32 ((r : Int) / 2) ((3988292384 * (Go.bits .and .u32 (r : Int) 1)) % 4294967296) = ((st r : Nat) : Int) := by
 have h1 : Go.bits .and .u32 (r : Int) 1 = ((r &&& 1 : Nat) : Int) := u32_and_nat r 1 h (by decide)
 rw [h1, Nat.and_one_is_mod]
 unfold st
 by_cases hr : r % 2 = 1
 ·rw [if_pos hr, hr]
  have h2 : ((r : Int) / 2) = ((r / 2 : Nat) : Int) := by omega
  rw [h2, show (3988292384 * ((1 : Nat) : Int)) % 4294967296 = ((3988292384 : Nat) : Int) by decide]
  exact u32_xor_nat _ _ (by omega) (by decide)
 ·rw [if_neg hr, show r % 2 = 0 by omega]
  have h2 : ((r : Int) / 2) = ((r / 2 : Nat) : Int) := by omega
  rw [h2, show (3988292384 * ((0 : Nat) : Int)) % 4294967296 = ((0 : Nat) : Int) by decide]
  exact u32_xor_nat _ _ (by omega) (by decide)
theorem sum_l1 (l : List Int) (n j : Int) (R : Int) (d : Nat) : ∀ (i r : Nat), i + d = 8 → r < 4294967296 →
  Ev (fun k => crc_Sum.l0 k ((sts d r : Nat) : Int) l n (wrap64 (j + 1))) R → Ev (fun k => crc_Sum.l1 k (r : Int) l n j (i : Int)) R := by
 induction d with
 | zero =>
  intro i r hi hr h
  refine Ev.step (fun k => ?_) h
  simp only [crc_Sum.l1]
  rw [if_neg (by omega)]
  rfl
 | succ d ih =>
  intro i r hi hr h
  refine Ev.step (fun k => ?_) (ih (i + 1) (st r) (by omega) (st_lt hr) h)
  simp only [crc_Sum.l1]
  rw [if_pos (by omega), step_is hr, w64 (by omega) (by omega)]
  rfl
theorem sum_l0 (l : List Nat) (hl : Bs l) (hn : l.length < 140737488355328) (d : Nat) : ∀ (j r : Nat), j + d = l.length → r < 4294967296 →
  Ev (fun k => crc_Sum.l0 k (r : Int) (I l) (l.length : Int) (j : Int)) (((4294967295 ^^^ run r (l.drop j) : Nat)) : Int) := by
 induction d with
 | zero =>
  intro j r hj hr
  refine Ev.step (f := fun _ => some (((4294967295 ^^^ run r (l.drop j) : Nat)) : Int)) (fun k => ?_) (Ev.now _)
  simp only [crc_Sum.l0]
  rw [if_neg (by omega), List.drop_of_length_le (by omega)]
  exact congrArg some (u32_xor_nat _ _ (by decide) hr)
 | succ d ih =>
  intro j r hj hr
  have hlt : j < l.length := by omega
  have hb : l[j] < 256 := hl _ (List.getElem_mem hlt)
  have hx : r ^^^ l[j] < 4294967296 := Nat.xor_lt_two_pow (n := 32) hr (by omega)
  have h2 := ih (j + 1) (sts 8 (r ^^^ l[j])) (by omega) (sts_lt 8 hx)
  rw [List.drop_eq_getElem_cons hlt]
  refine Ev.step (fun k => ?_) (sum_l1 (I l) l.length j _ 8 0 (r ^^^ l[j]) (by omega) hx (by rw [w64 (by omega) (by omega)]; exact h2))
  simp only [crc_Sum.l0]
  rw [if_pos (by omega), if_pos (by omega), if_pos (by rw [I_length]; omega), I_rd l j hlt]
  rw [show ((l[j] : Nat) : Int) % 4294967296 = ((l[j] : Nat) : Int) by omega, u32_xor_nat _ _ hr (by omega)]
  rfl
theorem sum_is (l : List Nat) (hl : Bs l) (hn : l.length < 140737488355328) : Ev (fun k => crc_Sum.f k (I l)) ((crc l : Nat) : Int) := by
 have h := sum_l0 l hl hn l.length 0 4294967295 (by omega) (by decide)
 refine Ev.congr (fun k => ?_) h
 unfold crc_Sum.f
 rw [I_length]
 rfl
theorem seal_is (l : List Nat) (hl : Bs l) (hn : l.length < 140737488300000) : Ev (fun k => crc_Seal.f k (I l)) (I (l ++ four (crc l))) := by
 refine Ev.bind (sum_is l hl (by omega)) ?_
 refine Ev.congr (f := fun _ => some (I (l ++ four (crc l)))) (fun k => ?_) (Ev.now _)
 have hc := crc_lt l hl
 simp only [Option.bind_some, List.nil_append, List.length_nil]
 rw [if_pos (by rw [I_length]; omega), if_pos (by rw [I_length]; simp; omega), I_append]
 congr 2
theorem four_bs (v : Nat) : Bs (four v) := by
 intro x hx
 simp only [four, List.mem_cons, List.not_mem_nil, or_false] at hx
 omega
theorem seal_bs {l : List Nat} (h : Bs l) : Bs (l ++ four (crc l)) := by
 intro x hx
 rcases List.mem_append.mp hx with hx | hx
 ·exact h x hx
 ·exact four_bs _ x hx
theorem take_bs {l : List Nat} (h : Bs l) (n : Nat) : Bs (l.take n) := fun x hx => h x (List.mem_of_mem_take hx)
def opened (l : List Nat) : List Nat × Nat :=
 if l.length < 4 then ([], 9) else if l.take (l.length - 4) ++ four (crc (l.take (l.length - 4))) = l then (l.take (l.length - 4), 0) else ([], 10)
theorem open_is (l : List Nat) (hl : Bs l) (hn : l.length < 140737488300000) : Ev (fun k => crc_Open.f k (I l)) (I (opened l).1, ((opened l).2 : Int)) := by
 by_cases h4 : l.length < 4
 ·have e : opened l = ([], 9) := by unfold opened; rw [if_pos h4]
  rw [e]
  refine Ev.congr (f := fun _ => some (I [], ((9 : Nat) : Int))) (fun k => ?_) (Ev.now _)
  unfold crc_Open.f
  rw [I_length, if_pos (by unfold wrap64; omega)]
  rfl
 ·have hw : wrap64 ((l.length : Int) - 4) = ((l.length - 4 : Nat) : Int) := by rw [w64 (by omega) (by omega)]; omega
  have hs := seal_is (l.take (l.length - 4)) (take_bs hl _) (by rw [List.length_take]; omega)
  have hf : ∀ k, crc_Open.f k (I l) = (crc_Seal.f k (I (l.take (l.length - 4)))).bind fun t116 => (if (strOfNums t116).toList = (strOfNums (I l)).toList then ((some (([] : List Int) : List Int)).bind fun y119 => (if y119.length + (I (l.take (l.length - 4))).length < 140737488355328 then (some ((y119 ++ (I (l.take (l.length - 4)))), 0)) else (none))) else (some (([] : List Int), 10))) := by
   intro k
   unfold crc_Open.f
   rw [I_length, hw, if_neg (by omega), if_pos (by omega), if_pos (by omega), Int.toNat_natCast, I_take]
  refine Ev.congr hf (Ev.bind hs ?_)
  by_cases he : l.take (l.length - 4) ++ four (crc (l.take (l.length - 4))) = l
  ·have e : opened l = (l.take (l.length - 4), 0) := by unfold opened; rw [if_neg h4, if_pos he]
   rw [e]
   refine Ev.congr (f := fun _ => some (I (l.take (l.length - 4)), ((0 : Nat) : Int))) (fun k => ?_) (Ev.now _)
   rw [if_pos ((str_inj (seal_bs (take_bs hl _)) hl).mpr he)]
   simp only [Option.bind_some, List.nil_append, List.length_nil]
   rw [if_pos (by rw [I_length, List.length_take]; omega)]
   rfl
  ·have e : opened l = ([], 10) := by unfold opened; rw [if_neg h4, if_neg he]
   rw [e]
   refine Ev.congr (f := fun _ => some (I [], ((10 : Nat) : Int))) (fun k => ?_) (Ev.now _)
   rw [if_neg (fun h => he ((str_inj (seal_bs (take_bs hl _)) hl).mp h))]
   rfl
end Go.Proofs.YtahacmdhhfmhiaaDoor.CrcB
