/- The sum of bytes as a plain function of numbers: it is linear, and a turn of bits within 32 changes it. No condition. -/
import Derived.Laws.BitsAllLaws
import Derived.Lib.Bytes
import Derived.Test.YtahacmdhhfmhiaaDoorMC
import Derived.Test.YtahacmdhhfmhiaaDoorMH
namespace Go.Proofs.YtahacmdhhfmhiaaDoor.CrcPlain
def st (r : Nat) : Nat := (r / 2) ^^^ (if r % 2 = 1 then 3988292384 else 0)
def sts : Nat → Nat → Nat
 | 0, r => r
 | n + 1, r => sts n (st r)
def run (r : Nat) (l : List Nat) : Nat := l.foldl (fun r x => sts 8 (r ^^^ x)) r
def crc (l : List Nat) : Nat := 4294967295 ^^^ run 4294967295 l
theorem st_lt {r : Nat} (h : r < 4294967296) : st r < 4294967296 := by
 unfold st
 refine Nat.xor_lt_two_pow (n := 32) (by omega) ?_
 split <;> decide
theorem sts_lt (n : Nat) {r : Nat} (h : r < 4294967296) : sts n r < 4294967296 := by
 induction n generalizing r with
 | zero => exact h
 | succ n ih => exact ih (st_lt h)
theorem run_lt {r : Nat} (l : List Nat) (h : r < 4294967296) (hl : ∀ x ∈ l, x < 256) : run r l < 4294967296 := by
 induction l generalizing r with
 | nil => exact h
 | cons x l ih =>
  refine ih (sts_lt 8 (Nat.xor_lt_two_pow (n := 32) h ?_)) (fun y hy => hl y (List.mem_cons_of_mem _ hy))
  have := hl x List.mem_cons_self
  omega
theorem crc_lt (l : List Nat) (hl : ∀ x ∈ l, x < 256) : crc l < 4294967296 :=
 Nat.xor_lt_two_pow (n := 32) (by decide) (run_lt l (by decide) hl)
def four (v : Nat) : List Nat := [v % 256, v / 256 % 256, v / 65536 % 256, v / 16777216 % 256]
end Go.Proofs.YtahacmdhhfmhiaaDoor.CrcPlain
/- What the program's and the document's functions of sums compute, in plain numbers. No condition but that the bytes are bytes. -/
namespace Go.Proofs.YtahacmdhhfmhiaaDoor.CrcB
set_option linter.unusedVariables false
set_option linter.unusedSimpArgs false
open Go.RowKit Go.Proofs.YtahacmdhhfmhiaaDoorW.PrintWords Go.Proofs.YtahacmdhhfmhiaaDoorW.PrintLast Go.Proofs.YtahacmdhhfmhiaaDoorW.PrintMore Go.Proofs.YtahacmdhhfmhiaaDoor.M Go.Proofs.YtahacmdhhfmhiaaDoor.CrcPlain
def I (l : List Nat) : List Int := l.map (fun n : Nat => (n : Int))
theorem I_length (l : List Nat) : (I l).length = l.length := by simp [I]
theorem I_append (a b : List Nat) : I (a ++ b) = I a ++ I b := by simp [I]
theorem I_take (l : List Nat) (n : Nat) : (I l).take n = I (l.take n) := by simp [I, List.map_take]
theorem I_drop (l : List Nat) (n : Nat) : (I l).drop n = I (l.drop n) := by simp [I, List.map_drop]
theorem I_rd (l : List Nat) (j : Nat) (h : j < l.length) : rd (I l) (j : Int) = ((l[j] : Nat) : Int) := by
 simp [rd, I, h]
def Bs (l : List Nat) : Prop := ∀ x ∈ l, x < 256
theorem I_of (l : List Int) (h : ∀ x ∈ l, (Lit.int .u8 x).wf = true) : ∃ n, l = I n ∧ Bs n := by
 induction l with
 | nil => exact ⟨[], rfl, fun x hx => by cases hx⟩
 | cons x l ih =>
  obtain ⟨n, e, hn⟩ := ih (fun y hy => h y (List.mem_cons_of_mem _ hy))
  have hx := h x List.mem_cons_self
  simp only [Lit.wf, IntKind.min, IntKind.max, IntKind.signed, IntKind.bits, Bool.and_eq_true, decide_eq_true_eq] at hx
  have h1 : 0 ≤ x := by simpa using hx.1
  have h2 : x ≤ 255 := by simpa using hx.2
  refine ⟨x.toNat :: n, ?_, ?_⟩
  ·show x :: l = (x.toNat : Int) :: I n
   rw [Int.toNat_of_nonneg h1, e]
  ·intro y hy
   rcases List.mem_cons.mp hy with rfl | hy
   ·omega
   ·exact hn y hy
theorem str_inj {a b : List Nat} (ha : Bs a) (hb : Bs b) : (strOfNums (I a)).toList = (strOfNums (I b)).toList ↔ a = b := by
 rw [Lib.strOfNums_toList, Lib.strOfNums_toList]
 constructor
 ·intro h
  induction a generalizing b with
  | nil => cases b with
   | nil => rfl
   | cons => simp [I, Lib.bytesOf] at h
  | cons x a ih => cases b with
   | nil => simp [I, Lib.bytesOf] at h
   | cons y b =>
    simp only [I, Lib.bytesOf, List.map_cons, List.cons.injEq] at h
    have hx := ha x List.mem_cons_self
    have hy := hb y List.mem_cons_self
    have e := congrArg UInt8.toNat h.1
    simp at e
    rw [show x = y by omega, ih (fun z hz => ha z (List.mem_cons_of_mem _ hz)) (fun z hz => hb z (List.mem_cons_of_mem _ hz)) h.2]
 ·rintro rfl
  rfl
theorem w64 {x : Int} (h0 : 0 ≤ x) (h1 : x < 9223372036854775808) : wrap64 x = x := by
 unfold wrap64
 omega
theorem wu64 {x : Int} (h0 : 0 ≤ x) (h1 : x < 18446744073709551616) : IntKind.u64.wrap x = x := by
 simp only [IntKind.wrap, IntKind.signed, IntKind.bits, Bool.false_and, Bool.false_eq_true, if_false]
 omega
theorem step_is {r : Nat} (h : r < 4294967296) : Go.bits .xor .u32 ((r : Int) / 2) ((3988292384 * (Go.bits .and .u32 (r : Int) 1)) % 4294967296) = ((st r : Nat) : Int) := by
 have h1 : Go.bits .and .u32 (r : Int) 1 = ((r &&& 1 : Nat) : Int) := u32_and_nat r 1 h (by decide)
 rw [h1, Nat.and_one_is_mod]
 unfold st
 by_cases hr : r % 2 = 1
 ·rw [if_pos hr, hr]
  have h2 : ((r : Int) / 2) = ((r / 2 : Nat) : Int) := by omega
  rw [h2, show (3988292384 * ((1 : Nat) : Int)) % 4294967296 = ((3988292384 : Nat) : Int) by decide]
  exact u32_xor_nat _ _ (by omega) (by decide)
 ·rw [if_neg hr, show r % 2 = 0 by omega]
  have h2 : ((r : Int) / 2) = ((r / 2 : Nat) : Int) := by omega
  rw [h2, show (3988292384 * ((0 : Nat) : Int)) % 4294967296 = ((0 : Nat) : Int) by decide]
  exact u32_xor_nat _ _ (by omega) (by decide)
theorem sum_l1 (l : List Int) (n j : Int) (R : Int) (d : Nat) : ∀ (i r : Nat), i + d = 8 → r < 4294967296 →
  Ev (fun k => crc_Sum.l0 k ((sts d r : Nat) : Int) l n (wrap64 (j + 1))) R → Ev (fun k => crc_Sum.l1 k (r : Int) l n j (i : Int)) R := by
 induction d with
 | zero =>
  intro i r hi hr h
  refine Ev.step (fun k => ?_) h
  simp only [crc_Sum.l1]
  rw [if_neg (by omega)]
  rfl
 | succ d ih =>
  intro i r hi hr h
  refine Ev.step (fun k => ?_) (ih (i + 1) (st r) (by omega) (st_lt hr) h)
  simp only [crc_Sum.l1]
  rw [if_pos (by omega), step_is hr, w64 (by omega) (by omega)]
  rfl
theorem sum_l0 (l : List Nat) (hl : Bs l) (hn : l.length < 140737488355328) (d : Nat) : ∀ (j r : Nat), j + d = l.length → r < 4294967296 →
  Ev (fun k => crc_Sum.l0 k (r : Int) (I l) (l.length : Int) (j : Int)) (((4294967295 ^^^ run r (l.drop j) : Nat)) : Int) := by
 induction d with
 | zero =>
  intro j r hj hr
  refine Ev.step (f := fun _ => some (((4294967295 ^^^ run r (l.drop j) : Nat)) : Int)) (fun k => ?_) (Ev.now _)
  simp only [crc_Sum.l0]
  rw [if_neg (by omega), List.drop_of_length_le (by omega)]
  exact congrArg some (u32_xor_nat _ _ (by decide) hr)
 | succ d ih =>
  intro j r hj hr
  have hlt : j < l.length := by omega
  have hb : l[j] < 256 := hl _ (List.getElem_mem hlt)
  have hx : r ^^^ l[j] < 4294967296 := Nat.xor_lt_two_pow (n := 32) hr (by omega)
  have h2 := ih (j + 1) (sts 8 (r ^^^ l[j])) (by omega) (sts_lt 8 hx)
  rw [List.drop_eq_getElem_cons hlt]
  refine Ev.step (fun k => ?_) (sum_l1 (I l) l.length j _ 8 0 (r ^^^ l[j]) (by omega) hx (by rw [w64 (by omega) (by omega)]; exact h2))
  simp only [crc_Sum.l0]
  rw [if_pos (by omega), if_pos (by omega), if_pos (by rw [I_length]; omega), I_rd l j hlt]
  rw [show ((l[j] : Nat) : Int) % 4294967296 = ((l[j] : Nat) : Int) by omega, u32_xor_nat _ _ hr (by omega)]
  rfl
theorem sum_is (l : List Nat) (hl : Bs l) (hn : l.length < 140737488355328) : Ev (fun k => crc_Sum.f k (I l)) ((crc l : Nat) : Int) := by
 have h := sum_l0 l hl hn l.length 0 4294967295 (by omega) (by decide)
 refine Ev.congr (fun k => ?_) h
 unfold crc_Sum.f
 rw [I_length]
 rfl
theorem seal_is (l : List Nat) (hl : Bs l) (hn : l.length < 140737488300000) : Ev (fun k => crc_Seal.f k (I l)) (I (l ++ four (crc l))) := by
 refine Ev.bind (sum_is l hl (by omega)) ?_
 refine Ev.congr (f := fun _ => some (I (l ++ four (crc l)))) (fun k => ?_) (Ev.now _)
 have hc := crc_lt l hl
 simp only [Option.bind_some, List.nil_append, List.length_nil]
 rw [if_pos (by rw [I_length]; omega), if_pos (by rw [I_length]; simp; omega), I_append]
 congr 2
theorem four_bs (v : Nat) : Bs (four v) := by
 intro x hx
 simp only [four, List.mem_cons, List.not_mem_nil, or_false] at hx
 omega
theorem seal_bs {l : List Nat} (h : Bs l) : Bs (l ++ four (crc l)) := by
 intro x hx
 rcases List.mem_append.mp hx with hx | hx
 ·exact h x hx
 ·exact four_bs _ x hx
theorem take_bs {l : List Nat} (h : Bs l) (n : Nat) : Bs (l.take n) := fun x hx => h x (List.mem_of_mem_take hx)
def opened (l : List Nat) : List Nat × Nat :=
 if l.length < 4 then ([], 9) else if l.take (l.length - 4) ++ four (crc (l.take (l.length - 4))) = l then (l.take (l.length - 4), 0) else ([], 10)
theorem open_is (l : List Nat) (hl : Bs l) (hn : l.length < 140737488300000) : Ev (fun k => crc_Open.f k (I l)) (I (opened l).1, ((opened l).2 : Int)) := by
 by_cases h4 : l.length < 4
 ·have e : opened l = ([], 9) := by unfold opened; rw [if_pos h4]
  rw [e]
  refine Ev.congr (f := fun _ => some (I [], ((9 : Nat) : Int))) (fun k => ?_) (Ev.now _)
  unfold crc_Open.f
  rw [I_length, if_pos (by unfold wrap64; omega)]
  rfl
 ·have hw : wrap64 ((l.length : Int) - 4) = ((l.length - 4 : Nat) : Int) := by rw [w64 (by omega) (by omega)]; omega
  have hs := seal_is (l.take (l.length - 4)) (take_bs hl _) (by rw [List.length_take]; omega)
  have hf : ∀ k, crc_Open.f k (I l) = (crc_Seal.f k (I (l.take (l.length - 4)))).bind fun t116 => (if (strOfNums t116).toList = (strOfNums (I l)).toList then ((some (([] : List Int) : List Int)).bind fun y119 => (if y119.length + (I (l.take (l.length - 4))).length < 140737488355328 then (some ((y119 ++ (I (l.take (l.length - 4)))), 0)) else (none))) else (some (([] : List Int), 10))) := by
   intro k
   unfold crc_Open.f
   rw [I_length, hw, if_neg (by omega), if_pos (by omega), if_pos (by omega), Int.toNat_natCast, I_take]
  refine Ev.congr hf (Ev.bind hs ?_)
  by_cases he : l.take (l.length - 4) ++ four (crc (l.take (l.length - 4))) = l
  ·have e : opened l = (l.take (l.length - 4), 0) := by unfold opened; rw [if_neg h4, if_pos he]
   rw [e]
   refine Ev.congr (f := fun _ => some (I (l.take (l.length - 4)), ((0 : Nat) : Int))) (fun k => ?_) (Ev.now _)
   rw [if_pos ((str_inj (seal_bs (take_bs hl _)) hl).mpr he)]
   simp only [Option.bind_some, List.nil_append, List.length_nil]
   rw [if_pos (by rw [I_length, List.length_take]; omega)]
   rfl
  ·have e : opened l = ([], 10) := by unfold opened; rw [if_neg h4, if_neg he]
   rw [e]
   refine Ev.congr (f := fun _ => some (I [], ((10 : Nat) : Int))) (fun k => ?_) (Ev.now _)
   rw [if_neg (fun h => he ((str_inj (seal_bs (take_bs hl _)) hl).mp h))]
   rfl
def bl : Nat → Nat → List Bool
 | 0, _ => []
 | d + 1, v => (v % 2 == 1) :: bl d (v / 2)
theorem bl_length (d v : Nat) : (bl d v).length = d := by
 induction d generalizing v with
 | zero => rfl
 | succ d ih => simp [bl, ih]
theorem bl_get (d v i : Nat) (h : i < d) : (bl d v).getD i false = v.testBit i := by
 induction d generalizing v i with
 | zero => omega
 | succ d ih =>
  cases i with
  | zero => rw [Nat.testBit_zero, Bool.eq_iff_iff]; simp [bl]
  | succ i =>
   rw [Nat.testBit_succ, ← ih (v / 2) i (by omega)]
   simp [bl]
theorem bl_snoc (d v : Nat) : bl (d + 1) v = bl d v ++ [v.testBit d] := by
 induction d generalizing v with
 | zero =>
  rw [Nat.testBit_zero]
  show [v % 2 == 1] = [] ++ [decide (v % 2 = 1)]
  rw [List.nil_append, show (v % 2 == 1) = decide (v % 2 = 1) by rw [Bool.eq_iff_iff]; simp]
 | succ d ih =>
  rw [bl, ih, bl, List.cons_append, Nat.testBit_succ]
theorem bl_xor (d a b : Nat) : List.zipWith (fun x y => x != y) (bl d a) (bl d b) = bl d (a ^^^ b) := by
 induction d generalizing a b with
 | zero => rfl
 | succ d ih =>
  rw [bl, bl, bl, List.zipWith_cons_cons, ih, Nat.xor_div_two]
  congr 1
  have h := Nat.xor_mod_two_eq_one (a := a) (b := b)
  by_cases ha : a % 2 = 1 <;> by_cases hb : b % 2 = 1
  ·have h' : ¬ (a ^^^ b) % 2 = 1 := by rw [h]; simp [ha, hb]
   rw [beq_iff_eq.mpr ha, beq_iff_eq.mpr hb, beq_eq_false_iff_ne.mpr h']; rfl
  ·have h' : (a ^^^ b) % 2 = 1 := by rw [h]; simp [ha, hb]
   rw [beq_iff_eq.mpr ha, beq_eq_false_iff_ne.mpr hb, beq_iff_eq.mpr h']; rfl
  ·have h' : (a ^^^ b) % 2 = 1 := by rw [h]; simp [ha, hb]
   rw [beq_iff_eq.mpr hb, beq_eq_false_iff_ne.mpr ha, beq_iff_eq.mpr h']; rfl
  ·have h' : ¬ (a ^^^ b) % 2 = 1 := by rw [h]; simp [ha, hb]
   rw [beq_eq_false_iff_ne.mpr ha, beq_eq_false_iff_ne.mpr hb, beq_eq_false_iff_ne.mpr h']; rfl
theorem bits_l0 (d : Nat) : ∀ (i v : Nat) (acc : List Bool), i + d = 32 → acc.length = i → v < 18446744073709551616 →
  Ev (fun k => r20_bits.l0 k (v : Int) acc (i : Int)) (acc ++ bl d v) := by
 induction d with
 | zero =>
  intro i v acc hi ha hv
  refine Ev.step (f := fun _ => some (acc ++ bl 0 v)) (fun k => ?_) (Ev.now _)
  simp only [r20_bits.l0]
  rw [if_neg (by omega)]
  simp [bl]
 | succ d ih =>
  intro i v acc hi ha hv
  have h := ih (i + 1) (v / 2) (acc ++ [v % 2 == 1]) (by omega) (by simp [ha]) (by omega)
  rw [List.append_assoc, List.singleton_append] at h
  refine Ev.step (fun k => ?_) h
  simp only [r20_bits.l0]
  rw [if_pos (by omega), if_pos (by omega), Int.tdiv_eq_ediv_of_nonneg (by omega), Int.tmod_eq_emod_of_nonneg (by omega), wu64 (by omega) (by omega), w64 (by omega) (by omega)]
  rw [show ((v : Int) % 2 == 1) = (v % 2 == 1) by rw [Bool.eq_iff_iff]; simp; omega]
  rfl
theorem bits_is (v : Nat) (h : v < 18446744073709551616) : Ev (fun k => r20_bits.f k (v : Int)) (bl 32 v) := by
 have := bits_l0 32 0 v [] (by omega) rfl h
 exact this
theorem xor_l0 (a b : List Bool) (ha : a.length = 32) (hb : b.length = 32) (d : Nat) : ∀ (i : Nat) (acc : List Bool), i + d = 32 → acc.length = i →
  Ev (fun k => r20_xor.l0 k a b acc (i : Int)) (acc ++ (List.zipWith (fun x y => x != y) a b).drop i) := by
 induction d with
 | zero =>
  intro i acc hi hl
  refine Ev.step (f := fun _ => some (acc ++ (List.zipWith (fun x y => x != y) a b).drop i)) (fun k => ?_) (Ev.now _)
  simp only [r20_xor.l0]
  rw [if_neg (by omega), List.drop_of_length_le (by simp; omega)]
  simp
 | succ d ih =>
  intro i acc hi hl
  have hz : i < (List.zipWith (fun x y => x != y) a b).length := by simp; omega
  have h := ih (i + 1) (acc ++ [(a.getD i false) != (b.getD i false)]) (by omega) (by simp [hl])
  rw [List.drop_eq_getElem_cons hz]
  rw [List.append_assoc, List.singleton_append] at h
  have e : (List.zipWith (fun x y => x != y) a b)[i] = ((a.getD i false) != (b.getD i false)) := by
   rw [List.getElem_zipWith]
   simp [List.getD_eq_getElem?_getD, show i < a.length by omega, show i < b.length by omega]
  rw [e]
  refine Ev.step (fun k => ?_) h
  simp only [r20_xor.l0]
  rw [if_pos (by omega), if_pos (by omega), if_pos (by omega), if_pos (by omega), if_pos (by omega), w64 (by omega) (by omega)]
  rfl
theorem xor_is (a b : Nat) : Ev (fun k => r20_xor.f k (bl 32 a) (bl 32 b)) (bl 32 (a ^^^ b)) := by
 have := xor_l0 (bl 32 a) (bl 32 b) (bl_length _ _) (bl_length _ _) 32 0 [] (by omega) rfl
 rw [bl_xor] at this
 exact this
theorem number_l0 (v : Nat) (hv : v < 4294967296) (d : Nat) : ∀ (i : Int), i + 1 = d → d ≤ 32 →
  Ev (fun k => r20_number.l0 k (bl 32 v) ((v / 2 ^ d : Nat) : Int) i) (v : Int) := by
 induction d with
 | zero =>
  intro i hi hd
  refine Ev.step (f := fun _ => some (v : Int)) (fun k => ?_) (Ev.now _)
  simp only [r20_number.l0]
  rw [if_neg (by omega)]
  simp
  omega
 | succ d ih =>
  intro i hi hd
  obtain rfl : i = (d : Int) := by omega
  have h := ih ((d : Int) - 1) (by omega) (by omega)
  have hbit : rdOf false (bl 32 v) (d : Int) = v.testBit d := by
   show (bl 32 v).getD (d : Int).toNat false = _
   rw [Int.toNat_natCast, bl_get 32 v d (by omega)]
  have hb := Nat.testBit_eq_decide_div_mod_eq (x := v) (i := d)
  have hdiv : v / 2 ^ (d + 1) = v / 2 ^ d / 2 := by rw [Nat.pow_succ, Nat.div_div_eq_div_mul]
  have hle : v / 2 ^ d ≤ v := Nat.div_le_self _ _
  refine Ev.step (fun k => ?_) h
  simp only [r20_number.l0]
  rw [if_pos (by omega), if_pos (by omega), if_pos (by rw [bl_length]; omega), hbit, hb, hdiv]
  rw [show wrap64 ((d : Int) - 1) = (d : Int) - 1 by unfold wrap64; omega]
  generalize v / 2 ^ d = q at hb hdiv hle
  by_cases hm : q % 2 = 1
  ·rw [if_pos (by simp [hm]), wu64 (x := _ * 2) (by omega) (by omega), wu64 (by omega) (by omega)]
   congr 1
   omega
  ·rw [if_neg (by simp [hm]), wu64 (by omega) (by omega)]
   congr 1
   omega
theorem number_is (v : Nat) (hv : v < 4294967296) : Ev (fun k => r20_number.f k (bl 32 v)) (v : Int) := by
 have h := number_l0 v hv 32 31 (by decide) (by decide)
 rw [Nat.div_eq_of_lt (by simpa using hv)] at h
 exact h
theorem rsum_l1 (l : List Int) (j : Int) (R : Int) (d : Nat) : ∀ (i r : Nat), i + d = 8 → r < 4294967296 →
  Ev (fun k => r20_Sum.l0 k l (bl 32 (sts d r)) (wrap64 (j + 1))) R → Ev (fun k => r20_Sum.l1 k l (bl 32 r) j (i : Int)) R := by
 induction d with
 | zero =>
  intro i r hi hr h
  refine Ev.step (fun k => ?_) h
  simp only [r20_Sum.l1]
  rw [if_neg (by omega)]
  rfl
 | succ d ih =>
  intro i r hi hr h
  have h2 := ih (i + 1) (st r) (by omega) (st_lt hr) h
  have hb : rdOf false (bl 32 r) 0 = (r % 2 == 1) := by simp [rdOf, bl]
  have hs : (bl 32 r).drop 1 ++ [false] = bl 32 (r / 2) := by
   have h3 : (r / 2).testBit 31 = false := Nat.testBit_lt_two_pow (by omega)
   rw [show bl 32 r = (r % 2 == 1) :: bl 31 (r / 2) from rfl, bl_snoc 31 (r / 2), h3]
   rfl
  have hl := bl_length 32 r
  have hd : ((bl 32 r).drop 1).length = 31 := by rw [List.length_drop, hl]
  have hf : ∀ k, r20_Sum.l1 (k + 1) l (bl 32 r) j (i : Int) = if (r % 2 == 1) = true then ((r20_bits.f k 3988292384).bind fun t188 => ((r20_xor.f k (bl 32 (r / 2)) t188).bind fun t191 => (r20_Sum.l1 k l t191 j ((i + 1 : Nat) : Int)))) else (r20_Sum.l1 k l (bl 32 (r / 2)) j ((i + 1 : Nat) : Int)) := by
   intro k
   simp only [r20_Sum.l1]
   rw [if_pos (by omega), if_pos (by omega)]
   simp only [Option.bind_some, List.nil_append, List.length_nil]
   rw [if_pos (by omega), if_pos (by omega), if_pos (by omega), hb, hs, w64 (by omega) (by omega)]
   rfl
  refine Ev.step hf ?_
  by_cases hr2 : r % 2 = 1
  ·have e : st r = (r / 2) ^^^ 3988292384 := by unfold st; rw [if_pos hr2]
   rw [e] at h2
   refine Ev.congr (fun k => if_pos (by simp [hr2])) ?_
   exact Ev.bind (bits_is 3988292384 (by decide)) (Ev.bind (xor_is (r / 2) 3988292384) h2)
  ·have e : st r = r / 2 := by unfold st; rw [if_neg hr2, Nat.xor_zero]
   rw [e] at h2
   exact Ev.congr (fun k => if_neg (by simp [hr2])) h2
theorem rsum_l0 (l : List Nat) (hl : Bs l) (hn : l.length < 140737488355328) (d : Nat) : ∀ (j r : Nat), j + d = l.length → r < 4294967296 →
  Ev (fun k => r20_Sum.l0 k (I l) (bl 32 r) (j : Int)) (((4294967295 ^^^ run r (l.drop j) : Nat)) : Int) := by
 induction d with
 | zero =>
  intro j r hj hr
  have hx : r ^^^ 4294967295 < 4294967296 := Nat.xor_lt_two_pow (n := 32) hr (by decide)
  rw [List.drop_of_length_le (by omega)]
  rw [show 4294967295 ^^^ run r [] = r ^^^ 4294967295 from Nat.xor_comm _ _]
  have hf : ∀ k, r20_Sum.l0 (k + 1) (I l) (bl 32 r) (j : Int) = (r20_bits.f k 4294967295).bind fun t160 => ((r20_xor.f k (bl 32 r) t160).bind fun t163 => ((r20_number.f k t163).bind fun t166 => (some t166))) := by
   intro k
   simp only [r20_Sum.l0]
   rw [if_neg (by rw [I_length]; omega)]
  exact Ev.step hf (Ev.bind (bits_is 4294967295 (by decide)) (Ev.bind (xor_is r 4294967295) (Ev.bind (number_is _ hx) (Ev.now _))))
 | succ d ih =>
  intro j r hj hr
  have hlt : j < l.length := by omega
  have hb : l[j] < 256 := hl _ (List.getElem_mem hlt)
  have hx : r ^^^ l[j] < 4294967296 := Nat.xor_lt_two_pow (n := 32) hr (by omega)
  have h2 := ih (j + 1) (sts 8 (r ^^^ l[j])) (by omega) (sts_lt 8 hx)
  rw [List.drop_eq_getElem_cons hlt]
  have h3 := rsum_l1 (I l) j _ 8 0 (r ^^^ l[j]) (by omega) hx (by rw [w64 (by omega) (by omega)]; exact h2)
  have hf : ∀ k, r20_Sum.l0 (k + 1) (I l) (bl 32 r) (j : Int) = (r20_bits.f k ((l[j] : Nat) : Int)).bind fun t168 => ((r20_xor.f k (bl 32 r) t168).bind fun t171 => (r20_Sum.l1 k (I l) t171 j ((0 : Nat) : Int))) := by
   intro k
   simp only [r20_Sum.l0]
   rw [if_pos (by rw [I_length]; omega), if_pos (by omega), I_rd l j hlt, wu64 (by omega) (by omega)]
   rfl
  exact Ev.step hf (Ev.bind (bits_is l[j] (by omega)) (Ev.bind (xor_is r l[j]) h3))
theorem rsum_is (l : List Nat) (hl : Bs l) (hn : l.length < 140737488355328) : Ev (fun k => r20_Sum.f k (I l)) ((crc l : Nat) : Int) :=
 Ev.bind (bits_is 4294967295 (by decide)) (rsum_l0 l hl hn l.length 0 4294967295 (by omega) (by decide))
theorem rseal_is (l : List Nat) (hl : Bs l) (hn : l.length < 140737488300000) : Ev (fun k => r20_Seal.f k (I l)) (I (l ++ four (crc l))) := by
 refine Ev.bind (rsum_is l hl (by omega)) ?_
 refine Ev.congr (f := fun _ => some (I (l ++ four (crc l)))) (fun k => ?_) (Ev.now _)
 have hc := crc_lt l hl
 have e1 : IntKind.u64.wrap ((crc l : Nat) : Int) = ((crc l : Nat) : Int) := wu64 (by omega) (by omega)
 have dv : ∀ m : Nat, 0 < m → IntKind.u64.wrap (Int.tdiv ((crc l : Nat) : Int) (m : Int)) = ((crc l / m : Nat) : Int) := by
  intro m hm
  rw [Int.tdiv_eq_ediv_of_nonneg (by omega), wu64 (by exact Int.ediv_nonneg (by omega) (by omega)) (Int.lt_of_le_of_lt (Int.ediv_le_self _ (by omega)) (by omega))]
  rfl
 have d1 := dv 256 (by decide)
 have d2 := dv 65536 (by decide)
 have d3 := dv 16777216 (by decide)
 have md : ∀ m : Nat, (Int.tmod ((m : Nat) : Int) 256) % 256 = ((m % 256 : Nat) : Int) := by
  intro m
  rw [Int.tmod_eq_emod_of_nonneg (by omega)]
  omega
 simp only [Option.bind_some, List.nil_append, List.length_nil]
 rw [if_pos (by rw [I_length]; omega), if_pos (by rw [I_length]; simp; omega), I_append, e1]
 congr 2
 rw [show (256 : Int) = ((256 : Nat) : Int) from rfl, show (65536 : Int) = ((65536 : Nat) : Int) from rfl, show (16777216 : Int) = ((16777216 : Nat) : Int) from rfl, d1, d2, d3]
 rw [show ((256 : Nat) : Int) = 256 from rfl, md, md, md]
 show [_, _, _, _] = [((_ : Nat) : Int), ((_ : Nat) : Int), ((_ : Nat) : Int), ((_ : Nat) : Int)]
 rfl
end Go.Proofs.YtahacmdhhfmhiaaDoor.CrcB
