/- The sum of bytes as a plain function of numbers: it is linear, and a turn of bits within 32 changes it. No condition. -/
import Derived.Laws.BitsAllLaws
import Derived.Lib.Bytes
import Derived.Test.YtahacmdhhfmhiaaDoorMC
namespace Go.Proofs.YtahacmdhhfmhiaaDoor.CrcPlain
def st (r : Nat) : Nat := (r / 2) ^^^ (if r % 2 = 1 then 3988292384 else 0)
def sts : Nat → Nat → Nat
 | 0, r => r
 | n + 1, r => sts n (st r)
def run (r : Nat) (l : List Nat) : Nat := l.foldl (fun r x => sts 8 (r ^^^ x)) r
end Go.Proofs.YtahacmdhhfmhiaaDoor.CrcPlain
/- What the program's and the document's functions of sums compute, in plain numbers. No condition but that the bytes are bytes. -/
namespace Go.Proofs.YtahacmdhhfmhiaaDoor.CrcB
set_option linter.unusedVariables false
set_option linter.unusedSimpArgs false
open Go.RowKit Go.Proofs.YtahacmdhhfmhiaaDoorW.PrintWords Go.Proofs.YtahacmdhhfmhiaaDoorW.PrintLast Go.Proofs.YtahacmdhhfmhiaaDoorW.PrintMore Go.Proofs.YtahacmdhhfmhiaaDoor.M Go.Proofs.YtahacmdhhfmhiaaDoor.CrcPlain
def I (l : List Nat) : List Int := l.map (fun n : Nat => (n : Int))
theorem I_length (l : List Nat) : (I l).length = l.length := by simp [I]
theorem I_append (a b : List Nat) : I (a ++ b) = I a ++ I b := by simp [I]
theorem I_rd (l : List Nat) (j : Nat) (h : j < l.length) : rd (I l) (j : Int) = ((l[j] : Nat) : Int) := by
 simp [rd, I, h]
def Bs (l : List Nat) : Prop := ∀ x ∈ l, x < 256
theorem str_inj {a b : List Nat} (ha : Bs a) (hb : Bs b) : (strOfNums (I a)).toList = (strOfNums (I b)).toList ↔ a = b := by
 rw [Lib.strOfNums_toList, Lib.strOfNums_toList]
 constructor
 ·intro h
  induction a generalizing b with
  | nil => cases b with
   | nil => rfl
   | cons => simp [I, Lib.bytesOf] at h
  | cons x a ih => cases b with
   | nil => simp [I, Lib.bytesOf] at h
   | cons y b =>
    simp only [I, Lib.bytesOf, List.map_cons, List.cons.injEq] at h
    have hx := ha x List.mem_cons_self
    have hy := hb y List.mem_cons_self
    have e := congrArg UInt8.toNat h.1
    simp at e
    rw [show x = y by omega, ih (fun z hz => ha z (List.mem_cons_of_mem _ hz)) (fun z hz => hb z (List.mem_cons_of_mem _ hz)) h.2]
 ·rintro rfl
  rfl
end Go.Proofs.YtahacmdhhfmhiaaDoor.CrcB
