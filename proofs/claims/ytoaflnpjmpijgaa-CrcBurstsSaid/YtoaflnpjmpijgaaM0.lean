/- By a program of this session: what Go functions of the seat compute, as Lean functions, each with a proof that the call of the Go function comes to that. -/
import Derived.Test.YtoaflnpjmpijgaaProg
import Derived.Below
import Derived.Deep.Draws
import Derived.Deep.AppendLies
import Derived.Maps.AppendAt
import Derived.OwnWalk
import Derived.Laws.BytesArg
import Derived.Laws.MakeOwn
import Derived.Laws.OwnMore
import Derived.Deep.OwnRows
import Derived.Tactics
import Derived.Lib.ConvBytes
import Derived.Laws.Slices
import Derived.WalkKit
import Derived.KernelRfl
import Derived.RowKit3
import Derived.Deep.LoopGhost
import Derived.Deep.QuietTactic
import Derived.BigQuiet
import Derived.WideLaws
import Derived.Deep.DeepCutAuto
import Derived.Deep.CutBlock
import Derived.Deep.RegionHeld3
import Derived.Laws.Rows
import Derived.Lib.AppendStr
import Derived.ArgAppend
import Derived.Laws.IdiomCopy
import Derived.OrdersHeld
import Derived.Laws.BitsLemmas
import Derived.RowKit
import Derived.Lib.SlBytesConst
import Derived.Laws.RangeAny
import Derived.Test.YtoaflnpjmpijgaaWWords
import Derived.Test.YtoaflnpjmpijgaaWLast
import Derived.Test.YtoaflnpjmpijgaaWTab
import Derived.Test.YtoaflnpjmpijgaaWFour
import Derived.Test.YtoaflnpjmpijgaaWQPut
import Derived.Test.YtoaflnpjmpijgaaWApart
import Derived.Test.YtoaflnpjmpijgaaWArr
import Derived.Test.YtoaflnpjmpijgaaWZeros
import Derived.Test.YtoaflnpjmpijgaaWFoot
import Derived.Test.YtoaflnpjmpijgaaWKept
import Derived.Test.YtoaflnpjmpijgaaWShare
import Derived.Test.YtoaflnpjmpijgaaWN
import Derived.Test.YtoaflnpjmpijgaaWFootNe
import Derived.Test.YtoaflnpjmpijgaaWAt
import Derived.Test.YtoaflnpjmpijgaaWEqStruct
import Derived.Test.YtoaflnpjmpijgaaWRepsOne
import Derived.Test.YtoaflnpjmpijgaaWInv
import Derived.Test.YtoaflnpjmpijgaaWInvWords
import Derived.Test.YtoaflnpjmpijgaaWGuard
import Derived.Test.YtoaflnpjmpijgaaWNEv
import Derived.Test.YtoaflnpjmpijgaaWMore
namespace Go.Proofs.Ytoaflnpjmpijgaa.M
open Go.RowKit Go.Proofs.YtoaflnpjmpijgaaW.PrintWords Go.Proofs.YtoaflnpjmpijgaaW.PrintLast Go.Proofs.YtoaflnpjmpijgaaW.PrintMore
attribute [local go_sem] max2_int min2_int max_two min_two max_three min_three max_four min_four   -- for this text's walks alone
set_option linter.unusedVariables false
set_option linter.unusedSimpArgs false



def errW : Option Int → Value
  | none => .nilIface
  | some c => .iface 0 (.int .i64 c)
theorem errW_none : errW none = .nilIface := rfl
theorem errW_some (c : Int) : errW (some c) = .iface 0 (.int .i64 c) := rfl

theorem info4 : (Try.prog.info? 4).map (fun i => (i.zero, i.size, i.bytes)) = some (some (.bool false), 1, 1) := by kernel_rfl
theorem info5 : (Try.prog.info? 5).map (fun i => (i.zero, i.size, i.bytes)) = some (some (.int .u8 0), 1, 1) := by kernel_rfl
-- the values' own types

theorem Kd.C_lit (k : IntKind) (W : World) (l : List Int) (e : TypeId) (fz : Nat × Nat) (h : l.length ≤ 9223372036854775807) :
    Kd.C (Kd.int k) (W.alloc (.cells (l.map (Value.int k)).toArray e fz)) (some ⟨W.heap.size, 0, none⟩) l.length l := by
  refine ⟨rfl, h, fun _ => ⟨_, rfl, fun j p hp => ⟨[.int k p], rfl, rfl, fun i u hu => ?_⟩⟩⟩
  have hb : (W.alloc (.cells (l.map (Value.int k)).toArray e fz)).heap[W.heap.size]? = some (.cells (l.map (Value.int k)).toArray e fz) := by
    show (W.heap.push _)[W.heap.size]? = _
    simp
  cases i with
  | succ i => simp at hu
  | zero =>
    obtain rfl : Value.int k p = u := by simpa using hu
    have ha : (⟨W.heap.size, 0, none⟩ : Addr).add (j * (Kd.int k).sz + 0) = ⟨W.heap.size, j, none⟩ := by
      have hz : (Kd.int k).sz = 1 := rfl
      rw [hz]
      simp only [Addr.add]
      by_cases hj : j = 0
      · subst hj
        rfl
      · simp [hj]
    rw [ha]
    unfold World.cell?
    rw [hb]
    simp [hp]

end Go.Proofs.Ytoaflnpjmpijgaa.M
