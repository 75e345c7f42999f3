/- What Go functions compute; their calls come to it. No condition. -/
import Derived.Test.YtahacmdhhfmhiaaDoorVInv
import Derived.Test.YtahacmdhhfmhiaaDoorProg
import Derived.Below
import Derived.Deep.Draws
import Derived.Deep.AppendLies
import Derived.Maps.AppendAt
import Derived.OwnWalk
import Derived.Laws.BytesArg
import Derived.Laws.MakeOwn
import Derived.Laws.OwnMore
import Derived.Deep.OwnRows
import Derived.Tactics
import Derived.Lib.ConvBytes
import Derived.Laws.Slices
import Derived.WalkKit
import Derived.KernelRfl
import Derived.RowKit3
import Derived.Deep.LoopGhost
import Derived.Deep.QuietTactic
import Derived.BigQuiet
import Derived.WideLaws
import Derived.Deep.DeepCutAuto
import Derived.Deep.CutBlock
import Derived.Deep.RegionHeld3
import Derived.Laws.Rows
import Derived.Lib.AppendStr
import Derived.ArgAppend
import Derived.Laws.IdiomCopy
import Derived.OrdersHeld
import Derived.Laws.BitsLemmas
import Derived.RowKit
import Derived.Lib.SlBytesConst
import Derived.Laws.RangeAny
import Derived.MapKept
import Derived.Test.YtahacmdhhfmhiaaDoorVWords
import Derived.Test.YtahacmdhhfmhiaaDoorVLast
import Derived.Test.YtahacmdhhfmhiaaDoorVTab
import Derived.Test.YtahacmdhhfmhiaaDoorVApart
import Derived.Test.YtahacmdhhfmhiaaDoorVFoot
import Derived.Test.YtahacmdhhfmhiaaDoorVKept
import Derived.Test.YtahacmdhhfmhiaaDoorVShare
import Derived.Test.YtahacmdhhfmhiaaDoorVN
import Derived.Test.YtahacmdhhfmhiaaDoorVEqStruct
import Derived.Test.YtahacmdhhfmhiaaDoorVRepsOne
import Derived.Test.YtahacmdhhfmhiaaDoorVGuard
import Derived.Test.YtahacmdhhfmhiaaDoorVNEv
import Derived.Test.YtahacmdhhfmhiaaDoorVMore
namespace Go.Proofs.YtahacmdhhfmhiaaDoor.M
open Go.RowKit Go.Proofs.YtahacmdhhfmhiaaDoorW.PrintWords Go.Proofs.YtahacmdhhfmhiaaDoorW.PrintLast Go.Proofs.YtahacmdhhfmhiaaDoorW.PrintMore
attribute [local go_sem] max2_int min2_int max_two min_two max_three min_three max_four min_four   -- for this text's walks alone
set_option linter.unusedVariables false
set_option linter.unusedSimpArgs false
abbrev kF := @blk_frozen
abbrev kC := @blk_cell
abbrev zN := @pw_below_drewN
abbrev zA := @below_alloc
abbrev kN := @blk_drewN
abbrev kA := @blk_alloc
abbrev zD := @below_drew1
abbrev kD := @blk_drew
abbrev zS := @below_set
abbrev zT := @below_step
abbrev zZ := @below_size
abbrev kB := @blk_below
abbrev kG := @blk_grown
abbrev kP := @blk_put
abbrev kR := @blk_far
abbrev kL := @blk_lt
abbrev oD := @of_decide_eq_true
abbrev dT := @decide_eq_true
abbrev dF := @decide_eq_false
abbrev bF := @beq_eq_false_iff_ne
abbrev bI := @beq_iff_eq
abbrev nF := @bne_eq_false_iff_eq
abbrev nI := @bne_iff_ne
abbrev bL := @World.block_lt_of_cell?



def errW : Option Int → Value
  | none => .nilIface
  | some c => .iface 0 (.int .i64 c)
theorem errW_none : errW none = .nilIface := rfl
theorem errW_some (c : Int) : errW (some c) = .iface 0 (.int .i64 c) := rfl

theorem info5 : (Tryd.prog.info? 5).map (fun i => (i.zero, i.size, i.bytes)) = some (some (.int .u8 0), 1, 1) := by kernel_rfl
theorem info42 : (Tryd.prog.info? 42).map (fun i => (i.zero, i.size, i.bytes)) = some (some (.agg #[(.slice none 0 0), (.slice none 0 0), (.int .u32 0)]), 3, 56) := by kernel_rfl
theorem info45 : (Tryd.prog.info? 45).map (fun i => (i.zero, i.size, i.bytes)) = some (some (.agg #[(.slice none 0 0), (.slice none 0 0), (.int .u32 0)]), 3, 56) := by kernel_rfl
theorem info59 : (Tryd.prog.info? 59).map (fun i => (i.zero, i.size, i.bytes)) = some (some (.agg #[(.int .i64 0), (.int .i64 0), (.int .i64 0), (.int .u32 0)]), 4, 32) := by kernel_rfl
-- the values' own types
/-! #### struct type 59 -/
structure S59 where
  f0 : Int
  f1 : Int
  f2 : Int
  f3 : Int
def z59 : S59 := ⟨(0 : Int), (0 : Int), (0 : Int), (0 : Int)⟩
def k59 : Kd S59 := Kd.iso (Kd.pair (Kd.int .i64) (Kd.pair (Kd.int .i64) (Kd.pair (Kd.int .i64) (Kd.int .u32)))) (fun x : S59 => (x.f0, x.f1, x.f2, x.f3))
theorem k59_heap : Kd.Heap k59 := Kd.heap_iso _ (Kd.heap_pair (Kd.heap_int .i64) (Kd.heap_pair (Kd.heap_int .i64) (Kd.heap_pair (Kd.heap_int .i64) (Kd.heap_int .u32))))
theorem k59_open {w : World} {x : S59} {cs : List Value} (h : k59.K w x cs) : cs = [.int .i64 x.f0, .int .i64 x.f1, .int .i64 x.f2, .int .u32 x.f3] := by
  obtain ⟨_, _, rfl, rfl, ⟨_, _, rfl, rfl, ⟨_, _, rfl, rfl, rfl⟩⟩⟩ := h
  exact rfl
theorem k59_mk (w : World) (x : S59)  : k59.K w x [.int .i64 x.f0, .int .i64 x.f1, .int .i64 x.f2, .int .u32 x.f3] := ⟨[.int .i64 x.f0], [.int .i64 x.f1, .int .i64 x.f2, .int .u32 x.f3], rfl, rfl, ⟨[.int .i64 x.f1], [.int .i64 x.f2, .int .u32 x.f3], rfl, rfl, ⟨[.int .i64 x.f2], [.int .u32 x.f3], rfl, rfl, rfl⟩⟩⟩
theorem k59_mkM (w : World) (base : Nat) (ok : Nat → Prop) (x : S59)  : k59.M w base ok x [.int .i64 x.f0, .int .i64 x.f1, .int .i64 x.f2, .int .u32 x.f3] := ⟨[.int .i64 x.f0], [.int .i64 x.f1, .int .i64 x.f2, .int .u32 x.f3], rfl, rfl, ⟨[.int .i64 x.f1], [.int .i64 x.f2, .int .u32 x.f3], rfl, rfl, ⟨[.int .i64 x.f2], [.int .u32 x.f3], rfl, rfl, rfl⟩⟩⟩
def rd_T59 (xs : List S59) (i : Int) : S59 := xs.getD i.toNat z59
theorem at_T59 {w : World} {A : Option Addr} {n : Nat} {xs : List S59} (h : Kd.C k59 w A n xs) (i : Int) (h0 : 0 ≤ i) (h1 : i < n) : ∃ ad , A = some ad ∧ w.cell? (ad.add (i.toNat * 4)) = some (.int .i64 (rd_T59 xs i).f0) ∧ w.cell? ⟨(ad.add (i.toNat * 4)).block, (ad.add (i.toNat * 4)).off + 1, none⟩ = some (.int .i64 (rd_T59 xs i).f1) ∧ w.cell? ⟨(ad.add (i.toNat * 4)).block, (ad.add (i.toNat * 4)).off + 2, none⟩ = some (.int .i64 (rd_T59 xs i).f2) ∧ w.cell? ⟨(ad.add (i.toNat * 4)).block, (ad.add (i.toNat * 4)).off + 3, none⟩ = some (.int .u32 (rd_T59 xs i).f3) := by
  obtain ⟨ad, c, e, _, hK, hc0⟩ := Kd.C_get h z59 i h0 h1
  have hc : ∀ j u, c[j]? = some u → w.cell? (ad.add (i.toNat * 4 + j)) = some u := hc0
  obtain rfl := k59_open hK
  exact ⟨ad, e, hc 0 _ rfl, by rw [← add_field _ _ 1 (by omega)]; exact hc 1 _ rfl, by rw [← add_field _ _ 2 (by omega)]; exact hc 2 _ rfl, by rw [← add_field _ _ 3 (by omega)]; exact hc 3 _ rfl⟩


/-! #### struct type 42 -/
structure S42 where
  f0 : (List S59)
  f1 : (List S59)
  f2 : Int
def z42 : S42 := ⟨([] : List S59), ([] : List S59), (0 : Int)⟩
def k42 : Kd S42 := Kd.iso (Kd.pair (Kd.slice 59 k59) (Kd.pair (Kd.slice 59 k59) (Kd.int .u32))) (fun x : S42 => (x.f0, x.f1, x.f2))
theorem k42_heap : Kd.Heap k42 := Kd.heap_iso _ (Kd.heap_pair (Kd.heap_slice 59 k59_heap) (Kd.heap_pair (Kd.heap_slice 59 k59_heap) (Kd.heap_int .u32)))
theorem k42_open {w : World} {x : S42} {cs : List Value} (h : k42.K w x cs) : ∃ A0 c0 A1 c1, cs = [.slice A0 x.f0.length c0, .slice A1 x.f1.length c1, .int .u32 x.f2] ∧ x.f0.length ≤ c0 ∧ k59.C w A0 x.f0.length x.f0 ∧ x.f1.length ≤ c1 ∧ k59.C w A1 x.f1.length x.f1 := by
  obtain ⟨_, _, rfl, ⟨A0, c0, rfl, l0, g0⟩, ⟨_, _, rfl, ⟨A1, c1, rfl, l1, g1⟩, rfl⟩⟩ := h
  exact ⟨A0, c0, A1, c1, rfl, l0, g0, l1, g1⟩
theorem k42_mk (w : World) (x : S42) {A0 : Option Addr} {c0 : Nat} (l0 : x.f0.length ≤ c0) (g0 : k59.C w A0 x.f0.length x.f0) {A1 : Option Addr} {c1 : Nat} (l1 : x.f1.length ≤ c1) (g1 : k59.C w A1 x.f1.length x.f1) : k42.K w x [.slice A0 x.f0.length c0, .slice A1 x.f1.length c1, .int .u32 x.f2] := ⟨[.slice A0 x.f0.length c0], [.slice A1 x.f1.length c1, .int .u32 x.f2], rfl, ⟨A0, c0, rfl, l0, g0⟩, ⟨[.slice A1 x.f1.length c1], [.int .u32 x.f2], rfl, ⟨A1, c1, rfl, l1, g1⟩, rfl⟩⟩
theorem k42_mkM (w : World) (base : Nat) (ok : Nat → Prop) (x : S42) {v0 : Value} (g0 : k59.R 59 w base ok v0 x.f0) {v1 : Value} (g1 : k59.R 59 w base ok v1 x.f1) : k42.M w base ok x [v0, v1, .int .u32 x.f2] := ⟨[v0], [v1, .int .u32 x.f2], rfl, ⟨v0, rfl, g0⟩, ⟨[v1], [.int .u32 x.f2], rfl, ⟨v1, rfl, g1⟩, rfl⟩⟩
theorem k42_openF {W : World} {ok : Nat → Prop} {x : S42} {cs : List Value} (h : Kd.FK k42 W ok x cs) : ∃ A0 c0 A1 c1, cs = [.slice A0 x.f0.length c0, .slice A1 x.f1.length c1, .int .u32 x.f2] ∧ x.f0.length ≤ c0 ∧ Kd.F k59 W ok A0 x.f0.length x.f0 ∧ x.f1.length ≤ c1 ∧ Kd.F k59 W ok A1 x.f1.length x.f1 := by
  obtain ⟨A0, c0, A1, c1, rfl, l0, _, l1, _⟩ := k42_open (Kd.FK_now h)
  exact ⟨A0, c0, A1, c1, rfl, l0, (fun W' hW => by obtain ⟨A0_, c0_, A1_, c1_, he, l0_, g0_, l1_, g1_⟩ := k42_open (h W' hW); injection (Option.some.inj (show some (Value.slice A0 x.f0.length c0) = some (Value.slice A0_ x.f0.length c0_) from congrArg (fun l => l[0]?) he)) with ha_ _ _; rw [ha_]; exact g0_), l1, (fun W' hW => by obtain ⟨A0_, c0_, A1_, c1_, he, l0_, g0_, l1_, g1_⟩ := k42_open (h W' hW); injection (Option.some.inj (show some (Value.slice A1 x.f1.length c1) = some (Value.slice A1_ x.f1.length c1_) from congrArg (fun l => l[1]?) he)) with ha_ _ _; rw [ha_]; exact g1_)⟩
theorem k42_mkF (W : World) (ok : Nat → Prop) (x : S42) {A0 : Option Addr} {c0 : Nat} (l0 : x.f0.length ≤ c0) (g0 : Kd.F k59 W ok A0 x.f0.length x.f0) {A1 : Option Addr} {c1 : Nat} (l1 : x.f1.length ≤ c1) (g1 : Kd.F k59 W ok A1 x.f1.length x.f1) : Kd.FK k42 W ok x [.slice A0 x.f0.length c0, .slice A1 x.f1.length c1, .int .u32 x.f2] := fun W2 hW => k42_mk W2 x l0 (g0 W2 hW) l1 (g1 W2 hW)
def rd_T42 (xs : List S42) (i : Int) : S42 := xs.getD i.toNat z42
theorem at_T42 {w : World} {A : Option Addr} {n : Nat} {xs : List S42} (h : Kd.C k42 w A n xs) (i : Int) (h0 : 0 ≤ i) (h1 : i < n) : ∃ ad A0 c0 A1 c1, A = some ad ∧ w.cell? (ad.add (i.toNat * 3)) = some (.slice A0 (rd_T42 xs i).f0.length c0) ∧ w.cell? ⟨(ad.add (i.toNat * 3)).block, (ad.add (i.toNat * 3)).off + 1, none⟩ = some (.slice A1 (rd_T42 xs i).f1.length c1) ∧ w.cell? ⟨(ad.add (i.toNat * 3)).block, (ad.add (i.toNat * 3)).off + 2, none⟩ = some (.int .u32 (rd_T42 xs i).f2) ∧ (rd_T42 xs i).f0.length ≤ c0 ∧ k59.C w A0 (rd_T42 xs i).f0.length (rd_T42 xs i).f0 ∧ (rd_T42 xs i).f1.length ≤ c1 ∧ k59.C w A1 (rd_T42 xs i).f1.length (rd_T42 xs i).f1 := by
  obtain ⟨ad, c, e, _, hK, hc0⟩ := Kd.C_get h z42 i h0 h1
  have hc : ∀ j u, c[j]? = some u → w.cell? (ad.add (i.toNat * 3 + j)) = some u := hc0
  obtain ⟨A0, c0, A1, c1, rfl, l0, g0, l1, g1⟩ := k42_open hK
  exact ⟨ad, A0, c0, A1, c1, e, hc 0 _ rfl, by rw [← add_field _ _ 1 (by omega)]; exact hc 1 _ rfl, by rw [← add_field _ _ 2 (by omega)]; exact hc 2 _ rfl, l0, g0, l1, g1⟩

/-! #### struct type 95 -/

/-! #### struct type 45 -/
structure S45 where
  f0 : (List S59)
  f1 : (List S59)
  f2 : Int
def z45 : S45 := ⟨([] : List S59), ([] : List S59), (0 : Int)⟩
def k45 : Kd S45 := Kd.iso (Kd.pair (Kd.slice 59 k59) (Kd.pair (Kd.slice 59 k59) (Kd.int .u32))) (fun x : S45 => (x.f0, x.f1, x.f2))
theorem k45_open {w : World} {x : S45} {cs : List Value} (h : k45.K w x cs) : ∃ A0 c0 A1 c1, cs = [.slice A0 x.f0.length c0, .slice A1 x.f1.length c1, .int .u32 x.f2] ∧ x.f0.length ≤ c0 ∧ k59.C w A0 x.f0.length x.f0 ∧ x.f1.length ≤ c1 ∧ k59.C w A1 x.f1.length x.f1 := by
  obtain ⟨_, _, rfl, ⟨A0, c0, rfl, l0, g0⟩, ⟨_, _, rfl, ⟨A1, c1, rfl, l1, g1⟩, rfl⟩⟩ := h
  exact ⟨A0, c0, A1, c1, rfl, l0, g0, l1, g1⟩
theorem k45_mk (w : World) (x : S45) {A0 : Option Addr} {c0 : Nat} (l0 : x.f0.length ≤ c0) (g0 : k59.C w A0 x.f0.length x.f0) {A1 : Option Addr} {c1 : Nat} (l1 : x.f1.length ≤ c1) (g1 : k59.C w A1 x.f1.length x.f1) : k45.K w x [.slice A0 x.f0.length c0, .slice A1 x.f1.length c1, .int .u32 x.f2] := ⟨[.slice A0 x.f0.length c0], [.slice A1 x.f1.length c1, .int .u32 x.f2], rfl, ⟨A0, c0, rfl, l0, g0⟩, ⟨[.slice A1 x.f1.length c1], [.int .u32 x.f2], rfl, ⟨A1, c1, rfl, l1, g1⟩, rfl⟩⟩
theorem k45_openF {W : World} {ok : Nat → Prop} {x : S45} {cs : List Value} (h : Kd.FK k45 W ok x cs) : ∃ A0 c0 A1 c1, cs = [.slice A0 x.f0.length c0, .slice A1 x.f1.length c1, .int .u32 x.f2] ∧ x.f0.length ≤ c0 ∧ Kd.F k59 W ok A0 x.f0.length x.f0 ∧ x.f1.length ≤ c1 ∧ Kd.F k59 W ok A1 x.f1.length x.f1 := by
  obtain ⟨A0, c0, A1, c1, rfl, l0, _, l1, _⟩ := k45_open (Kd.FK_now h)
  exact ⟨A0, c0, A1, c1, rfl, l0, (fun W' hW => by obtain ⟨A0_, c0_, A1_, c1_, he, l0_, g0_, l1_, g1_⟩ := k45_open (h W' hW); injection (Option.some.inj (show some (Value.slice A0 x.f0.length c0) = some (Value.slice A0_ x.f0.length c0_) from congrArg (fun l => l[0]?) he)) with ha_ _ _; rw [ha_]; exact g0_), l1, (fun W' hW => by obtain ⟨A0_, c0_, A1_, c1_, he, l0_, g0_, l1_, g1_⟩ := k45_open (h W' hW); injection (Option.some.inj (show some (Value.slice A1 x.f1.length c1) = some (Value.slice A1_ x.f1.length c1_) from congrArg (fun l => l[1]?) he)) with ha_ _ _; rw [ha_]; exact g1_)⟩
theorem k45_mkF (W : World) (ok : Nat → Prop) (x : S45) {A0 : Option Addr} {c0 : Nat} (l0 : x.f0.length ≤ c0) (g0 : Kd.F k59 W ok A0 x.f0.length x.f0) {A1 : Option Addr} {c1 : Nat} (l1 : x.f1.length ≤ c1) (g1 : Kd.F k59 W ok A1 x.f1.length x.f1) : Kd.FK k45 W ok x [.slice A0 x.f0.length c0, .slice A1 x.f1.length c1, .int .u32 x.f2] := fun W2 hW => k45_mk W2 x l0 (g0 W2 hW) l1 (g1 W2 hW)
def rd_T45 (xs : List S45) (i : Int) : S45 := xs.getD i.toNat z45
theorem at_T45 {w : World} {A : Option Addr} {n : Nat} {xs : List S45} (h : Kd.C k45 w A n xs) (i : Int) (h0 : 0 ≤ i) (h1 : i < n) : ∃ ad A0 c0 A1 c1, A = some ad ∧ w.cell? (ad.add (i.toNat * 3)) = some (.slice A0 (rd_T45 xs i).f0.length c0) ∧ w.cell? ⟨(ad.add (i.toNat * 3)).block, (ad.add (i.toNat * 3)).off + 1, none⟩ = some (.slice A1 (rd_T45 xs i).f1.length c1) ∧ w.cell? ⟨(ad.add (i.toNat * 3)).block, (ad.add (i.toNat * 3)).off + 2, none⟩ = some (.int .u32 (rd_T45 xs i).f2) ∧ (rd_T45 xs i).f0.length ≤ c0 ∧ k59.C w A0 (rd_T45 xs i).f0.length (rd_T45 xs i).f0 ∧ (rd_T45 xs i).f1.length ≤ c1 ∧ k59.C w A1 (rd_T45 xs i).f1.length (rd_T45 xs i).f1 := by
  obtain ⟨ad, c, e, _, hK, hc0⟩ := Kd.C_get h z45 i h0 h1
  have hc : ∀ j u, c[j]? = some u → w.cell? (ad.add (i.toNat * 3 + j)) = some u := hc0
  obtain ⟨A0, c0, A1, c1, rfl, l0, g0, l1, g1⟩ := k45_open hK
  exact ⟨ad, A0, c0, A1, c1, e, hc 0 _ rfl, by rw [← add_field _ _ 1 (by omega)]; exact hc 1 _ rfl, by rw [← add_field _ _ 2 (by omega)]; exact hc 2 _ rfl, l0, g0, l1, g1⟩

theorem Kd.C_lit (k : IntKind) (W : World) (l : List Int) (e : TypeId) (fz : Nat × Nat) (h : l.length ≤ 9223372036854775807) :
    Kd.C (Kd.int k) (W.alloc (.cells (l.map (Value.int k)).toArray e fz)) (some ⟨W.heap.size, 0, none⟩) l.length l := by
  refine ⟨rfl, h, fun _ => ⟨_, rfl, fun j p hp => ⟨[.int k p], rfl, rfl, fun i u hu => ?_⟩⟩⟩
  have hb : (W.alloc (.cells (l.map (Value.int k)).toArray e fz)).heap[W.heap.size]? = some (.cells (l.map (Value.int k)).toArray e fz) := by
    show (W.heap.push _)[W.heap.size]? = _
    simp
  cases i with
  | succ i => simp at hu
  | zero =>
    obtain rfl : Value.int k p = u := by simpa using hu
    have ha : (⟨W.heap.size, 0, none⟩ : Addr).add (j * (Kd.int k).sz + 0) = ⟨W.heap.size, j, none⟩ := by
      have hz : (Kd.int k).sz = 1 := rfl
      rw [hz]
      simp only [Addr.add]
      by_cases hj : j = 0
      · subst hj
        rfl
      · simp [hj]
    rw [ha]
    unfold World.cell?
    rw [hb]
    simp [hp]
/-! ### the table of shapes -/
/-- The table: of each operation its number, its word, has it K, has it ways. -/
def shapeT : List (Int × ByteArray × Bool × Bool) := [(0, (⟨#[108, 100]⟩ : ByteArray), true, false), (1, (⟨#[108, 100, 120]⟩ : ByteArray), true, false), (2, (⟨#[115, 116]⟩ : ByteArray), true, false), (3, (⟨#[115, 116, 120]⟩ : ByteArray), true, false), (4, (⟨#[97, 100, 100]⟩ : ByteArray), true, false), (20, (⟨#[115, 117, 98]⟩ : ByteArray), true, false), (36, (⟨#[109, 117, 108]⟩ : ByteArray), true, false), (52, (⟨#[100, 105, 118]⟩ : ByteArray), true, false), (68, (⟨#[111, 114]⟩ : ByteArray), true, false), (84, (⟨#[97, 110, 100]⟩ : ByteArray), true, false), (100, (⟨#[108, 115, 104]⟩ : ByteArray), true, false), (116, (⟨#[114, 115, 104]⟩ : ByteArray), true, false), (164, (⟨#[120, 111, 114]⟩ : ByteArray), true, false), (12, (⟨#[97, 100, 100, 120]⟩ : ByteArray), false, false), (28, (⟨#[115, 117, 98, 120]⟩ : ByteArray), false, false), (44, (⟨#[109, 117, 108, 120]⟩ : ByteArray), false, false), (60, (⟨#[100, 105, 118, 120]⟩ : ByteArray), false, false), (76, (⟨#[111, 114, 120]⟩ : ByteArray), false, false), (92, (⟨#[97, 110, 100, 120]⟩ : ByteArray), false, false), (108, (⟨#[108, 115, 104, 120]⟩ : ByteArray), false, false), (124, (⟨#[114, 115, 104, 120]⟩ : ByteArray), false, false), (172, (⟨#[120, 111, 114, 120]⟩ : ByteArray), false, false), (132, (⟨#[110, 101, 103]⟩ : ByteArray), false, false), (7, (⟨#[116, 97, 120]⟩ : ByteArray), false, false), (135, (⟨#[116, 120, 97]⟩ : ByteArray), false, false), (32, (⟨#[97, 98, 115]⟩ : ByteArray), true, false), (96, (⟨#[109, 101, 109]⟩ : ByteArray), true, false), (97, (⟨#[109, 101, 109, 120]⟩ : ByteArray), true, false), (5, (⟨#[106, 97]⟩ : ByteArray), true, false), (6, (⟨#[114, 101, 116]⟩ : ByteArray), true, false), (22, (⟨#[114, 101, 116, 97]⟩ : ByteArray), false, false), (21, (⟨#[106, 101, 113]⟩ : ByteArray), true, true), (37, (⟨#[106, 103, 116]⟩ : ByteArray), true, true), (53, (⟨#[106, 103, 101]⟩ : ByteArray), true, true), (69, (⟨#[106, 115, 101, 116]⟩ : ByteArray), true, true), (29, (⟨#[106, 101, 113, 120]⟩ : ByteArray), false, true), (45, (⟨#[106, 103, 116, 120]⟩ : ByteArray), false, true), (61, (⟨#[106, 103, 101, 120]⟩ : ByteArray), false, true), (77, (⟨#[106, 115, 101, 116, 120]⟩ : ByteArray), false, true)]
def shapeZ : Int × ByteArray × Bool × Bool := (0, ⟨#[]⟩, false, false)
def shapeRow (s : Int × ByteArray × Bool × Bool) : List Value := [.int .i64 s.1, .string s.2.1, .bool s.2.2.1, .bool s.2.2.2]
def shapeCells : List Value := shapeT.flatMap shapeRow
def shapeV : Value := .agg shapeCells.toArray
def Glob (w : World) : Prop := ∀ j v, shapeCells[j]? = some v → w.cell? ⟨0, j, none⟩ = some v
theorem Glob.below {w w1 : World} (h : Glob w) (hb : Below w.heap.size w w1) : Glob w1 := fun j v hv =>
  (hb.cell (bL w _ (h j v hv))).trans (h j v hv)
theorem Glob.alloc {w : World} (h : Glob w) (o : Obj) : Glob (w.alloc o) := h.below ((Below.refl _ _).alloc (Nat.le_refl _) o)
theorem Glob.drew {w : World} (h : Glob w) : Glob w.drew := h
theorem shape_len : shapeT.length = 39 := rfl
theorem flat4 {α : Type} (l : List α) (f : α → List Value) (hf : ∀ x, (f x).length = 4) (i : Nat) (z : α) (hi : i < l.length) : ((l.flatMap f).drop (i * 4)).take 4 = f (l.getD i z) := by
  induction l generalizing i with
  | nil => simp at hi
  | cons x l ih =>
    cases i with
    | zero =>
      rw [List.flatMap_cons, Nat.zero_mul, List.drop_zero, List.take_append_of_le_length (by rw [hf]; exact Nat.le_refl _), List.take_of_length_le (by rw [hf]; exact Nat.le_refl _)]
      rfl
    | succ i =>
      rw [List.flatMap_cons, Nat.succ_mul, Nat.add_comm, ← List.drop_drop]
      have e : (f x ++ l.flatMap f).drop 4 = l.flatMap f := by
        have := List.drop_left (l₁ := f x) (l₂ := l.flatMap f)
        rwa [hf] at this
      rw [e, ih i (by simpa using hi)]
      rfl
theorem shape_load {P : Program} (w : World) (ty : TypeId) {n e : Nat} (hG : Glob w) (hu : P.underlying ty = some (.array n e)) (hi : (P.info? ty).map (·.size) = some 156) : (loadVar ty ⟨0, 0, none⟩).run P w = .ok shapeV w := by
  have hl : (loadCells ⟨0, 0, none⟩ shapeCells.length).run P w = .ok shapeCells.toArray w :=
    run_loadCells_list (P := P) w ⟨0, 0, none⟩ shapeCells (fun j v hv => by
      have hadd : (⟨0, 0, none⟩ : Addr).add j = ⟨0, j, none⟩ := by unfold Addr.add; split <;> simp_all
      rw [hadd]
      exact hG j v hv)
  have hs : shapeCells.length = 156 := rfl
  cases hq : P.info? ty with
  | none => simp [hq] at hi
  | some i =>
    have hz : i.size = 156 := by simpa [hq] using hi
    have hagg : (isAgg ty).run P w = .ok true w := by
      unfold isAgg
      rw [Sem.run_bind, run_underlying hu w]
      simp
    rw [hs] at hl
    simp [loadVar, Sem.run_bind, hagg, sizeOf, typeInfo, hq, hz, hl, shapeV]
theorem shape_index {P : Program} (W : World) (ty e : TypeId) {fs : Array Field} (i : Nat) (hi : i < 39) (hu : P.underlying ty = some (.array 39 e)) (he : P.underlying e = some (.struct fs)) (hz : (P.info? e).map (·.size) = some 4) :
    (Instr.index ty shapeV (.int .i64 (i : Int))).run P W = .ok (.agg (shapeRow (shapeT.getD i shapeZ)).toArray) W := by
  have hf := flat4 shapeT shapeRow (fun _ => rfl) i shapeZ (by rw [shape_len]; exact hi)
  cases hq : P.info? e with
  | none => simp [hq] at hz
  | some q =>
    have hz4 : q.size = 4 := by simpa [hq] using hz
    have hagg : (isAgg e).run P W = .ok true W := by
      unfold isAgg
      rw [Sem.run_bind, run_underlying he W]
      simp
    have h1 : (0 : Int) ≤ (i : Int) ∧ (i : Int) < 39 := by omega
    unfold Instr.index shapeV
    simp [asIntOf, Sem.run_bind, run_underlying hu W, h1, sizeOf, typeInfo, hq, hz4, part, hagg]
    rw [if_pos hi]
    have hf2 : (shapeCells.drop (i * 4)).take 4 = shapeRow (shapeT[i]?.getD shapeZ) := by
      rw [← List.getD_eq_getElem?_getD]
      exact hf
    rw [hf2]
theorem wpList_shape_load {P : Program} {ops : Array Oper} {rest : List Oper} {o : Oper} {a : Act} {w : World} {Q : Exit → Act → World → Prop} (ty : TypeId) {n e : Nat} (hgd : o.guard = none) (ho : o.op = .load ty (.global 0))
    (hG : Glob w) (hu : P.underlying ty = some (.array n e)) (hi : (P.info? ty).map (·.size) = some 156) (h : wpList P ops Q rest (a.put o.dst shapeV) w) : wpList P ops Q (o :: rest) a w := by
  refine wpList_plain hgd fun K hK => ?_
  unfold Oper.wp execOp
  have hx : a.eval (.global 0) = .pointer (some ⟨0, 0, none⟩) := rfl
  simp only [ho, hx, Instr.loadAt, Instr.sureAddr, Sem.run_bind, Sem.run_pure, Result.andThen_ok, shape_load w ty hG hu hi]
  exact hK _ _ h
theorem shape_snoc (i : Nat) (h : i < 39) : shapeT.drop i = shapeT.getD i shapeZ :: shapeT.drop (i + 1) := by
  rw [List.drop_eq_getElem_cons (by rw [shape_len]; exact h)]
  congr 1
  rw [List.getD_eq_getElem?_getD, List.getElem?_eq_getElem (by rw [shape_len]; exact h)]
  rfl
def ofRest (l : List (Int × ByteArray × Bool × Bool)) (a0 : Int) : Option (Int × ByteArray × Bool × Bool × Bool) :=
  match l.find? (fun s => s.1 == a0) with
  | some s => some (s.1, s.2.1, s.2.2.1, s.2.2.2, true)
  | none => some (0, ⟨#[]⟩, false, false, false)
/-! ### a row of bytes that is the call's own, or a constant's, full to its end -/
def RowT (e : Nat) (W : World) (base : Nat) (v : Value) (xs : List Int) : Prop :=
  Kd.R (Kd.int .u8) e W base (fun _ => True) v xs ∨ ∃ b n, base ≤ b ∧ v = .slice (some ⟨b, 0, none⟩) n n ∧ 0 < n ∧ Kd.C (Kd.int .u8) W (some ⟨b, 0, none⟩) n xs
theorem RowT.alloc {e : Nat} {W : World} {base : Nat} {v : Value} {xs : List Int} (h : RowT e W base v xs) (o : Obj) : RowT e (W.alloc o) base v xs := by
  rcases h with h | ⟨b, n, h1, h2, h3, h4⟩
  · exact .inl (Kd.R_alloc h o)
  · exact .inr ⟨b, n, h1, h2, h3, Kd.C_alloc h4 o⟩
theorem RowT.drew {e : Nat} {W : World} {base : Nat} {v : Value} {xs : List Int} (h : RowT e W base v xs) : RowT e W.drew base v xs := by
  rcases h with h | ⟨b, n, h1, h2, h3, h4⟩
  · exact .inl (Kd.R_drew h)
  · exact .inr ⟨b, n, h1, h2, h3, Kd.C_drew h4⟩
theorem RowT.string {P : Program} {w : World} {base : Nat} {e' src dst e : TypeId} {v : Value} {xs : List Int} (hs : P.underlying src = some (.slice e)) (he : P.underlying e = some (.int .u8)) (hd : P.underlying dst = some .string)
    (h : RowT e' w base v xs) : (convert src dst v).run P w = .ok (.string (strOfNums xs)) w := by
  rcases h with h | ⟨b, n, h1, rfl, h3, h4⟩
  · exact own_string hs he hd (Kd.own_of_R h)
  · exact Kd.C_string hs he hd h4
theorem cells_of_C {W : World} {b n : Nat} {xs : List Int} (h : Kd.C (Kd.int .u8) W (some ⟨b, 0, none⟩) n xs) (hn : 0 < n) : ∀ j u, (xs.map (Value.int .u8))[j]? = some u → W.cell? ((⟨b, 0, none⟩ : Addr).add j) = some u := by
  intro j u hu
  rw [List.getElem?_map] at hu
  obtain ⟨p, hp, rfl⟩ := Option.map_eq_some_iff.mp hu
  obtain ⟨ad, e, hc⟩ := h.2.2 hn
  obtain rfl : ⟨b, 0, none⟩ = ad := Option.some.inj e
  obtain ⟨c, hl, hr, hcell⟩ := hc j p hp
  have hr' : c = [.int .u8 p] := hr
  subst hr'
  have := hcell 0 _ rfl
  rwa [show j * (Kd.int .u8).sz + 0 = j from Nat.mul_one j] at this
theorem reps_nums (xs : List Int) (W : World) (base : Nat) (ok : Nat → Prop) : Reps ((Kd.int .u8).M W base ok) (Kd.int .u8).sz xs (xs.map (Value.int .u8)) := by
  refine ⟨by rw [List.length_map]; exact (Nat.mul_one _).symm, fun j p hp => ?_⟩
  show ((xs.map (Value.int .u8)).drop (j * 1)).take 1 = [.int .u8 p]
  rw [Nat.mul_one]
  have hj : j < xs.length := by
    rcases Nat.lt_or_ge j xs.length with h1 | h1
    · exact h1
    · rw [List.getElem?_eq_none h1] at hp; cases hp
  have hp' : xs[j] = p := by rw [List.getElem?_eq_getElem hj] at hp; exact Option.some.inj hp
  rw [List.drop_eq_getElem_cons (by simpa using hj)]
  simp [hp']
theorem RowT.grown {e : Nat} {w0 W w1 : World} {base n : Nat} {v1 : Value} {xs ys : List Int} (HB : Below base w0 W) (hbase : base ≤ W.heap.size) (hn : xs.length + ys.length = n)
    (ho : w1.ownsRow W.heap.size e 1 v1 n (xs.map (Value.int .u8) ++ ys.map (Value.int .u8))) (hg : W.grownBy w1 none) : Kd.R (Kd.int .u8) e w1 base (fun _ => True) v1 (xs ++ ys) ∧ Below base w0 w1 := by
  refine ⟨⟨fun _ _ => trivial, xs.map (Value.int .u8) ++ ys.map (Value.int .u8), ?_, ?_⟩, pw_below_grown HB none hbase hg (fun k hk => by cases hk)⟩
  · rw [List.length_append, hn]
    exact own_less ho hbase
  · rw [← List.map_append]
    exact reps_nums _ _ _ _
section
variable {P : Program} {ops : Array Oper} {rest : List Oper} {o : Oper} {a : Act} {Q : Exit → Act → World → Prop}
theorem RowT.append {w0 W : World} (base : Nat) (hgd : o.guard = none) (s x : Operand) (t e : TypeId)
    (ho : o.op = .call { callee := .builtin .append, args := #[s, x], argTypes := #[t, t] })
    (ht : P.underlying t = some (.slice e)) (hinfo : (P.info? e).map (fun i => (i.zero, i.size, i.bytes)) = some (some (.int .u8 0), 1, 1))
    (v : Value) (xs : List Int) (p : Int) (hs : a.eval s = v) (hx : a.eval x = .slice (some ⟨W.heap.size, 0, none⟩) 1 1)
    (HO : RowT e W base v xs) (HB : Below base w0 W) (hbase : base ≤ W.heap.size) (hl : (xs.length + 1) * 1 ≤ 140737488355328)
    (h : ∀ v1 w1, Kd.R (Kd.int .u8) e w1 base (fun _ => True) v1 (xs ++ [p]) → Below base w0 w1 → wpList P ops Q rest (a.put o.dst v1) w1) :
    wpList P ops Q (o :: rest) a (W.alloc (.cells #[.int .u8 p] e)) := by
  rcases HO with HO | ⟨b, n, h1, h2, h3, h4⟩
  · exact Kd.R_append (Kd.int .u8) base hgd s x t e (.int .u8 0) 1 ho ht hinfo rfl (Nat.one_pos) (Nat.one_pos) v xs p [.int .u8 p] (fun _ => True) (fun _ => False) hs hx rfl (fun _ hk => hk.elim) (fun _ _ => trivial) HO HB hbase hl (fun v1 w1 r b _ _ => h v1 w1 r b)
  · obtain ⟨i0, hi, hzz⟩ := Option.map_eq_some_iff.1 hinfo
    simp only [Prod.mk.injEq] at hzz
    obtain ⟨hz0, hz1, hz2⟩ := hzz
    have hn : xs.length = n := h4.1
    subst h2
    refine wpList_append_grows (W.alloc (.cells #[.int .u8 p] e)) hgd s x t ho e i0 (.int .u8 0) 1 1 ht hi hz0 hz1 hz2 rfl Nat.one_pos (some ⟨b, 0, none⟩) n n (xs.map (Value.int .u8)) hs (fun hne => by cases hne) (by rw [List.length_map, hn, Nat.mul_one]) ?_
      ⟨W.heap.size, 0, none⟩ 1 1 [.int .u8 p] hx rfl ?_ ?_ (Nat.lt_succ_self _) ?_ ?_ ?_
    · intro b' hb' j u hu
      obtain rfl : ⟨b, 0, none⟩ = b' := Option.some.inj hb'
      exact cells_of_C (Kd.C_alloc h4 _) h3 j u hu
    · intro j u hu
      exact cells_of_C (xs := [p]) (n := 1) (Kd.C_lit .u8 W [p] e (0, 0) (by simp)) Nat.one_pos j u hu
    · intro u hu
      obtain rfl : u = .int .u8 p := by simpa using hu
      rfl
    · unfold maxLen; omega
    · omega
    · intro v1 w1 ho1 hg1
      obtain ⟨r, b1⟩ := RowT.grown (xs := xs) (ys := [p]) (HB.alloc hbase _) (Nat.le_trans hbase (by simp)) (by simp [hn]) ho1 hg1
      exact h v1 w1 r b1
end
/-! ### a range over a string, beside what else is made -/
def IterTo (W w1 : World) (b : Nat) (s : ByteArray) (p : Nat) : Prop := w1 = { W with heap := W.heap.setIfInBounds b (.stringIter s p) }
theorem IterTo.at_ {W w1 : World} {b p q : Nat} {s : ByteArray} (h : IterTo W w1 b s p) (hb : W.heap[b]? = some (.stringIter s q)) : w1.heap[b]? = some (.stringIter s p) := by
  subst h
  have hlt : b < W.heap.size := by
    rcases Nat.lt_or_ge b W.heap.size with h1 | h1
    · exact h1
    · rw [Array.getElem?_eq_none h1] at hb; cases hb
  simp [hlt]
theorem IterTo.other {W w1 : World} {b p : Nat} {s : ByteArray} (h : IterTo W w1 b s p) (k : Nat) (hk : k ≠ b) : w1.heap[k]? = W.heap[k]? := by
  subst h
  simp [Array.getElem?_setIfInBounds, Ne.symm hk]
theorem IterTo.below {w W w1 : World} {B b p : Nat} {s : ByteArray} (h : IterTo W w1 b s p) (hB : Below B w W) (hb : B ≤ b) : Below B w w1 := by
  have h2 := h
  subst h
  exact hB.trans ⟨rfl, rfl, rfl, by simp, fun k hk => h2.other k (by omega)⟩
theorem IterTo.size {W w1 : World} {b p : Nat} {s : ByteArray} (h : IterTo W w1 b s p) : w1.heap.size = W.heap.size := by
  subst h
  simp
theorem IterTo.own {W w1 : World} {b p q base n e size : Nat} {s : ByteArray} {v : Value} {xs : List Value} (h : IterTo W w1 b s p) (hb : W.heap[b]? = some (.stringIter s q)) (ho : W.ownsRow base e size v n xs) : w1.ownsRow base e size v n xs := by
  obtain ⟨h1, h2⟩ := ho
  refine ⟨h1, ?_⟩
  rcases h2 with h2 | ⟨g, cap, cur, e1, e2, e3, e4⟩
  · exact .inl h2
  · refine .inr ⟨g, cap, cur, e1, e2, ?_, e4⟩
    rw [h.other g (fun he => by subst he; rw [hb] at e3; cases e3), e3]
section
variable {P : Program} {ops : Array Oper} {rest : List Oper} {o : Oper} {a : Act} {Q : Exit → Act → World → Prop}
end
/-! ### an array of two slices, by value; a call of a function value -/
theorem pair_index {P : Program} (W : World) (ty e s : TypeId) (x0 x1 : Value) (hu : P.underlying ty = some (.array 2 e)) (he : P.underlying e = some (.slice s)) (hz : (P.info? e).map (·.size) = some 1) :
    (Instr.index ty (.agg #[x0, x1]) (.int .i64 0)).run P W = .ok x0 W ∧ (Instr.index ty (.agg #[x0, x1]) (.int .i64 1)).run P W = .ok x1 W := by
  cases hq : P.info? e with
  | none => simp [hq] at hz
  | some q =>
    have hz1 : q.size = 1 := by simpa [hq] using hz
    have hagg : (isAgg e).run P W = .ok false W := by
      unfold isAgg
      rw [Sem.run_bind, run_underlying he W]
      simp
    constructor
    · unfold Instr.index
      simp [asIntOf, Sem.run_bind, run_underlying hu W, sizeOf, typeInfo, hq, hz1, part, hagg]
    · unfold Instr.index
      simp [asIntOf, Sem.run_bind, run_underlying hu W, sizeOf, typeInfo, hq, hz1, part, hagg]
theorem goesV_ {P : Program} {ops : Array Oper} {Q : Exit → Act → World → Prop} {oi : Oper} {N : Option Tmp} {a : Act} {w : World} {K : Act → World → Prop} {f : FuncId} {fn : Func} {x : Operand} {aa : Array Operand} {ts : Array TypeId} (hf : P.funcs[f]? = some fn) (hname : (fn.name == "runtime.NumGoroutine") = false) (hb : fn.body.isSome = true) (args : Array Value)
    (hw : Region.wanted oi (yielded ops a.tmps) = true) (hN : oi.dst = N) (hop : oi.op = .call { callee := .value x, args := aa, argTypes := ts }) (hx : a.eval x = .func (.func f) #[] #[]) (hargs : aa.map a.eval = args)
    (h : Calls P f args w fun e w' => ∃ v, e = .returned v ∧ K (a.put N v) w') : if Region.wanted oi (yielded ops a.tmps) = true then Oper.wp P oi a w K Q else K (a.put N undef) w := by
  refine call_ f args hw hN ?_ h
  have he := enters_ hf hname hb args w
  unfold execOp
  simp [hop, resolve, Deferred.ofValue, invoke, hx, hargs, he]
theorem str_geq {P : Program} (W : World) (t : TypeId) (x y : ByteArray) : (Go.binOp .geq t (.string x) (.string y)).run P W = .ok (.bool (!(Op.bytesLess x.toList y.toList))) W := by
  simp [Go.binOp, Op.stringOp]

theorem jK {Q P : Prop} (b : Aside0 Q) (h : Q → P := by intro hb; (with_reducible repeat (first | refine kN ?_ _ | refine kD ?_ | refine kA ?_ _)); exact hb) : P := h b.out
theorem jH {Q P : Prop} (b : Aside0 Q) (h : Q → P := by intro hb; repeat (first | (with_reducible first | exact hb | apply zA | apply zN | apply zD | refine zS ?_ (Aside0.out ‹_›)) | exact hb)) : P := h b.out
theorem jV {Q P : Prop} (b : Aside0 Q) (h : Q → P := by intro hb; (with_reducible repeat (first | apply Kd.V_alloc | apply Kd.V_drewN | apply Kd.V_drew)); exact hb) : P := h b.out
theorem jR {Q P : Prop} (b : Aside0 Q) (h : Q → P := by intro hb; (with_reducible repeat (first | apply Kd.R_alloc | apply Kd.R_drewN | apply Kd.R_drew)); exact hb) : P := h b.out
theorem jE {P : Prop} (h : P := by first | rfl | (simp [errW_none, errW_some] <;> rfl) | (simp [*, errW_none, errW_some] <;> rfl)) : P := h
theorem jS {P : Prop} (h : P := by first | rfl | (simp; done) | (simp [*]; done)) : P := h
theorem jO {P : Prop} (h : P := by first | omega | exact Nat.le_refl _) : P := h
theorem jZ {P : Prop} (h : P := by (try simp only [List.map_toArray, List.map_cons, List.map_nil]); first | done | rfl | (simp only [List.length_drop, List.length_take]; rfl)) : P := h
theorem jB {w0 w w1 : World} {g : Nat} {o : Obj} (b : Aside0 (w0.heap[g]? = some o)) (hb : Below w.heap.size w w1) (h : w0.heap[g]? = some o → w.heap[g]? = some o := by intro hb; (with_reducible repeat (first | refine kN ?_ _ | refine kD ?_ | refine kA ?_ _)); exact hb) : w1.heap[g]? = some o := kB (h b.out) hb
theorem jL {w0 w : World} {g : Nat} {o : Obj} (b : Aside0 (w0.heap[g]? = some o)) (h : w0.heap[g]? = some o → w.heap[g]? = some o := by intro hb; (with_reducible repeat (first | refine kN ?_ _ | refine kD ?_ | refine kA ?_ _)); exact hb) : g < w.heap.size := kL (h b.out)
theorem jG {w w1 w2 : World} {g : Nat} (hg : g = w1.heap.size) (b : Aside0 (Below w.heap.size w w2)) (h : Below w.heap.size w w2 → Below w.heap.size w w1 := by intro hb; repeat (first | (with_reducible first | exact hb | apply zA | apply zN | apply zD | refine zS ?_ (Aside0.out ‹_›)) | exact hb)) : w.heap.size ≤ g := by rw [hg]; exact zZ (h b.out)
theorem jN {w0 w : World} {g g2 : Nat} {o : Obj} (hg : g2 = w.heap.size) (b : Aside0 (w0.heap[g]? = some o)) (h : w0.heap[g]? = some o → w.heap[g]? = some o := by intro hb; (with_reducible repeat (first | refine kN ?_ _ | refine kD ?_ | refine kA ?_ _)); exact hb) : g ≠ g2 := by rw [hg]; exact Nat.ne_of_lt (kL (h b.out))
theorem jM {w0 w : World} {g g2 : Nat} {o : Obj} (hg : g2 = w.heap.size) (b : Aside0 (w0.heap[g]? = some o)) (h : w0.heap[g]? = some o → w.heap[g]? = some o := by intro hb; (with_reducible repeat (first | refine kN ?_ _ | refine kD ?_ | refine kA ?_ _)); exact hb) : g2 ≠ g := by rw [hg]; exact Nat.ne_of_gt (kL (h b.out))
theorem jW {P : Prop} (h : P := by first | (go_simp; done) | (go_simp; rfl)) : P := h
theorem jC {Q P : Prop} (b : Q) (h : Q → P := by intro hb; repeat (first | exact hb | (with_reducible refine Kd.C_alloc ?_ _) | (with_reducible refine Kd.C_drewN ?_ _) | (with_reducible refine Kd.C_drew ?_))) : P := h b
def tB (n k : Nat) : Array Bool := ((List.range n).map fun i => k.testBit i).toArray
section
variable {P : Program} {ops : Array Oper} {Q : Exit → Act → World → Prop} {md : Region.Mode} {S : World → Prop} {ds : List Nat}
theorem qP (i : Nat) (N : Tmp) {oi : Oper} {v : Value} {fuel : Nat} {l : Array Bool} {a a' : Act} {w : World} (l' : Array Bool) (h : wpAnyLast P md ops Q S ds fuel l' a' w) (hi : ops[i]? = some oi := by rfl) (hN : oi.dst = some N := by rfl) (hc : anyB md ops l l' i = true := by first | exact any_of HT_.out (by kernel_rfl) | kernel_rfl) (hQ : ∀ c a0 w, Q (.panic c) (a0.put oi.dst v) w → Q (.panic c) a0 w := by exact fun _ _ _ h => h) (hw : Region.wanted oi (yielded ops a.tmps) = true := by rfl) (hv : ∀ w', (execOp a.eval oi).run P w' = .ok (.value v) w' := by intro w'; go_simp; with_reducible rfl) (ha : a.put (some N) v = a' := by simp only [Act.put, List.setIfInBounds_toArray, List.set_cons_zero, List.set_cons_succ, i64_w, i32_w]; rfl) : wpAnyLast P md ops Q S ds (fuel + 1) l a w := pure_ l' hi hN hc (fun c _ w => hQ c _ w) (.inl ⟨hw, hv⟩) ha h
theorem qU (i : Nat) (N : Tmp) {oi : Oper} {fuel : Nat} {l : Array Bool} {a a' : Act} {w : World} (l' : Array Bool) (h : wpAnyLast P md ops Q S ds fuel l' a' w) (hi : ops[i]? = some oi := by rfl) (hN : oi.dst = some N := by rfl) (hc : anyB md ops l l' i = true := by first | exact any_of HT_.out (by kernel_rfl) | kernel_rfl) (hQ : ∀ c a0 w, Q (.panic c) (a0.put oi.dst undef) w → Q (.panic c) a0 w := by exact fun _ _ _ h => h) (hw : Region.wanted oi (yielded ops a.tmps) = false := by rfl) (ha : a.put (some N) undef = a' := by simp only [Act.put, List.setIfInBounds_toArray, List.set_cons_zero, List.set_cons_succ, i64_w, i32_w]; rfl) : wpAnyLast P md ops Q S ds (fuel + 1) l a w := pure_ l' hi hN hc (fun c _ w => hQ c _ w) (.inr ⟨hw, rfl⟩) ha h
theorem qT (i : Nat) (N : Tmp) {oi : Oper} {v : Value} {fuel : Nat} {l : Array Bool} {a a' : Act} {w : World} (l' : Array Bool) (hS : S w) (h : wpAnyLast P md ops Q S ds fuel l' a' w) (hi : ops[i]? = some oi := by rfl) (hN : oi.dst = some N := by rfl) (hc : takeB md ops ds l l' i = true := by first | exact take_ofW HT_.out HW_.out (by kernel_rfl) | kernel_rfl) (hQ : ∀ c a0 w, Q (.panic c) (a0.put oi.dst v) w → Q (.panic c) a0 w := by exact fun _ _ _ h => h) (hw : Region.wanted oi (yielded ops a.tmps) = true := by rfl) (hv : ∀ w', S w' → (execOp a.eval oi).run P w' = .ok (.value v) w') (ha : a.put (some N) v = a' := by simp only [Act.put, List.setIfInBounds_toArray, List.set_cons_zero, List.set_cons_succ, i64_w, i32_w]; rfl) : wpAnyLast P md ops Q S ds (fuel + 1) l a w := take_ l' hi hN hc (fun c _ w => hQ c _ w) (.inl ⟨hw, hv⟩) hS ha h
theorem qN (N : Tmp) {v : Value} {fuel : Nat} {l : Array Bool} {a a' : Act} {w : World} (h : wpAnyLast P md ops Q S ds fuel l a' w) (ha : a.put (some N) v = a' := by simp only [Act.put, List.setIfInBounds_toArray, List.set_cons_zero, List.set_cons_succ, i64_w, i32_w]; rfl) : wpAnyLast P md ops Q S ds fuel l (a.put (some N) v) w := norm_ ha h
end
theorem kQ3 {w : World} {g : Nat} {t : TypeId} {a b c : Value} (h : w.heap[g]? = some (.cells #[a, b, c] t (0, 0))) : w.cell? ⟨g, 0, none⟩ = some a ∧ w.cell? ⟨g, 1, none⟩ = some b ∧ w.cell? ⟨g, 2, none⟩ = some c ∧ w.frozen? ⟨g, 0, none⟩ = false ∧ w.frozen? ⟨g, 1, none⟩ = false ∧ w.frozen? ⟨g, 2, none⟩ = false := ⟨(kC h 0).trans rfl, (kC h 1).trans rfl, (kC h 2).trans rfl, kF h 0, kF h 1, kF h 2⟩
theorem kQ4 {w : World} {g : Nat} {t : TypeId} {a b c d : Value} (h : w.heap[g]? = some (.cells #[a, b, c, d] t (0, 0))) : w.cell? ⟨g, 0, none⟩ = some a ∧ w.cell? ⟨g, 1, none⟩ = some b ∧ w.cell? ⟨g, 2, none⟩ = some c ∧ w.cell? ⟨g, 3, none⟩ = some d ∧ w.frozen? ⟨g, 0, none⟩ = false ∧ w.frozen? ⟨g, 1, none⟩ = false ∧ w.frozen? ⟨g, 2, none⟩ = false ∧ w.frozen? ⟨g, 3, none⟩ = false := ⟨(kC h 0).trans rfl, (kC h 1).trans rfl, (kC h 2).trans rfl, (kC h 3).trans rfl, kF h 0, kF h 1, kF h 2, kF h 3⟩
theorem jA {P : Prop} (h : P := by first | (with_reducible assumption) | assumption) : P := h
end Go.Proofs.YtahacmdhhfmhiaaDoor.M
