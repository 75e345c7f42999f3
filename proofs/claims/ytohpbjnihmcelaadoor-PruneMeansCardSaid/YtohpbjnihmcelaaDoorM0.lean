/- What Go functions compute; their calls come to it. No condition. -/
import Derived.Test.YtohpbjnihmcelaaDoorProg
import Derived.Below
import Derived.Deep.Draws
import Derived.Deep.AppendLies
import Derived.Maps.AppendAt
import Derived.OwnWalk
import Derived.Laws.BytesArg
import Derived.Laws.MakeOwn
import Derived.Laws.OwnMore
import Derived.Deep.OwnRows
import Derived.Tactics
import Derived.Lib.ConvBytes
import Derived.Laws.Slices
import Derived.WalkKit
import Derived.KernelRfl
import Derived.RowKit3
import Derived.Deep.LoopGhost
import Derived.Deep.QuietTactic
import Derived.BigQuiet
import Derived.WideLaws
import Derived.Deep.DeepCutAuto
import Derived.Deep.CutBlock
import Derived.Deep.RegionHeld3
import Derived.Laws.Rows
import Derived.Lib.AppendStr
import Derived.ArgAppend
import Derived.Laws.IdiomCopy
import Derived.OrdersHeld
import Derived.Laws.BitsLemmas
import Derived.RowKit
import Derived.Lib.SlBytesConst
import Derived.Laws.RangeAny
import Derived.MapKept
import Derived.Test.YtohpbjnihmcelaaDoorWWords
import Derived.Test.YtohpbjnihmcelaaDoorWLast
import Derived.Test.YtohpbjnihmcelaaDoorWTab
import Derived.Test.YtohpbjnihmcelaaDoorWQPut
import Derived.Test.YtohpbjnihmcelaaDoorWApart
import Derived.Test.YtohpbjnihmcelaaDoorWArr
import Derived.Test.YtohpbjnihmcelaaDoorWZeros
import Derived.Test.YtohpbjnihmcelaaDoorWFoot
import Derived.Test.YtohpbjnihmcelaaDoorWKept
import Derived.Test.YtohpbjnihmcelaaDoorWShare
import Derived.Test.YtohpbjnihmcelaaDoorWN
import Derived.Test.YtohpbjnihmcelaaDoorWEqStruct
import Derived.Test.YtohpbjnihmcelaaDoorWRepsOne
import Derived.Test.YtohpbjnihmcelaaDoorWGuard
import Derived.Test.YtohpbjnihmcelaaDoorWNEv
import Derived.Test.YtohpbjnihmcelaaDoorWMore
namespace Go.Proofs.YtohpbjnihmcelaaDoor.M
open Go.RowKit Go.Proofs.YtohpbjnihmcelaaDoorW.PrintWords Go.Proofs.YtohpbjnihmcelaaDoorW.PrintLast Go.Proofs.YtohpbjnihmcelaaDoorW.PrintMore
attribute [local go_sem] max2_int min2_int max_two min_two max_three min_three max_four min_four   -- for this text's walks alone
set_option linter.unusedVariables false
set_option linter.unusedSimpArgs false
abbrev kF := @blk_frozen
abbrev kC := @blk_cell
abbrev zN := @pw_below_drewN
abbrev zA := @below_alloc
abbrev kN := @blk_drewN
abbrev kA := @blk_alloc
abbrev zD := @below_drew1
abbrev kD := @blk_drew
abbrev zS := @below_set
abbrev zT := @below_step
abbrev zZ := @below_size
abbrev kB := @blk_below
abbrev kG := @blk_grown
abbrev kP := @blk_put
abbrev kR := @blk_far
abbrev kL := @blk_lt
abbrev zH := @below_then
abbrev oD := @of_decide_eq_true
abbrev dT := @decide_eq_true
abbrev dF := @decide_eq_false
abbrev bF := @beq_eq_false_iff_ne
abbrev bI := @beq_iff_eq
abbrev nF := @bne_eq_false_iff_eq
abbrev nI := @bne_iff_ne
abbrev bL := @World.block_lt_of_cell?



def errW : Option Int → Value
  | none => .nilIface
  | some c => .iface 0 (.int .i64 c)
theorem errW_none : errW none = .nilIface := rfl
theorem errW_some (c : Int) : errW (some c) = .iface 0 (.int .i64 c) := rfl

theorem info2 : (Tryd.prog.info? 2).map (fun i => (i.zero, i.size, i.bytes)) = some (some (.int .i64 0), 1, 8) := by kernel_rfl
theorem info3 : (Tryd.prog.info? 3).map (fun i => (i.zero, i.size, i.bytes)) = some (some (.int .i64 0), 1, 8) := by kernel_rfl
theorem info4 : (Tryd.prog.info? 4).map (fun i => (i.zero, i.size, i.bytes)) = some (some (.bool false), 1, 1) := by kernel_rfl
theorem info5 : (Tryd.prog.info? 5).map (fun i => (i.zero, i.size, i.bytes)) = some (some (.int .u8 0), 1, 1) := by kernel_rfl
theorem info9 : (Tryd.prog.info? 9).map (fun i => (i.zero, i.size, i.bytes)) = some (some (.string ⟨#[]⟩), 1, 16) := by kernel_rfl
theorem info34 : (Tryd.prog.info? 34).map (fun i => (i.zero, i.size, i.bytes)) = some (some (.int .u32 0), 1, 4) := by kernel_rfl
theorem info45 : (Tryd.prog.info? 45).map (fun i => (i.zero, i.size, i.bytes)) = some (some (.agg #[(.int .i64 0), (.int .i64 0), (.int .i64 0), (.int .u32 0)]), 4, 32) := by kernel_rfl
-- the values' own types
/-! #### struct type 63 -/
structure S63 where
  f0 : Int
  f1 : ByteArray
  f2 : Bool
  f3 : Bool
def z63 : S63 := ⟨(0 : Int), (⟨#[]⟩ : ByteArray), false, false⟩
def k63 : Kd S63 := Kd.iso (Kd.pair (Kd.int .i64) (Kd.pair Kd.string (Kd.pair Kd.bool Kd.bool))) (fun x : S63 => (x.f0, x.f1, x.f2, x.f3))
theorem k63_open {w : World} {x : S63} {cs : List Value} (h : k63.K w x cs) : cs = [.int .i64 x.f0, .string x.f1, .bool x.f2, .bool x.f3] := by
  obtain ⟨_, _, rfl, rfl, ⟨_, _, rfl, rfl, ⟨_, _, rfl, rfl, rfl⟩⟩⟩ := h
  exact rfl
theorem k63_openM {w : World} {base : Nat} {ok : Nat → Prop} {x : S63} {cs : List Value} (h : k63.M w base ok x cs) : cs = [.int .i64 x.f0, .string x.f1, .bool x.f2, .bool x.f3] := by
  obtain ⟨_, _, rfl, rfl, ⟨_, _, rfl, rfl, ⟨_, _, rfl, rfl, rfl⟩⟩⟩ := h
  exact rfl
theorem k63_mk (w : World) (x : S63)  : k63.K w x [.int .i64 x.f0, .string x.f1, .bool x.f2, .bool x.f3] := ⟨[.int .i64 x.f0], [.string x.f1, .bool x.f2, .bool x.f3], rfl, rfl, ⟨[.string x.f1], [.bool x.f2, .bool x.f3], rfl, rfl, ⟨[.bool x.f2], [.bool x.f3], rfl, rfl, rfl⟩⟩⟩
theorem k63_mkM (w : World) (base : Nat) (ok : Nat → Prop) (x : S63)  : k63.M w base ok x [.int .i64 x.f0, .string x.f1, .bool x.f2, .bool x.f3] := ⟨[.int .i64 x.f0], [.string x.f1, .bool x.f2, .bool x.f3], rfl, rfl, ⟨[.string x.f1], [.bool x.f2, .bool x.f3], rfl, rfl, ⟨[.bool x.f2], [.bool x.f3], rfl, rfl, rfl⟩⟩⟩
def rd_T63 (xs : List S63) (i : Int) : S63 := xs.getD i.toNat z63
theorem at_T63 {w : World} {A : Option Addr} {n : Nat} {xs : List S63} (h : Kd.C k63 w A n xs) (i : Int) (h0 : 0 ≤ i) (h1 : i < n) : ∃ ad , A = some ad ∧ w.cell? (ad.add (i.toNat * 4)) = some (.int .i64 (rd_T63 xs i).f0) ∧ w.cell? ⟨(ad.add (i.toNat * 4)).block, (ad.add (i.toNat * 4)).off + 1, none⟩ = some (.string (rd_T63 xs i).f1) ∧ w.cell? ⟨(ad.add (i.toNat * 4)).block, (ad.add (i.toNat * 4)).off + 2, none⟩ = some (.bool (rd_T63 xs i).f2) ∧ w.cell? ⟨(ad.add (i.toNat * 4)).block, (ad.add (i.toNat * 4)).off + 3, none⟩ = some (.bool (rd_T63 xs i).f3) := by
  obtain ⟨ad, c, e, _, hK, hc0⟩ := Kd.C_get h z63 i h0 h1
  have hc : ∀ j u, c[j]? = some u → w.cell? (ad.add (i.toNat * 4 + j)) = some u := hc0
  obtain rfl := k63_open hK
  exact ⟨ad, e, hc 0 _ rfl, by rw [← add_field _ _ 1 (by omega)]; exact hc 1 _ rfl, by rw [← add_field _ _ 2 (by omega)]; exact hc 2 _ rfl, by rw [← add_field _ _ 3 (by omega)]; exact hc 3 _ rfl⟩

/-! #### struct type 45 -/
structure S45 where
  f0 : Int
  f1 : Int
  f2 : Int
  f3 : Int
def z45 : S45 := ⟨(0 : Int), (0 : Int), (0 : Int), (0 : Int)⟩
def k45 : Kd S45 := Kd.iso (Kd.pair (Kd.int .i64) (Kd.pair (Kd.int .i64) (Kd.pair (Kd.int .i64) (Kd.int .u32)))) (fun x : S45 => (x.f0, x.f1, x.f2, x.f3))
theorem k45_open {w : World} {x : S45} {cs : List Value} (h : k45.K w x cs) : cs = [.int .i64 x.f0, .int .i64 x.f1, .int .i64 x.f2, .int .u32 x.f3] := by
  obtain ⟨_, _, rfl, rfl, ⟨_, _, rfl, rfl, ⟨_, _, rfl, rfl, rfl⟩⟩⟩ := h
  exact rfl
theorem k45_openM {w : World} {base : Nat} {ok : Nat → Prop} {x : S45} {cs : List Value} (h : k45.M w base ok x cs) : cs = [.int .i64 x.f0, .int .i64 x.f1, .int .i64 x.f2, .int .u32 x.f3] := by
  obtain ⟨_, _, rfl, rfl, ⟨_, _, rfl, rfl, ⟨_, _, rfl, rfl, rfl⟩⟩⟩ := h
  exact rfl
theorem k45_mk (w : World) (x : S45)  : k45.K w x [.int .i64 x.f0, .int .i64 x.f1, .int .i64 x.f2, .int .u32 x.f3] := ⟨[.int .i64 x.f0], [.int .i64 x.f1, .int .i64 x.f2, .int .u32 x.f3], rfl, rfl, ⟨[.int .i64 x.f1], [.int .i64 x.f2, .int .u32 x.f3], rfl, rfl, ⟨[.int .i64 x.f2], [.int .u32 x.f3], rfl, rfl, rfl⟩⟩⟩
theorem k45_mkM (w : World) (base : Nat) (ok : Nat → Prop) (x : S45)  : k45.M w base ok x [.int .i64 x.f0, .int .i64 x.f1, .int .i64 x.f2, .int .u32 x.f3] := ⟨[.int .i64 x.f0], [.int .i64 x.f1, .int .i64 x.f2, .int .u32 x.f3], rfl, rfl, ⟨[.int .i64 x.f1], [.int .i64 x.f2, .int .u32 x.f3], rfl, rfl, ⟨[.int .i64 x.f2], [.int .u32 x.f3], rfl, rfl, rfl⟩⟩⟩
def rd_T45 (xs : List S45) (i : Int) : S45 := xs.getD i.toNat z45
theorem at_T45 {w : World} {A : Option Addr} {n : Nat} {xs : List S45} (h : Kd.C k45 w A n xs) (i : Int) (h0 : 0 ≤ i) (h1 : i < n) : ∃ ad , A = some ad ∧ w.cell? (ad.add (i.toNat * 4)) = some (.int .i64 (rd_T45 xs i).f0) ∧ w.cell? ⟨(ad.add (i.toNat * 4)).block, (ad.add (i.toNat * 4)).off + 1, none⟩ = some (.int .i64 (rd_T45 xs i).f1) ∧ w.cell? ⟨(ad.add (i.toNat * 4)).block, (ad.add (i.toNat * 4)).off + 2, none⟩ = some (.int .i64 (rd_T45 xs i).f2) ∧ w.cell? ⟨(ad.add (i.toNat * 4)).block, (ad.add (i.toNat * 4)).off + 3, none⟩ = some (.int .u32 (rd_T45 xs i).f3) := by
  obtain ⟨ad, c, e, _, hK, hc0⟩ := Kd.C_get h z45 i h0 h1
  have hc : ∀ j u, c[j]? = some u → w.cell? (ad.add (i.toNat * 4 + j)) = some u := hc0
  obtain rfl := k45_open hK
  exact ⟨ad, e, hc 0 _ rfl, by rw [← add_field _ _ 1 (by omega)]; exact hc 1 _ rfl, by rw [← add_field _ _ 2 (by omega)]; exact hc 2 _ rfl, by rw [← add_field _ _ 3 (by omega)]; exact hc 3 _ rfl⟩

def rd_L6 (xs : List (List S45)) (i : Int) : (List S45) := xs.getD i.toNat ([] : List S45)
theorem at_L6 {w : World} {A : Option Addr} {n : Nat} {xs : List (List S45)} (h : Kd.C (Kd.slice 45 k45) w A n xs) (i : Int) (h0 : 0 ≤ i) (h1 : i < n) : ∃ ad A0 c0, A = some ad ∧ w.cell? (ad.add i.toNat) = some (.slice A0 (rd_L6 xs i).length c0) ∧ (rd_L6 xs i).length ≤ c0 ∧ k45.C w A0 (rd_L6 xs i).length (rd_L6 xs i) := by
  obtain ⟨ad, c, e, _, hK, hc0⟩ := Kd.C_get h ([] : List S45) i h0 h1
  have hc : ∀ j u, c[j]? = some u → w.cell? (ad.add (i.toNat * 1 + j)) = some u := hc0
  obtain ⟨A0, c0, rfl, l0, g0⟩ := hK
  exact ⟨ad, A0, c0, e, by have hq := hc 0 _ rfl; rwa [Nat.mul_one, Nat.add_zero] at hq, l0, g0⟩

def rd_L7 (xs : List (List Bool)) (i : Int) : (List Bool) := xs.getD i.toNat ([] : List Bool)
theorem at_L7 {w : World} {A : Option Addr} {n : Nat} {xs : List (List Bool)} (h : Kd.C (Kd.slice 4 Kd.bool) w A n xs) (i : Int) (h0 : 0 ≤ i) (h1 : i < n) : ∃ ad A0 c0, A = some ad ∧ w.cell? (ad.add i.toNat) = some (.slice A0 (rd_L7 xs i).length c0) ∧ (rd_L7 xs i).length ≤ c0 ∧ Kd.bool.C w A0 (rd_L7 xs i).length (rd_L7 xs i) := by
  obtain ⟨ad, c, e, _, hK, hc0⟩ := Kd.C_get h ([] : List Bool) i h0 h1
  have hc : ∀ j u, c[j]? = some u → w.cell? (ad.add (i.toNat * 1 + j)) = some u := hc0
  obtain ⟨A0, c0, rfl, l0, g0⟩ := hK
  exact ⟨ad, A0, c0, e, by have hq := hc 0 _ rfl; rwa [Nat.mul_one, Nat.add_zero] at hq, l0, g0⟩

def rd_L8 (xs : List (List ByteArray)) (i : Int) : (List ByteArray) := xs.getD i.toNat ([] : List ByteArray)
theorem at_L8 {w : World} {A : Option Addr} {n : Nat} {xs : List (List ByteArray)} (h : Kd.C (Kd.slice 9 Kd.string) w A n xs) (i : Int) (h0 : 0 ≤ i) (h1 : i < n) : ∃ ad A0 c0, A = some ad ∧ w.cell? (ad.add i.toNat) = some (.slice A0 (rd_L8 xs i).length c0) ∧ (rd_L8 xs i).length ≤ c0 ∧ Kd.string.C w A0 (rd_L8 xs i).length (rd_L8 xs i) := by
  obtain ⟨ad, c, e, _, hK, hc0⟩ := Kd.C_get h ([] : List ByteArray) i h0 h1
  have hc : ∀ j u, c[j]? = some u → w.cell? (ad.add (i.toNat * 1 + j)) = some u := hc0
  obtain ⟨A0, c0, rfl, l0, g0⟩ := hK
  exact ⟨ad, A0, c0, e, by have hq := hc 0 _ rfl; rwa [Nat.mul_one, Nat.add_zero] at hq, l0, g0⟩

theorem Kd.C_lit (k : IntKind) (W : World) (l : List Int) (e : TypeId) (fz : Nat × Nat) (h : l.length ≤ 9223372036854775807) :
    Kd.C (Kd.int k) (W.alloc (.cells (l.map (Value.int k)).toArray e fz)) (some ⟨W.heap.size, 0, none⟩) l.length l := by
  refine ⟨rfl, h, fun _ => ⟨_, rfl, fun j p hp => ⟨[.int k p], rfl, rfl, fun i u hu => ?_⟩⟩⟩
  have hb : (W.alloc (.cells (l.map (Value.int k)).toArray e fz)).heap[W.heap.size]? = some (.cells (l.map (Value.int k)).toArray e fz) := by
    show (W.heap.push _)[W.heap.size]? = _
    simp
  cases i with
  | succ i => simp at hu
  | zero =>
    obtain rfl : Value.int k p = u := by simpa using hu
    have ha : (⟨W.heap.size, 0, none⟩ : Addr).add (j * (Kd.int k).sz + 0) = ⟨W.heap.size, j, none⟩ := by
      have hz : (Kd.int k).sz = 1 := rfl
      rw [hz]
      simp only [Addr.add]
      by_cases hj : j = 0
      · subst hj
        rfl
      · simp [hj]
    rw [ha]
    unfold World.cell?
    rw [hb]
    simp [hp]
/-! ### the table of shapes -/
/-- The table: of each operation its number, its word, has it K, has it ways. -/
def shapeT : List (Int × ByteArray × Bool × Bool) := [(0, (⟨#[108, 100]⟩ : ByteArray), true, false), (1, (⟨#[108, 100, 120]⟩ : ByteArray), true, false), (2, (⟨#[115, 116]⟩ : ByteArray), true, false), (3, (⟨#[115, 116, 120]⟩ : ByteArray), true, false), (4, (⟨#[97, 100, 100]⟩ : ByteArray), true, false), (20, (⟨#[115, 117, 98]⟩ : ByteArray), true, false), (36, (⟨#[109, 117, 108]⟩ : ByteArray), true, false), (52, (⟨#[100, 105, 118]⟩ : ByteArray), true, false), (68, (⟨#[111, 114]⟩ : ByteArray), true, false), (84, (⟨#[97, 110, 100]⟩ : ByteArray), true, false), (100, (⟨#[108, 115, 104]⟩ : ByteArray), true, false), (116, (⟨#[114, 115, 104]⟩ : ByteArray), true, false), (164, (⟨#[120, 111, 114]⟩ : ByteArray), true, false), (12, (⟨#[97, 100, 100, 120]⟩ : ByteArray), false, false), (28, (⟨#[115, 117, 98, 120]⟩ : ByteArray), false, false), (44, (⟨#[109, 117, 108, 120]⟩ : ByteArray), false, false), (60, (⟨#[100, 105, 118, 120]⟩ : ByteArray), false, false), (76, (⟨#[111, 114, 120]⟩ : ByteArray), false, false), (92, (⟨#[97, 110, 100, 120]⟩ : ByteArray), false, false), (108, (⟨#[108, 115, 104, 120]⟩ : ByteArray), false, false), (124, (⟨#[114, 115, 104, 120]⟩ : ByteArray), false, false), (172, (⟨#[120, 111, 114, 120]⟩ : ByteArray), false, false), (132, (⟨#[110, 101, 103]⟩ : ByteArray), false, false), (7, (⟨#[116, 97, 120]⟩ : ByteArray), false, false), (135, (⟨#[116, 120, 97]⟩ : ByteArray), false, false), (32, (⟨#[97, 98, 115]⟩ : ByteArray), true, false), (96, (⟨#[109, 101, 109]⟩ : ByteArray), true, false), (97, (⟨#[109, 101, 109, 120]⟩ : ByteArray), true, false), (5, (⟨#[106, 97]⟩ : ByteArray), true, false), (6, (⟨#[114, 101, 116]⟩ : ByteArray), true, false), (22, (⟨#[114, 101, 116, 97]⟩ : ByteArray), false, false), (21, (⟨#[106, 101, 113]⟩ : ByteArray), true, true), (37, (⟨#[106, 103, 116]⟩ : ByteArray), true, true), (53, (⟨#[106, 103, 101]⟩ : ByteArray), true, true), (69, (⟨#[106, 115, 101, 116]⟩ : ByteArray), true, true), (29, (⟨#[106, 101, 113, 120]⟩ : ByteArray), false, true), (45, (⟨#[106, 103, 116, 120]⟩ : ByteArray), false, true), (61, (⟨#[106, 103, 101, 120]⟩ : ByteArray), false, true), (77, (⟨#[106, 115, 101, 116, 120]⟩ : ByteArray), false, true)]
def shapeZ : Int × ByteArray × Bool × Bool := (0, ⟨#[]⟩, false, false)
def shapeRow (s : Int × ByteArray × Bool × Bool) : List Value := [.int .i64 s.1, .string s.2.1, .bool s.2.2.1, .bool s.2.2.2]
def shapeCells : List Value := shapeT.flatMap shapeRow
def shapeV : Value := .agg shapeCells.toArray
def Glob (w : World) : Prop := ∀ j v, shapeCells[j]? = some v → w.cell? ⟨0, j, none⟩ = some v
theorem Glob.below {w w1 : World} (h : Glob w) (hb : Below w.heap.size w w1) : Glob w1 := fun j v hv =>
  (hb.cell (bL w _ (h j v hv))).trans (h j v hv)
theorem Glob.alloc {w : World} (h : Glob w) (o : Obj) : Glob (w.alloc o) := h.below ((Below.refl _ _).alloc (Nat.le_refl _) o)
theorem Glob.drew {w : World} (h : Glob w) : Glob w.drew := h
theorem Glob.drewN {w : World} (h : Glob w) (n : Nat) : Glob (w.drewN n) := h
theorem shape_len : shapeT.length = 39 := rfl
theorem flat4 {α : Type} (l : List α) (f : α → List Value) (hf : ∀ x, (f x).length = 4) (i : Nat) (z : α) (hi : i < l.length) : ((l.flatMap f).drop (i * 4)).take 4 = f (l.getD i z) := by
  induction l generalizing i with
  | nil => simp at hi
  | cons x l ih =>
    cases i with
    | zero =>
      rw [List.flatMap_cons, Nat.zero_mul, List.drop_zero, List.take_append_of_le_length (by rw [hf]; exact Nat.le_refl _), List.take_of_length_le (by rw [hf]; exact Nat.le_refl _)]
      rfl
    | succ i =>
      rw [List.flatMap_cons, Nat.succ_mul, Nat.add_comm, ← List.drop_drop]
      have e : (f x ++ l.flatMap f).drop 4 = l.flatMap f := by
        have := List.drop_left (l₁ := f x) (l₂ := l.flatMap f)
        rwa [hf] at this
      rw [e, ih i (by simpa using hi)]
      rfl
theorem shape_load {P : Program} (w : World) (ty : TypeId) {n e : Nat} (hG : Glob w) (hu : P.underlying ty = some (.array n e)) (hi : (P.info? ty).map (·.size) = some 156) : (loadVar ty ⟨0, 0, none⟩).run P w = .ok shapeV w := by
  have hl : (loadCells ⟨0, 0, none⟩ shapeCells.length).run P w = .ok shapeCells.toArray w :=
    run_loadCells_list (P := P) w ⟨0, 0, none⟩ shapeCells (fun j v hv => by
      have hadd : (⟨0, 0, none⟩ : Addr).add j = ⟨0, j, none⟩ := by unfold Addr.add; split <;> simp_all
      rw [hadd]
      exact hG j v hv)
  have hs : shapeCells.length = 156 := rfl
  cases hq : P.info? ty with
  | none => simp [hq] at hi
  | some i =>
    have hz : i.size = 156 := by simpa [hq] using hi
    have hagg : (isAgg ty).run P w = .ok true w := by
      unfold isAgg
      rw [Sem.run_bind, run_underlying hu w]
      simp
    rw [hs] at hl
    simp [loadVar, Sem.run_bind, hagg, sizeOf, typeInfo, hq, hz, hl, shapeV]
theorem shape_index {P : Program} (W : World) (ty e : TypeId) {fs : Array Field} (i : Nat) (hi : i < 39) (hu : P.underlying ty = some (.array 39 e)) (he : P.underlying e = some (.struct fs)) (hz : (P.info? e).map (·.size) = some 4) :
    (Instr.index ty shapeV (.int .i64 (i : Int))).run P W = .ok (.agg (shapeRow (shapeT.getD i shapeZ)).toArray) W := by
  have hf := flat4 shapeT shapeRow (fun _ => rfl) i shapeZ (by rw [shape_len]; exact hi)
  cases hq : P.info? e with
  | none => simp [hq] at hz
  | some q =>
    have hz4 : q.size = 4 := by simpa [hq] using hz
    have hagg : (isAgg e).run P W = .ok true W := by
      unfold isAgg
      rw [Sem.run_bind, run_underlying he W]
      simp
    have h1 : (0 : Int) ≤ (i : Int) ∧ (i : Int) < 39 := by omega
    unfold Instr.index shapeV
    simp [asIntOf, Sem.run_bind, run_underlying hu W, h1, sizeOf, typeInfo, hq, hz4, part, hagg]
    rw [if_pos hi]
    have hf2 : (shapeCells.drop (i * 4)).take 4 = shapeRow (shapeT[i]?.getD shapeZ) := by
      rw [← List.getD_eq_getElem?_getD]
      exact hf
    rw [hf2]
theorem wpList_shape_load {P : Program} {ops : Array Oper} {rest : List Oper} {o : Oper} {a : Act} {w : World} {Q : Exit → Act → World → Prop} (ty : TypeId) {n e : Nat} (hgd : o.guard = none) (ho : o.op = .load ty (.global 0))
    (hG : Glob w) (hu : P.underlying ty = some (.array n e)) (hi : (P.info? ty).map (·.size) = some 156) (h : wpList P ops Q rest (a.put o.dst shapeV) w) : wpList P ops Q (o :: rest) a w := by
  refine wpList_plain hgd fun K hK => ?_
  unfold Oper.wp execOp
  have hx : a.eval (.global 0) = .pointer (some ⟨0, 0, none⟩) := rfl
  simp only [ho, hx, Instr.loadAt, Instr.sureAddr, Sem.run_bind, Sem.run_pure, Result.andThen_ok, shape_load w ty hG hu hi]
  exact hK _ _ h
theorem shape_snoc (i : Nat) (h : i < 39) : shapeT.drop i = shapeT.getD i shapeZ :: shapeT.drop (i + 1) := by
  rw [List.drop_eq_getElem_cons (by rw [shape_len]; exact h)]
  congr 1
  rw [List.getD_eq_getElem?_getD, List.getElem?_eq_getElem (by rw [shape_len]; exact h)]
  rfl
def ofRest (l : List (Int × ByteArray × Bool × Bool)) (a0 : Int) : Option (Int × ByteArray × Bool × Bool × Bool) :=
  match l.find? (fun s => s.1 == a0) with
  | some s => some (s.1, s.2.1, s.2.2.1, s.2.2.2, true)
  | none => some (0, ⟨#[]⟩, false, false, false)
/-! ### a row of bytes that is the call's own, or a constant's, full to its end -/
def RowT (e : Nat) (W : World) (base : Nat) (v : Value) (xs : List Int) : Prop :=
  Kd.R (Kd.int .u8) e W base (fun _ => True) v xs ∨ ∃ b n, base ≤ b ∧ v = .slice (some ⟨b, 0, none⟩) n n ∧ 0 < n ∧ Kd.C (Kd.int .u8) W (some ⟨b, 0, none⟩) n xs
theorem RowT.alloc {e : Nat} {W : World} {base : Nat} {v : Value} {xs : List Int} (h : RowT e W base v xs) (o : Obj) : RowT e (W.alloc o) base v xs := by
  rcases h with h | ⟨b, n, h1, h2, h3, h4⟩
  · exact .inl (Kd.R_alloc h o)
  · exact .inr ⟨b, n, h1, h2, h3, Kd.C_alloc h4 o⟩
theorem RowT.drew {e : Nat} {W : World} {base : Nat} {v : Value} {xs : List Int} (h : RowT e W base v xs) : RowT e W.drew base v xs := by
  rcases h with h | ⟨b, n, h1, h2, h3, h4⟩
  · exact .inl (Kd.R_drew h)
  · exact .inr ⟨b, n, h1, h2, h3, Kd.C_drew h4⟩
theorem RowT.drewN {e : Nat} {W : World} {base : Nat} {v : Value} {xs : List Int} (h : RowT e W base v xs) (m : Nat) : RowT e (W.drewN m) base v xs := by
  rcases h with h | ⟨b, n, h1, h2, h3, h4⟩
  · exact .inl (Kd.R_drewN h m)
  · exact .inr ⟨b, n, h1, h2, h3, Kd.C_drewN h4 m⟩
theorem RowT.string {P : Program} {w : World} {base : Nat} {e' src dst e : TypeId} {v : Value} {xs : List Int} (hs : P.underlying src = some (.slice e)) (he : P.underlying e = some (.int .u8)) (hd : P.underlying dst = some .string)
    (h : RowT e' w base v xs) : (convert src dst v).run P w = .ok (.string (strOfNums xs)) w := by
  rcases h with h | ⟨b, n, h1, rfl, h3, h4⟩
  · exact own_string hs he hd (Kd.own_of_R h)
  · exact Kd.C_string hs he hd h4
theorem cells_of_C {W : World} {b n : Nat} {xs : List Int} (h : Kd.C (Kd.int .u8) W (some ⟨b, 0, none⟩) n xs) (hn : 0 < n) : ∀ j u, (xs.map (Value.int .u8))[j]? = some u → W.cell? ((⟨b, 0, none⟩ : Addr).add j) = some u := by
  intro j u hu
  rw [List.getElem?_map] at hu
  obtain ⟨p, hp, rfl⟩ := Option.map_eq_some_iff.mp hu
  obtain ⟨ad, e, hc⟩ := h.2.2 hn
  obtain rfl : ⟨b, 0, none⟩ = ad := Option.some.inj e
  obtain ⟨c, hl, hr, hcell⟩ := hc j p hp
  have hr' : c = [.int .u8 p] := hr
  subst hr'
  have := hcell 0 _ rfl
  rwa [show j * (Kd.int .u8).sz + 0 = j from Nat.mul_one j] at this
theorem reps_nums (xs : List Int) (W : World) (base : Nat) (ok : Nat → Prop) : Reps ((Kd.int .u8).M W base ok) (Kd.int .u8).sz xs (xs.map (Value.int .u8)) := by
  refine ⟨by rw [List.length_map]; exact (Nat.mul_one _).symm, fun j p hp => ?_⟩
  show ((xs.map (Value.int .u8)).drop (j * 1)).take 1 = [.int .u8 p]
  rw [Nat.mul_one]
  have hj : j < xs.length := by
    rcases Nat.lt_or_ge j xs.length with h1 | h1
    · exact h1
    · rw [List.getElem?_eq_none h1] at hp; cases hp
  have hp' : xs[j] = p := by rw [List.getElem?_eq_getElem hj] at hp; exact Option.some.inj hp
  rw [List.drop_eq_getElem_cons (by simpa using hj)]
  simp [hp']
theorem RowT.grown {e : Nat} {w0 W w1 : World} {base n : Nat} {v1 : Value} {xs ys : List Int} (HB : Below base w0 W) (hbase : base ≤ W.heap.size) (hn : xs.length + ys.length = n)
    (ho : w1.ownsRow W.heap.size e 1 v1 n (xs.map (Value.int .u8) ++ ys.map (Value.int .u8))) (hg : W.grownBy w1 none) : Kd.R (Kd.int .u8) e w1 base (fun _ => True) v1 (xs ++ ys) ∧ Below base w0 w1 := by
  refine ⟨⟨fun _ _ => trivial, xs.map (Value.int .u8) ++ ys.map (Value.int .u8), ?_, ?_⟩, pw_below_grown HB none hbase hg (fun k hk => by cases hk)⟩
  · rw [List.length_append, hn]
    exact own_less ho hbase
  · rw [← List.map_append]
    exact reps_nums _ _ _ _
section
variable {P : Program} {ops : Array Oper} {rest : List Oper} {o : Oper} {a : Act} {Q : Exit → Act → World → Prop}
theorem RowT.append {w0 W : World} (base : Nat) (hgd : o.guard = none) (s x : Operand) (t e : TypeId)
    (ho : o.op = .call { callee := .builtin .append, args := #[s, x], argTypes := #[t, t] })
    (ht : P.underlying t = some (.slice e)) (hinfo : (P.info? e).map (fun i => (i.zero, i.size, i.bytes)) = some (some (.int .u8 0), 1, 1))
    (v : Value) (xs : List Int) (p : Int) (hs : a.eval s = v) (hx : a.eval x = .slice (some ⟨W.heap.size, 0, none⟩) 1 1)
    (HO : RowT e W base v xs) (HB : Below base w0 W) (hbase : base ≤ W.heap.size) (hl : (xs.length + 1) * 1 ≤ 140737488355328)
    (h : ∀ v1 w1, Kd.R (Kd.int .u8) e w1 base (fun _ => True) v1 (xs ++ [p]) → Below base w0 w1 → wpList P ops Q rest (a.put o.dst v1) w1) :
    wpList P ops Q (o :: rest) a (W.alloc (.cells #[.int .u8 p] e)) := by
  rcases HO with HO | ⟨b, n, h1, h2, h3, h4⟩
  · exact Kd.R_append (Kd.int .u8) base hgd s x t e (.int .u8 0) 1 ho ht hinfo rfl (Nat.one_pos) (Nat.one_pos) v xs p [.int .u8 p] (fun _ => True) (fun _ => False) hs hx rfl (fun _ hk => hk.elim) (fun _ _ => trivial) HO HB hbase hl (fun v1 w1 r b _ _ => h v1 w1 r b)
  · obtain ⟨i0, hi, hzz⟩ := Option.map_eq_some_iff.1 hinfo
    simp only [Prod.mk.injEq] at hzz
    obtain ⟨hz0, hz1, hz2⟩ := hzz
    have hn : xs.length = n := h4.1
    subst h2
    refine wpList_append_grows (W.alloc (.cells #[.int .u8 p] e)) hgd s x t ho e i0 (.int .u8 0) 1 1 ht hi hz0 hz1 hz2 rfl Nat.one_pos (some ⟨b, 0, none⟩) n n (xs.map (Value.int .u8)) hs (fun hne => by cases hne) (by rw [List.length_map, hn, Nat.mul_one]) ?_
      ⟨W.heap.size, 0, none⟩ 1 1 [.int .u8 p] hx rfl ?_ ?_ (Nat.lt_succ_self _) ?_ ?_ ?_
    · intro b' hb' j u hu
      obtain rfl : ⟨b, 0, none⟩ = b' := Option.some.inj hb'
      exact cells_of_C (Kd.C_alloc h4 _) h3 j u hu
    · intro j u hu
      exact cells_of_C (xs := [p]) (n := 1) (Kd.C_lit .u8 W [p] e (0, 0) (by simp)) Nat.one_pos j u hu
    · intro u hu
      obtain rfl : u = .int .u8 p := by simpa using hu
      rfl
    · unfold maxLen; omega
    · omega
    · intro v1 w1 ho1 hg1
      obtain ⟨r, b1⟩ := RowT.grown (xs := xs) (ys := [p]) (HB.alloc hbase _) (Nat.le_trans hbase (by simp)) (by simp [hn]) ho1 hg1
      exact h v1 w1 r b1
end
/-! ### a range over a string, beside what else is made -/
theorem decode_conts (s : ByteArray) (pos : Nat) : ∀ j, 0 < j → j < (Utf8.decode s pos).2 → pos + j < s.size ∧ (s.get! (pos + j)).toNat / 64 = 2 := by
  intro j h0 h1
  simp only [Utf8.decode] at h1
  have c1 : j < 2 → j = 1 := by omega
  have c2 : j < 3 → j = 1 ∨ j = 2 := by omega
  have c3 : j < 4 → j = 1 ∨ j = 2 ∨ j = 3 := by omega
  split at h1
  · omega
  split at h1
  · rename_i h
    simp only [Bool.and_eq_true, decide_eq_true_eq, bI] at h
    have : j < 2 := by split at h1 <;> simp at h1 <;> omega
    rw [c1 this]
    exact h.2
  split at h1
  · rename_i h
    simp only [Bool.and_eq_true, decide_eq_true_eq, bI] at h
    have : j < 3 := by split at h1 <;> simp at h1 <;> omega
    rcases c2 this with e | e <;> rw [e]
    · exact h.1.2
    · exact h.2
  split at h1
  · rename_i h
    simp only [Bool.and_eq_true, decide_eq_true_eq, bI] at h
    have : j < 4 := by split at h1 <;> simp at h1 <;> omega
    rcases c3 this with e | e | e <;> rw [e]
    · exact h.1.1.2
    · exact h.1.2
    · exact h.2
  · simp at h1
    omega
theorem decode_pos (s : ByteArray) (pos : Nat) : 1 ≤ (Utf8.decode s pos).2 := by
  simp only [Utf8.decode]
  repeat' split
  all_goals simp
theorem decode_fits (s : ByteArray) (pos : Nat) (h : pos < s.size) : pos + (Utf8.decode s pos).2 ≤ s.size := by
  have h1 := decode_pos s pos
  have h2 := decode_conts s pos ((Utf8.decode s pos).2 - 1)
  rcases Nat.lt_or_ge 1 (Utf8.decode s pos).2 with h3 | h3
  · have := (h2 (by omega) (by omega)).1
    omega
  · omega
def IterTo (W w1 : World) (b : Nat) (s : ByteArray) (p : Nat) : Prop := w1 = { W with heap := W.heap.setIfInBounds b (.stringIter s p) }
theorem IterTo.at_ {W w1 : World} {b p q : Nat} {s : ByteArray} (h : IterTo W w1 b s p) (hb : W.heap[b]? = some (.stringIter s q)) : w1.heap[b]? = some (.stringIter s p) := by
  subst h
  have hlt : b < W.heap.size := by
    rcases Nat.lt_or_ge b W.heap.size with h1 | h1
    · exact h1
    · rw [Array.getElem?_eq_none h1] at hb; cases hb
  simp [hlt]
theorem IterTo.other {W w1 : World} {b p : Nat} {s : ByteArray} (h : IterTo W w1 b s p) (k : Nat) (hk : k ≠ b) : w1.heap[k]? = W.heap[k]? := by
  subst h
  simp [Array.getElem?_setIfInBounds, Ne.symm hk]
theorem IterTo.below {w W w1 : World} {B b p : Nat} {s : ByteArray} (h : IterTo W w1 b s p) (hB : Below B w W) (hb : B ≤ b) : Below B w w1 := by
  have h2 := h
  subst h
  exact hB.trans ⟨rfl, rfl, rfl, by simp, fun k hk => h2.other k (by omega)⟩
theorem IterTo.size {W w1 : World} {b p : Nat} {s : ByteArray} (h : IterTo W w1 b s p) : w1.heap.size = W.heap.size := by
  subst h
  simp
theorem IterTo.own {W w1 : World} {b p q base n e size : Nat} {s : ByteArray} {v : Value} {xs : List Value} (h : IterTo W w1 b s p) (hb : W.heap[b]? = some (.stringIter s q)) (ho : W.ownsRow base e size v n xs) : w1.ownsRow base e size v n xs := by
  obtain ⟨h1, h2⟩ := ho
  refine ⟨h1, ?_⟩
  rcases h2 with h2 | ⟨g, cap, cur, e1, e2, e3, e4⟩
  · exact .inl h2
  · refine .inr ⟨g, cap, cur, e1, e2, ?_, e4⟩
    rw [h.other g (fun he => by subst he; rw [hb] at e3; cases e3), e3]
theorem IterTo.strings {W w1 : World} {b p q base e : Nat} {s : ByteArray} {v : Value} {xs : List ByteArray} (h : IterTo W w1 b s p) (hb : W.heap[b]? = some (.stringIter s q)) (ho : Kd.R Kd.string e W base (fun _ => True) v xs) : Kd.R Kd.string e w1 base (fun _ => True) v xs := by
  obtain ⟨h1, inner, h2, h3⟩ := ho
  exact ⟨h1, inner, h.own hb h2, h3.imp_ (fun _ _ hp => hp)⟩
theorem iter_lt {W : World} {b p : Nat} {s : ByteArray} (hb : W.heap[b]? = some (.stringIter s p)) : b < W.heap.size := by
  rcases Nat.lt_or_ge b W.heap.size with h1 | h1
  · exact h1
  · rw [Array.getElem?_eq_none h1] at hb; cases hb
theorem iter_ne {W : World} {b p base e : Nat} {s : ByteArray} {ok : Nat → Prop} {α : Type} {d : Kd α} {v : Value} {xs : List α} (hb : W.heap[b]? = some (.stringIter s p)) (ho : Kd.R d e W base ok v xs) : some b ≠ v.ownBlock := by
  intro he
  obtain ⟨h1, inner, h2, h3⟩ := ho
  rcases h2.2 with ⟨h4, _⟩ | ⟨g, cap, cur, e1, e2, e3, e4⟩
  · subst h4; cases he
  · subst e1
    have hg : b = g := by simpa [Value.ownBlock] using he
    subst hg
    rw [hb] at e3
    cases e3
section
variable {P : Program} {ops : Array Oper} {rest : List Oper} {o : Oper} {a : Act} {Q : Exit → Act → World → Prop}
theorem wpList_next_iter {W : World} {b pos : Nat} {s : ByteArray} (hgd : o.guard = none) (x : Operand) (ho : o.op = .next x true) (hx : a.eval x = .pointer (some ⟨b, 0, none⟩)) (hb : W.heap[b]? = some (.stringIter s pos)) (hlt : pos < s.size)
    (h : ∀ w1, IterTo W w1 b s (pos + (Utf8.decode s pos).2) → wpList P ops Q rest (a.put o.dst (.tuple #[.bool true, .int .i64 pos, .int .i32 (Utf8.decode s pos).1])) w1) : wpList P ops Q (o :: rest) a W := by
  refine wpList_plain hgd fun K hK => ?_
  unfold Oper.wp execOp
  simp only [ho, hx, Instr.next, getObj, setObj, Sem.run_bind, Sem.run, hb, Result.andThen, hlt, if_true]
  simp [goInt]
  exact hK _ _ (h _ rfl)
theorem wpList_next_done {W : World} {b pos : Nat} {s : ByteArray} (hgd : o.guard = none) (x : Operand) (ho : o.op = .next x true) (hx : a.eval x = .pointer (some ⟨b, 0, none⟩)) (hb : W.heap[b]? = some (.stringIter s pos)) (hlt : ¬ pos < s.size)
    (h : wpList P ops Q rest (a.put o.dst (.tuple #[.bool false])) W) : wpList P ops Q (o :: rest) a W := by
  refine wpList_plain hgd fun K hK => ?_
  unfold Oper.wp execOp
  simp only [ho, hx, Instr.next, getObj, Sem.run_bind, Sem.run, hb, Result.andThen, hlt, if_false]
  exact hK _ _ h
end
/-- A row that is only read and isn't empty lies where it may lead to: its block is none that is barred. -/
theorem Kd.V_away {α : Type} {d : Go.Proofs.YtohpbjnihmcelaaDoorW.PrintWords.Kd α} {e base g : Nat} {W : World} {ok : Nat → Prop} {v : Value} {xs : List α} (h : Go.Proofs.YtohpbjnihmcelaaDoorW.PrintWords.Kd.V d e W base ok v xs) (hok : ∀ k, ok k → k ≠ g)
    (hn : 0 < xs.length := by exact oD (by assumption)) (hsz : 0 < d.sz := by exact Nat.zero_lt_one) : some g ≠ v.ownBlock := by
  obtain ⟨A, c, rfl, hl, hf⟩ := h
  intro he
  have hc := hf { W with heap := W.heap.setIfInBounds g (.map #[] 0) } (fun k hk hlt => Array.getElem?_setIfInBounds_ne (Ne.symm (hok k hk)))
  obtain ⟨ad, hA, hcell⟩ := hc.2.2 hn
  subst hA
  have he' : ad.block = g := by simpa [Value.ownBlock] using he.symm
  obtain ⟨c0, hs, hK, hcl⟩ := hcell 0 xs[0] (List.getElem?_eq_getElem hn)
  have h0 : 0 < c0.length := by rw [hs]; exact hsz
  have h2 := hcl 0 _ (List.getElem?_eq_getElem h0)
  rw [Nat.zero_mul] at h2
  have h3 : (ad.add (0 + 0)).block = g := by
    rw [← he']
    simp [Addr.add]
  unfold World.cell? at h2
  rw [h3] at h2
  by_cases hg : g < W.heap.size
  · simp [hg] at h2
  · simp [hg] at h2

/-! An array of whole numbers, the last field of a variable in memory: read and written element by element, loaded and stored with the whole. -/
def arC (pre : List Value) (k : IntKind) (n : Nat) (m : List Int) : Array Value := (pre ++ (List.range n).map fun i : Nat => Value.int k (rd m (i : Int))).toArray
def arU (n : Nat) (i v : Int) (m : List Int) : List Int := (List.range n).map fun j : Nat => if (j : Int) = i then v else rd m (j : Int)
theorem arC_at (pre : List Value) (k : IntKind) (n : Nat) (m : List Int) (i : Nat) (hi : i < n) : (arC pre k n m)[pre.length + i]? = some (.int k (rd m (i : Int))) := by
  simp [arC, List.getElem?_append_right, List.getElem?_range hi]
theorem arC_get {w : World} {g : Nat} {t : TypeId} {pre : List Value} {k : IntKind} {n : Nat} {m : List Int} (h : w.heap[g]? = some (.cells (arC pre k n m) t (0, 0))) (o : Nat) (ho : pre.length = o) (i : Int) (h0 : 0 ≤ i) (h1 : i < (n : Int)) : w.cell? ⟨g, o + i.toNat, none⟩ = some (.int k (rd m i)) := by
  subst ho
  rw [kC h, arC_at pre k n m i.toNat (by omega)]
  rw [Int.toNat_of_nonneg h0]
theorem arU_at (n : Nat) (i v : Int) (m : List Int) (j : Nat) (hj : j < n) : rd (arU n i v m) (j : Int) = if (j : Int) = i then v else rd m (j : Int) := by
  unfold arU
  rw [show rd ((List.range n).map fun j : Nat => if (j : Int) = i then v else rd m (j : Int)) (j : Int) = ((List.range n).map fun j : Nat => if (j : Int) = i then v else rd m (j : Int)).getD j 0 from rfl]
  rw [List.getD_eq_getElem?_getD, List.getElem?_map, List.getElem?_range hj]
  rfl
theorem arC_put {w : World} {g : Nat} {t : TypeId} {pre : List Value} {k : IntKind} {n : Nat} {m : List Int} (h : w.heap[g]? = some (.cells (arC pre k n m) t (0, 0))) (o : Nat) (ho : pre.length = o) (i : Int) (h0 : 0 ≤ i) (h1 : i < (n : Int)) (v : Int) :
    (w.setCell ⟨g, o + i.toNat, none⟩ (.int k v)).heap[g]? = some (.cells (arC pre k n (arU n i v m)) t (0, 0)) := by
  subst ho
  refine kP h _ _ ?_
  apply Array.ext'
  rw [Array.toList_setIfInBounds]
  show (pre ++ (List.range n).map fun i : Nat => Value.int k (rd m (i : Int))).set (pre.length + i.toNat) (Value.int k v) = pre ++ (List.range n).map fun j : Nat => Value.int k (rd (arU n i v m) (j : Int))
  rw [List.set_append, if_neg (by omega), Nat.add_sub_cancel_left]
  congr 1
  refine List.ext_getElem (by simp) (fun j h1 h2 => ?_)
  have hj : j < n := by simpa using h2
  rw [List.getElem_set]
  simp only [List.getElem_map, List.getElem_range, arU_at n i v m j hj]
  by_cases e : i.toNat = j
  · rw [if_pos e, if_pos (by omega)]
  · rw [if_neg e, if_neg (by omega)]
theorem arC_one {pre : List Value} {k : IntKind} {n : Nat} {m : List Int} (h : pre.all (·.oneCell') = true) : (arC pre k n m).all (·.oneCell') = true := by
  unfold arC
  rw [List.all_toArray, List.all_append, h, Bool.true_and, List.all_map]
  exact List.all_eq_true.2 fun _ _ => rfl
theorem below_row {B g : Nat} {w0 w : World} (hb : Below B w0 w) (hBg : B ≤ g) (cs : Array Value) : Below B w0 (w.setRow g cs) :=
  ⟨hb.os, hb.tape, hb.output, by rw [setRow_size]; exact hb.size, fun k hk => (setRow_other w g k cs (by omega)).trans (hb.block k hk)⟩
theorem stw_event {P : Program} {ops : Array Oper} {rest : List Oper} {o : Oper} {a : Act} {W : World} {Q : Exit → Act → World → Prop} (hgd : o.guard = none) (ty : TypeId) (x y : Operand) (ho : o.op = .store ty x y) (hN : o.dst = none)
    (g : Nat) (cells : Array Value) (hx : a.eval x = .pointer (some ⟨g, 0, none⟩)) (hy : a.eval y = .agg cells) (t : TypeId) (old : Array Value) (hg : W.heap[g]? = some (.cells old t (0, 0))) (hi : (P.info? ty).map (·.size) = some cells.size)
    (hold : old.size = cells.size) (h1 : cells.all (·.oneCell') = true)
    (h : ∀ w', w'.heap[g]? = some (.cells cells t (0, 0)) → (∀ (g' : Nat) (o' : Obj), g' ≠ g → W.heap[g']? = some o' → w'.heap[g']? = some o') → (∀ (b : Nat) (w0 : World), Below b w0 W → b ≤ g → Below b w0 w') → wpList P ops Q rest a w') : wpList P ops Q (o :: rest) a W := by
  refine wpList_plain hgd fun K hK => ?_
  refine wp_store_row ty x y ho g cells hx hy t old hg hi hold h1 ?_
  rw [hN]
  exact hK _ _ (h _ (setRow_heap W g old cells t (0, 0) hg) (fun g' o' hne ho' => (setRow_other W g g' cells hne).trans ho') (fun b w0 hb hbg => below_row hb hbg cells))

theorem jK {Q P : Prop} (b : Aside0 Q) (h : Q → P := by intro hb; (with_reducible repeat (first | refine kN ?_ _ | refine kD ?_ | refine kA ?_ _)); exact hb) : P := h b.out
theorem jH {Q P : Prop} (b : Aside0 Q) (h : Q → P := by intro hb; repeat (first | (with_reducible first | exact hb | apply zA | apply zN | apply zD | refine zS ?_ (Aside0.out ‹_›)) | exact hb)) : P := h b.out
theorem jV {Q P : Prop} (b : Aside0 Q) (h : Q → P := by intro hb; (with_reducible repeat (first | apply Kd.V_alloc | apply Kd.V_drewN | apply Kd.V_drew)); exact hb) : P := h b.out
theorem jR {Q P : Prop} (b : Aside0 Q) (h : Q → P := by intro hb; (with_reducible repeat (first | apply Kd.R_alloc | apply Kd.R_drewN | apply Kd.R_drew)); exact hb) : P := h b.out
theorem jE {P : Prop} (h : P := by first | rfl | (simp [errW_none, errW_some] <;> rfl) | (simp [*, errW_none, errW_some] <;> rfl)) : P := h
theorem jS {P : Prop} (h : P := by first | rfl | (simp; done) | (simp [*]; done)) : P := h
theorem jO {P : Prop} (h : P := by first | omega | exact Nat.le_refl _) : P := h
theorem jZ {P : Prop} (h : P := by (try simp only [List.map_toArray, List.map_cons, List.map_nil]); first | done | rfl | (simp only [List.length_drop, List.length_take]; rfl)) : P := h
theorem jB {w0 w w1 : World} {g : Nat} {o : Obj} (b : Aside0 (w0.heap[g]? = some o)) (hb : Below w.heap.size w w1) (h : w0.heap[g]? = some o → w.heap[g]? = some o := by intro hb; (with_reducible repeat (first | refine kN ?_ _ | refine kD ?_ | refine kA ?_ _)); exact hb) : w1.heap[g]? = some o := kB (h b.out) hb
theorem jL {w0 w : World} {g : Nat} {o : Obj} (b : Aside0 (w0.heap[g]? = some o)) (h : w0.heap[g]? = some o → w.heap[g]? = some o := by intro hb; (with_reducible repeat (first | refine kN ?_ _ | refine kD ?_ | refine kA ?_ _)); exact hb) : g < w.heap.size := kL (h b.out)
theorem jG {w w1 w2 : World} {g : Nat} (hg : g = w1.heap.size) (b : Aside0 (Below w.heap.size w w2)) (h : Below w.heap.size w w2 → Below w.heap.size w w1 := by intro hb; repeat (first | (with_reducible first | exact hb | apply zA | apply zN | apply zD | refine zS ?_ (Aside0.out ‹_›)) | exact hb)) : w.heap.size ≤ g := by rw [hg]; exact zZ (h b.out)
theorem jN {w0 w : World} {g g2 : Nat} {o : Obj} (hg : g2 = w.heap.size) (b : Aside0 (w0.heap[g]? = some o)) (h : w0.heap[g]? = some o → w.heap[g]? = some o := by intro hb; (with_reducible repeat (first | refine kN ?_ _ | refine kD ?_ | refine kA ?_ _)); exact hb) : g ≠ g2 := by rw [hg]; exact Nat.ne_of_lt (kL (h b.out))
theorem jM {w0 w : World} {g g2 : Nat} {o : Obj} (hg : g2 = w.heap.size) (b : Aside0 (w0.heap[g]? = some o)) (h : w0.heap[g]? = some o → w.heap[g]? = some o := by intro hb; (with_reducible repeat (first | refine kN ?_ _ | refine kD ?_ | refine kA ?_ _)); exact hb) : g2 ≠ g := by rw [hg]; exact Nat.ne_of_gt (kL (h b.out))
theorem jW {P : Prop} (h : P := by first | (go_simp; done) | (go_simp; rfl)) : P := h
theorem jC {Q P : Prop} (b : Q) (h : Q → P := by intro hb; repeat (first | exact hb | (with_reducible refine Kd.C_alloc ?_ _) | (with_reducible refine Kd.C_drewN ?_ _) | (with_reducible refine Kd.C_drew ?_))) : P := h b
theorem jA {P : Prop} (h : P := by first | (with_reducible assumption) | assumption) : P := h
end Go.Proofs.YtohpbjnihmcelaaDoor.M
