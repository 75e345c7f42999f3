/-
  NARROWER THAN 'FOR EVERY INPUT', by the rows' own cells (each row's printed sentence says how): PruneLeaves: laid · PruneMeans: laid · PruneAgain: laid · PruneBehind: laid · PruneMet: laid.
  DERIVED. THE GIVEN ROWS OF THIS SEAT. 5 by the template 'for every input the law returns true; each argument reads behind the call as it read before'; 0 by the template 'total and deterministic' (their statements: YtohpbjnihmcelaaDoorTotals.lean).
  GIVEN WITH THE SEED: the statements are not yours to turn. If you find one false, say at which input.
  Laid BY PROGRAM, IN A SANDBOX (cutbox-rows.mjs): the forced cells as the released guide's own fill.sh prints them over the translation 2416c349d55761a5… (all of the seat's roots in one cut). By AI agents, Wed Nov 11 2026. No macro, syntax, notation, axiom, sorry.
-/
import Derived.Test.YtohpbjnihmcelaaDoorChecked
import GoSem.Claim
import GoSem.ClaimJoined
import GoSem.ClaimMapViews
import Derived.JoinedTies
import Derived.KernelRfl
namespace Go.Proofs.YtohpbjnihmcelaaDoor
/- THE CELL 'sum', in the pinned program and in every row, IS THE sha256 OF THE DUMP (.gsa) THAT YtohpbjnihmcelaaDoorProg.lean LOADS. Nothing in Lean hashes anything: it is a label: what it is worth is what the hold of that sum in a sandbox is worth. -/
noncomputable def Tryd.pinned : Pinned := { name := "ytohpbjnihmcelaadoor", sum := "2416c349d55761a5944d8e201b38cfb059012e946216ee491603c5dc4fc3d433", checked := Tryd.checked }
namespace Rows
def none {H : Type} : Left H := { results := [], args := [] }

/- WHAT THE LISTED PACKAGE-LEVEL VARIABLES READ AS WHEN THE CALL BEGINS. Each datum BY PROGRAM (the guide's laid-datum.mjs) off the statement by which the dump's own 'gosem.cut.vars' lays the variable. In a bare row this is a premise. The card (YtohpbjnihmcelaaDoorCards.lean) ties it to the program's text. -/
def laid_hurdle_ins_shapes {H : Type} : DataW H := .agg [.agg [.lit (.int .i64 0), .lit (.string [108, 100]), .lit (.bool true), .lit (.bool false)], .agg [.lit (.int .i64 1), .lit (.string [108, 100, 120]), .lit (.bool true), .lit (.bool false)], .agg [.lit (.int .i64 2), .lit (.string [115, 116]), .lit (.bool true), .lit (.bool false)], .agg [.lit (.int .i64 3), .lit (.string [115, 116, 120]), .lit (.bool true), .lit (.bool false)], .agg [.lit (.int .i64 4), .lit (.string [97, 100, 100]), .lit (.bool true), .lit (.bool false)], .agg [.lit (.int .i64 20), .lit (.string [115, 117, 98]), .lit (.bool true), .lit (.bool false)], .agg [.lit (.int .i64 36), .lit (.string [109, 117, 108]), .lit (.bool true), .lit (.bool false)], .agg [.lit (.int .i64 52), .lit (.string [100, 105, 118]), .lit (.bool true), .lit (.bool false)], .agg [.lit (.int .i64 68), .lit (.string [111, 114]), .lit (.bool true), .lit (.bool false)], .agg [.lit (.int .i64 84), .lit (.string [97, 110, 100]), .lit (.bool true), .lit (.bool false)], .agg [.lit (.int .i64 100), .lit (.string [108, 115, 104]), .lit (.bool true), .lit (.bool false)], .agg [.lit (.int .i64 116), .lit (.string [114, 115, 104]), .lit (.bool true), .lit (.bool false)], .agg [.lit (.int .i64 164), .lit (.string [120, 111, 114]), .lit (.bool true), .lit (.bool false)], .agg [.lit (.int .i64 12), .lit (.string [97, 100, 100, 120]), .lit (.bool false), .lit (.bool false)], .agg [.lit (.int .i64 28), .lit (.string [115, 117, 98, 120]), .lit (.bool false), .lit (.bool false)], .agg [.lit (.int .i64 44), .lit (.string [109, 117, 108, 120]), .lit (.bool false), .lit (.bool false)], .agg [.lit (.int .i64 60), .lit (.string [100, 105, 118, 120]), .lit (.bool false), .lit (.bool false)], .agg [.lit (.int .i64 76), .lit (.string [111, 114, 120]), .lit (.bool false), .lit (.bool false)], .agg [.lit (.int .i64 92), .lit (.string [97, 110, 100, 120]), .lit (.bool false), .lit (.bool false)], .agg [.lit (.int .i64 108), .lit (.string [108, 115, 104, 120]), .lit (.bool false), .lit (.bool false)], .agg [.lit (.int .i64 124), .lit (.string [114, 115, 104, 120]), .lit (.bool false), .lit (.bool false)], .agg [.lit (.int .i64 172), .lit (.string [120, 111, 114, 120]), .lit (.bool false), .lit (.bool false)], .agg [.lit (.int .i64 132), .lit (.string [110, 101, 103]), .lit (.bool false), .lit (.bool false)], .agg [.lit (.int .i64 7), .lit (.string [116, 97, 120]), .lit (.bool false), .lit (.bool false)], .agg [.lit (.int .i64 135), .lit (.string [116, 120, 97]), .lit (.bool false), .lit (.bool false)], .agg [.lit (.int .i64 32), .lit (.string [97, 98, 115]), .lit (.bool true), .lit (.bool false)], .agg [.lit (.int .i64 96), .lit (.string [109, 101, 109]), .lit (.bool true), .lit (.bool false)], .agg [.lit (.int .i64 97), .lit (.string [109, 101, 109, 120]), .lit (.bool true), .lit (.bool false)], .agg [.lit (.int .i64 5), .lit (.string [106, 97]), .lit (.bool true), .lit (.bool false)], .agg [.lit (.int .i64 6), .lit (.string [114, 101, 116]), .lit (.bool true), .lit (.bool false)], .agg [.lit (.int .i64 22), .lit (.string [114, 101, 116, 97]), .lit (.bool false), .lit (.bool false)], .agg [.lit (.int .i64 21), .lit (.string [106, 101, 113]), .lit (.bool true), .lit (.bool true)], .agg [.lit (.int .i64 37), .lit (.string [106, 103, 116]), .lit (.bool true), .lit (.bool true)], .agg [.lit (.int .i64 53), .lit (.string [106, 103, 101]), .lit (.bool true), .lit (.bool true)], .agg [.lit (.int .i64 69), .lit (.string [106, 115, 101, 116]), .lit (.bool true), .lit (.bool true)], .agg [.lit (.int .i64 29), .lit (.string [106, 101, 113, 120]), .lit (.bool false), .lit (.bool true)], .agg [.lit (.int .i64 45), .lit (.string [106, 103, 116, 120]), .lit (.bool false), .lit (.bool true)], .agg [.lit (.int .i64 61), .lit (.string [106, 103, 101, 120]), .lit (.bool false), .lit (.bool true)], .agg [.lit (.int .i64 77), .lit (.string [106, 115, 101, 116, 120]), .lit (.bool false), .lit (.bool true)]]

/-- 'hurdlelaw23.PruneLeaves': WHATEVER THE INPUT: true; the input reads as it did. -/
def pruneLeavesSpec : ChangeSpec := { name := "pruneLeaves", fn := fun _ => fun
  | [d] => { results := [.lit (.bool true)], args := [d] }
  | _ => none }
def pruneLeavesRow : OpenClaim := { program := "ytohpbjnihmcelaadoor", sum := "2416c349d55761a5944d8e201b38cfb059012e946216ee491603c5dc4fc3d433", func := "hurdle/hurdlelaw23.PruneLeaves", spec := "pruneLeaves", unfollowed := true, recurses := true, named := ["hurdle/ins.shapes"], apart := false, laid := [("hurdle/ins.shapes", laid_hurdle_ins_shapes)] }
def PruneLeavesSaid : Prop := pruneLeavesRow.holds Tryd.pinned (OpenSpec.ofChange pruneLeavesSpec)

/-- ITS FALSE NEIGHBOUR: 'it returns false'. Refute it at one input. -/
def pruneLeavesWrong : ChangeSpec := { name := "pruneLeaves", fn := fun _ => fun
  | [d] => { results := [.lit (.bool false)], args := [d] }
  | _ => none }
def PruneLeavesWrongFalsely : Prop := pruneLeavesRow.holds Tryd.pinned (OpenSpec.ofChange pruneLeavesWrong)

/-- 'hurdlelaw23.PruneMeans': WHATEVER THE INPUT: true; the input reads as it did. -/
def pruneMeansSpec : ChangeSpec := { name := "pruneMeans", fn := fun _ => fun
  | [d1, d2] => { results := [.lit (.bool true)], args := [d1, d2] }
  | _ => none }
def pruneMeansRow : OpenClaim := { program := "ytohpbjnihmcelaadoor", sum := "2416c349d55761a5944d8e201b38cfb059012e946216ee491603c5dc4fc3d433", func := "hurdle/hurdlelaw23.PruneMeans", spec := "pruneMeans", unfollowed := true, recurses := true, named := ["hurdle/ins.shapes"], apart := false, laid := [("hurdle/ins.shapes", laid_hurdle_ins_shapes)] }
def PruneMeansSaid : Prop := pruneMeansRow.holds Tryd.pinned (OpenSpec.ofChange pruneMeansSpec)

/-- ITS FALSE NEIGHBOUR: 'it returns false'. Refute it at one input. -/
def pruneMeansWrong : ChangeSpec := { name := "pruneMeans", fn := fun _ => fun
  | [d1, d2] => { results := [.lit (.bool false)], args := [d1, d2] }
  | _ => none }
def PruneMeansWrongFalsely : Prop := pruneMeansRow.holds Tryd.pinned (OpenSpec.ofChange pruneMeansWrong)

/-- 'hurdlelaw23.PruneAgain': WHATEVER THE INPUT: true; the input reads as it did. -/
def pruneAgainSpec : ChangeSpec := { name := "pruneAgain", fn := fun _ => fun
  | [d] => { results := [.lit (.bool true)], args := [d] }
  | _ => none }
def pruneAgainRow : OpenClaim := { program := "ytohpbjnihmcelaadoor", sum := "2416c349d55761a5944d8e201b38cfb059012e946216ee491603c5dc4fc3d433", func := "hurdle/hurdlelaw23.PruneAgain", spec := "pruneAgain", unfollowed := true, recurses := true, named := ["hurdle/ins.shapes"], apart := false, laid := [("hurdle/ins.shapes", laid_hurdle_ins_shapes)] }
def PruneAgainSaid : Prop := pruneAgainRow.holds Tryd.pinned (OpenSpec.ofChange pruneAgainSpec)

/-- ITS FALSE NEIGHBOUR: 'it returns false'. Refute it at one input. -/
def pruneAgainWrong : ChangeSpec := { name := "pruneAgain", fn := fun _ => fun
  | [d] => { results := [.lit (.bool false)], args := [d] }
  | _ => none }
def PruneAgainWrongFalsely : Prop := pruneAgainRow.holds Tryd.pinned (OpenSpec.ofChange pruneAgainWrong)

/-- 'hurdlelaw23.PruneBehind': WHATEVER THE INPUT: true; the input reads as it did. -/
def pruneBehindSpec : ChangeSpec := { name := "pruneBehind", fn := fun _ => fun
  | [d1, d2] => { results := [.lit (.bool true)], args := [d1, d2] }
  | _ => none }
def pruneBehindRow : OpenClaim := { program := "ytohpbjnihmcelaadoor", sum := "2416c349d55761a5944d8e201b38cfb059012e946216ee491603c5dc4fc3d433", func := "hurdle/hurdlelaw23.PruneBehind", spec := "pruneBehind", unfollowed := true, recurses := true, named := ["hurdle/ins.shapes"], apart := false, laid := [("hurdle/ins.shapes", laid_hurdle_ins_shapes)] }
def PruneBehindSaid : Prop := pruneBehindRow.holds Tryd.pinned (OpenSpec.ofChange pruneBehindSpec)

/-- ITS FALSE NEIGHBOUR: 'it returns false'. Refute it at one input. -/
def pruneBehindWrong : ChangeSpec := { name := "pruneBehind", fn := fun _ => fun
  | [d1, d2] => { results := [.lit (.bool false)], args := [d1, d2] }
  | _ => none }
def PruneBehindWrongFalsely : Prop := pruneBehindRow.holds Tryd.pinned (OpenSpec.ofChange pruneBehindWrong)

/-- 'hurdlelaw23.PruneMet': WHATEVER THE INPUT: true; the input reads as it did. -/
def pruneMetSpec : ChangeSpec := { name := "pruneMet", fn := fun _ => fun
  | [d1, d2] => { results := [.lit (.bool true)], args := [d1, d2] }
  | _ => none }
def pruneMetRow : OpenClaim := { program := "ytohpbjnihmcelaadoor", sum := "2416c349d55761a5944d8e201b38cfb059012e946216ee491603c5dc4fc3d433", func := "hurdle/hurdlelaw23.PruneMet", spec := "pruneMet", unfollowed := true, recurses := true, named := ["hurdle/ins.shapes"], apart := false, laid := [("hurdle/ins.shapes", laid_hurdle_ins_shapes)] }
def PruneMetSaid : Prop := pruneMetRow.holds Tryd.pinned (OpenSpec.ofChange pruneMetSpec)

/-- ITS FALSE NEIGHBOUR: 'it returns false'. Refute it at one input. -/
def pruneMetWrong : ChangeSpec := { name := "pruneMet", fn := fun _ => fun
  | [d1, d2] => { results := [.lit (.bool false)], args := [d1, d2] }
  | _ => none }
def PruneMetWrongFalsely : Prop := pruneMetRow.holds Tryd.pinned (OpenSpec.ofChange pruneMetWrong)

/- THE SECOND FORM. 'bulk': how many values and letters a reading holds, each counted each time it is reached (what is shared counts as often as it is met; a slice's spare places count too). A statement '..UptoSaid' is the law's where the arguments, and the package variables that the reading takes, are together of bulk at most 1048576: NARROWER than '..Said'. Prove '..Said' where nothing that the law and all that it calls make is longer than what came in: it says more and counts as full. Else prove '..UptoSaid'. A law counts once. -/
mutual
def uptoBulk {H : Type} : DataW H → Nat
  | .lit (.string bytes) => bytes.length + 1
  | .lit _ => 1
  | .nil => 1
  | .ptr d => uptoBulk d + 1
  | .slice elems spare => uptoBulkAll elems + uptoBulkAll spare + 1
  | .agg parts => uptoBulkAll parts + 1
  | .iface _ d => uptoBulk d + 1
  | .map entries => uptoBulkEntries entries + 1
  | .held _ => 1
def uptoBulkAll {H : Type} : List (DataW H) → Nat
  | [] => 0
  | d :: r => uptoBulk d + uptoBulkAll r
def uptoBulkEntries {H : Type} : List (Lit × DataW H) → Nat
  | [] => 0
  | x :: r => uptoBulkEntry x + uptoBulkEntries r
def uptoBulkEntry {H : Type} : Lit × DataW H → Nat
  | (.string bytes, d) => bytes.length + uptoBulk d + 1
  | (_, d) => uptoBulk d + 1
 end
def uptoSmall : (H : Type) → List (DataW H) → Bool := fun _ ds => decide (uptoBulkAll ds ≤ 1048576)
def OpenSpec.upto (s : _root_.Go.ChangeSpec) : _root_.Go.OpenSpec := { _root_.Go.OpenSpec.ofChange s with cond := some uptoSmall }

/-- 'hurdlelaw23.PruneLeaves', WHERE WHAT IT READS IS OF BULK AT MOST 1048576: true; the input reads as it did. -/
def pruneLeavesUptoRow : OpenClaim := { program := "ytohpbjnihmcelaadoor", sum := "2416c349d55761a5944d8e201b38cfb059012e946216ee491603c5dc4fc3d433", func := "hurdle/hurdlelaw23.PruneLeaves", spec := "pruneLeaves", unfollowed := true, recurses := true, named := ["hurdle/ins.shapes"], apart := false, laid := [("hurdle/ins.shapes", laid_hurdle_ins_shapes)], narrowed := true }
def PruneLeavesUptoSaid : Prop := pruneLeavesUptoRow.holds Tryd.pinned (OpenSpec.upto pruneLeavesSpec)

/-- 'hurdlelaw23.PruneMeans', WHERE WHAT IT READS IS OF BULK AT MOST 1048576: true; the input reads as it did. -/
def pruneMeansUptoRow : OpenClaim := { program := "ytohpbjnihmcelaadoor", sum := "2416c349d55761a5944d8e201b38cfb059012e946216ee491603c5dc4fc3d433", func := "hurdle/hurdlelaw23.PruneMeans", spec := "pruneMeans", unfollowed := true, recurses := true, named := ["hurdle/ins.shapes"], apart := false, laid := [("hurdle/ins.shapes", laid_hurdle_ins_shapes)], narrowed := true }
def PruneMeansUptoSaid : Prop := pruneMeansUptoRow.holds Tryd.pinned (OpenSpec.upto pruneMeansSpec)

/-- 'hurdlelaw23.PruneAgain', WHERE WHAT IT READS IS OF BULK AT MOST 1048576: true; the input reads as it did. -/
def pruneAgainUptoRow : OpenClaim := { program := "ytohpbjnihmcelaadoor", sum := "2416c349d55761a5944d8e201b38cfb059012e946216ee491603c5dc4fc3d433", func := "hurdle/hurdlelaw23.PruneAgain", spec := "pruneAgain", unfollowed := true, recurses := true, named := ["hurdle/ins.shapes"], apart := false, laid := [("hurdle/ins.shapes", laid_hurdle_ins_shapes)], narrowed := true }
def PruneAgainUptoSaid : Prop := pruneAgainUptoRow.holds Tryd.pinned (OpenSpec.upto pruneAgainSpec)

/-- 'hurdlelaw23.PruneBehind', WHERE WHAT IT READS IS OF BULK AT MOST 1048576: true; the input reads as it did. -/
def pruneBehindUptoRow : OpenClaim := { program := "ytohpbjnihmcelaadoor", sum := "2416c349d55761a5944d8e201b38cfb059012e946216ee491603c5dc4fc3d433", func := "hurdle/hurdlelaw23.PruneBehind", spec := "pruneBehind", unfollowed := true, recurses := true, named := ["hurdle/ins.shapes"], apart := false, laid := [("hurdle/ins.shapes", laid_hurdle_ins_shapes)], narrowed := true }
def PruneBehindUptoSaid : Prop := pruneBehindUptoRow.holds Tryd.pinned (OpenSpec.upto pruneBehindSpec)

/-- 'hurdlelaw23.PruneMet', WHERE WHAT IT READS IS OF BULK AT MOST 1048576: true; the input reads as it did. -/
def pruneMetUptoRow : OpenClaim := { program := "ytohpbjnihmcelaadoor", sum := "2416c349d55761a5944d8e201b38cfb059012e946216ee491603c5dc4fc3d433", func := "hurdle/hurdlelaw23.PruneMet", spec := "pruneMet", unfollowed := true, recurses := true, named := ["hurdle/ins.shapes"], apart := false, laid := [("hurdle/ins.shapes", laid_hurdle_ins_shapes)], narrowed := true }
def PruneMetUptoSaid : Prop := pruneMetUptoRow.holds Tryd.pinned (OpenSpec.upto pruneMetSpec)

end Rows
end Go.Proofs.YtohpbjnihmcelaaDoor
