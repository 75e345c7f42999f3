/-
  NARROWER THAN 'FOR EVERY INPUT', by the rows' own cells (each row's printed sentence says how): InsPrints: laid · InsParses: laid · InsKinds: laid · InsBack: laid · InsApart: laid · InsOnly: laid.
  DERIVED. THE GIVEN ROWS OF THIS SEAT. 6 by the template 'for every input the law returns true; each argument reads behind the call as it read before'; 0 by the template 'total and deterministic' (their statements: YtbgneakihibmbaaDoorTotals.lean).
  GIVEN WITH THE SEED: the statements are not yours to turn. If you find one false, say at which input.
  Laid BY PROGRAM, IN A SANDBOX (cutbox-rows.mjs): the forced cells as the released guide's own fill.sh prints them over the translation 8debd5c9201737fe… (all of the seat's roots in one cut). By AI agents, Wed Nov 11 2026. No macro, syntax, notation, axiom, sorry.
-/
import Derived.Test.YtbgneakihibmbaaDoorChecked
import GoSem.Claim
import GoSem.ClaimJoined
import GoSem.ClaimMapViews
import Derived.JoinedTies
import Derived.KernelRfl
namespace Go.Proofs.YtbgneakihibmbaaDoor
/- THE CELL 'sum', in the pinned program and in every row, IS THE sha256 OF THE DUMP (.gsa) THAT YtbgneakihibmbaaDoorProg.lean LOADS. Nothing in Lean hashes anything: it is a label: what it is worth is what the hold of that sum in a sandbox is worth. -/
noncomputable def Tryd.pinned : Pinned := { name := "ytbgneakihibmbaadoor", sum := "8debd5c9201737fe19eb50aa062244a111aa00e08843f491f99485bf6854ab11", checked := Tryd.checked }
namespace Rows
def none {H : Type} : Left H := { results := [], args := [] }

/- WHAT THE LISTED PACKAGE-LEVEL VARIABLES READ AS WHEN THE CALL BEGINS. Each datum BY PROGRAM (the guide's laid-datum.mjs) off the statement by which the dump's own 'gosem.cut.vars' lays the variable. In a bare row this is a premise. The card (YtbgneakihibmbaaDoorCards.lean) ties it to the program's text. -/
def laid_hurdle_ins_shapes {H : Type} : DataW H := .agg [.agg [.lit (.int .i64 0), .lit (.string [108, 100]), .lit (.bool true), .lit (.bool false)], .agg [.lit (.int .i64 1), .lit (.string [108, 100, 120]), .lit (.bool true), .lit (.bool false)], .agg [.lit (.int .i64 2), .lit (.string [115, 116]), .lit (.bool true), .lit (.bool false)], .agg [.lit (.int .i64 3), .lit (.string [115, 116, 120]), .lit (.bool true), .lit (.bool false)], .agg [.lit (.int .i64 4), .lit (.string [97, 100, 100]), .lit (.bool true), .lit (.bool false)], .agg [.lit (.int .i64 20), .lit (.string [115, 117, 98]), .lit (.bool true), .lit (.bool false)], .agg [.lit (.int .i64 36), .lit (.string [109, 117, 108]), .lit (.bool true), .lit (.bool false)], .agg [.lit (.int .i64 52), .lit (.string [100, 105, 118]), .lit (.bool true), .lit (.bool false)], .agg [.lit (.int .i64 68), .lit (.string [111, 114]), .lit (.bool true), .lit (.bool false)], .agg [.lit (.int .i64 84), .lit (.string [97, 110, 100]), .lit (.bool true), .lit (.bool false)], .agg [.lit (.int .i64 100), .lit (.string [108, 115, 104]), .lit (.bool true), .lit (.bool false)], .agg [.lit (.int .i64 116), .lit (.string [114, 115, 104]), .lit (.bool true), .lit (.bool false)], .agg [.lit (.int .i64 164), .lit (.string [120, 111, 114]), .lit (.bool true), .lit (.bool false)], .agg [.lit (.int .i64 12), .lit (.string [97, 100, 100, 120]), .lit (.bool false), .lit (.bool false)], .agg [.lit (.int .i64 28), .lit (.string [115, 117, 98, 120]), .lit (.bool false), .lit (.bool false)], .agg [.lit (.int .i64 44), .lit (.string [109, 117, 108, 120]), .lit (.bool false), .lit (.bool false)], .agg [.lit (.int .i64 60), .lit (.string [100, 105, 118, 120]), .lit (.bool false), .lit (.bool false)], .agg [.lit (.int .i64 76), .lit (.string [111, 114, 120]), .lit (.bool false), .lit (.bool false)], .agg [.lit (.int .i64 92), .lit (.string [97, 110, 100, 120]), .lit (.bool false), .lit (.bool false)], .agg [.lit (.int .i64 108), .lit (.string [108, 115, 104, 120]), .lit (.bool false), .lit (.bool false)], .agg [.lit (.int .i64 124), .lit (.string [114, 115, 104, 120]), .lit (.bool false), .lit (.bool false)], .agg [.lit (.int .i64 172), .lit (.string [120, 111, 114, 120]), .lit (.bool false), .lit (.bool false)], .agg [.lit (.int .i64 132), .lit (.string [110, 101, 103]), .lit (.bool false), .lit (.bool false)], .agg [.lit (.int .i64 7), .lit (.string [116, 97, 120]), .lit (.bool false), .lit (.bool false)], .agg [.lit (.int .i64 135), .lit (.string [116, 120, 97]), .lit (.bool false), .lit (.bool false)], .agg [.lit (.int .i64 32), .lit (.string [97, 98, 115]), .lit (.bool true), .lit (.bool false)], .agg [.lit (.int .i64 96), .lit (.string [109, 101, 109]), .lit (.bool true), .lit (.bool false)], .agg [.lit (.int .i64 97), .lit (.string [109, 101, 109, 120]), .lit (.bool true), .lit (.bool false)], .agg [.lit (.int .i64 5), .lit (.string [106, 97]), .lit (.bool true), .lit (.bool false)], .agg [.lit (.int .i64 6), .lit (.string [114, 101, 116]), .lit (.bool true), .lit (.bool false)], .agg [.lit (.int .i64 22), .lit (.string [114, 101, 116, 97]), .lit (.bool false), .lit (.bool false)], .agg [.lit (.int .i64 21), .lit (.string [106, 101, 113]), .lit (.bool true), .lit (.bool true)], .agg [.lit (.int .i64 37), .lit (.string [106, 103, 116]), .lit (.bool true), .lit (.bool true)], .agg [.lit (.int .i64 53), .lit (.string [106, 103, 101]), .lit (.bool true), .lit (.bool true)], .agg [.lit (.int .i64 69), .lit (.string [106, 115, 101, 116]), .lit (.bool true), .lit (.bool true)], .agg [.lit (.int .i64 29), .lit (.string [106, 101, 113, 120]), .lit (.bool false), .lit (.bool true)], .agg [.lit (.int .i64 45), .lit (.string [106, 103, 116, 120]), .lit (.bool false), .lit (.bool true)], .agg [.lit (.int .i64 61), .lit (.string [106, 103, 101, 120]), .lit (.bool false), .lit (.bool true)], .agg [.lit (.int .i64 77), .lit (.string [106, 115, 101, 116, 120]), .lit (.bool false), .lit (.bool true)]]

/-- 'hurdlelaw02.InsPrints': WHATEVER THE INPUT: true; the input reads as it did. -/
def insPrintsSpec : ChangeSpec := { name := "insPrints", fn := fun _ => fun
  | [d] => { results := [.lit (.bool true)], args := [d] }
  | _ => none }
def insPrintsRow : OpenClaim := { program := "ytbgneakihibmbaadoor", sum := "8debd5c9201737fe19eb50aa062244a111aa00e08843f491f99485bf6854ab11", func := "hurdle/hurdlelaw02.InsPrints", spec := "insPrints", unfollowed := true, recurses := true, named := ["hurdle/ins.shapes"], apart := false, laid := [("hurdle/ins.shapes", laid_hurdle_ins_shapes)] }
def InsPrintsSaid : Prop := insPrintsRow.holds Tryd.pinned (OpenSpec.ofChange insPrintsSpec)

/-- ITS FALSE NEIGHBOUR: 'it returns false'. Refute it at one input. -/
def insPrintsWrong : ChangeSpec := { name := "insPrints", fn := fun _ => fun
  | [d] => { results := [.lit (.bool false)], args := [d] }
  | _ => none }
def InsPrintsWrongFalsely : Prop := insPrintsRow.holds Tryd.pinned (OpenSpec.ofChange insPrintsWrong)

/-- 'hurdlelaw02.InsParses': WHATEVER THE INPUT: true; the input reads as it did. -/
def insParsesSpec : ChangeSpec := { name := "insParses", fn := fun _ => fun
  | [d] => { results := [.lit (.bool true)], args := [d] }
  | _ => none }
def insParsesRow : OpenClaim := { program := "ytbgneakihibmbaadoor", sum := "8debd5c9201737fe19eb50aa062244a111aa00e08843f491f99485bf6854ab11", func := "hurdle/hurdlelaw02.InsParses", spec := "insParses", unfollowed := true, recurses := true, named := ["hurdle/ins.shapes"], apart := false, laid := [("hurdle/ins.shapes", laid_hurdle_ins_shapes)] }
def InsParsesSaid : Prop := insParsesRow.holds Tryd.pinned (OpenSpec.ofChange insParsesSpec)

/-- ITS FALSE NEIGHBOUR: 'it returns false'. Refute it at one input. -/
def insParsesWrong : ChangeSpec := { name := "insParses", fn := fun _ => fun
  | [d] => { results := [.lit (.bool false)], args := [d] }
  | _ => none }
def InsParsesWrongFalsely : Prop := insParsesRow.holds Tryd.pinned (OpenSpec.ofChange insParsesWrong)

/-- 'hurdlelaw02.InsKinds': WHATEVER THE INPUT: true; the input reads as it did. -/
def insKindsSpec : ChangeSpec := { name := "insKinds", fn := fun _ => fun
  | [d] => { results := [.lit (.bool true)], args := [d] }
  | _ => none }
def insKindsRow : OpenClaim := { program := "ytbgneakihibmbaadoor", sum := "8debd5c9201737fe19eb50aa062244a111aa00e08843f491f99485bf6854ab11", func := "hurdle/hurdlelaw02.InsKinds", spec := "insKinds", unfollowed := true, recurses := true, named := ["hurdle/ins.shapes"], apart := false, laid := [("hurdle/ins.shapes", laid_hurdle_ins_shapes)] }
def InsKindsSaid : Prop := insKindsRow.holds Tryd.pinned (OpenSpec.ofChange insKindsSpec)

/-- ITS FALSE NEIGHBOUR: 'it returns false'. Refute it at one input. -/
def insKindsWrong : ChangeSpec := { name := "insKinds", fn := fun _ => fun
  | [d] => { results := [.lit (.bool false)], args := [d] }
  | _ => none }
def InsKindsWrongFalsely : Prop := insKindsRow.holds Tryd.pinned (OpenSpec.ofChange insKindsWrong)

/-- 'hurdlelaw02.InsBack': WHATEVER THE INPUT: true; the input reads as it did. -/
def insBackSpec : ChangeSpec := { name := "insBack", fn := fun _ => fun
  | [d1, d2] => { results := [.lit (.bool true)], args := [d1, d2] }
  | _ => none }
def insBackRow : OpenClaim := { program := "ytbgneakihibmbaadoor", sum := "8debd5c9201737fe19eb50aa062244a111aa00e08843f491f99485bf6854ab11", func := "hurdle/hurdlelaw02.InsBack", spec := "insBack", unfollowed := true, recurses := true, named := ["hurdle/ins.shapes"], apart := false, laid := [("hurdle/ins.shapes", laid_hurdle_ins_shapes)] }
def InsBackSaid : Prop := insBackRow.holds Tryd.pinned (OpenSpec.ofChange insBackSpec)

/-- ITS FALSE NEIGHBOUR: 'it returns false'. Refute it at one input. -/
def insBackWrong : ChangeSpec := { name := "insBack", fn := fun _ => fun
  | [d1, d2] => { results := [.lit (.bool false)], args := [d1, d2] }
  | _ => none }
def InsBackWrongFalsely : Prop := insBackRow.holds Tryd.pinned (OpenSpec.ofChange insBackWrong)

/-- 'hurdlelaw02.InsApart': WHATEVER THE INPUT: true; the input reads as it did. -/
def insApartSpec : ChangeSpec := { name := "insApart", fn := fun _ => fun
  | [d1, d2] => { results := [.lit (.bool true)], args := [d1, d2] }
  | _ => none }
def insApartRow : OpenClaim := { program := "ytbgneakihibmbaadoor", sum := "8debd5c9201737fe19eb50aa062244a111aa00e08843f491f99485bf6854ab11", func := "hurdle/hurdlelaw02.InsApart", spec := "insApart", unfollowed := true, recurses := true, named := ["hurdle/ins.shapes"], apart := false, laid := [("hurdle/ins.shapes", laid_hurdle_ins_shapes)] }
def InsApartSaid : Prop := insApartRow.holds Tryd.pinned (OpenSpec.ofChange insApartSpec)

/-- ITS FALSE NEIGHBOUR: 'it returns false'. Refute it at one input. -/
def insApartWrong : ChangeSpec := { name := "insApart", fn := fun _ => fun
  | [d1, d2] => { results := [.lit (.bool false)], args := [d1, d2] }
  | _ => none }
def InsApartWrongFalsely : Prop := insApartRow.holds Tryd.pinned (OpenSpec.ofChange insApartWrong)

/-- 'hurdlelaw02.InsOnly': WHATEVER THE INPUT: true; the input reads as it did. -/
def insOnlySpec : ChangeSpec := { name := "insOnly", fn := fun _ => fun
  | [d] => { results := [.lit (.bool true)], args := [d] }
  | _ => none }
def insOnlyRow : OpenClaim := { program := "ytbgneakihibmbaadoor", sum := "8debd5c9201737fe19eb50aa062244a111aa00e08843f491f99485bf6854ab11", func := "hurdle/hurdlelaw02.InsOnly", spec := "insOnly", unfollowed := true, recurses := true, named := ["hurdle/ins.shapes"], apart := false, laid := [("hurdle/ins.shapes", laid_hurdle_ins_shapes)] }
def InsOnlySaid : Prop := insOnlyRow.holds Tryd.pinned (OpenSpec.ofChange insOnlySpec)

/-- ITS FALSE NEIGHBOUR: 'it returns false'. Refute it at one input. -/
def insOnlyWrong : ChangeSpec := { name := "insOnly", fn := fun _ => fun
  | [d] => { results := [.lit (.bool false)], args := [d] }
  | _ => none }
def InsOnlyWrongFalsely : Prop := insOnlyRow.holds Tryd.pinned (OpenSpec.ofChange insOnlyWrong)

/- THE SECOND FORM. 'bulk': how many values and letters a reading holds, each counted each time it is reached (what is shared counts as often as it is met; a slice's spare places count too). A statement '..UptoSaid' is the law's where the arguments, and the package variables that the reading takes, are together of bulk at most 1048576: NARROWER than '..Said'. Prove '..Said' where nothing that the law and all that it calls make is longer than what came in: it says more and counts as full. Else prove '..UptoSaid'. A law counts once. -/
mutual
def uptoBulk {H : Type} : DataW H → Nat
  | .lit (.string bytes) => bytes.length + 1
  | .lit _ => 1
  | .nil => 1
  | .ptr d => uptoBulk d + 1
  | .slice elems spare => uptoBulkAll elems + uptoBulkAll spare + 1
  | .agg parts => uptoBulkAll parts + 1
  | .iface _ d => uptoBulk d + 1
  | .map entries => uptoBulkEntries entries + 1
  | .held _ => 1
def uptoBulkAll {H : Type} : List (DataW H) → Nat
  | [] => 0
  | d :: r => uptoBulk d + uptoBulkAll r
def uptoBulkEntries {H : Type} : List (Lit × DataW H) → Nat
  | [] => 0
  | x :: r => uptoBulkEntry x + uptoBulkEntries r
def uptoBulkEntry {H : Type} : Lit × DataW H → Nat
  | (.string bytes, d) => bytes.length + uptoBulk d + 1
  | (_, d) => uptoBulk d + 1
 end
def uptoSmall : (H : Type) → List (DataW H) → Bool := fun _ ds => decide (uptoBulkAll ds ≤ 1048576)
def OpenSpec.upto (s : _root_.Go.ChangeSpec) : _root_.Go.OpenSpec := { _root_.Go.OpenSpec.ofChange s with cond := some uptoSmall }

/-- 'hurdlelaw02.InsPrints', WHERE WHAT IT READS IS OF BULK AT MOST 1048576: true; the input reads as it did. -/
def insPrintsUptoRow : OpenClaim := { program := "ytbgneakihibmbaadoor", sum := "8debd5c9201737fe19eb50aa062244a111aa00e08843f491f99485bf6854ab11", func := "hurdle/hurdlelaw02.InsPrints", spec := "insPrints", unfollowed := true, recurses := true, named := ["hurdle/ins.shapes"], apart := false, laid := [("hurdle/ins.shapes", laid_hurdle_ins_shapes)], narrowed := true }
def InsPrintsUptoSaid : Prop := insPrintsUptoRow.holds Tryd.pinned (OpenSpec.upto insPrintsSpec)

/-- 'hurdlelaw02.InsParses', WHERE WHAT IT READS IS OF BULK AT MOST 1048576: true; the input reads as it did. -/
def insParsesUptoRow : OpenClaim := { program := "ytbgneakihibmbaadoor", sum := "8debd5c9201737fe19eb50aa062244a111aa00e08843f491f99485bf6854ab11", func := "hurdle/hurdlelaw02.InsParses", spec := "insParses", unfollowed := true, recurses := true, named := ["hurdle/ins.shapes"], apart := false, laid := [("hurdle/ins.shapes", laid_hurdle_ins_shapes)], narrowed := true }
def InsParsesUptoSaid : Prop := insParsesUptoRow.holds Tryd.pinned (OpenSpec.upto insParsesSpec)

/-- 'hurdlelaw02.InsKinds', WHERE WHAT IT READS IS OF BULK AT MOST 1048576: true; the input reads as it did. -/
def insKindsUptoRow : OpenClaim := { program := "ytbgneakihibmbaadoor", sum := "8debd5c9201737fe19eb50aa062244a111aa00e08843f491f99485bf6854ab11", func := "hurdle/hurdlelaw02.InsKinds", spec := "insKinds", unfollowed := true, recurses := true, named := ["hurdle/ins.shapes"], apart := false, laid := [("hurdle/ins.shapes", laid_hurdle_ins_shapes)], narrowed := true }
def InsKindsUptoSaid : Prop := insKindsUptoRow.holds Tryd.pinned (OpenSpec.upto insKindsSpec)

/-- 'hurdlelaw02.InsBack', WHERE WHAT IT READS IS OF BULK AT MOST 1048576: true; the input reads as it did. -/
def insBackUptoRow : OpenClaim := { program := "ytbgneakihibmbaadoor", sum := "8debd5c9201737fe19eb50aa062244a111aa00e08843f491f99485bf6854ab11", func := "hurdle/hurdlelaw02.InsBack", spec := "insBack", unfollowed := true, recurses := true, named := ["hurdle/ins.shapes"], apart := false, laid := [("hurdle/ins.shapes", laid_hurdle_ins_shapes)], narrowed := true }
def InsBackUptoSaid : Prop := insBackUptoRow.holds Tryd.pinned (OpenSpec.upto insBackSpec)

/-- 'hurdlelaw02.InsApart', WHERE WHAT IT READS IS OF BULK AT MOST 1048576: true; the input reads as it did. -/
def insApartUptoRow : OpenClaim := { program := "ytbgneakihibmbaadoor", sum := "8debd5c9201737fe19eb50aa062244a111aa00e08843f491f99485bf6854ab11", func := "hurdle/hurdlelaw02.InsApart", spec := "insApart", unfollowed := true, recurses := true, named := ["hurdle/ins.shapes"], apart := false, laid := [("hurdle/ins.shapes", laid_hurdle_ins_shapes)], narrowed := true }
def InsApartUptoSaid : Prop := insApartUptoRow.holds Tryd.pinned (OpenSpec.upto insApartSpec)

/-- 'hurdlelaw02.InsOnly', WHERE WHAT IT READS IS OF BULK AT MOST 1048576: true; the input reads as it did. -/
def insOnlyUptoRow : OpenClaim := { program := "ytbgneakihibmbaadoor", sum := "8debd5c9201737fe19eb50aa062244a111aa00e08843f491f99485bf6854ab11", func := "hurdle/hurdlelaw02.InsOnly", spec := "insOnly", unfollowed := true, recurses := true, named := ["hurdle/ins.shapes"], apart := false, laid := [("hurdle/ins.shapes", laid_hurdle_ins_shapes)], narrowed := true }
def InsOnlyUptoSaid : Prop := insOnlyUptoRow.holds Tryd.pinned (OpenSpec.upto insOnlySpec)

end Rows
end Go.Proofs.YtbgneakihibmbaaDoor
