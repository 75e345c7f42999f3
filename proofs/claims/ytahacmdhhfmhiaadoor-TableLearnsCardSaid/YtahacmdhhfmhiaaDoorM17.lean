/- What Go functions compute; their calls come to it. No condition. -/
import Derived.Test.YtahacmdhhfmhiaaDoorM0
import Derived.Test.YtahacmdhhfmhiaaDoorMA
namespace Go.Proofs.YtahacmdhhfmhiaaDoor.M
open Go.RowKit Go.Proofs.YtahacmdhhfmhiaaDoorW.PrintWords Go.Proofs.YtahacmdhhfmhiaaDoorW.PrintLast Go.Proofs.YtahacmdhhfmhiaaDoorW.PrintMore
attribute [local go_sem] max2_int min2_int max_two min_two max_three min_three max_four min_four   -- for this text's walks alone
set_option linter.unusedVariables false
set_option linter.unusedSimpArgs false
def table_rule.T7 : Bool × List (List Nat × List Nat) := (true, [([], []), ([0], [0]), ([], []), ([], []), ([2, 3], [2, 3]), ([4], [4]), ([5], [5]), ([], []), ([7], [7]), ([6, 8], [6, 8]), ([1, 9], [1, 9]), ([0, 1, 2, 3, 4, 5, 6, 7, 8, 9, 10], []), ([11, 10, 0, 1, 2, 3, 4, 5, 6, 7, 8, 9, 10], [10, 11])])
def table_rule.B7 : List Nat := [0, 1, 0, 0, 12, 28, 60, 0, 128, 508, 1023, 2047, 4095]
theorem table_rule.tab7 : rtab .any (opsOf Tryd.f35 7) = table_rule.T7 := by kernel_rfl
theorem table_rule.bits7 : waitsOk table_rule.T7.2 table_rule.B7 = true := by kernel_rfl
def table_rule.T9 : Bool × List (List Nat × List Nat) := (true, [([], []), ([0], [0]), ([1], [1]), ([2], [2]), ([3], [3]), ([], []), ([5], [5]), ([6], [6]), ([7], [7]), ([8], [8]), ([4, 0, 1, 2, 3, 4], [4]), ([9, 10, 0, 1, 2, 3, 4, 5, 6, 7, 8, 9, 10], [9])])
def table_rule.B9 : List Nat := [0, 1, 3, 7, 15, 0, 32, 96, 224, 480, 31, 2047]
theorem table_rule.tab9 : rtab .any (opsOf Tryd.f35 9) = table_rule.T9 := by kernel_rfl
theorem table_rule.bits9 : waitsOk table_rule.T9.2 table_rule.B9 = true := by kernel_rfl
end Go.Proofs.YtahacmdhhfmhiaaDoor.M
