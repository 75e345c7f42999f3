/- Words that print.sh lays for this seat, those alone that the texts of this claim name: cut by a program of this session, their authors are the authors of the kit. No condition. -/
import Derived.Test.YtahacmdhhfmhiaaDoorVTab
namespace Go.Proofs.YtahacmdhhfmhiaaDoorW.PrintLast
def up (b : Nat → Bool) (i : Nat) : Nat → Bool := fun j => if j = i then true else b j
end Go.Proofs.YtahacmdhhfmhiaaDoorW.PrintLast
