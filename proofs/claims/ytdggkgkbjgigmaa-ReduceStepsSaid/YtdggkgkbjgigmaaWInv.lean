-- Words of the kit's print, less what the texts here do not name and the remarks (by wip/trimw.py).
import Derived.Test.YtdggkgkbjgigmaaWTab
namespace Go.Proofs.YtdggkgkbjgigmaaW.PrintLast
def up (b : Nat → Bool) (i : Nat) : Nat → Bool := fun j => if j = i then true else b j
end Go.Proofs.YtdggkgkbjgigmaaW.PrintLast
