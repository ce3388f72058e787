-- Words of the kit's print, less what the texts here do not name and the remarks (by wip/trimw.py).
import Derived.Test.YtcdkbciagchlgaaDoorWTab
namespace Go.Proofs.YtcdkbciagchlgaaDoorW.PrintLast
def up (b : Nat → Bool) (i : Nat) : Nat → Bool := fun j => if j = i then true else b j
end Go.Proofs.YtcdkbciagchlgaaDoorW.PrintLast
