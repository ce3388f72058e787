-- Words of the kit's print, less what the texts here do not name and the remarks (by wip/trimw.py).
import Derived.Test.YtcdkbciagchlgaaDoorWInv
import Derived.Test.YtcdkbciagchlgaaDoorWFootNe
namespace Go.Proofs.YtcdkbciagchlgaaDoorW.PrintWords
open Go.RowKit
end Go.Proofs.YtcdkbciagchlgaaDoorW.PrintWords
namespace Go.Proofs.YtcdkbciagchlgaaDoorW.PrintLast
end Go.Proofs.YtcdkbciagchlgaaDoorW.PrintLast
