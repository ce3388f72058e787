-- Words of the kit's print, less what the texts here do not name and the remarks (by wip/trimw.py).
import Derived.Test.YtcdkbciagchlgaaDoorWTab
namespace Go.Proofs.YtcdkbciagchlgaaDoorW.PrintLast
end Go.Proofs.YtcdkbciagchlgaaDoorW.PrintLast
