-- Words of the kit's print, less what the texts here do not name and the remarks (by wip/trimw.py).
import Derived.Test.YtcdkbciagchlgaaDoorWN
namespace Go.Proofs.YtcdkbciagchlgaaDoorW.PrintWords
open Go.RowKit
namespace Kd
end Kd
end Go.Proofs.YtcdkbciagchlgaaDoorW.PrintWords
