-- Words of the kit's print, less what the texts here do not name and the remarks (by wip/trimw.py).
import Derived.Test.YtodfjkdgfjkifaaWInv
import Derived.Test.YtodfjkdgfjkifaaWFootNe
namespace Go.Proofs.YtodfjkdgfjkifaaW.PrintWords
open Go.RowKit
end Go.Proofs.YtodfjkdgfjkifaaW.PrintWords
namespace Go.Proofs.YtodfjkdgfjkifaaW.PrintLast
end Go.Proofs.YtodfjkdgfjkifaaW.PrintLast
