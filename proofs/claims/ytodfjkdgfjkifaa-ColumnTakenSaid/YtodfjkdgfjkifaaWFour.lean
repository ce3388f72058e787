-- Words of the kit's print, less what the texts here do not name and the remarks (by wip/trimw.py).
import Derived.Test.YtodfjkdgfjkifaaWTab
namespace Go.Proofs.YtodfjkdgfjkifaaW.PrintLast
end Go.Proofs.YtodfjkdgfjkifaaW.PrintLast
