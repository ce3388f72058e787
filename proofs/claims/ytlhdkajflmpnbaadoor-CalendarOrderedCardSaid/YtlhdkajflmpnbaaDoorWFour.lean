-- Words of the kit's print, less what the texts here do not name and the remarks (by wip/trimw.py).
import Derived.Test.YtlhdkajflmpnbaaDoorWTab
namespace Go.Proofs.YtlhdkajflmpnbaaDoorW.PrintLast
end Go.Proofs.YtlhdkajflmpnbaaDoorW.PrintLast
