-- Words of the kit's print, less what the texts here do not name and the remarks (by wip/trimw.py).
import Derived.Test.YtlhdkajflmpnbaaDoorWInv
import Derived.Test.YtlhdkajflmpnbaaDoorWFootNe
namespace Go.Proofs.YtlhdkajflmpnbaaDoorW.PrintWords
open Go.RowKit
end Go.Proofs.YtlhdkajflmpnbaaDoorW.PrintWords
namespace Go.Proofs.YtlhdkajflmpnbaaDoorW.PrintLast
end Go.Proofs.YtlhdkajflmpnbaaDoorW.PrintLast
