-- Words of the kit's print, less what the texts here do not name and the remarks (by wip/trimw.py).
import Derived.Test.YtlgihblojnoheaaWInv
import Derived.Test.YtlgihblojnoheaaWFootNe
namespace Go.Proofs.YtlgihblojnoheaaW.PrintWords
open Go.RowKit
end Go.Proofs.YtlgihblojnoheaaW.PrintWords
namespace Go.Proofs.YtlgihblojnoheaaW.PrintLast
end Go.Proofs.YtlgihblojnoheaaW.PrintLast
