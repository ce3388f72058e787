-- Words of the kit's print, less what the texts here do not name and the remarks (by wip/trimw.py).
import Derived.Test.YtdggkgkbjgigmaaWInv
import Derived.Test.YtdggkgkbjgigmaaWFootNe
namespace Go.Proofs.YtdggkgkbjgigmaaW.PrintWords
open Go.RowKit
end Go.Proofs.YtdggkgkbjgigmaaW.PrintWords
namespace Go.Proofs.YtdggkgkbjgigmaaW.PrintLast
end Go.Proofs.YtdggkgkbjgigmaaW.PrintLast
