-- Words of the kit's print, less what the texts here do not name and the remarks (by wip/trimw.py).
import Derived.Test.YtdggkgkbjgigmaaWTab
namespace Go.Proofs.YtdggkgkbjgigmaaW.PrintLast
end Go.Proofs.YtdggkgkbjgigmaaW.PrintLast
