-- Words of the kit's print, less what the texts here do not name and the remarks (by wip/trimw.py).
import Derived.Test.YtlgihblojnoheaaWTab
namespace Go.Proofs.YtlgihblojnoheaaW.PrintLast
end Go.Proofs.YtlgihblojnoheaaW.PrintLast
