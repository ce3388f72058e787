-- Words of the kit's print, less what the texts here do not name and the remarks (by wip/trimw.py).
import Derived.Test.YtdolabpkgienkaaWTab
namespace Go.Proofs.YtdolabpkgienkaaW.PrintLast
end Go.Proofs.YtdolabpkgienkaaW.PrintLast
