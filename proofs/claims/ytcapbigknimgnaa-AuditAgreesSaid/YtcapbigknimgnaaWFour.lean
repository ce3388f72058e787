-- Words of the kit's print, less what the texts here do not name and the remarks (by wip/trimw.py).
import Derived.Test.YtcapbigknimgnaaWTab
namespace Go.Proofs.YtcapbigknimgnaaW.PrintLast
end Go.Proofs.YtcapbigknimgnaaW.PrintLast
