-- Words of the kit's print, less what the texts here do not name and the remarks (by wip/trimw.py).
import Derived.Test.YtcapbigknimgnaaWInv
import Derived.Test.YtcapbigknimgnaaWFootNe
namespace Go.Proofs.YtcapbigknimgnaaW.PrintWords
open Go.RowKit
end Go.Proofs.YtcapbigknimgnaaW.PrintWords
namespace Go.Proofs.YtcapbigknimgnaaW.PrintLast
end Go.Proofs.YtcapbigknimgnaaW.PrintLast
