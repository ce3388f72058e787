-- Words of the kit's print, less what the texts here do not name and the remarks (by wip/trimw.py).
import Derived.Test.YtcapbigknimgnaaWWords
import Derived.Test.YtcapbigknimgnaaWLast
namespace Go.Proofs.YtcapbigknimgnaaW.PrintWords
open Go.RowKit
namespace Kd
end Kd
end Go.Proofs.YtcapbigknimgnaaW.PrintWords
