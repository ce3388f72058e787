-- Words of the kit's print, less what the texts here do not name and the remarks (by wip/trimw.py).
import Derived.Test.YtdolabpkgienkaaWInv
import Derived.Test.YtdolabpkgienkaaWFootNe
namespace Go.Proofs.YtdolabpkgienkaaW.PrintWords
open Go.RowKit
end Go.Proofs.YtdolabpkgienkaaW.PrintWords
namespace Go.Proofs.YtdolabpkgienkaaW.PrintLast
end Go.Proofs.YtdolabpkgienkaaW.PrintLast
