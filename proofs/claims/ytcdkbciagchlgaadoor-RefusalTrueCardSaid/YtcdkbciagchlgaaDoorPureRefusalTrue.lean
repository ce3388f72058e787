/- The law RefusalTrue of package spilelaw30 returns true for every input and leaves its arguments as they were; the library's table of powers of ten reads as the program's text lays it. -/
import Derived.Test.YtcdkbciagchlgaaDoorLawRefusalTrue
import Derived.Test.YtcdkbciagchlgaaDoorPF0
namespace Go.Proofs.YtcdkbciagchlgaaDoor.PF
open Go.RowKit Go.Proofs.YtcdkbciagchlgaaDoorW.PrintWords Go.Proofs.YtcdkbciagchlgaaDoorW.PrintLast Go.Proofs.YtcdkbciagchlgaaDoorW.PrintMore
set_option linter.unusedVariables false
set_option linter.unusedSimpArgs false
theorem RefusalTrue_pure : Go.Proofs.YtcdkbciagchlgaaDoor.refusalTrue.Pure := fun _ _ _ _ _ _ => rfl
end Go.Proofs.YtcdkbciagchlgaaDoor.PF
namespace Go.Proofs.YtcdkbciagchlgaaDoor
theorem refusalTrue_holds : Rows.RefusalTrueCardSaid := refusalTrue.card PF.RefusalTrue_pure
#print axioms refusalTrue_holds
end Go.Proofs.YtcdkbciagchlgaaDoor
