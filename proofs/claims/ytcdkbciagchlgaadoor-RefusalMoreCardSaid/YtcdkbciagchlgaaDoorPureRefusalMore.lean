/- The law RefusalMore of package spilelaw30 returns true for every input and leaves its arguments as they were; the library's table of powers of ten reads as the program's text lays it. -/
import Derived.Test.YtcdkbciagchlgaaDoorLawRefusalMore
import Derived.Test.YtcdkbciagchlgaaDoorMHandRefusalMore
namespace Go.Proofs.YtcdkbciagchlgaaDoor.PF
open Go.RowKit Go.Proofs.YtcdkbciagchlgaaDoorW.PrintWords Go.Proofs.YtcdkbciagchlgaaDoorW.PrintLast Go.Proofs.YtcdkbciagchlgaaDoorW.PrintMore
set_option linter.unusedVariables false
set_option linter.unusedSimpArgs false
theorem RefusalMore_pure : Go.Proofs.YtcdkbciagchlgaaDoor.refusalMore.Pure := by
  intro l o r a _ _ _ ha
  have ha1 : (decide (0 ≤ a) && decide (a ≤ 255)) = true := ha
  have ha2 : 0 ≤ a ∧ a ≤ 255 := by simpa using ha1
  show spilelaw30_RefusalMore.f l o.f0 o.f1 o.f2 o.f3 o.f4 o.f5 r.f0 r.f1 r.f2 r.f3 a = some true
  unfold spilelaw30_RefusalMore.f
  rw [if_pos ha2]

end Go.Proofs.YtcdkbciagchlgaaDoor.PF
namespace Go.Proofs.YtcdkbciagchlgaaDoor
/-- The given statement. -/
theorem refusalMore_holds : Rows.RefusalMoreCardSaid := refusalMore.card PF.RefusalMore_pure
#print axioms refusalMore_holds
end Go.Proofs.YtcdkbciagchlgaaDoor
