/- The law BondFits of package spilelaw52 returns true for every input and leaves its arguments as they were; there is no condition. -/
import Derived.Test.YtdolabpkgienkaaLawBondFits
import Derived.Test.YtdolabpkgienkaaPF0
namespace Go.Proofs.Ytdolabpkgienkaa.PF
open Go.RowKit Go.Proofs.YtdolabpkgienkaaW.PrintWords Go.Proofs.YtdolabpkgienkaaW.PrintLast Go.Proofs.YtdolabpkgienkaaW.PrintMore
set_option linter.unusedVariables false
set_option linter.unusedSimpArgs false
theorem BondFits_pure : Go.Proofs.Ytdolabpkgienkaa.bondFits.Pure := by
  intro l h a day m _ _ _ _ _
  rfl

end Go.Proofs.Ytdolabpkgienkaa.PF
namespace Go.Proofs.Ytdolabpkgienkaa
/-- The given statement. -/
theorem bondFits_holds : Rows.BondFitsSaid := bondFits.over PF.BondFits_pure
#print axioms bondFits_holds
end Go.Proofs.Ytdolabpkgienkaa
