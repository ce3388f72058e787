/- The law BondCovers of package spilelaw52 returns true for every input and leaves its arguments as they were; there is no condition. -/
import Derived.Test.YtdolabpkgienkaaLawBondCovers
import Derived.Test.YtdolabpkgienkaaPF0
namespace Go.Proofs.Ytdolabpkgienkaa.PF
open Go.RowKit Go.Proofs.YtdolabpkgienkaaW.PrintWords Go.Proofs.YtdolabpkgienkaaW.PrintLast Go.Proofs.YtdolabpkgienkaaW.PrintMore
set_option linter.unusedVariables false
set_option linter.unusedSimpArgs false
theorem BondCovers_pure : Go.Proofs.Ytdolabpkgienkaa.bondCovers.Pure := by
  intro l h nd _ _ _
  rfl

end Go.Proofs.Ytdolabpkgienkaa.PF
namespace Go.Proofs.Ytdolabpkgienkaa
/-- The given statement. -/
theorem bondCovers_holds : Rows.BondCoversSaid := bondCovers.over PF.BondCovers_pure
#print axioms bondCovers_holds
end Go.Proofs.Ytdolabpkgienkaa
