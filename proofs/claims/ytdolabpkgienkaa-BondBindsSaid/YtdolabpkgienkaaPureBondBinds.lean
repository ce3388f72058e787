/- The law BondBinds of package spilelaw52 returns true for every input and leaves its arguments as they were; there is no condition. -/
import Derived.Test.YtdolabpkgienkaaLawBondBinds
import Derived.Test.YtdolabpkgienkaaMHandBondBinds
namespace Go.Proofs.Ytdolabpkgienkaa.PF
open Go.RowKit Go.Proofs.YtdolabpkgienkaaW.PrintWords Go.Proofs.YtdolabpkgienkaaW.PrintLast Go.Proofs.YtdolabpkgienkaaW.PrintMore
set_option linter.unusedVariables false
set_option linter.unusedSimpArgs false
theorem BondBinds_pure : Go.Proofs.Ytdolabpkgienkaa.bondBinds.Pure := by
  intro l h x day m a _ _ _ _ hm _
  unfold spilelaw52_BondBinds.f
  rw [if_pos (YtdolabpkgienkaaR.wf_i64_ hm)]

end Go.Proofs.Ytdolabpkgienkaa.PF
namespace Go.Proofs.Ytdolabpkgienkaa
/-- The given statement. -/
theorem bondBinds_holds : Rows.BondBindsSaid := bondBinds.over PF.BondBinds_pure
#print axioms bondBinds_holds
end Go.Proofs.Ytdolabpkgienkaa
