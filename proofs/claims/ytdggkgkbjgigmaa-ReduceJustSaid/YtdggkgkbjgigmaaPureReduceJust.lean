/- The law ReduceJust of package spilelaw28 returns true for every input and leaves its arguments as they were; there is no condition. -/
import Derived.Test.YtdggkgkbjgigmaaLawReduceJust
import Derived.Test.YtdggkgkbjgigmaaMHandReduceJust
namespace Go.Proofs.Ytdggkgkbjgigmaa.PF
open Go.RowKit Go.Proofs.YtdggkgkbjgigmaaW.PrintWords Go.Proofs.YtdggkgkbjgigmaaW.PrintLast Go.Proofs.YtdggkgkbjgigmaaW.PrintMore
set_option linter.unusedVariables false
set_option linter.unusedSimpArgs false
theorem ReduceJust_pure : Go.Proofs.Ytdggkgkbjgigmaa.reduceJust.Pure := by
  intro l s t p _ _ _ hp
  unfold spilelaw28_ReduceJust.f
  rw [if_pos (YtdggkgkbjgigmaaR.wf_u32_ hp)]

end Go.Proofs.Ytdggkgkbjgigmaa.PF
namespace Go.Proofs.Ytdggkgkbjgigmaa
/-- The given statement. -/
theorem reduceJust_holds : Rows.ReduceJustSaid := reduceJust.over PF.ReduceJust_pure
#print axioms reduceJust_holds
end Go.Proofs.Ytdggkgkbjgigmaa
