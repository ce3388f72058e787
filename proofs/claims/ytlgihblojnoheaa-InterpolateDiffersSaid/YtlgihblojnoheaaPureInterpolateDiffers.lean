/- The law InterpolateDiffers of package spilelaw18 returns true for every input and leaves its arguments as they were; there is no condition. -/
import Derived.Test.YtlgihblojnoheaaLawInterpolateDiffers
import Derived.Test.YtlgihblojnoheaaPF0
namespace Go.Proofs.Ytlgihblojnoheaa.PF
open Go.RowKit Go.Proofs.YtlgihblojnoheaaW.PrintWords Go.Proofs.YtlgihblojnoheaaW.PrintLast Go.Proofs.YtlgihblojnoheaaW.PrintMore
set_option linter.unusedVariables false
set_option linter.unusedSimpArgs false
theorem InterpolateDiffers_pure : Go.Proofs.Ytlgihblojnoheaa.interpolateDiffers.Pure := by
  intro l0 l1 a2 _ _ _
  rfl

end Go.Proofs.Ytlgihblojnoheaa.PF
namespace Go.Proofs.Ytlgihblojnoheaa
/-- The given statement. -/
theorem interpolateDiffers_holds : Rows.InterpolateDiffersSaid := interpolateDiffers.over PF.InterpolateDiffers_pure
#print axioms interpolateDiffers_holds
end Go.Proofs.Ytlgihblojnoheaa
