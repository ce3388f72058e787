/- The law InterpolateUndoes of package spilelaw18 returns true for every input and leaves its arguments as they were; there is no condition. -/
import Derived.Test.YtlgihblojnoheaaLawInterpolateUndoes
import Derived.Test.YtlgihblojnoheaaPF0
namespace Go.Proofs.Ytlgihblojnoheaa.PF
open Go.RowKit Go.Proofs.YtlgihblojnoheaaW.PrintWords Go.Proofs.YtlgihblojnoheaaW.PrintLast Go.Proofs.YtlgihblojnoheaaW.PrintMore
set_option linter.unusedVariables false
set_option linter.unusedSimpArgs false
theorem InterpolateUndoes_pure : Go.Proofs.Ytlgihblojnoheaa.interpolateUndoes.Pure := fun l n s _ _ _ => rfl

end Go.Proofs.Ytlgihblojnoheaa.PF
namespace Go.Proofs.Ytlgihblojnoheaa
/-- The given statement. -/
theorem interpolateUndoes_holds : Rows.InterpolateUndoesSaid := interpolateUndoes.over PF.InterpolateUndoes_pure
#print axioms interpolateUndoes_holds
end Go.Proofs.Ytlgihblojnoheaa
