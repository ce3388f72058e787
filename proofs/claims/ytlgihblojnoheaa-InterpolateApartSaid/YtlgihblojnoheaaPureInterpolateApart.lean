/- The law InterpolateApart of package spilelaw18 returns true for every input and leaves its arguments as they were; there is no condition. -/
import Derived.Test.YtlgihblojnoheaaLawInterpolateApart
import Derived.Test.YtlgihblojnoheaaMHandInterpolateApart
namespace Go.Proofs.Ytlgihblojnoheaa.PF
open Go.RowKit Go.Proofs.YtlgihblojnoheaaW.PrintWords Go.Proofs.YtlgihblojnoheaaW.PrintLast Go.Proofs.YtlgihblojnoheaaW.PrintMore
set_option linter.unusedVariables false
set_option linter.unusedSimpArgs false
theorem InterpolateApart_pure : Go.Proofs.Ytlgihblojnoheaa.interpolateApart.Pure := by
  intro l0 l1 a2 a3 _ _ _ h3
  unfold spilelaw18_InterpolateApart.f
  rw [if_pos]
  have h := h3
  simp only [Lit.wf, Bool.and_eq_true, decide_eq_true_eq] at h
  have e1 : IntKind.min .u16 = 0 := rfl
  have e2 : IntKind.max .u16 = 65535 := rfl
  rw [e1, e2] at h
  omega

end Go.Proofs.Ytlgihblojnoheaa.PF
namespace Go.Proofs.Ytlgihblojnoheaa
/-- The given statement. -/
theorem interpolateApart_holds : Rows.InterpolateApartSaid := interpolateApart.over PF.InterpolateApart_pure
#print axioms interpolateApart_holds
end Go.Proofs.Ytlgihblojnoheaa
