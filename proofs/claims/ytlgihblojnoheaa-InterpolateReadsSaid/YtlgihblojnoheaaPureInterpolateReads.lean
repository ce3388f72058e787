/- The law InterpolateReads of package spilelaw18 returns true for every input and leaves its arguments as they were; there is no condition. -/
import Derived.Test.YtlgihblojnoheaaLawInterpolateReads
import Derived.Test.YtlgihblojnoheaaMInt18
import Derived.Test.YtlgihblojnoheaaPF10
import Derived.Test.YtlgihblojnoheaaPF11
import Derived.Test.YtlgihblojnoheaaPF12
import Derived.Test.YtlgihblojnoheaaPF8
namespace Go.Proofs.Ytlgihblojnoheaa.PF
open Go.RowKit Go.Proofs.YtlgihblojnoheaaW.PrintWords Go.Proofs.YtlgihblojnoheaaW.PrintLast Go.Proofs.YtlgihblojnoheaaW.PrintMore
set_option linter.unusedVariables false
set_option linter.unusedSimpArgs false
theorem InterpolateReads_pure : Go.Proofs.Ytlgihblojnoheaa.interpolateReads.Pure := by
  intro l s n _ _ _
  obtain ⟨N1, h1⟩ := spileref18_Strength.ev l n
  obtain ⟨N2, h2⟩ := spileref18_Range.ev l n
  refine ⟨N1 + N2, ?_⟩
  have q1 : spileref18_Strength.f (N1 + N2) l n = some (strS l n) := h1 _ (by omega)
  have q2 : spileref18_Range.f (N1 + N2) l n = some (rng18 l n) := h2 _ (by omega)
  unfold spilelaw18_InterpolateReads.f
  rw [show spilelaw18_awake.f = some true from rfl, Option.bind_some, if_pos rfl]
  obtain ⟨b, hb⟩ := few18_some l
  rw [hb, Option.bind_some]
  cases b
  · rfl
  rw [if_pos rfl, interpolate_Density.plain, Option.bind_some, spileref18_Density.plain, Option.bind_some, interpolate_Strength.plain, Option.bind_some, q1, Option.bind_some, interpolate_Range.plain, Option.bind_some, q2, Option.bind_some,
    if_pos rfl, if_pos rfl, if_pos rfl, if_pos rfl, if_pos (by simp)]
  simp

end Go.Proofs.Ytlgihblojnoheaa.PF
namespace Go.Proofs.Ytlgihblojnoheaa
/-- The given statement. -/
theorem interpolateReads_holds : Rows.InterpolateReadsSaid := interpolateReads.over PF.InterpolateReads_pure
#print axioms interpolateReads_holds
end Go.Proofs.Ytlgihblojnoheaa
