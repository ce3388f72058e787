/- The law InterpolateThins of package spilelaw18 returns true for every input and leaves its arguments as they were; there is no condition. -/
import Derived.Test.YtlgihblojnoheaaLawInterpolateThins
import Derived.Test.YtlgihblojnoheaaMEv
import Derived.Test.YtlgihblojnoheaaMInt18
import Derived.Test.YtlgihblojnoheaaMThin18
import Derived.Test.YtlgihblojnoheaaPF16
import Derived.Test.YtlgihblojnoheaaPF17
import Derived.Test.YtlgihblojnoheaaPF18
import Derived.Test.YtlgihblojnoheaaPF7
import Derived.Test.YtlgihblojnoheaaPF8
namespace Go.Proofs.Ytlgihblojnoheaa.PF
open Go.RowKit Go.Proofs.YtlgihblojnoheaaW.PrintWords Go.Proofs.YtlgihblojnoheaaW.PrintLast Go.Proofs.YtlgihblojnoheaaW.PrintMore
set_option linter.unusedVariables false
set_option linter.unusedSimpArgs false
theorem InterpolateThins_pure : Go.Proofs.Ytlgihblojnoheaa.interpolateThins.Pure := by
  intro l x _ _
  obtain ⟨N1, h1⟩ := interpolate_Thin.ev l
  obtain ⟨N2, h2⟩ := spileref18_Thin.ev l
  obtain ⟨N3, h3⟩ := interpolate_Dense.ev l x
  obtain ⟨N4, h4⟩ := spileref18_Dense.ev l x
  obtain ⟨N5, h5⟩ := spileref16_Same.same _ (thS_length l)
  obtain ⟨N6, h6⟩ := spileref16_Same.same _ (dnS_length l x)
  obtain ⟨k, hk⟩ : ∃ k, k = N1 + N2 + N3 + N4 + N5 + N6 := ⟨_, rfl⟩
  have q1 : interpolate_Thin.f k l = some (thS l) := h1 k (by omega)
  have q2 : spileref18_Thin.f k l = some (thS l) := h2 k (by omega)
  have q3 : interpolate_Dense.f k l x = some (dnS l x) := h3 k (by omega)
  have q4 : spileref18_Dense.f k l x = some (dnS l x) := h4 k (by omega)
  have q5 : spileref16_Same.f k (thS l).1 (thS l).1 = some true := h5 k (by omega)
  have q6 : spileref16_Same.f k (dnS l x).1 (dnS l x).1 = some true := h6 k (by omega)
  refine ⟨k, ?_⟩
  unfold spilelaw18_InterpolateThins.f
  rw [show spilelaw18_awake.f = some true from rfl, Option.bind_some, if_pos rfl]
  obtain ⟨b, hb⟩ := few18_some l
  rw [hb, Option.bind_some]
  cases b
  · rfl
  rw [if_pos rfl, q1, Option.bind_some, q2, Option.bind_some, q3, Option.bind_some, q4, Option.bind_some, q5, Option.bind_some, if_pos rfl, if_pos rfl, q6, Option.bind_some, if_pos rfl]
  simp

end Go.Proofs.Ytlgihblojnoheaa.PF
namespace Go.Proofs.Ytlgihblojnoheaa
/-- The given statement. -/
theorem interpolateThins_holds : Rows.InterpolateThinsSaid := interpolateThins.over PF.InterpolateThins_pure
#print axioms interpolateThins_holds
end Go.Proofs.Ytlgihblojnoheaa
