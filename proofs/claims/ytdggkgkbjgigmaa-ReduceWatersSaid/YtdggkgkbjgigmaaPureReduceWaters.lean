/- The law ReduceWaters of package spilelaw28 returns true for every input and leaves its arguments as they were; there is no condition. -/
import Derived.Test.YtdggkgkbjgigmaaLawReduceWaters
import Derived.Test.YtdggkgkbjgigmaaMLiq
import Derived.Test.YtdggkgkbjgigmaaMRed
import Derived.Test.YtdggkgkbjgigmaaMRedAwake
import Derived.Test.YtdggkgkbjgigmaaPF17
namespace Go.Proofs.Ytdggkgkbjgigmaa.PF
open Go.RowKit Go.Proofs.YtdggkgkbjgigmaaW.PrintWords Go.Proofs.YtdggkgkbjgigmaaW.PrintLast Go.Proofs.YtdggkgkbjgigmaaW.PrintMore
set_option linter.unusedVariables false
set_option linter.unusedSimpArgs false
theorem ReduceWaters_pure : Go.Proofs.Ytdggkgkbjgigmaa.reduceWaters.Pure := by
  intro l s t _ _ _
  obtain ⟨a, m⟩ := s
  unfold spilelaw28_ReduceWaters.f
  rw [awake28]
  simp only [Option.bind_some, if_true]
  obtain ⟨b, hb⟩ := few_some l
  rw [hb]
  cases b
  · rfl
  simp only [Option.bind_some, if_true]
  rw [reduce_Water.plain, spileref28_Water.plain, reduce_Range.plain, spileref28_Range.plain, reduce_Yield.plain, spileref28_Yield.plain]
  simp only [Option.bind_some, if_true, beq_self_eq_true, Bool.and_self]

end Go.Proofs.Ytdggkgkbjgigmaa.PF
namespace Go.Proofs.Ytdggkgkbjgigmaa
/-- The given statement. -/
theorem reduceWaters_holds : Rows.ReduceWatersSaid := reduceWaters.over PF.ReduceWaters_pure
#print axioms reduceWaters_holds
end Go.Proofs.Ytdggkgkbjgigmaa
