/- The law ReducePlans of package spilelaw28 returns true for every input and leaves its arguments as they were; there is no condition. -/
import Derived.Test.YtdggkgkbjgigmaaLawReducePlans
import Derived.Test.YtdggkgkbjgigmaaMLiq
import Derived.Test.YtdggkgkbjgigmaaMPlan
import Derived.Test.YtdggkgkbjgigmaaMPlanR
import Derived.Test.YtdggkgkbjgigmaaMRedAwake
import Derived.Test.YtdggkgkbjgigmaaPF22
import Derived.Test.YtdggkgkbjgigmaaPF26
namespace Go.Proofs.Ytdggkgkbjgigmaa.PF
open Go.RowKit Go.Proofs.YtdggkgkbjgigmaaW.PrintWords Go.Proofs.YtdggkgkbjgigmaaW.PrintLast Go.Proofs.YtdggkgkbjgigmaaW.PrintMore
set_option linter.unusedVariables false
set_option linter.unusedSimpArgs false
theorem ReducePlans_pure : Go.Proofs.Ytdggkgkbjgigmaa.reducePlans.Pure := by
  intro l s ts ws _ _ _ _
  obtain ⟨a, m⟩ := s
  refine ⟨31, ?_⟩
  unfold spilelaw28_ReducePlans.f
  rw [awake28]
  simp only [Option.bind_some, if_true]
  obtain ⟨b, hb⟩ := few_some l
  rw [hb]
  cases b
  · simp only [Option.bind_some, Bool.false_eq_true, if_false, spilelaw28_ReducePlans.j0, if_true]
  simp only [Option.bind_some, if_true]
  by_cases h1 : (ts.length : Int) > 12
  · rw [if_pos h1]; simp only [spilelaw28_ReducePlans.j0, if_true]
  rw [if_neg h1]
  by_cases h2 : (ws.length : Int) > 12
  · rw [decide_eq_true h2]; simp only [spilelaw28_ReducePlans.j0, if_true]
  rw [decide_eq_false h2]
  simp only [spilelaw28_ReducePlans.j0, Bool.false_eq_true, if_false]
  unfold reduce_Plan.f
  rw [if_pos (by omega), spileref28_Plan.plain l a m ts 30 (by omega), reduce_Check.plain l a m ts ws (by omega) 30 (by omega), spileref28_Check.plain l a m ts ws 30 (by omega)]
  simp only [Option.bind_some]
  rw [equal_same _ planR_len 30 (by omega)]
  simp only [Option.bind_some, if_true, beq_self_eq_true]

end Go.Proofs.Ytdggkgkbjgigmaa.PF
namespace Go.Proofs.Ytdggkgkbjgigmaa
/-- The given statement. -/
theorem reducePlans_holds : Rows.ReducePlansSaid := reducePlans.over PF.ReducePlans_pure
#print axioms reducePlans_holds
end Go.Proofs.Ytdggkgkbjgigmaa
