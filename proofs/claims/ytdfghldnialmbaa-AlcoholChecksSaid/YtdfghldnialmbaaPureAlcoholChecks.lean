/- The law AlcoholChecks of package spilelaw20 returns true for every input and leaves its arguments as they were; there is no condition. -/
import Derived.Test.YtdfghldnialmbaaLawAlcoholChecks
import Derived.Test.YtdfghldnialmbaaMAlc
import Derived.Test.YtdfghldnialmbaaMAlcAwake
import Derived.Test.YtdfghldnialmbaaPF10
import Derived.Test.YtdfghldnialmbaaPF5
import Derived.Test.YtdfghldnialmbaaPF9
namespace Go.Proofs.Ytdfghldnialmbaa.PF
open Go.RowKit Go.Proofs.YtdfghldnialmbaaW.PrintWords Go.Proofs.YtdfghldnialmbaaW.PrintLast Go.Proofs.YtdfghldnialmbaaW.PrintMore
set_option linter.unusedVariables false
set_option linter.unusedSimpArgs false
theorem AlcoholChecks_pure : Go.Proofs.Ytdfghldnialmbaa.alcoholChecks.Pure := by
  intro l s v x _ _ _ _
  unfold spilelaw20_AlcoholChecks.f
  rw [awake20]
  simp only [Option.bind_some, if_true]
  obtain ⟨b, hb⟩ := few_some l
  rw [hb]
  cases b
  · rfl
  · simp only [Option.bind_some, if_true]
    rw [alcohol_Of.plain, spileref20_Of.plain]
    simp only [Option.bind_some, alcohol_Check_s.f, spileref20_Check_s.f, if_true, beq_self_eq_true, Bool.and_self]

end Go.Proofs.Ytdfghldnialmbaa.PF
namespace Go.Proofs.Ytdfghldnialmbaa
/-- The given statement. -/
theorem alcoholChecks_holds : Rows.AlcoholChecksSaid := alcoholChecks.over PF.AlcoholChecks_pure
#print axioms alcoholChecks_holds
end Go.Proofs.Ytdfghldnialmbaa
