/- The chapter's example of package alcohol comes out as it is told. -/
import Derived.Test.YtdfghldnialmbaaMAlc
import Derived.Test.YtdfghldnialmbaaPF0
import Derived.Test.YtdfghldnialmbaaPF3
import Derived.Test.YtdfghldnialmbaaPF4
import Derived.Test.YtdfghldnialmbaaPF5
import Derived.Test.YtdfghldnialmbaaPF6
namespace Go.Proofs.Ytdfghldnialmbaa.PF
open Go.RowKit Go.Proofs.YtdfghldnialmbaaW.PrintWords Go.Proofs.YtdfghldnialmbaaW.PrintLast Go.Proofs.YtdfghldnialmbaaW.PrintMore
set_option linter.unusedVariables false
set_option linter.unusedSimpArgs false
def exT : List S42 := [(⟨0, 99820⟩ : S42), (⟨5000, 93016⟩ : S42), (⟨10000, 78924⟩ : S42)]
theorem exT_right : RightT exT := (right_iff exT).1 (by decide)
theorem exT_l1 : LiqOK exT 4000000 94377000 := (lchk_iff _ _ _).1 (by decide)
theorem exT_l2 : LiqOK exT 4000000 100000000 := (lchk_iff _ _ _).1 (by decide)
theorem exT_g1 : gradeS exT 4000000 94377000 = 4000 := exT_l1.grade_eq (by decide) (by decide) (by decide) (by decide) (by decide)
theorem exT_g2 : gradeS exT 4000000 100000000 = 3786 := exT_l2.grade_eq (by decide) (by decide) (by decide) (by decide) (by decide)
theorem exT_v1 : volS exT 4000000 94377000 = 1000 := by unfold volS; rw [exT_g1]; decide
theorem exT_v2 : volS exT 4000000 100000000 = 1056 := by unfold volS; rw [exT_g2]; decide
theorem awake20 : spilelaw20_awake.f = some true := by
  unfold spilelaw20_awake.f
  simp only [Option.bind_some]
  change (alcohol_Of.f exT 1000 4000).bind _ = _
  rw [alcohol_Of.plain, show ofS exT 1000 4000 = (4000000, 94377000, 0) from by decide]
  simp only [Option.bind_some]
  change (alcohol_Strength.f exT 4000000 94377000).bind _ = _
  rw [Str.yes exT_l1]
  simp only [Option.bind_some]
  change (alcohol_Volume.f exT 4000000 94377000).bind _ = _
  rw [Vol.yes exT_l1]
  simp only [Option.bind_some]
  change (alcohol_Strength.f exT 4000000 100000000).bind _ = _
  rw [Str.yes exT_l2]
  simp only [Option.bind_some]
  change (alcohol_Volume.f exT 4000000 100000000).bind _ = _
  rw [Vol.yes exT_l2, exT_g1, exT_g2, exT_v1, exT_v2]
  rfl

end Go.Proofs.Ytdfghldnialmbaa.PF
