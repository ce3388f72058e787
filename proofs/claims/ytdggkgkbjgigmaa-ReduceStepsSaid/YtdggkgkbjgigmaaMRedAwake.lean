/- The chapter's example of package reduce comes out as it is told. -/
import Derived.Test.YtdggkgkbjgigmaaMLiq
import Derived.Test.YtdggkgkbjgigmaaMRed
import Derived.Test.YtdggkgkbjgigmaaMRedB
import Derived.Test.YtdggkgkbjgigmaaPF0
import Derived.Test.YtdggkgkbjgigmaaPF10
import Derived.Test.YtdggkgkbjgigmaaPF4
import Derived.Test.YtdggkgkbjgigmaaPF5
import Derived.Test.YtdggkgkbjgigmaaPF6
namespace Go.Proofs.Ytdggkgkbjgigmaa.PF
open Go.RowKit Go.Proofs.YtdggkgkbjgigmaaW.PrintWords Go.Proofs.YtdggkgkbjgigmaaW.PrintLast Go.Proofs.YtdggkgkbjgigmaaW.PrintMore
set_option linter.unusedVariables false
set_option linter.unusedSimpArgs false
def exR : List S50 := [(⟨0, 100000⟩ : S50), (⟨10000, 80000⟩ : S50)]
theorem exR_right : RightT exR := (right_iff exR).1 (by decide)
theorem exR_l1 : LiqOK exR 60000 880000 := (lchk_iff _ _ _).1 (by decide)
theorem exR_l2 : LiqOK exR 60000 1379626 := (lchk_iff _ _ _).1 (by decide)
theorem exR_g1 : gradeS exR 60000 880000 = 6000 := exR_l1.grade_eq (by decide) (by decide) (by decide) (by decide) (by decide)
theorem exR_g2 : gradeS exR 60000 1379626 = 4000 := exR_l2.grade_eq (by decide) (by decide) (by decide) (by decide) (by decide)
theorem exR_v1 : volS exR 60000 880000 = 10 := by unfold volS; rw [exR_g1]; decide
theorem exR_v2 : volS exR 60000 1379626 = 14 := by unfold volS; rw [exR_g2]; decide
theorem exR_w1 : leastS exR 60000 880000 4000 = 499626 := by
  have h := exR_l1.leastS_iff (t := 4000) (by decide) (by decide)
  rw [show refL exR 60000 4000 = 1379626 by decide] at h
  rw [show mx (1379626 - 880000) 0 = 499626 by decide] at h
  omega
theorem exR_w2 : leastS exR 60000 880000 3999 = 500001 := by
  have h := exR_l1.leastS_iff (t := 3999) (by decide) (by decide)
  rw [show refL exR 60000 3999 = 1380001 by decide] at h
  rw [show mx (1380001 - 880000) 0 = 500001 by decide] at h
  omega
theorem exR_wat : watS exR 60000 880000 4000 = (499626, 0) := by
  unfold watS
  rw [exR_w1, if_neg (show ¬ lchk exR 60000 880000 ≠ 0 by decide)]
  decide
theorem exR_rng : rngS exR 60000 880000 4000 = (499626, 500000, 0) := by
  unfold rngS highS
  rw [exR_w1, if_neg (show ¬ lchk exR 60000 880000 ≠ 0 by decide), show (4000 : Int) - 1 = 3999 by decide, exR_w2]
  decide
theorem exR_yld : yldS exR 60000 880000 4000 = (14, 4, 0) := by
  unfold yldS
  rw [exR_wat]
  simp only [if_true]
  rw [show (880000 : Int) + 499626 = 1379626 by decide, exR_v1, exR_v2]
  rfl
theorem awake28 : spilelaw28_awake.f = some true := by
  unfold spilelaw28_awake.f
  rw [Option.bind_some, show [(⟨0, 100000⟩ : S50), (⟨10000, 80000⟩ : S50)] = exR from rfl]
  rw [reduce_Water.plain, exR_wat, Option.bind_some, reduce_Range.plain, exR_rng, Option.bind_some, reduce_Yield.plain, exR_yld, Option.bind_some]
  decide

end Go.Proofs.Ytdggkgkbjgigmaa.PF
