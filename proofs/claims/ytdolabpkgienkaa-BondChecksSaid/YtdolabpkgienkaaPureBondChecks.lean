/- The law BondChecks of package spilelaw52 returns true for every input and leaves its arguments as they were; there is no condition. -/
import Derived.Test.YtdolabpkgienkaaLawBondChecks
import Derived.Test.YtdolabpkgienkaaMBnd52
import Derived.Test.YtdolabpkgienkaaMBnd52b
import Derived.Test.YtdolabpkgienkaaMEv
import Derived.Test.YtdolabpkgienkaaPF10
import Derived.Test.YtdolabpkgienkaaPF13
import Derived.Test.YtdolabpkgienkaaPF3
import Derived.Test.YtdolabpkgienkaaPF4
namespace Go.Proofs.Ytdolabpkgienkaa.PF
open Go.RowKit Go.Proofs.YtdolabpkgienkaaW.PrintWords Go.Proofs.YtdolabpkgienkaaW.PrintLast Go.Proofs.YtdolabpkgienkaaW.PrintMore
set_option linter.unusedVariables false
set_option linter.unusedSimpArgs false
theorem BondChecks_pure : Go.Proofs.Ytdolabpkgienkaa.bondChecks.Pure := by
  intro l h id _ _ _
  refine Ev.ex ?_
  unfold spilelaw52_BondChecks.f spilelaw52_awake.f
  simp only [Option.bind_some, if_true, few52]
  by_cases hf : (((l.length : Int) ≤ 8 ∨ (l.length : Int) = 17) ∧ (h.length : Int) ≤ 17)
  case neg =>
    refine Ev.ret fun k => ?_
    rw [decide_eq_false hf]
    rfl
  rw [decide_eq_true hf]
  have hl : l.length ≤ 1000 := by omega
  have hh : h.length ≤ 1000 := by omega
  refine Ev.step (fun k => by simp only [spilelaw52_BondChecks.j0, Bool.not_true, Bool.false_eq_true, if_false, clB hl, clH hh, bond_Check_s.f, bond_Holds.f, Option.bind_some]; rfl) ?_
  refine Ev.bind (rcheck l) ?_
  refine Ev.bind (rholds hl h) ?_
  refine Ev.bind (pFree_ev hl h id) ?_
  refine Ev.bind (rFree_ev hl h id) ?_
  refine Ev.now fun k => ?_
  rw [if_pos rfl, if_pos rfl, if_pos rfl, if_pos rfl, if_pos rfl]
  simp

end Go.Proofs.Ytdolabpkgienkaa.PF
namespace Go.Proofs.Ytdolabpkgienkaa
/-- The given statement. -/
theorem bondChecks_holds : Rows.BondChecksSaid := bondChecks.over PF.BondChecks_pure
#print axioms bondChecks_holds
end Go.Proofs.Ytdolabpkgienkaa
