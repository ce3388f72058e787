/- The law BondChooses of package spilelaw52 returns true for every input and leaves its arguments as they were; there is no condition. -/
import Derived.Test.YtdolabpkgienkaaLawBondChooses
import Derived.Test.YtdolabpkgienkaaMBnd52
import Derived.Test.YtdolabpkgienkaaMBnd52b
import Derived.Test.YtdolabpkgienkaaMBnd52c
import Derived.Test.YtdolabpkgienkaaMEv
import Derived.Test.YtdolabpkgienkaaPF0
import Derived.Test.YtdolabpkgienkaaPF10
import Derived.Test.YtdolabpkgienkaaPF20
namespace Go.Proofs.Ytdolabpkgienkaa.PF
open Go.RowKit Go.Proofs.YtdolabpkgienkaaW.PrintWords Go.Proofs.YtdolabpkgienkaaW.PrintLast Go.Proofs.YtdolabpkgienkaaW.PrintMore
set_option linter.unusedVariables false
set_option linter.unusedSimpArgs false
theorem shtR_len (l : List S31) (h : List S35) (hl : l.length ≤ 1000) : (shtR l h).1.length ≤ 1000 := by
  unfold shtR
  have := shtL_length l h
  split
  · simp
  split
  · simp
  split
  · simp
  split
  · simp
  · simp only; omega
theorem BondChooses_pure : Go.Proofs.Ytdolabpkgienkaa.bondChooses.Pure := by
  intro l h a day nd _ _ _ _ _
  refine Ev.ex ?_
  unfold spilelaw52_BondChooses.f spilelaw52_awake.f
  simp only [Option.bind_some, if_true, few52]
  have hend : ∀ b : Bool, b = true → Ev (fun k => spilelaw52_BondChooses.j0 k l h a day nd b) true := fun b hb => by
    subst hb
    exact Ev.ret fun k => rfl
  have hgo : l.length ≤ 1000 → h.length ≤ 1000 → nd.length ≤ 1000 → ∀ b : Bool, b = false → Ev (fun k => spilelaw52_BondChooses.j0 k l h a day nd b) true := by
    intro hl hh hn b hb
    subst hb
    refine Ev.step (fun k => by simp only [spilelaw52_BondChooses.j0, Bool.false_eq_true, if_false, clB hl, clH hh, clH hn, bond_Short.f, Option.bind_some]; rfl) ?_
    refine Ev.bind (pChoose_ev l h a day) ?_
    refine Ev.bind (rChoose_ev hl h a day) ?_
    refine Ev.bind (rShort_ev l nd) ?_
    refine Ev.same (fun k => by rw [if_pos rfl, if_pos rfl]) ?_
    refine Ev.bind (eqH (shtR_len l nd hl)) ?_
    exact Ev.now fun k => by rw [if_pos rfl]; simp
  by_cases hf : (((l.length : Int) ≤ 8 ∨ (l.length : Int) = 17) ∧ (h.length : Int) ≤ 17)
  case neg =>
    simp only [decide_eq_false hf, Bool.false_eq_true, if_false]
    exact hend true rfl
  simp only [decide_eq_true hf, if_true]
  have hl : l.length ≤ 1000 := by omega
  have hh : h.length ≤ 1000 := by omega
  by_cases c : (nd.length : Int) > 12
  · refine Ev.same (fun k => if_pos c) ?_
    by_cases d : (nd.length : Int) = 65
    · exact hgo hl hh (by omega) _ (by simpa using d)
    · exact hend _ (by simpa using d)
  · refine Ev.same (fun k => if_neg c) ?_
    exact hgo hl hh (by omega) _ rfl

end Go.Proofs.Ytdolabpkgienkaa.PF
namespace Go.Proofs.Ytdolabpkgienkaa
/-- The given statement. -/
theorem bondChooses_holds : Rows.BondChoosesSaid := bondChooses.over PF.BondChooses_pure
#print axioms bondChooses_holds
end Go.Proofs.Ytdolabpkgienkaa
