/- The law ReduceVolumes of package spilelaw28 returns true for every input and leaves its arguments as they were; there is no condition. -/
import Derived.Test.YtdggkgkbjgigmaaLawReduceVolumes
import Derived.Test.YtdggkgkbjgigmaaMLiq
import Derived.Test.YtdggkgkbjgigmaaMRed
import Derived.Test.YtdggkgkbjgigmaaMRedAwake
import Derived.Test.YtdggkgkbjgigmaaPF1
import Derived.Test.YtdggkgkbjgigmaaPF19
import Derived.Test.YtdggkgkbjgigmaaPF6
namespace Go.Proofs.Ytdggkgkbjgigmaa.PF
open Go.RowKit Go.Proofs.YtdggkgkbjgigmaaW.PrintWords Go.Proofs.YtdggkgkbjgigmaaW.PrintLast Go.Proofs.YtdggkgkbjgigmaaW.PrintMore
set_option linter.unusedVariables false
set_option linter.unusedSimpArgs false
theorem ReduceVolumes_pure : Go.Proofs.Ytdggkgkbjgigmaa.reduceVolumes.Pure := by
  intro l s t _ _ _
  obtain ⟨a, m⟩ := s
  unfold spilelaw28_ReduceVolumes.f
  rw [awake28]
  simp only [Option.bind_some, if_true]
  obtain ⟨b, hb⟩ := few_some l
  rw [hb]
  cases b
  · rfl
  simp only [Option.bind_some, if_true]
  rw [reduce_Yield.plain, reduce_Water.plain]
  simp only [Option.bind_some]
  unfold yldS
  by_cases hw : (watS l a m t).2 = 0
  · obtain ⟨h, h0, h1, h2, h3, h4, h5⟩ := watS_ok hw
    have m0 := h.m0
    rw [if_pos hw, if_pos rfl, h3, Vol.yes h]
    simp only [Option.bind_some]
    rw [w64_ (x := m + leastS l a m t) (by omega) (by omega), Vol.yes h5]
    simp only [Option.bind_some, if_true, hw]
    have v0 := h.vol
    have v1 := h5.vol
    rw [w64_ (by omega) (by omega), if_pos rfl]
    split
    · rfl
    · rename_i hg
      have e : leastS l a m t = 0 := by omega
      rw [e, Int.add_zero, Int.sub_self]
      rfl
  · rw [if_neg hw]
    simp only [if_true]
    rw [if_neg hw]
    rfl

end Go.Proofs.Ytdggkgkbjgigmaa.PF
namespace Go.Proofs.Ytdggkgkbjgigmaa
/-- The given statement. -/
theorem reduceVolumes_holds : Rows.ReduceVolumesSaid := reduceVolumes.over PF.ReduceVolumes_pure
#print axioms reduceVolumes_holds
end Go.Proofs.Ytdggkgkbjgigmaa
