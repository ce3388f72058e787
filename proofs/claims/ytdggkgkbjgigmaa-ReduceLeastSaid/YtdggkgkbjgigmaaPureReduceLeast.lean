/- The law ReduceLeast of package spilelaw28 returns true for every input and leaves its arguments as they were; there is no condition. -/
import Derived.Test.YtdggkgkbjgigmaaLawReduceLeast
import Derived.Test.YtdggkgkbjgigmaaMLiq
import Derived.Test.YtdggkgkbjgigmaaMRed
import Derived.Test.YtdggkgkbjgigmaaMRedAwake
import Derived.Test.YtdggkgkbjgigmaaPF1
import Derived.Test.YtdggkgkbjgigmaaPF18
import Derived.Test.YtdggkgkbjgigmaaPF6
namespace Go.Proofs.Ytdggkgkbjgigmaa.PF
open Go.RowKit Go.Proofs.YtdggkgkbjgigmaaW.PrintWords Go.Proofs.YtdggkgkbjgigmaaW.PrintLast Go.Proofs.YtdggkgkbjgigmaaW.PrintMore
set_option linter.unusedVariables false
set_option linter.unusedSimpArgs false
theorem ReduceLeast_pure : Go.Proofs.Ytdggkgkbjgigmaa.reduceLeast.Pure := by
  intro l s t less _ _ _ hl
  obtain ⟨a, m⟩ := s
  have hless := YtdggkgkbjgigmaaR.wf_u32_ hl
  refine ⟨1, ?_⟩
  unfold spilelaw28_ReduceLeast.f
  rw [awake28]
  simp only [Option.bind_some, if_true]
  obtain ⟨b, hb⟩ := few_some l
  rw [hb]
  cases b
  · rfl
  simp only [Option.bind_some, if_true]
  rw [reduce_Water.plain]
  simp only [Option.bind_some]
  by_cases hw : (watS l a m t).2 = 0
  · obtain ⟨h, h0, h1, h2, h3, h4, h5⟩ := watS_ok hw
    obtain ⟨b0, b1, b2, b3⟩ := h.least t
    have m0 := h.m0
    have m1 := h.m1
    rw [if_pos hw, h3, w64_ (x := m + leastS l a m t) (by omega) (by omega), Str.yes h5]
    simp only [Option.bind_some, if_true]
    have e1 := b3 _ (Int.le_refl _) h2
    rw [if_neg (by omega), decide_eq_false (by omega)]
    simp only [spilelaw28_ReduceLeast.j0, Bool.false_eq_true, if_false]
    by_cases hz : leastS l a m t = 0
    · rw [if_pos hz]
    rw [if_neg hz, w64_ (x := less) (by omega) (by omega), Int.tmod_eq_emod_of_nonneg hless.1]
    have r0 := Int.emod_nonneg less hz
    have r1 := Int.emod_lt_of_pos less (show 0 < leastS l a m t by omega)
    rw [w64_ (by omega) (by omega), Str.yes (h.wet (m' := m + less % leastS l a m t) (by omega) (by omega))]
    simp only [Option.bind_some, if_true]
    rw [decide_eq_true (b2 _ r0 r1)]
  · rw [if_neg hw, watS_no hw]
    rfl

end Go.Proofs.Ytdggkgkbjgigmaa.PF
namespace Go.Proofs.Ytdggkgkbjgigmaa
/-- The given statement. -/
theorem reduceLeast_holds : Rows.ReduceLeastSaid := reduceLeast.over PF.ReduceLeast_pure
#print axioms reduceLeast_holds
end Go.Proofs.Ytdggkgkbjgigmaa
