/- The law AlcoholBounds of package spilelaw20 returns true for every input and leaves its arguments as they were; there is no condition. -/
import Derived.Test.YtdfghldnialmbaaLawAlcoholBounds
import Derived.Test.YtdfghldnialmbaaMAlc
import Derived.Test.YtdfghldnialmbaaMAlcAwake
import Derived.Test.YtdfghldnialmbaaPF12
import Derived.Test.YtdfghldnialmbaaPF3
import Derived.Test.YtdfghldnialmbaaPF5
namespace Go.Proofs.Ytdfghldnialmbaa.PF
open Go.RowKit Go.Proofs.YtdfghldnialmbaaW.PrintWords Go.Proofs.YtdfghldnialmbaaW.PrintLast Go.Proofs.YtdfghldnialmbaaW.PrintMore
set_option linter.unusedVariables false
set_option linter.unusedSimpArgs false
theorem AlcoholBounds_pure : Go.Proofs.Ytdfghldnialmbaa.alcoholBounds.Pure := by
  intro l s _ _
  obtain ⟨a, m⟩ := s
  refine ⟨2, ?_⟩
  unfold spilelaw20_AlcoholBounds.f
  rw [awake20]
  simp only [Option.bind_some, if_true]
  obtain ⟨b, hb⟩ := few_some l
  rw [hb]
  cases b
  · rfl
  simp only [Option.bind_some, if_true]
  by_cases h : LiqOK l a m
  · have hv := h.vol
    have hd := h.dg
    have hs := h.shown
    have a0 := h.a0
    have a1 := h.a1
    have m0 := h.m0
    have m1 := h.m1
    obtain ⟨g0, g1, g2, g3⟩ := h.grade
    rw [Str.yes h, Vol.yes h, Lost.yes h]
    simp only [Option.bind_some, if_true]
    rw [Dens.yes h.right g0 g1]
    simp only [Option.bind_some, if_true]
    rw [if_neg (by omega), decide_eq_false (by omega)]
    simp only [spilelaw20_AlcoholBounds.j0, Bool.false_eq_true, if_false]
    by_cases hm : m = 0
    · have ha : a = 0 := by
        have h1 := h.fit
        have h2 := (h.right.dens_rng (show (0 : Int) ≤ 10000 by decide) (by decide)).1
        rw [hm, Int.zero_mul] at h1
        rcases Int.lt_or_eq_of_le a0 with h4 | h4
        · have := Int.mul_pos h4 (show 0 < dens l 10000 by omega); omega
        · exact h4.symm
      have eg : gradeS l a m = 0 := by unfold gradeS; rw [if_pos hm]
      have ev : volS l a m = 0 := by unfold volS; rw [hm]; exact Int.zero_ediv _
      rw [if_pos hm, eg, ev, ha]
      rfl
    · have e1 := g2 _ g0 (Int.le_refl _)
      rw [if_neg hm]
      have w1 : wrap64 (a * dens l (gradeS l a m)) = a * dens l (gradeS l a m) := wmul a0 a1 (by omega) hd.2 (by decide)
      have w2 : wrap64 (m * gradeS l a m) = m * gradeS l a m := wmul m0 m1 g0 g1 (by decide)
      have w3 : wrap64 (volS l a m * dens l (gradeS l a m)) = volS l a m * dens l (gradeS l a m) := wmul hv.1 hv.2.2.2 (by omega) hd.2 (by decide)
      have w4 : wrap64 (volS l a m + 1) = volS l a m + 1 := w64_ (by omega) (by omega)
      have w5 : wrap64 ((volS l a m + 1) * dens l (gradeS l a m)) = (volS l a m + 1) * dens l (gradeS l a m) := wmul (by omega) (show volS l a m + 1 ≤ 2576980379 by omega) (by omega) hd.2 (by decide)
      have w6 : wrap64 (volS l a m * gradeS l a m) = volS l a m * gradeS l a m := w64_ (by omega) (by omega)
      have w7 : wrap64 (a - volS l a m * gradeS l a m) = a - volS l a m * gradeS l a m := w64_ (by omega) (by omega)
      rw [w1, w2, w3, w4, w5, w6, w7, if_neg (by omega), if_neg (by omega), if_neg (by omega), if_neg (by omega)]
      simp only [bne_self_eq_false, spilelaw20_AlcoholBounds.j1, Bool.false_eq_true, if_false]
      split
      · rfl
      · have w8 : wrap64 (gradeS l a m + 1) = gradeS l a m + 1 := w64_ (by omega) (by omega)
        have hd2 := h.right.dens_rng (s := gradeS l a m + 1) (by omega) (by omega)
        have e2 := g3 hm (gradeS l a m + 1) (by omega) (by omega)
        rw [w8, Dens.yes h.right (by omega) (by omega)]
        simp only [Option.bind_some, if_true]
        rw [wmul a0 a1 (show 0 ≤ dens l (gradeS l a m + 1) by omega) hd2.2 (by decide), wmul m0 m1 (show 0 ≤ gradeS l a m + 1 by omega) (show gradeS l a m + 1 ≤ 10000 by omega) (by decide), decide_eq_true e2]
  · rw [Str.no h, Vol.no h, Lost.no h]
    rfl

end Go.Proofs.Ytdfghldnialmbaa.PF
namespace Go.Proofs.Ytdfghldnialmbaa
/-- The given statement. -/
theorem alcoholBounds_holds : Rows.AlcoholBoundsSaid := alcoholBounds.over PF.AlcoholBounds_pure
#print axioms alcoholBounds_holds
end Go.Proofs.Ytdfghldnialmbaa
