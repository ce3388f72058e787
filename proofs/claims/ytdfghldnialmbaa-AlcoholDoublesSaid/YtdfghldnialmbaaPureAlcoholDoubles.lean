/- The law AlcoholDoubles of package spilelaw20 returns true for every input and leaves its arguments as they were; there is no condition. -/
import Derived.Test.YtdfghldnialmbaaLawAlcoholDoubles
import Derived.Test.YtdfghldnialmbaaMAlc
import Derived.Test.YtdfghldnialmbaaMAlcAwake
import Derived.Test.YtdfghldnialmbaaPF0
import Derived.Test.YtdfghldnialmbaaPF11
import Derived.Test.YtdfghldnialmbaaPF3
import Derived.Test.YtdfghldnialmbaaPF5
namespace Go.Proofs.Ytdfghldnialmbaa.PF
open Go.RowKit Go.Proofs.YtdfghldnialmbaaW.PrintWords Go.Proofs.YtdfghldnialmbaaW.PrintLast Go.Proofs.YtdfghldnialmbaaW.PrintMore
set_option linter.unusedVariables false
set_option linter.unusedSimpArgs false
theorem LiqOK.twice {l : List S42} {a m : Int} (h : LiqOK l a m) (ha : a ≤ 5368709120000) (hm : m ≤ 64424509440000) : LiqOK l (2 * a) (2 * m) :=
  ⟨h.right, by have := h.a0; omega, by omega, by have := h.m0; omega, by omega, by have := h.fit; rw [Int.mul_assoc, Int.mul_assoc]; omega⟩
theorem LiqOK.twice_grade {l : List S42} {a m : Int} (h : LiqOK l a m) (h2 : LiqOK l (2 * a) (2 * m)) : gradeS l (2 * a) (2 * m) = gradeS l a m := by
  by_cases hm : m = 0
  · unfold gradeS; rw [if_pos hm, if_pos (by omega)]
  · obtain ⟨g0, g1, g2, g3⟩ := h.grade
    refine h2.grade_eq (by omega) g0 g1 ?_ (fun hlt => ?_)
    · have := g2 _ g0 (Int.le_refl _)
      rw [Int.mul_assoc, Int.mul_assoc]
      omega
    · have := g3 hm (gradeS l a m + 1) (by omega) (by omega)
      rw [Int.mul_assoc, Int.mul_assoc]
      omega
theorem two_div (m d : Int) (hd : 0 < d) : (2 * m) / d = 2 * (m / d) ∨ (2 * m) / d = 2 * (m / d) + 1 := by
  have h1 := Int.mul_ediv_add_emod m d
  have h2 := Int.emod_nonneg m (show d ≠ 0 by omega)
  have h3 := Int.emod_lt_of_pos m hd
  generalize m / d = q at h1 ⊢
  rcases Int.lt_or_le (2 * (m % d)) d with h4 | h4
  · left
    have e : 2 * m = 2 * (m % d) + d * (2 * q) := by rw [Int.mul_comm 2 q, ← Int.mul_assoc]; omega
    rw [e, Int.add_mul_ediv_left _ _ (by omega), Int.ediv_eq_zero_of_lt (by omega) h4]
    omega
  · right
    have e : 2 * m = (2 * (m % d) - d) + d * (2 * q + 1) := by rw [Int.mul_add, Int.mul_comm 2 q, ← Int.mul_assoc, Int.mul_one]; omega
    rw [e, Int.add_mul_ediv_left _ _ (by omega), Int.ediv_eq_zero_of_lt (by omega) (by omega)]
    omega
theorem AlcoholDoubles_pure : Go.Proofs.Ytdfghldnialmbaa.alcoholDoubles.Pure := by
  intro l s _ _
  obtain ⟨a, m⟩ := s
  refine ⟨2, ?_⟩
  unfold spilelaw20_AlcoholDoubles.f
  rw [awake20]
  simp only [Option.bind_some, if_true]
  obtain ⟨b, hb⟩ := few_some l
  rw [hb]
  cases b
  · simp [spilelaw20_AlcoholDoubles.j0]
  simp only [Option.bind_some, if_true]
  by_cases h1 : a > 5368709120000
  · rw [if_pos h1]; simp [spilelaw20_AlcoholDoubles.j0]
  rw [if_neg h1]
  by_cases h2 : m > 64424509440000
  · rw [decide_eq_true h2]; simp [spilelaw20_AlcoholDoubles.j0]
  rw [decide_eq_false h2]
  simp only [spilelaw20_AlcoholDoubles.j0, Bool.false_eq_true, if_false]
  by_cases h : LiqOK l a m
  · have a0 := h.a0
    have m0 := h.m0
    have h' := h.twice (by omega) (by omega)
    have hv := h.vol
    have hd := h.dg
    rw [Str.yes h, Vol.yes h]
    simp only [Option.bind_some, if_true, spilelaw20_AlcoholDoubles.j1, bne_self_eq_false, Bool.false_eq_true, if_false]
    rw [w64_ (show -9223372036854775808 ≤ 2 * a by omega) (by omega), w64_ (show -9223372036854775808 ≤ 2 * m by omega) (by omega), Str.yes h', Vol.yes h']
    simp only [Option.bind_some, if_true]
    rw [h.twice_grade h', if_pos rfl, w64_ (show -9223372036854775808 ≤ 2 * volS l a m by omega) (by omega), w64_ (show -9223372036854775808 ≤ 2 * volS l a m + 1 by omega) (by omega)]
    have e : volS l (2 * a) (2 * m) = (2 * m) / dens l (gradeS l a m) := by unfold volS; rw [h.twice_grade h']
    have e2 : volS l a m = m / dens l (gradeS l a m) := rfl
    rw [e, e2]
    rcases two_div m (dens l (gradeS l a m)) (by omega) with h3 | h3
    · rw [if_pos h3]
    · rw [if_neg (by omega), h3]; simp
  · rw [Str.no h, Vol.no h]
    simp [spilelaw20_AlcoholDoubles.j1]

end Go.Proofs.Ytdfghldnialmbaa.PF
namespace Go.Proofs.Ytdfghldnialmbaa
/-- The given statement. -/
theorem alcoholDoubles_holds : Rows.AlcoholDoublesSaid := alcoholDoubles.over PF.AlcoholDoubles_pure
#print axioms alcoholDoubles_holds
end Go.Proofs.Ytdfghldnialmbaa
