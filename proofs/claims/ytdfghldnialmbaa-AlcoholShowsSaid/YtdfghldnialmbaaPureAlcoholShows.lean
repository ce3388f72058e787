/- The law AlcoholShows of package spilelaw20 returns true for every input and leaves its arguments as they were; there is no condition. -/
import Derived.Test.YtdfghldnialmbaaLawAlcoholShows
import Derived.Test.YtdfghldnialmbaaMAlc
import Derived.Test.YtdfghldnialmbaaMAlcAwake
import Derived.Test.YtdfghldnialmbaaPF0
import Derived.Test.YtdfghldnialmbaaPF13
import Derived.Test.YtdfghldnialmbaaPF15
import Derived.Test.YtdfghldnialmbaaPF3
import Derived.Test.YtdfghldnialmbaaPF4
import Derived.Test.YtdfghldnialmbaaPF5
namespace Go.Proofs.Ytdfghldnialmbaa.PF
open Go.RowKit Go.Proofs.YtdfghldnialmbaaW.PrintWords Go.Proofs.YtdfghldnialmbaaW.PrintLast Go.Proofs.YtdfghldnialmbaaW.PrintMore
set_option linter.unusedVariables false
set_option linter.unusedSimpArgs false
theorem Mass.some_ {l : List S42} {a m : Int} (h : LiqOK l a m) {v : Int} (h0 : 0 ≤ v) (h1 : v ≤ 1073741824) (h2 : v ≤ volS l a m) : alcohol_Mass.f 1 l a m v = some (v * dens l (gradeS l a m), 0) := by
  have hd := h.dg
  obtain ⟨g0, g1, _⟩ := h.grade
  unfold alcohol_Mass.f
  rw [Vol.yes h]
  simp only [Option.bind_some, if_true, alcohol_Mass.j0]
  rw [if_neg (by omega), decide_eq_false (by omega), if_neg (by decide), if_neg (by omega), Str.yes h]
  simp only [Option.bind_some]
  rw [h.right.of_ g0 g1]
  simp only [Option.bind_some]
  rw [wmul h0 h1 (show 0 ≤ dens l (gradeS l a m) by omega) hd.2 (by decide)]
theorem AlcoholShows_pure : Go.Proofs.Ytdfghldnialmbaa.alcoholShows.Pure := by
  intro l v s _ _ _
  refine ⟨1, ?_⟩
  unfold spilelaw20_AlcoholShows.f
  rw [awake20]
  simp only [Option.bind_some, if_true]
  obtain ⟨b, hb⟩ := few_some l
  rw [hb]
  cases b
  · rfl
  simp only [Option.bind_some, if_true]
  rw [alcohol_Of.plain]
  simp only [Option.bind_some]
  by_cases hr : (dchk l).2 = 0
  case neg => unfold ofS; rw [if_neg hr]; rfl
  have h := (right_iff l).1 hr
  by_cases c1 : v < 0
  · unfold ofS; rw [if_pos hr, if_pos c1]; rfl
  by_cases c2 : v > 1073741824
  · unfold ofS; rw [if_pos hr, if_neg c1, if_pos c2]; rfl
  by_cases c3 : s < 0
  · unfold ofS; rw [if_pos hr, if_neg c1, if_neg c2, if_pos c3]; rfl
  by_cases c4 : s > 10000
  · unfold ofS; rw [if_pos hr, if_neg c1, if_neg c2, if_neg c3, if_pos c4]; rfl
  have e : ofS l v s = (v * s, v * dens l s, 0) := by unfold ofS; rw [if_pos hr, if_neg c1, if_neg c2, if_neg c3, if_neg c4]
  rw [e]
  have hd := h.dens_rng (s := s) (by omega) (by omega)
  have hD := h.dens_anti (s := s) (s' := 10000) (by omega) (by omega) (by omega)
  have hD2 := h.dens_rng (s := 10000) (by omega) (by omega)
  have m1 := mul_rng (show 0 ≤ v by omega) (show v ≤ 1073741824 by omega) (show 0 ≤ s by omega) (show s ≤ 10000 by omega)
  have m2 := mul_rng (show 0 ≤ v by omega) (show v ≤ 1073741824 by omega) (show 0 ≤ dens l s by omega) hd.2
  have hok : LiqOK l (v * s) (v * dens l s) := by
    refine ⟨h, m1.1, by omega, m2.1, by omega, ?_⟩
    rw [Int.mul_assoc, Int.mul_assoc]
    refine Int.mul_le_mul_of_nonneg_left ?_ (by omega)
    have x1 : s * dens l 10000 ≤ s * dens l s := Int.mul_le_mul_of_nonneg_left hD (by omega)
    have x2 : s * dens l s ≤ 10000 * dens l s := Int.mul_le_mul_of_nonneg_right (by omega) (by omega)
    omega
  simp only [if_true, alcohol_Check_s.f, Option.bind_some, (lchk_iff _ _ _).2 hok]
  rw [Str.yes hok, Vol.yes hok, Lost.yes hok]
  simp only [Option.bind_some, if_true]
  by_cases hv : v = 0
  · subst hv
    have eg : gradeS l (0 * s) (0 * dens l s) = 0 := by unfold gradeS; rw [if_pos (Int.zero_mul _)]
    have ev : volS l (0 * s) (0 * dens l s) = 0 := by unfold volS; rw [Int.zero_mul (dens l s)]; exact Int.zero_ediv _
    rw [Mass.some_ hok (by omega) (by omega) (by omega), eg, ev]
    simp only [Option.bind_some, if_true, Int.zero_mul, Int.sub_self]
    simp
  · have eg : gradeS l (v * s) (v * dens l s) = s := by
      have hpos : 0 < v * dens l s := Int.mul_pos (by omega) (by omega)
      refine hok.grade_eq (by omega) (by omega) (by omega) ?_ (fun hlt => ?_)
      · rw [Int.mul_assoc, Int.mul_assoc, Int.mul_comm (dens l s) s]
        exact Int.le_refl _
      · rw [Int.mul_assoc, Int.mul_assoc]
        refine Int.mul_lt_mul_of_pos_left ?_ (by omega)
        have hd2 := h.dens_anti (s := s) (s' := s + 1) (by omega) (by omega) (by omega)
        have x1 : s * dens l (s + 1) ≤ s * dens l s := Int.mul_le_mul_of_nonneg_left hd2 (by omega)
        have x2 : dens l s * (s + 1) = s * dens l s + dens l s := by rw [Int.mul_add, Int.mul_one, Int.mul_comm]
        omega
    have ev : volS l (v * s) (v * dens l s) = v := by unfold volS; rw [eg]; exact Int.mul_ediv_cancel _ (by omega)
    rw [Mass.some_ hok (by omega) (by omega) (by omega), eg, ev]
    simp

end Go.Proofs.Ytdfghldnialmbaa.PF
namespace Go.Proofs.Ytdfghldnialmbaa
/-- The given statement. -/
theorem alcoholShows_holds : Rows.AlcoholShowsSaid := alcoholShows.over PF.AlcoholShows_pure
#print axioms alcoholShows_holds
end Go.Proofs.Ytdfghldnialmbaa
