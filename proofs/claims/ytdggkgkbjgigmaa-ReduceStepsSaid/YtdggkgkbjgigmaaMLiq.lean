/- What the functions of package alcohol return, in plain numbers. -/
import Derived.Test.YtdggkgkbjgigmaaPF0
import Derived.Test.YtdggkgkbjgigmaaPF1
import Derived.Test.YtdggkgkbjgigmaaPF11
import Derived.Test.YtdggkgkbjgigmaaPF4
import Derived.Test.YtdggkgkbjgigmaaPF5
import Derived.Test.YtdggkgkbjgigmaaPF6
import Derived.Test.YtdggkgkbjgigmaaPF9
namespace Go.Proofs.Ytdggkgkbjgigmaa.PF
open Go.RowKit Go.Proofs.YtdggkgkbjgigmaaW.PrintWords Go.Proofs.YtdggkgkbjgigmaaW.PrintLast Go.Proofs.YtdggkgkbjgigmaaW.PrintMore
set_option linter.unusedVariables false
set_option linter.unusedSimpArgs false
theorem few_some (l : List S50) : ∃ b, spileref16_Few.f l = some b := by
  unfold spileref16_Few.f
  split
  · exact ⟨_, rfl⟩
  · split <;> exact ⟨_, rfl⟩
def volS (l : List S50) (a m : Int) : Int := m / dens l (gradeS l a m)
theorem LiqOK.dg {l : List S50} {a m : Int} (h : LiqOK l a m) : 50000 ≤ dens l (gradeS l a m) ∧ dens l (gradeS l a m) ≤ 120000 := by
  obtain ⟨g0, g1, _⟩ := h.grade
  exact h.right.dens_rng g0 g1
theorem LiqOK.vol {l : List S50} {a m : Int} (h : LiqOK l a m) : 0 ≤ volS l a m ∧ volS l a m * dens l (gradeS l a m) ≤ m ∧ m < (volS l a m + 1) * dens l (gradeS l a m) ∧ volS l a m ≤ 2576980378 := by
  have hd := h.dg
  have hm := h.m0
  have hm1 := h.m1
  unfold volS
  generalize dens l (gradeS l a m) = d at hd ⊢
  have h1 := Int.mul_ediv_add_emod m d
  have h2 := Int.emod_nonneg m (show d ≠ 0 by omega)
  have h3 := Int.emod_lt_of_pos m (show 0 < d by omega)
  have h4 : 0 ≤ m / d := Int.ediv_nonneg hm (by omega)
  generalize m / d = q at h1 h4 ⊢
  have e1 : q * d = d * q := Int.mul_comm _ _
  have e2 : (q + 1) * d = d * q + d := by rw [Int.add_mul, Int.one_mul, Int.mul_comm]
  have e3 : 50000 * q ≤ d * q := Int.mul_le_mul_of_nonneg_right hd.1 h4
  refine ⟨h4, by omega, by omega, by omega⟩
theorem Str.yes {l : List S50} {a m : Int} (h : LiqOK l a m) : alcohol_Strength.f l a m = some (gradeS l a m, 0) := by
  unfold alcohol_Strength.f; rw [if_pos ((lchk_iff l a m).2 h)]
theorem Str.no {l : List S50} {a m : Int} (h : ¬ LiqOK l a m) : alcohol_Strength.f l a m = some (0, 1) := by
  unfold alcohol_Strength.f; rw [if_neg (fun e => h ((lchk_iff l a m).1 e))]
theorem Vol.yes {l : List S50} {a m : Int} (h : LiqOK l a m) : alcohol_Volume.f l a m = some (volS l a m, 0) := by
  have hd := h.dg
  have hv := h.vol
  obtain ⟨g0, g1, _⟩ := h.grade
  unfold alcohol_Volume.f
  rw [Str.yes h]
  simp only [Option.bind_some, if_true]
  rw [h.right.of_ g0 g1]
  simp only [Option.bind_some]
  rw [if_neg (by omega), Int.tdiv_eq_ediv_of_nonneg h.m0]
  unfold volS at hv ⊢
  rw [w64_ (by omega) (by omega)]
theorem Vol.no {l : List S50} {a m : Int} (h : ¬ LiqOK l a m) : alcohol_Volume.f l a m = some (0, 1) := by
  unfold alcohol_Volume.f
  rw [Str.no h]
  rfl

end Go.Proofs.Ytdggkgkbjgigmaa.PF
