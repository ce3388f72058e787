/- What the functions of package alcohol and of its reference return, in plain numbers. -/
import Derived.Test.YtdfghldnialmbaaPF0
import Derived.Test.YtdfghldnialmbaaPF11
import Derived.Test.YtdfghldnialmbaaPF3
import Derived.Test.YtdfghldnialmbaaPF4
import Derived.Test.YtdfghldnialmbaaPF5
import Derived.Test.YtdfghldnialmbaaPF6
import Derived.Test.YtdfghldnialmbaaPF7
import Derived.Test.YtdfghldnialmbaaPF8
namespace Go.Proofs.Ytdfghldnialmbaa.PF
open Go.RowKit Go.Proofs.YtdfghldnialmbaaW.PrintWords Go.Proofs.YtdfghldnialmbaaW.PrintLast Go.Proofs.YtdfghldnialmbaaW.PrintMore
set_option linter.unusedVariables false
set_option linter.unusedSimpArgs false
theorem few_some (l : List S42) : ∃ b, spileref16_Few.f l = some b := by
  unfold spileref16_Few.f
  split
  · exact ⟨_, rfl⟩
  · split <;> exact ⟨_, rfl⟩
def ofS (l : List S42) (v s : Int) : Int × Int × Int :=
  if (dchk l).2 = 0 then (if v < 0 then (0, 0, 2) else if v > 1073741824 then (0, 0, 2) else if s < 0 then (0, 0, 2) else if s > 10000 then (0, 0, 2) else (v * s, v * dens l s, 0)) else (0, 0, 1)
theorem alcohol_Of.plain (l : List S42) (v s : Int) : alcohol_Of.f l v s = some (ofS l v s) := by
  unfold alcohol_Of.f ofS density_Check_s.f
  simp only [Option.bind_some]
  by_cases hr : (dchk l).2 = 0
  · have h := (right_iff l).1 hr
    rw [if_pos hr, if_pos hr]
    split
    · rfl
    split
    · rfl
    split
    · rfl
    split
    · rfl
    · rw [h.of_ (by omega) (by omega)]
      have hd := h.dens_rng (s := s) (by omega) (by omega)
      have w1 : wrap64 (v * s) = v * s := wmul (by omega) (show v ≤ 1073741824 by omega) (by omega) (show s ≤ 10000 by omega) (by decide)
      have w2 : wrap64 (v * dens l s) = v * dens l s := wmul (by omega) (show v ≤ 1073741824 by omega) (by omega) hd.2 (by decide)
      simp only [Option.bind_some, w1, w2]
  · rw [if_neg hr, if_neg hr]
theorem spileref20_Of.plain (l : List S42) (v s : Int) : spileref20_Of.f l v s = some (ofS l v s) := by
  unfold spileref20_Of.f ofS spileref16_Right.f spileref16_Check_s.f
  simp only [Option.bind_some]
  by_cases hr : (dchk l).2 = 0
  · have h := (right_iff l).1 hr
    rw [if_pos hr, hr]
    simp only [beq_self_eq_true, if_true]
    split
    · rfl
    split
    · rfl
    split
    · rfl
    split
    · rfl
    · rw [h.at18s (by omega) (by omega)]
      have hd := h.dens_rng (s := s) (by omega) (by omega)
      have w1 : wrap64 (v * s) = v * s := wmul (by omega) (show v ≤ 1073741824 by omega) (by omega) (show s ≤ 10000 by omega) (by decide)
      have w2 : wrap64 (v * dens l s) = v * dens l s := wmul (by omega) (show v ≤ 1073741824 by omega) (by omega) hd.2 (by decide)
      simp only [Option.bind_some, w1, w2]
  · have e : ((dchk l).2 == 0) = false := beq_eq_false_iff_ne.mpr hr
    rw [if_neg hr, e]
    simp

def volS (l : List S42) (a m : Int) : Int := m / dens l (gradeS l a m)
theorem LiqOK.dg {l : List S42} {a m : Int} (h : LiqOK l a m) : 50000 ≤ dens l (gradeS l a m) ∧ dens l (gradeS l a m) ≤ 120000 := by
  obtain ⟨g0, g1, _⟩ := h.grade
  exact h.right.dens_rng g0 g1
theorem LiqOK.vol {l : List S42} {a m : Int} (h : LiqOK l a m) : 0 ≤ volS l a m ∧ volS l a m * dens l (gradeS l a m) ≤ m ∧ m < (volS l a m + 1) * dens l (gradeS l a m) ∧ volS l a m ≤ 2576980378 := by
  have hd := h.dg
  have hm := h.m0
  have hm1 := h.m1
  unfold volS
  generalize dens l (gradeS l a m) = d at hd ⊢
  have h1 := Int.mul_ediv_add_emod m d
  have h2 := Int.emod_nonneg m (show d ≠ 0 by omega)
  have h3 := Int.emod_lt_of_pos m (show 0 < d by omega)
  have h4 : 0 ≤ m / d := Int.ediv_nonneg hm (by omega)
  generalize m / d = q at h1 h4 ⊢
  have e1 : q * d = d * q := Int.mul_comm _ _
  have e2 : (q + 1) * d = d * q + d := by rw [Int.add_mul, Int.one_mul, Int.mul_comm]
  have e3 : 50000 * q ≤ d * q := Int.mul_le_mul_of_nonneg_right hd.1 h4
  refine ⟨h4, by omega, by omega, by omega⟩
theorem Str.yes {l : List S42} {a m : Int} (h : LiqOK l a m) : alcohol_Strength.f l a m = some (gradeS l a m, 0) := by
  unfold alcohol_Strength.f; rw [if_pos ((lchk_iff l a m).2 h)]
theorem Str.no {l : List S42} {a m : Int} (h : ¬ LiqOK l a m) : alcohol_Strength.f l a m = some (0, 1) := by
  unfold alcohol_Strength.f; rw [if_neg (fun e => h ((lchk_iff l a m).1 e))]
theorem Vol.yes {l : List S42} {a m : Int} (h : LiqOK l a m) : alcohol_Volume.f l a m = some (volS l a m, 0) := by
  have hd := h.dg
  have hv := h.vol
  obtain ⟨g0, g1, _⟩ := h.grade
  unfold alcohol_Volume.f
  rw [Str.yes h]
  simp only [Option.bind_some, if_true]
  rw [h.right.of_ g0 g1]
  simp only [Option.bind_some]
  rw [if_neg (by omega), Int.tdiv_eq_ediv_of_nonneg h.m0]
  unfold volS at hv ⊢
  rw [w64_ (by omega) (by omega)]
theorem Vol.no {l : List S42} {a m : Int} (h : ¬ LiqOK l a m) : alcohol_Volume.f l a m = some (0, 1) := by
  unfold alcohol_Volume.f
  rw [Str.no h]
  rfl
theorem LiqOK.shown {l : List S42} {a m : Int} (h : LiqOK l a m) : 0 ≤ volS l a m * gradeS l a m ∧ volS l a m * gradeS l a m ≤ a := by
  have hd := h.dg
  have hv := h.vol
  obtain ⟨g0, g1, g2, _⟩ := h.grade
  have h1 := g2 _ g0 (Int.le_refl _)
  refine ⟨Int.mul_nonneg hv.1 g0, ?_⟩
  have h2 : volS l a m * dens l (gradeS l a m) * gradeS l a m ≤ m * gradeS l a m := Int.mul_le_mul_of_nonneg_right hv.2.1 g0
  generalize dens l (gradeS l a m) = d at hd h1 h2
  generalize volS l a m = v at h2 ⊢
  generalize gradeS l a m = s at h1 h2 ⊢
  have e : v * d * s = v * s * d := by rw [Int.mul_assoc, Int.mul_comm d s, ← Int.mul_assoc]
  rw [e] at h2
  exact Int.le_of_mul_le_mul_right (show v * s * d ≤ a * d by omega) (by omega)
theorem Lost.yes {l : List S42} {a m : Int} (h : LiqOK l a m) : alcohol_Lost.f l a m = some (a - volS l a m * gradeS l a m, 0) := by
  have hs := h.shown
  have h0 := h.a0
  have h1 := h.a1
  unfold alcohol_Lost.f
  rw [Vol.yes h, Str.yes h]
  simp only [Option.bind_some, if_true]
  rw [w64_ (show -9223372036854775808 ≤ volS l a m * gradeS l a m by omega) (by omega), w64_ (by omega) (by omega)]
theorem Lost.no {l : List S42} {a m : Int} (h : ¬ LiqOK l a m) : alcohol_Lost.f l a m = some (0, 1) := by
  unfold alcohol_Lost.f
  rw [Vol.no h]
  rfl
theorem Dens.yes {l : List S42} (h : RightT l) {s : Int} (h0 : 0 ≤ s) (h1 : s ≤ 10000) : interpolate_Density.f l s = some (dens l s, 0) := by
  unfold interpolate_Density.f interpolate_right.f density_Check_s.f
  simp only [Option.bind_some, (right_iff l).2 h, beq_self_eq_true, if_true]
  rw [if_neg (by omega), if_neg (by omega), h.at h0 h1]
  rfl

end Go.Proofs.Ytdfghldnialmbaa.PF
