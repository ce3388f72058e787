/- The law AlcoholGrows of package spilelaw20 returns true for every input and leaves its arguments as they were; there is no condition. -/
import Derived.Test.YtdfghldnialmbaaLawAlcoholGrows
import Derived.Test.YtdfghldnialmbaaMAlc
import Derived.Test.YtdfghldnialmbaaMAlcAwake
import Derived.Test.YtdfghldnialmbaaPF0
import Derived.Test.YtdfghldnialmbaaPF11
import Derived.Test.YtdfghldnialmbaaPF3
import Derived.Test.YtdfghldnialmbaaPF5
import Derived.Test.YtdfghldnialmbaaPF6
namespace Go.Proofs.Ytdfghldnialmbaa.PF
open Go.RowKit Go.Proofs.YtdfghldnialmbaaW.PrintWords Go.Proofs.YtdfghldnialmbaaW.PrintLast Go.Proofs.YtdfghldnialmbaaW.PrintMore
set_option linter.unusedVariables false
set_option linter.unusedSimpArgs false
theorem LiqOK.more {l : List S42} {a m : Int} (h : LiqOK l a m) {a' : Int} (ha : a ≤ a') (h' : LiqOK l a' m) : gradeS l a m ≤ gradeS l a' m := by
  obtain ⟨g0, g1, g2, g3⟩ := h.grade
  obtain ⟨k0, k1, k2, k3⟩ := h'.grade
  by_cases hm : m = 0
  · unfold gradeS; rw [if_pos hm, if_pos hm]; exact Int.le_refl _
  · rcases Int.lt_or_le (gradeS l a' m) (gradeS l a m) with h1 | h1
    · have e1 := g2 _ g0 (Int.le_refl _)
      have e2 := k3 hm _ h1 g1
      have hd := h.dg
      have e3 := Int.mul_le_mul_of_nonneg_right ha (show 0 ≤ dens l (gradeS l a m) by omega)
      omega
    · exact h1
theorem LiqOK.water {l : List S42} {a m : Int} (h : LiqOK l a m) (hm : m ≠ 0) {m' : Int} (hmm : m ≤ m') (h' : LiqOK l a m') : gradeS l a m' ≤ gradeS l a m := by
  obtain ⟨g0, g1, g2, g3⟩ := h.grade
  obtain ⟨k0, k1, k2, k3⟩ := h'.grade
  rcases Int.lt_or_le (gradeS l a m) (gradeS l a m') with h1 | h1
  · have e1 := k2 _ k0 (Int.le_refl _)
    have e2 := g3 hm _ h1 k1
    have e3 := Int.mul_le_mul_of_nonneg_right hmm k0
    omega
  · exact h1
theorem LiqOK.watered {l : List S42} {a m : Int} (h : LiqOK l a m) {m' : Int} (hmm : m ≤ m') (h1 : m' ≤ 128849018880000) : LiqOK l a m' :=
  ⟨h.right, h.a0, h.a1, by have := h.m0; omega, h1, by have := h.fit; omega⟩
theorem grows_tail (l : List S42) (a m more water : Int) (hw0 : 0 ≤ water) (hw1 : water ≤ 4294967295) (h : LiqOK l a m) : spilelaw20_AlcoholGrows.j0 1 l water (gradeS l a m) false a m = some true := by
  have m0 := h.m0
  have m1 := h.m1
  simp only [spileref16_Few.f, spilelaw20_AlcoholGrows.j0, Bool.false_eq_true, if_false]
  rw [w64_ (show -9223372036854775808 ≤ water by omega) (by omega), w64_ (show -9223372036854775808 ≤ m + water by omega) (by omega)]
  split
  · rfl
  split
  · rfl
  · have h' := h.watered (m' := m + water) (by omega) (by omega)
    rw [Str.yes h']
    simp only [Option.bind_some, if_true]
    rw [decide_eq_true (h.water (by assumption) (by omega) h')]
theorem AlcoholGrows_pure : Go.Proofs.Ytdfghldnialmbaa.alcoholGrows.Pure := by
  intro l s more water _ hs hmore hwater
  obtain ⟨a, m⟩ := s
  have hm0 : 0 ≤ more ∧ more ≤ 4294967295 := YtdfghldnialmbaaR.wf_u32_ hmore
  have hw0 : 0 ≤ water ∧ water ≤ 4294967295 := YtdfghldnialmbaaR.wf_u32_ hwater
  refine ⟨1, ?_⟩
  unfold spilelaw20_AlcoholGrows.f
  rw [awake20]
  simp only [Option.bind_some, if_true]
  obtain ⟨b, hb⟩ := few_some l
  rw [hb]
  cases b
  · rfl
  simp only [Option.bind_some, if_true]
  by_cases h : LiqOK l a m
  · have a0 := h.a0
    have a1 := h.a1
    have m0 := h.m0
    have m1 := h.m1
    rw [Str.yes h]
    simp only [Option.bind_some, if_true]
    rw [w64_ (show -9223372036854775808 ≤ more by omega) (by omega), w64_ (show -9223372036854775808 ≤ a + more by omega) (by omega)]
    have ht := grows_tail l a m more water hw0.1 hw0.2 h
    split
    · by_cases h' : LiqOK l (a + more) m
      · rw [Str.yes h']
        simp only [Option.bind_some, if_true]
        rw [if_neg (by have := h.more (show a ≤ a + more by omega) h'; omega)]
        exact ht
      · rw [Str.no h']
        have e : (lchk l (a + more) m == 0) = false := beq_eq_false_iff_ne.mpr (fun e => h' ((lchk_iff _ _ _).1 e))
        simp only [Option.bind_some, alcohol_Check_s.f, e]
        rw [if_neg (by decide)]
        exact ht
    · have ht2 := ht
      simp only [spilelaw20_AlcoholGrows.j0, Bool.false_eq_true, if_false] at ht2
      exact ht2
  · rw [Str.no h]
    rfl

end Go.Proofs.Ytdfghldnialmbaa.PF
namespace Go.Proofs.Ytdfghldnialmbaa
/-- The given statement. -/
theorem alcoholGrows_holds : Rows.AlcoholGrowsSaid := alcoholGrows.over PF.AlcoholGrows_pure
#print axioms alcoholGrows_holds
end Go.Proofs.Ytdfghldnialmbaa
