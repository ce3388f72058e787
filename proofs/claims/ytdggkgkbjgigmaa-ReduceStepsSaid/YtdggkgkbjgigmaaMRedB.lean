/- What the ranges and yields of package reduce return, in plain numbers. -/
import Derived.Test.YtdggkgkbjgigmaaMLiq
import Derived.Test.YtdggkgkbjgigmaaMRed
import Derived.Test.YtdggkgkbjgigmaaPF0
import Derived.Test.YtdggkgkbjgigmaaPF1
import Derived.Test.YtdggkgkbjgigmaaPF5
import Derived.Test.YtdggkgkbjgigmaaPF6
import Derived.Test.YtdggkgkbjgigmaaPF8
import Derived.Test.YtdggkgkbjgigmaaPF9
namespace Go.Proofs.Ytdggkgkbjgigmaa.PF
open Go.RowKit Go.Proofs.YtdggkgkbjgigmaaW.PrintWords Go.Proofs.YtdggkgkbjgigmaaW.PrintLast Go.Proofs.YtdggkgkbjgigmaaW.PrintMore
set_option linter.unusedVariables false
set_option linter.unusedSimpArgs false
def highS (l : List S50) (a m t : Int) : Int := if t > 0 then leastS l a m (t - 1) - 1 else 128849018880000 - m
def rngS (l : List S50) (a m t : Int) : Int × Int × Int := if lchk l a m ≠ 0 then (0, 0, 1) else if t < 0 ∨ 10000 < t then (0, 0, 2) else if leastS l a m t > highS l a m t then (0, 0, 7) else (leastS l a m t, highS l a m t, 0)
theorem reduce_Range.plain (l : List S50) (a m t : Int) : reduce_Range.f l a m t = some (rngS l a m t) := by
  unfold reduce_Range.f rngS
  rw [ready1]
  simp only [Option.bind_some]
  by_cases hk : lchk l a m ≠ 0
  · rw [if_pos hk, if_pos hk, if_neg (by decide)]
  rw [if_neg hk, if_neg hk]
  have h := (lchk_iff _ _ _).1 (Classical.not_not.1 hk)
  by_cases ht : t < 0 ∨ 10000 < t
  · rw [if_pos ht, if_pos ht, if_neg (by decide)]
  rw [if_neg ht, if_neg ht, if_pos rfl, least_ h, room_ h]
  simp only [Option.bind_some]
  unfold highS
  by_cases h1 : t > 0
  · have hb := h.least (t - 1)
    have m0 := h.m0
    rw [if_pos h1, if_pos h1, w64_ (x := t - 1) (by omega) (by omega), least_ h]
    simp only [Option.bind_some]
    rw [w64_ (x := leastS l a m (t - 1) - 1) (by omega) (by omega)]
    split <;> rfl
  · rw [if_neg h1, if_neg h1]
    split <;> rfl
def yldS (l : List S50) (a m t : Int) : Int × Int × Int := if (watS l a m t).2 = 0 then (volS l a (m + (watS l a m t).1), volS l a (m + (watS l a m t).1) - volS l a m, 0) else (0, 0, (watS l a m t).2)
theorem watS_ok {l : List S50} {a m t : Int} (hw : (watS l a m t).2 = 0) : LiqOK l a m ∧ 0 ≤ t ∧ t ≤ 10000 ∧ leastS l a m t ≤ 128849018880000 - m ∧ (watS l a m t).1 = leastS l a m t ∧ 0 ≤ leastS l a m t ∧ LiqOK l a (m + leastS l a m t) := by
  unfold watS at hw ⊢
  by_cases hk : lchk l a m ≠ 0
  · rw [if_pos hk] at hw; exact absurd hw (by decide)
  rw [if_neg hk] at hw ⊢
  have h := (lchk_iff _ _ _).1 (Classical.not_not.1 hk)
  by_cases ht : t < 0 ∨ 10000 < t
  · rw [if_pos ht] at hw; exact absurd hw (by decide)
  rw [if_neg ht] at hw ⊢
  by_cases hl : leastS l a m t > 128849018880000 - m
  · rw [if_pos hl] at hw; exact absurd hw (by decide)
  rw [if_neg hl]
  have b0 := (h.least t).1
  exact ⟨h, by omega, by omega, by omega, rfl, b0, h.wet (by omega) (by omega)⟩
theorem watS_no {l : List S50} {a m t : Int} (hw : ¬ (watS l a m t).2 = 0) : (watS l a m t).1 = 0 := by
  unfold watS at hw ⊢
  split
  · rfl
  · rename_i h1
    rw [if_neg h1] at hw
    split
    · rfl
    · rename_i h2
      rw [if_neg h2] at hw
      split
      · rfl
      · rename_i h3
        rw [if_neg h3] at hw
        exact absurd rfl hw
theorem reduce_Yield.plain (l : List S50) (a m t : Int) : reduce_Yield.f l a m t = some (yldS l a m t) := by
  unfold reduce_Yield.f yldS
  rw [reduce_Water.plain]
  simp only [Option.bind_some]
  by_cases hw : (watS l a m t).2 = 0
  · obtain ⟨h, h0, h1, h2, h3, h4, h5⟩ := watS_ok hw
    rw [if_pos hw, if_pos hw, h3, Vol.yes h]
    simp only [Option.bind_some]
    rw [watered_plain a m _ h.a0 h.a1 h.m0 h4 (by omega) h.none_]
    simp only [Option.bind_some]
    rw [Vol.yes h5]
    simp only [Option.bind_some]
    have v0 := h.vol
    have v1 := h5.vol
    rw [w64_ (by omega) (by omega)]
  · rw [if_neg hw, if_neg hw]

end Go.Proofs.Ytdggkgkbjgigmaa.PF
