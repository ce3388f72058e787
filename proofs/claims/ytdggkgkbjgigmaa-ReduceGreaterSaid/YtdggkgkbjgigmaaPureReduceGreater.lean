/- The law ReduceGreater of package spilelaw28 returns true for every input and leaves its arguments as they were; there is no condition. -/
import Derived.Test.YtdggkgkbjgigmaaLawReduceGreater
import Derived.Test.YtdggkgkbjgigmaaMLiq
import Derived.Test.YtdggkgkbjgigmaaMRed
import Derived.Test.YtdggkgkbjgigmaaMRedAwake
import Derived.Test.YtdggkgkbjgigmaaPF0
import Derived.Test.YtdggkgkbjgigmaaPF1
import Derived.Test.YtdggkgkbjgigmaaPF20
import Derived.Test.YtdggkgkbjgigmaaPF4
import Derived.Test.YtdggkgkbjgigmaaPF5
import Derived.Test.YtdggkgkbjgigmaaPF6
namespace Go.Proofs.Ytdggkgkbjgigmaa.PF
open Go.RowKit Go.Proofs.YtdggkgkbjgigmaaW.PrintWords Go.Proofs.YtdggkgkbjgigmaaW.PrintLast Go.Proofs.YtdggkgkbjgigmaaW.PrintMore
set_option linter.unusedVariables false
set_option linter.unusedSimpArgs false
theorem LiqOK.twice_ {l : List S50} {a m : Int} (h : LiqOK l a m) (ha : a ≤ 5368709120000) (hm : m ≤ 64424509440000) : LiqOK l (2 * a) (2 * m) :=
  ⟨h.right, by have := h.a0; omega, by omega, by have := h.m0; omega, by omega, by
    have := h.fit
    rw [Int.mul_assoc, Int.mul_assoc]
    omega⟩
/-- Twice the liquid needs twice the water, or one less, or there is no room. -/
theorem water_twice {l : List S50} {a m t : Int} (h : LiqOK l a m) (h0 : 0 ≤ t) (h1 : t ≤ 10000) (ha : a ≤ 5368709120000) (hm : m ≤ 64424509440000) (hl : leastS l a m t ≤ 128849018880000 - m) :
    leastS l (2 * a) (2 * m) t > 128849018880000 - 2 * m ∨ leastS l (2 * a) (2 * m) t = 2 * leastS l a m t ∨ leastS l (2 * a) (2 * m) t = 2 * leastS l a m t - 1 := by
  have i0 := h.leastS_iff h0 h1
  have i1 := (h.twice_ ha hm).leastS_iff h0 h1
  have hr : refL l (2 * a) t = 2 * refL l a t ∨ refL l (2 * a) t = 2 * refL l a t - 1 := by
    unfold refL
    by_cases hz : a = 0
    · rw [if_pos hz, if_pos (by omega)]; omega
    rw [if_neg hz, if_neg (show ¬ 2 * a = 0 by omega)]
    by_cases ht : t = 10000
    · rw [if_pos ht, if_pos ht]; omega
    rw [if_neg ht, if_neg ht, Int.mul_assoc]
    generalize a * dens l (t + 1) = p
    have e1 := Int.mul_ediv_add_emod p (t + 1)
    have e2 := Int.emod_nonneg p (show t + 1 ≠ 0 by omega)
    have e3 := Int.emod_lt_of_pos p (show 0 < t + 1 by omega)
    have f1 := Int.mul_ediv_add_emod (2 * p) (t + 1)
    have f2 := Int.emod_nonneg (2 * p) (show t + 1 ≠ 0 by omega)
    have f3 := Int.emod_lt_of_pos (2 * p) (show 0 < t + 1 by omega)
    generalize p / (t + 1) = q at e1 ⊢
    generalize 2 * p / (t + 1) = v at f1 ⊢
    have g1 : (t + 1) * v < (t + 1) * (2 * q + 2) := by rw [Int.mul_add, ← Int.mul_assoc, Int.mul_comm (t + 1) 2, Int.mul_assoc]; omega
    have g2 : (t + 1) * (2 * q) < (t + 1) * (v + 1) := by rw [Int.mul_add, ← Int.mul_assoc, Int.mul_comm (t + 1) 2, Int.mul_assoc]; omega
    have g3 := Int.lt_of_mul_lt_mul_left g1 (by omega)
    have g4 := Int.lt_of_mul_lt_mul_left g2 (by omega)
    omega
  unfold mx at i0 i1
  split at i0 <;> split at i1 <;> omega
theorem water_lower {l : List S50} {a m t : Int} (h : LiqOK l a m) (h2 : leastS l a m t ≤ 128849018880000 - m) : leastS l a m (t - 1) ≥ leastS l a m t := by
  obtain ⟨b0, b1, b2, b3⟩ := h.least t
  obtain ⟨c0, c1, c2, c3⟩ := h.least (t - 1)
  rcases Int.lt_or_le (leastS l a m (t - 1)) (leastS l a m t) with h3 | h3
  · have := b2 _ c0 h3
    have := c3 _ (Int.le_refl _) (by omega)
    omega
  · exact h3
theorem ReduceGreater_pure : Go.Proofs.Ytdggkgkbjgigmaa.reduceGreater.Pure := by
  intro l s t _ _ _
  obtain ⟨a, m⟩ := s
  refine ⟨2, ?_⟩
  unfold spilelaw28_ReduceGreater.f
  rw [awake28]
  simp only [Option.bind_some, if_true]
  obtain ⟨b, hb⟩ := few_some l
  rw [hb]
  cases b
  · simp only [Option.bind_some, Bool.false_eq_true, if_false, spilelaw28_ReduceGreater.j0, if_true]
  simp only [Option.bind_some, if_true]
  by_cases ha : a > 5368709120000
  · rw [if_pos ha]; simp only [spilelaw28_ReduceGreater.j0, if_true]
  rw [if_neg ha]
  by_cases hm : m > 64424509440000
  · rw [decide_eq_true hm]; simp only [spilelaw28_ReduceGreater.j0, if_true]
  rw [decide_eq_false hm]
  simp only [spilelaw28_ReduceGreater.j0, Bool.false_eq_true, if_false]
  rw [reduce_Water.plain]
  simp only [Option.bind_some]
  by_cases hw : (watS l a m t).2 = 0
  · obtain ⟨h, h0, h1, h2, h3, h4, h5⟩ := watS_ok hw
    have a0 := h.a0
    have m0 := h.m0
    have b1 := (h.least t).2.1
    have ht2 := h.twice_ (by omega) (by omega)
    have htw := water_twice h h0 h1 (by omega) (by omega) h2
    have hf : (Option.some (watS l (2 * a) (2 * m) t)).bind (fun bt => if bt.2 = 0 then (if bt.1 = 2 * leastS l a m t then some true else some (bt.1 == 2 * leastS l a m t - 1)) else some (bt.2 == 15)) = some true := by
      simp only [Option.bind_some]
      unfold watS
      rw [if_neg (not_not_intro ((lchk_iff _ _ _).2 ht2)), if_neg (show ¬ (t < 0 ∨ 10000 < t) by omega)]
      by_cases hc : leastS l (2 * a) (2 * m) t > 128849018880000 - 2 * m
      · rw [if_pos hc]; rfl
      · rw [if_neg hc]
        simp only [if_true]
        rcases htw with e | e | e
        · exact absurd e hc
        · rw [if_pos e]
        · split
          · rfl
          · rw [e]; simp
    have x1 : wrap64 (2 * a) = 2 * a := w64_ (by omega) (by omega)
    have x2 : wrap64 (2 * m) = 2 * m := w64_ (by omega) (by omega)
    have x3 : wrap64 (2 * leastS l a m t) = 2 * leastS l a m t := w64_ (by omega) (by omega)
    have x4 : wrap64 (2 * leastS l a m t - 1) = 2 * leastS l a m t - 1 := w64_ (by omega) (by omega)
    rw [if_pos hw, h3]
    by_cases hp : t > 0
    · rw [if_pos hp, reduce_Water.plain, w64_ (x := t - 1) (by omega) (by omega)]
      simp only [Option.bind_some]
      have hlow := water_lower h h2
      have e : (watS l a m (t - 1)).2 = 0 ∧ (watS l a m (t - 1)).1 = leastS l a m (t - 1) ∨ (watS l a m (t - 1)).2 = 15 := by
        unfold watS
        rw [if_neg (not_not_intro ((lchk_iff _ _ _).2 h)), if_neg (show ¬ (t - 1 < 0 ∨ 10000 < t - 1) by omega)]
        split
        · exact Or.inr rfl
        · exact Or.inl ⟨rfl, rfl⟩
      rcases e with ⟨e1, e2⟩ | e1
      · rw [if_pos e1, e2, if_neg (by omega)]
        simp only [spilelaw28_ReduceGreater.j1, Bool.false_eq_true, if_false]
        rw [x1, x2, x3, x4, reduce_Water.plain]
        exact hf
      · rw [if_neg (by omega), e1]
        simp only [bne_self_eq_false, spilelaw28_ReduceGreater.j1, Bool.false_eq_true, if_false]
        rw [x1, x2, x3, x4, reduce_Water.plain]
        exact hf
    · rw [if_neg hp, x1, x2, x3, x4, reduce_Water.plain]
      exact hf
  · rw [if_neg hw, watS_no hw]
    rfl

end Go.Proofs.Ytdggkgkbjgigmaa.PF
namespace Go.Proofs.Ytdggkgkbjgigmaa
/-- The given statement. -/
theorem reduceGreater_holds : Rows.ReduceGreaterSaid := reduceGreater.over PF.ReduceGreater_pure
#print axioms reduceGreater_holds
end Go.Proofs.Ytdggkgkbjgigmaa
