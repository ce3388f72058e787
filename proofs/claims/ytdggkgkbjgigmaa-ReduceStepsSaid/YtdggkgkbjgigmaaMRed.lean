/- What the functions of package reduce and of its reference return, in plain numbers. -/
import Derived.Test.YtdggkgkbjgigmaaPF0
import Derived.Test.YtdggkgkbjgigmaaPF1
import Derived.Test.YtdggkgkbjgigmaaPF13
import Derived.Test.YtdggkgkbjgigmaaPF14
import Derived.Test.YtdggkgkbjgigmaaPF4
import Derived.Test.YtdggkgkbjgigmaaPF5
import Derived.Test.YtdggkgkbjgigmaaPF6
import Derived.Test.YtdggkgkbjgigmaaPF7
namespace Go.Proofs.Ytdggkgkbjgigmaa.PF
open Go.RowKit Go.Proofs.YtdggkgkbjgigmaaW.PrintWords Go.Proofs.YtdggkgkbjgigmaaW.PrintLast Go.Proofs.YtdggkgkbjgigmaaW.PrintMore
set_option linter.unusedVariables false
set_option linter.unusedSimpArgs false
/-- The least mass with at most a strength, as the reference tells it. -/
def refL (l : List S50) (a t : Int) : Int := if a = 0 then 0 else if t = 10000 then 0 else a * dens l (t + 1) / (t + 1) + 1
theorem LiqOK.prod {l : List S50} {a m : Int} (h : LiqOK l a m) {t : Int} (h0 : 0 ≤ t) (h1 : t ≤ 10000) : 0 ≤ a * dens l t ∧ a * dens l t ≤ 1288490188800000000 := by
  have hd := h.right.dens_rng h0 h1
  have := mul_rng h.a0 h.a1 (show 0 ≤ dens l t by omega) hd.2
  omega
theorem LiqOK.refL_rng {l : List S50} {a m : Int} (h : LiqOK l a m) {t : Int} (h0 : 0 ≤ t) (h1 : t ≤ 10000) : 0 ≤ refL l a t ∧ refL l a t ≤ 1288490188800000001 := by
  unfold refL
  split
  · omega
  split
  · omega
  · have hp := h.prod (t := t + 1) (by omega) (by omega)
    have e1 := Int.ediv_nonneg hp.1 (show 0 ≤ t + 1 by omega)
    have e2 := Int.ediv_le_self (t + 1) hp.1
    omega
theorem LiqOK.wet_iff {l : List S50} {a m : Int} (h : LiqOK l a m) {t : Int} (h0 : 0 ≤ t) (h1 : t ≤ 10000) : gradeS l a m ≤ t ↔ refL l a t ≤ m := by
  obtain ⟨g0, g1, g2, g3⟩ := h.grade
  have m0 := h.m0
  unfold refL
  by_cases ha : a = 0
  · rw [if_pos ha]
    have hg : gradeS l a m = 0 := by
      by_cases hm : m = 0
      · unfold gradeS; rw [if_pos hm]
      · have e1 := g2 _ g0 (Int.le_refl _)
        rw [ha, Int.zero_mul] at e1
        rcases Int.lt_or_eq_of_le g0 with h4 | h4
        · have := Int.mul_pos (show 0 < m by omega) h4
          rw [ha] at this
          omega
        · exact h4.symm
    omega
  rw [if_neg ha]
  by_cases ht : t = 10000
  · rw [if_pos ht]; omega
  rw [if_neg ht]
  have hm : m ≠ 0 := fun e => ha (h.none_ e)
  have key : a * dens l (t + 1) / (t + 1) < m ↔ a * dens l (t + 1) < m * (t + 1) := Int.ediv_lt_iff_lt_mul (by omega)
  constructor
  · intro hg
    have := g3 hm (t + 1) (by omega) (by omega)
    have := key.2 this
    omega
  · intro hg
    have e1 := key.1 (by omega)
    rcases Int.lt_or_le t (gradeS l a m) with h5 | h5
    · have := g2 (t + 1) (by omega) (by omega); omega
    · exact h5
theorem LiqOK.leastS_iff {l : List S50} {a m : Int} (h : LiqOK l a m) {t : Int} (h0 : 0 ≤ t) (h1 : t ≤ 10000) :
    (leastS l a m t ≤ 128849018880000 - m ∧ leastS l a m t = mx (refL l a t - m) 0 ∧ refL l a t ≤ 128849018880000) ∨ (leastS l a m t = 128849018880000 - m + 1 ∧ 128849018880000 < refL l a t) := by
  obtain ⟨b0, b1, b2, b3⟩ := h.least t
  have m0 := h.m0
  have m1 := h.m1
  have hw := fun (x : Int) (x0 : 0 ≤ x) (x1 : x ≤ 128849018880000 - m) => (h.wet (m' := m + x) (by omega) (by omega)).wet_iff h0 h1
  unfold mx
  by_cases hc : leastS l a m t ≤ 128849018880000 - m
  · left
    have e1 := (hw _ b0 hc).1 (b3 _ (Int.le_refl _) hc)
    by_cases hz : leastS l a m t = 0
    · exact ⟨hc, by split <;> omega, by omega⟩
    · have e2 := b2 (leastS l a m t - 1) (by omega) (by omega)
      have e3 := hw (leastS l a m t - 1) (by omega) (by omega)
      have e4 : ¬ refL l a t ≤ m + (leastS l a m t - 1) := fun e => by have := e3.2 e; omega
      exact ⟨hc, by split <;> omega, by omega⟩
  · right
    have hz : leastS l a m t = 128849018880000 - m + 1 := by omega
    have e2 := b2 (leastS l a m t - 1) (by omega) (by omega)
    have e3 := hw (leastS l a m t - 1) (by omega) (by omega)
    have e4 : ¬ refL l a t ≤ m + (leastS l a m t - 1) := fun e => by have := e3.2 e; omega
    exact ⟨hz, by omega⟩
theorem ready1 (l : List S50) (a m t : Int) : reduce_ready.f l a m [t] = some (if lchk l a m ≠ 0 then 1 else if t < 0 ∨ 10000 < t then 2 else 0) := by
  unfold reduce_ready.f
  rw [if_neg (show ¬ 4611686018427387904 ≤ [t].length by show ¬ 4611686018427387904 ≤ 1; decide)]
  have e : idxP (farT [t]) [t].length 0 = if t < 0 ∨ 10000 < t then 0 else -1 := by
    have e0 : farT [t] 0 = decide (t < 0 ∨ 10000 < t) := rfl
    by_cases hc : t < 0 ∨ 10000 < t
    · rw [if_pos hc]
      exact idxP_found _ 0 1 0 (by rw [e0, decide_eq_true hc]) (fun j h1 h2 => by omega) (by omega) (by omega)
    · rw [if_neg hc]
      exact idxP_none _ 1 0 (fun j h1 h2 => by obtain rfl : j = 0 := by omega
                                               rw [e0, decide_eq_false hc])
  rw [e]
  by_cases hk : lchk l a m ≠ 0
  · rw [if_pos hk, if_pos hk]
  · rw [if_neg hk, if_neg hk]
    by_cases ht : t < 0 ∨ 10000 < t
    · rw [if_pos ht, if_pos ht, if_pos (by decide)]
    · rw [if_neg ht, if_neg ht, if_neg (by decide)]
def watS (l : List S50) (a m t : Int) : Int × Int := if lchk l a m ≠ 0 then (0, 1) else if t < 0 ∨ 10000 < t then (0, 2) else if leastS l a m t > 128849018880000 - m then (0, 15) else (leastS l a m t, 0)
theorem room_ {l : List S50} {a m : Int} (h : LiqOK l a m) : reduce_room.f a m = some (128849018880000 - m) := by
  have m0 := h.m0
  have m1 := h.m1
  unfold reduce_room.f
  rw [w64_ (by omega) (by omega)]
theorem least_ {l : List S50} {a m : Int} (h : LiqOK l a m) (t : Int) : reduce_least.f l a m t = some (leastS l a m t) := by
  unfold reduce_least.f
  rw [if_pos ((lchk_iff _ _ _).2 h)]
theorem reduce_Water.plain (l : List S50) (a m t : Int) : reduce_Water.f l a m t = some (watS l a m t) := by
  unfold reduce_Water.f watS
  rw [ready1]
  simp only [Option.bind_some]
  by_cases hk : lchk l a m ≠ 0
  · rw [if_pos hk, if_pos hk, if_neg (by decide)]
  rw [if_neg hk, if_neg hk]
  have h := (lchk_iff _ _ _).1 (Classical.not_not.1 hk)
  by_cases ht : t < 0 ∨ 10000 < t
  · rw [if_pos ht, if_pos ht, if_neg (by decide)]
  rw [if_neg ht, if_neg ht, if_pos rfl, least_ h, room_ h]
  simp only [Option.bind_some]
  split <;> rfl
theorem refLeast {l : List S50} {a m : Int} (h : LiqOK l a m) {t : Int} (h0 : 0 ≤ t) (h1 : t ≤ 10000) : spileref28_Least.f l a m t = some (refL l a t) := by
  have hr := h.refL_rng h0 h1
  unfold spileref28_Least.f
  unfold refL at hr ⊢
  by_cases ha : a = 0
  · rw [if_pos ha, if_pos ha]
  rw [if_neg ha] at hr ⊢
  rw [if_neg ha]
  by_cases ht : t = 10000
  · rw [if_pos ht, if_pos ht]
  rw [if_neg ht] at hr ⊢
  rw [if_neg ht]
  have hp := h.prod (t := t + 1) (by omega) (by omega)
  have e1 := Int.ediv_nonneg hp.1 (show 0 ≤ t + 1 by omega)
  rw [w64_ (x := t + 1) (by omega) (by omega), h.right.at18s (by omega) (by omega)]
  simp only [Option.bind_some]
  rw [if_neg (by omega), w64_ (x := a * dens l (t + 1)) (by omega) (by omega), Int.tdiv_eq_ediv_of_nonneg hp.1, w64_ (x := _ / _) (by omega) (by omega), w64_ (by omega) (by omega)]
theorem asks_ (l : List S50) (a m t : Int) : spileref28_asks.f l a m t = some (if lchk l a m ≠ 0 then 1 else if t < 0 ∨ 10000 < t then 2 else 0) := by
  unfold spileref28_asks.f spileref20_Check_s.f
  simp only [Option.bind_some]
  by_cases hk : lchk l a m = 0
  · rw [if_pos hk, if_neg (not_not_intro hk)]
    by_cases h1 : t < 0
    · rw [if_pos h1, if_pos (Or.inl h1)]
    rw [if_neg h1]
    by_cases h2 : t > 10000
    · rw [if_pos h2, if_pos (Or.inr h2)]
    rw [if_neg h2, if_neg (by omega)]
  · rw [if_neg hk, if_pos hk]
theorem need_ {l : List S50} {a m : Int} (h : LiqOK l a m) {t : Int} (h0 : 0 ≤ t) (h1 : t ≤ 10000) : spileref28_need.f l a m t = some (if leastS l a m t > 128849018880000 - m then (0, 15) else (leastS l a m t, 0)) := by
  have hr := h.refL_rng h0 h1
  have m0 := h.m0
  have m1 := h.m1
  unfold spileref28_need.f
  rw [refLeast h h0 h1]
  simp only [Option.bind_some]
  rw [w64_ (x := refL l a t - m) (by omega) (by omega)]
  have hq : 0 ≤ mx (refL l a t - m) 0 ∧ mx (refL l a t - m) 0 ≤ 1288490188800000001 := by unfold mx; split <;> omega
  rw [w64_ (x := m + mx (refL l a t - m) 0) (by omega) (by omega)]
  rcases h.leastS_iff h0 h1 with ⟨c1, c2, c3⟩ | ⟨c1, c2⟩
  · rw [← c2, if_neg (by omega), if_neg (by omega)]
  · rw [if_pos (by unfold mx; split <;> omega), if_pos (by omega)]
theorem spileref28_Water.plain (l : List S50) (a m t : Int) : spileref28_Water.f l a m t = some (watS l a m t) := by
  unfold spileref28_Water.f watS
  rw [asks_]
  simp only [Option.bind_some]
  by_cases hk : lchk l a m ≠ 0
  · rw [if_pos hk, if_pos hk, if_neg (by decide)]
  rw [if_neg hk, if_neg hk]
  have h := (lchk_iff _ _ _).1 (Classical.not_not.1 hk)
  by_cases ht : t < 0 ∨ 10000 < t
  · rw [if_pos ht, if_pos ht, if_neg (by decide)]
  rw [if_neg ht, if_neg ht, if_pos rfl, need_ h (by omega) (by omega)]
  simp only [Option.bind_some]

end Go.Proofs.Ytdggkgkbjgigmaa.PF
