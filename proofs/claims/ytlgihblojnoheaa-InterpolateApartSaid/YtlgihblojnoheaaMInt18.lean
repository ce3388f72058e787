/- What the functions of package interpolate and of its reference return, in plain numbers: densities, strengths and ranges. -/
import Derived.Test.YtlgihblojnoheaaMEv
import Derived.Test.YtlgihblojnoheaaPF0
import Derived.Test.YtlgihblojnoheaaPF1
import Derived.Test.YtlgihblojnoheaaPF10
import Derived.Test.YtlgihblojnoheaaPF11
import Derived.Test.YtlgihblojnoheaaPF5
import Derived.Test.YtlgihblojnoheaaPF6
import Derived.Test.YtlgihblojnoheaaPF8
import Derived.Test.YtlgihblojnoheaaPF9
namespace Go.Proofs.Ytlgihblojnoheaa.PF
open Go.RowKit Go.Proofs.YtlgihblojnoheaaW.PrintWords Go.Proofs.YtlgihblojnoheaaW.PrintLast Go.Proofs.YtlgihblojnoheaaW.PrintMore
set_option linter.unusedVariables false
set_option linter.unusedSimpArgs false
theorem RightT.dens0 {l : List S34} (h : RightT l) : (rd_T34 l 0).f1 = dens l 0 := by
  have hl := h.lo
  have e := h.dens_row (i := 0) (by omega)
  have f := h.first
  rw [show ((0 : Nat) : Int) = 0 from rfl] at e
  rw [f] at e
  exact e.symm
def denS (l : List S34) (s : Int) : Int × Int := if (dchk l).2 ≠ 0 then (0, 1) else if s < 0 ∨ 10000 < s then (0, 2) else (dens l s, 0)
theorem right18 (l : List S34) : interpolate_right.f l = some ((dchk l).2 == 0) := rfl
theorem right16 (l : List S34) : spileref16_Right.f l = some ((dchk l).2 == 0) := rfl
theorem interpolate_Density.plain (l : List S34) (s : Int) : interpolate_Density.f l s = some (denS l s) := by
  unfold interpolate_Density.f denS
  rw [right18, Option.bind_some]
  by_cases hr : (dchk l).2 = 0
  · rw [if_pos (beq_iff_eq.mpr hr), if_neg (not_not_intro hr)]
    by_cases h0 : s < 0
    · rw [if_pos h0, if_pos (Or.inl h0)]
    by_cases h1 : s > 10000
    · rw [if_neg h0, if_pos h1, if_pos (Or.inr h1)]
    rw [if_neg h0, if_neg h1, if_neg (by omega), ((right_iff l).1 hr).at (by omega) (by omega), Option.bind_some]
  · rw [if_neg (by simpa using hr), if_pos hr]
theorem spileref18_Density.plain (l : List S34) (s : Int) : spileref18_Density.f l s = some (denS l s) := by
  unfold spileref18_Density.f denS
  rw [right16, Option.bind_some]
  by_cases hr : (dchk l).2 = 0
  · rw [if_pos (beq_iff_eq.mpr hr), if_neg (not_not_intro hr)]
    by_cases h0 : s < 0
    · rw [if_pos h0, if_pos (Or.inl h0)]
    by_cases h1 : s > 10000
    · rw [if_neg h0, if_pos h1, if_pos (Or.inr h1)]
    rw [if_neg h0, if_neg h1, if_neg (by omega), ((right_iff l).1 hr).at18s (by omega) (by omega), Option.bind_some]
  · rw [if_neg (by simpa using hr), if_pos hr]
theorem in18 (n : Int) : interpolate_in.f n = some (decide (50000 ≤ n ∧ n ≤ 120000)) := by
  unfold interpolate_in.f
  by_cases h : n ≥ 50000
  · rw [if_pos h]
    congr 1
    rw [decide_eq_decide]
    omega
  · rw [if_neg h, decide_eq_false (by omega)]
theorem first18 {l : List S34} (h : RightT l) (n : Int) : interpolate_first.f l n = some (firstS l n) := by
  unfold interpolate_first.f
  rw [if_pos ((right_iff l).2 h)]
def strS (l : List S34) (n : Int) : Int × Int := if (dchk l).2 ≠ 0 then (0, 1) else if ¬ (50000 ≤ n ∧ n ≤ 120000) then (0, 2) else if n > dens l 0 then (0, 2) else (firstS l n - 1, 0)
theorem interpolate_Strength.plain (l : List S34) (n : Int) : interpolate_Strength.f l n = some (strS l n) := by
  unfold interpolate_Strength.f strS
  rw [right18, Option.bind_some]
  by_cases hr : (dchk l).2 = 0
  · have h := (right_iff l).1 hr
    have hl := h.lo
    rw [if_pos (beq_iff_eq.mpr hr), if_neg (not_not_intro hr), in18, Option.bind_some]
    by_cases hn : 50000 ≤ n ∧ n ≤ 120000
    · rw [if_pos (decide_eq_true hn), if_neg (not_not_intro hn), if_pos (by omega), h.dens0]
      by_cases hd : n > dens l 0
      · rw [if_pos hd, if_pos hd]
      · obtain ⟨f0, f1, _, _⟩ := h.first_spec n
        rw [if_neg hd, if_neg hd, first18 h, Option.bind_some, w64_ (by omega) (by omega)]
    · rw [if_neg (by rw [decide_eq_false hn]; simp), if_pos hn]
  · rw [if_neg (by simpa using hr), if_pos hr]
/-- The place behind the last strength with a density that is not less. -/
theorem RightT.first_pos {l : List S34} (h : RightT l) {n : Int} (hd : n ≤ dens l 0) : 1 ≤ firstS l n := by
  obtain ⟨f0, f1, f2, f3⟩ := h.first_spec n
  rcases Int.lt_or_le (firstS l n) 1 with h1 | h1
  · have := f3 0 (by omega) (by decide)
    omega
  · exact h1
theorem spileref18_Reach.ev {l : List S34} (h : RightT l) {n : Int} (hd : n ≤ dens l 0) : Ev (fun k => spileref18_Reach.f k l n) (firstS l n - 1) := by
  obtain ⟨f0, f1, f2, f3⟩ := h.first_spec n
  have fp := h.first_pos hd
  have key : ∀ (N d : Nat), d ≤ N → ∀ low high : Int, high - low = d → 0 ≤ low → high ≤ 10000 → low ≤ firstS l n - 1 → firstS l n - 1 ≤ high → Ev (fun k => spileref18_Reach.l0 k l n low high) (firstS l n - 1) := by
    intro N
    induction N with
    | zero =>
      intro d hd0 low high he h0 h1 h2 h3
      refine Ev.ret (fun k => ?_)
      simp only [spileref18_Reach.l0]
      rw [if_neg (by omega), show low = firstS l n - 1 by omega]
    | succ N ih =>
      intro d hdN low high he h0 h1 h2 h3
      by_cases hc : low < high
      · obtain ⟨m, hm⟩ : ∃ m, m = (low + high + 1) / 2 := ⟨_, rfl⟩
        have hw : wrap64 (Int.tdiv (wrap64 (wrap64 (low + high) + 1)) 2) = m := by
          rw [w64_ (x := low + high) (by omega) (by omega), w64_ (x := low + high + 1) (by omega) (by omega), Int.tdiv_eq_ediv_of_nonneg (by omega), ← hm]
          exact w64_ (by omega) (by omega)
        by_cases hg : dens l m ≥ n
        · have hmF : m ≤ firstS l n - 1 := by
            rcases Int.lt_or_le m (firstS l n) with q | q
            · omega
            · have := f3 m q (by omega)
              omega
          refine Ev.step (fun k => ?_) (ih (high - m).toNat (by omega) m high (by omega) (by omega) h1 hmF h3)
          simp only [spileref18_Reach.l0]
          rw [if_pos hc, hw, h.at18s (by omega) (by omega), Option.bind_some, if_pos hg]
        · have hmF : firstS l n - 1 ≤ m - 1 := by
            rcases Int.lt_or_le m (firstS l n) with q | q
            · have := f2 m (by omega) q
              omega
            · omega
          refine Ev.step (fun k => ?_) (ih (m - 1 - low).toNat (by omega) low (m - 1) (by omega) h0 (by omega) h2 hmF)
          simp only [spileref18_Reach.l0]
          rw [if_pos hc, hw, h.at18s (by omega) (by omega), Option.bind_some, if_neg hg, w64_ (x := m - 1) (by omega) (by omega)]
      · refine Ev.ret (fun k => ?_)
        simp only [spileref18_Reach.l0]
        rw [if_neg hc, show low = firstS l n - 1 by omega]
  unfold spileref18_Reach.f
  exact key 10000 10000 (Nat.le_refl _) 0 10000 (by omega) (by omega) (by omega) (by omega) (by omega)
theorem spileref18_Strength.ev (l : List S34) (n : Int) : Ev (fun k => spileref18_Strength.f k l n) (strS l n) := by
  unfold spileref18_Strength.f strS
  rw [right16]
  by_cases hr : (dchk l).2 = 0
  · have h := (right_iff l).1 hr
    have hl := h.lo
    rw [if_neg (not_not_intro hr), beq_iff_eq.mpr hr]
    by_cases h1 : n < 50000
    · rw [if_pos (by omega)]
      exact Ev.now (fun k => by rw [Option.bind_some, if_pos rfl, if_pos h1])
    by_cases h2 : n > 120000
    · rw [if_pos (by omega)]
      exact Ev.now (fun k => by rw [Option.bind_some, if_pos rfl, if_neg h1, if_pos h2])
    rw [if_neg (by omega)]
    by_cases hd : n > dens l 0
    · rw [if_pos hd]
      exact Ev.now (fun k => by rw [Option.bind_some, if_pos rfl, if_neg h1, if_neg h2, if_pos (by omega), h.dens0, if_pos hd])
    · rw [if_neg hd]
      refine Ev.same (G := fun k => (spileref18_Reach.f k l n).bind fun t170 => (some (t170, 0))) (fun k => by rw [Option.bind_some, if_pos rfl, if_neg h1, if_neg h2, if_pos (by omega), h.dens0, if_neg hd]) ?_
      exact Ev.bind (spileref18_Reach.ev h (by omega)) (Ev.now (fun k => rfl))
  · rw [if_pos hr, show ((dchk l).2 == 0) = false from beq_eq_false_iff_ne.mpr hr]
    exact Ev.now (fun k => rfl)
def rng18 (l : List S34) (n : Int) : Int × Int × Int := if (dchk l).2 ≠ 0 then (0, 0, 1) else if ¬ (50000 ≤ n ∧ n ≤ 120000) then (0, 0, 2) else if firstS l (n + 1) > firstS l n - 1 then (0, 0, 7) else (firstS l (n + 1), firstS l n - 1, 0)
theorem interpolate_Range.plain (l : List S34) (n : Int) : interpolate_Range.f l n = some (rng18 l n) := by
  unfold interpolate_Range.f rng18
  rw [right18, Option.bind_some]
  by_cases hr : (dchk l).2 = 0
  · have h := (right_iff l).1 hr
    rw [if_pos (beq_iff_eq.mpr hr), if_neg (not_not_intro hr), in18, Option.bind_some]
    by_cases hn : 50000 ≤ n ∧ n ≤ 120000
    · obtain ⟨f0, f1, _, _⟩ := h.first_spec n
      rw [if_pos (decide_eq_true hn), if_neg (not_not_intro hn), w64_ (x := n + 1) (by omega) (by omega), first18 h, Option.bind_some, first18 h, Option.bind_some, w64_ (x := firstS l n - 1) (by omega) (by omega)]
      split <;> rfl
    · rw [if_neg (by rw [decide_eq_false hn]; simp), if_pos hn]
  · rw [if_neg (by simpa using hr), if_pos hr]
theorem spileref18_Range.ev (l : List S34) (n : Int) : Ev (fun k => spileref18_Range.f k l n) (rng18 l n) := by
  unfold spileref18_Range.f rng18
  rw [right16]
  by_cases hr : (dchk l).2 = 0
  · have h := (right_iff l).1 hr
    have hl := h.lo
    rw [if_neg (not_not_intro hr), beq_iff_eq.mpr hr]
    by_cases h1 : n < 50000
    · rw [if_pos (by omega)]
      exact Ev.ret (fun k => by rw [Option.bind_some, if_pos rfl, if_pos h1]; simp only [spileref18_Range.j0, if_true])
    by_cases h2 : n > 120000
    · rw [if_pos (by omega)]
      exact Ev.ret (fun k => by rw [Option.bind_some, if_pos rfl, if_neg h1, decide_eq_true h2]; simp only [spileref18_Range.j0, if_true])
    rw [if_neg (by omega)]
    obtain ⟨f0, f1, f2, f3⟩ := h.first_spec n
    obtain ⟨g0, g1, g2, g3⟩ := h.first_spec (n + 1)
    refine Ev.step (G := fun k => (if n > dens l 0 then (some (0, 0, 7)) else ((spileref18_Reach.f k l n).bind fun t180 => ((spileref18_At_s.f l t180).bind fun t181 => (if t181 = n then (if n < dens l 0 then ((spileref18_Reach.f k l (wrap64 (n + 1))).bind fun t183 => (some (wrap64 (t183 + 1), t180, 0))) else (some (0, t180, 0))) else (some (0, 0, 7))))))) (fun k => ?_) ?_
    · rw [Option.bind_some, if_pos rfl, if_neg h1, decide_eq_false h2]
      simp only [spileref18_Range.j0, Bool.false_eq_true, if_false]
      rw [if_pos (by omega), h.dens0]
    by_cases hd : n > dens l 0
    · have e : firstS l n = 0 := by
        rcases Int.lt_or_le 0 (firstS l n) with q | q
        · have := f2 0 (Int.le_refl _) q
          omega
        · omega
      rw [if_pos (by omega)]
      exact Ev.now (fun k => by rw [if_pos hd])
    · have fp := h.first_pos (n := n) (by omega)
      refine Ev.same (G := fun k => ((spileref18_Reach.f k l n).bind fun t180 => ((spileref18_At_s.f l t180).bind fun t181 => (if t181 = n then (if n < dens l 0 then ((spileref18_Reach.f k l (wrap64 (n + 1))).bind fun t183 => (some (wrap64 (t183 + 1), t180, 0))) else (some (0, t180, 0))) else (some (0, 0, 7)))))) (fun k => if_neg hd) ?_
      refine Ev.bind (spileref18_Reach.ev h (by omega)) ?_
      have ge := f2 (firstS l n - 1) (by omega) (by omega)
      rw [h.at18s (by omega) (by omega)]
      by_cases he : dens l (firstS l n - 1) = n
      · have hle : firstS l (n + 1) ≤ firstS l n - 1 := by
          rcases Int.lt_or_le (firstS l n - 1) (firstS l (n + 1)) with q | q
          · have := g2 (firstS l n - 1) (by omega) q
            omega
          · exact q
        rw [if_neg (by omega)]
        by_cases hlt : n < dens l 0
        · refine Ev.same (G := fun k => (spileref18_Reach.f k l (n + 1)).bind fun t183 => (some (wrap64 (t183 + 1), firstS l n - 1, 0))) (fun k => by rw [Option.bind_some, if_pos he, if_pos hlt, w64_ (x := n + 1) (by omega) (by omega)]) ?_
          refine Ev.bind (spileref18_Reach.ev h (by omega)) (Ev.now (fun k => ?_))
          rw [w64_ (by omega) (by omega), show firstS l (n + 1) - 1 + 1 = firstS l (n + 1) by omega]
        · have e0 : firstS l (n + 1) = 0 := by
            rcases Int.lt_or_le 0 (firstS l (n + 1)) with q | q
            · have := g2 0 (Int.le_refl _) q
              omega
            · omega
          rw [e0]
          exact Ev.now (fun k => by rw [Option.bind_some, if_pos he, if_neg hlt])
      · have hgt : firstS l (n + 1) > firstS l n - 1 := by
          rcases Int.lt_or_le (firstS l n - 1) (firstS l (n + 1)) with q | q
          · exact q
          · have := g3 (firstS l n - 1) q (by omega)
            omega
        rw [if_pos hgt]
        exact Ev.now (fun k => by rw [Option.bind_some, if_neg he])
  · rw [if_pos hr, show ((dchk l).2 == 0) = false from beq_eq_false_iff_ne.mpr hr]
    exact Ev.now (fun k => rfl)
theorem few18_some (l : List S34) : ∃ b, spileref16_Few.f l = some b := by
  unfold spileref16_Few.f
  split
  · exact ⟨_, rfl⟩
  · split <;> exact ⟨_, rfl⟩
theorem Ev.given {α : Type} {F : Nat → Option α} {r : α} (h : Ev F r) : ∃ k, F k = some r := by
  obtain ⟨N, hN⟩ := h
  exact ⟨N, hN N (Nat.le_refl _)⟩

end Go.Proofs.Ytlgihblojnoheaa.PF
