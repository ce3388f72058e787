/- The law InterpolateFalls of package spilelaw18 returns true for every input and leaves its arguments as they were; there is no condition. -/
import Derived.Test.YtlgihblojnoheaaLawInterpolateFalls
import Derived.Test.YtlgihblojnoheaaMEv
import Derived.Test.YtlgihblojnoheaaMInt18
import Derived.Test.YtlgihblojnoheaaPF0
import Derived.Test.YtlgihblojnoheaaPF1
import Derived.Test.YtlgihblojnoheaaPF13
import Derived.Test.YtlgihblojnoheaaPF14
import Derived.Test.YtlgihblojnoheaaPF5
import Derived.Test.YtlgihblojnoheaaPF8
namespace Go.Proofs.Ytlgihblojnoheaa.PF
open Go.RowKit Go.Proofs.YtlgihblojnoheaaW.PrintWords Go.Proofs.YtlgihblojnoheaaW.PrintLast Go.Proofs.YtlgihblojnoheaaW.PrintMore
set_option linter.unusedVariables false
set_option linter.unusedSimpArgs false
theorem InterpolateFalls.rows {l : List S34} (h : RightT l) : ∀ (d i : Nat), i + d = l.length → Ev (fun k => spilelaw18_InterpolateFalls.l0 k l l (l.length : Int) (i : Int)) true := by
  have hhi := h.hi
  intro d
  induction d with
  | zero =>
    intro i hi
    refine Ev.ret (fun k => ?_)
    simp only [spilelaw18_InterpolateFalls.l0]
    rw [if_neg (by omega)]
  | succ d ih =>
    intro i hi
    have r := h.rng i (by omega)
    refine Ev.step (fun k => ?_) (ih (i + 1) (by omega))
    simp only [spilelaw18_InterpolateFalls.l0]
    have e : denS l (rd_T34 l (i : Int)).f0 = ((rd_T34 l (i : Int)).f1, 0) := by
      unfold denS
      rw [if_neg (not_not_intro ((right_iff l).2 h)), if_neg (by omega), h.dens_row (by omega)]
    rw [if_pos (by omega), if_pos (by omega), if_pos (by omega), interpolate_Density.plain, Option.bind_some, e, if_pos rfl, if_pos rfl, w64_ (by omega) (by omega)]
    rfl
theorem InterpolateFalls_pure : Go.Proofs.Ytlgihblojnoheaa.interpolateFalls.Pure := by
  intro l a b _ _ _
  refine Ev.given ?_
  unfold spilelaw18_InterpolateFalls.f
  obtain ⟨q, hq⟩ := few18_some l
  cases q
  · exact Ev.now (fun k => by rw [show spilelaw18_awake.f = some true from rfl, Option.bind_some, if_pos rfl, hq]; rfl)
  by_cases hr : (dchk l).2 = 0
  case neg =>
    have e : ∀ s, denS l s = (0, 1) := fun s => by unfold denS; rw [if_pos hr]
    refine Ev.ret (fun k => ?_)
    rw [show spilelaw18_awake.f = some true from rfl, Option.bind_some, if_pos rfl, hq, Option.bind_some, if_pos rfl, interpolate_Density.plain, Option.bind_some, interpolate_Density.plain, Option.bind_some, e, e, if_neg (by decide)]
    simp only [spilelaw18_InterpolateFalls.j0, if_true]
    rfl
  have h := (right_iff l).1 hr
  have hhi := h.hi
  have hlo := h.lo
  by_cases ha : a < 0 ∨ 10000 < a
  · have e : denS l a = (0, 2) := by unfold denS; rw [if_neg (not_not_intro hr), if_pos ha]
    refine Ev.ret (fun k => ?_)
    rw [show spilelaw18_awake.f = some true from rfl, Option.bind_some, if_pos rfl, hq, Option.bind_some, if_pos rfl, interpolate_Density.plain, Option.bind_some, interpolate_Density.plain, Option.bind_some, e, if_neg (by decide)]
    simp only [spilelaw18_InterpolateFalls.j0, if_true]
    rw [if_neg (by decide)]
    by_cases hb : b < 0 ∨ 10000 < b
    · have e2 : denS l b = (0, 2) := by unfold denS; rw [if_neg (not_not_intro hr), if_pos hb]
      rw [e2]
      rfl
    · have e2 : denS l b = (dens l b, 0) := by unfold denS; rw [if_neg (not_not_intro hr), if_neg hb]
      rw [e2]
      rfl
  have ea : denS l a = (dens l a, 0) := by unfold denS; rw [if_neg (not_not_intro hr), if_neg ha]
  by_cases hb : b < 0 ∨ 10000 < b
  · have e : denS l b = (0, 2) := by unfold denS; rw [if_neg (not_not_intro hr), if_pos hb]
    refine Ev.ret (fun k => ?_)
    rw [show spilelaw18_awake.f = some true from rfl, Option.bind_some, if_pos rfl, hq, Option.bind_some, if_pos rfl, interpolate_Density.plain, Option.bind_some, interpolate_Density.plain, Option.bind_some, ea, e, if_pos rfl, show (((0, 2) : Int × Int).2 != 0) = true from rfl]
    simp only [spilelaw18_InterpolateFalls.j0, if_true]
    rw [if_neg (by decide)]
    rfl
  have eb : denS l b = (dens l b, 0) := by unfold denS; rw [if_neg (not_not_intro hr), if_neg hb]
  obtain ⟨c0, c1, c2⟩ := h.cntO_spec a
  have cpos : 1 ≤ cntO l a := by
    rcases Nat.lt_or_ge (cntO l a) 1 with q | q
    · have := c2 0 (by omega) (by omega)
      rw [show ((0 : Nat) : Int) = 0 from rfl, h.first] at this
      omega
    · exact q
  have ef : findS l a = ((cntO l a : Int) - 1, 0) := by unfold findS; rw [if_neg (not_not_intro hr), if_neg ha]
  have r1 := c1 (cntO l a - 1) (by omega)
  have rr := h.rng (cntO l a - 1) (by omega)
  have g1 := h.dens_anti (s := (rd_T34 l ((cntO l a - 1 : Nat) : Int)).f0) (s' := a) (by omega) r1 (by omega)
  rw [h.dens_row (by omega), show ((cntO l a - 1 : Nat) : Int) = (cntO l a : Int) - 1 by omega] at g1
  have g2 : ¬ (a ≤ b ∧ dens l a < dens l b) := by
    rintro ⟨q1, q2⟩
    have := h.dens_anti (s := a) (s' := b) (by omega) q1 (by omega)
    omega
  have g3 : ¬ (a ≥ b ∧ dens l a > dens l b) := by
    rintro ⟨q1, q2⟩
    have := h.dens_anti (s := b) (s' := a) (by omega) q1 (by omega)
    omega
  have g4 : (cntO l a : Int) < (l.length : Int) → ¬ dens l a < (rd_T34 l (cntO l a : Int)).f1 := by
    intro q1 q2
    have q3 := c2 (cntO l a) (Nat.le_refl _) (by omega)
    have q4 := h.rng (cntO l a) (by omega)
    have := h.dens_anti (s := a) (s' := (rd_T34 l (cntO l a : Int)).f0) (by omega) (by omega) (by omega)
    rw [h.dens_row (by omega)] at this
    omega
  have tail : Ev (fun k => if (dens l a > (rd_T34 l ((cntO l a : Int) - 1)).f1) then (spilelaw18_InterpolateFalls.j1 k l true) else (if (wrap64 ((cntO l a : Int) - 1 + 1)) < (l.length : Int) then (if 0 ≤ (wrap64 ((cntO l a : Int) - 1 + 1)) then (spilelaw18_InterpolateFalls.j1 k l (decide (dens l a < ((rd_T34 l (wrap64 ((cntO l a : Int) - 1 + 1))).f1)))) else (none)) else (spilelaw18_InterpolateFalls.j1 k l false))) true := by
    refine Ev.step (fun k => ?_) (InterpolateFalls.rows h l.length 0 (by omega))
    rw [if_neg (by omega), w64_ (by omega) (by omega), show (cntO l a : Int) - 1 + 1 = (cntO l a : Int) by omega]
    by_cases hc : (cntO l a : Int) < (l.length : Int)
    · rw [if_pos hc, if_pos (by omega), decide_eq_false (g4 hc)]
      simp only [spilelaw18_InterpolateFalls.j1, Bool.false_eq_true, if_false]
      rfl
    · rw [if_neg hc]
      simp only [spilelaw18_InterpolateFalls.j1, Bool.false_eq_true, if_false]
      rfl
  refine Ev.step (fun k => ?_) tail
  rw [show spilelaw18_awake.f = some true from rfl, Option.bind_some, if_pos rfl, hq, Option.bind_some, if_pos rfl, interpolate_Density.plain, Option.bind_some, interpolate_Density.plain, Option.bind_some, ea, eb, if_pos rfl, show (((dens l b, 0) : Int × Int).2 != 0) = false from rfl]
  simp only [spilelaw18_InterpolateFalls.j0, Bool.false_eq_true, if_false]
  rw [show density_Find.f l a = some (findS l a) from rfl, Option.bind_some, ef, if_pos rfl, if_neg (by show ¬ ((cntO l a : Int) - 1 < 0); omega), if_neg (by show ¬ ((cntO l a : Int) - 1 ≥ (l.length : Int)); omega)]
  have p0 : 0 ≤ (cntO l a : Int) - 1 := by omega
  have p1 : (cntO l a : Int) - 1 < (l.length : Int) := by omega
  by_cases q1 : a ≤ b
  · rw [if_pos q1, if_neg (fun q2 => g2 ⟨q1, q2⟩)]
    by_cases q3 : a ≥ b
    · rw [if_pos q3, if_neg (fun q2 => g3 ⟨q3, q2⟩), if_pos p0, if_pos p1]
    · rw [if_neg q3, if_pos p0, if_pos p1]
  · rw [if_neg q1]
    by_cases q3 : a ≥ b
    · rw [if_pos q3, if_neg (fun q2 => g3 ⟨q3, q2⟩), if_pos p0, if_pos p1]
    · omega

end Go.Proofs.Ytlgihblojnoheaa.PF
namespace Go.Proofs.Ytlgihblojnoheaa
/-- The given statement. -/
theorem interpolateFalls_holds : Rows.InterpolateFallsSaid := interpolateFalls.over PF.InterpolateFalls_pure
#print axioms interpolateFalls_holds
end Go.Proofs.Ytlgihblojnoheaa
