/- The law RefusalSigns of package spilelaw30 returns true for every input and leaves its arguments as they were; the library's table of powers of ten reads as the program's text lays it. -/
import Derived.Test.YtcdkbciagchlgaaDoorLawRefusalSigns
import Derived.Test.YtcdkbciagchlgaaDoorMEv
import Derived.Test.YtcdkbciagchlgaaDoorMFew30
import Derived.Test.YtcdkbciagchlgaaDoorMRef30
import Derived.Test.YtcdkbciagchlgaaDoorMRef30b
import Derived.Test.YtcdkbciagchlgaaDoorMRef30c
import Derived.Test.YtcdkbciagchlgaaDoorMSig30
import Derived.Test.YtcdkbciagchlgaaDoorPF0
import Derived.Test.YtcdkbciagchlgaaDoorPF19
import Derived.Test.YtcdkbciagchlgaaDoorPF21
import Derived.Test.YtcdkbciagchlgaaDoorPF4
import Derived.Test.YtcdkbciagchlgaaDoorPF9
namespace Go.Proofs.YtcdkbciagchlgaaDoor.PF
open Go.RowKit Go.Proofs.YtcdkbciagchlgaaDoorW.PrintWords Go.Proofs.YtcdkbciagchlgaaDoorW.PrintLast Go.Proofs.YtcdkbciagchlgaaDoorW.PrintMore
set_option linter.unusedVariables false
set_option linter.unusedSimpArgs false
theorem Signs_l0 {L : List S45} {V C u low high : List Int} {lo hi al s : Int} {n : Nat} (hn : n ≤ 4) (hun : u.length = n) (hln : low.length = n) (hhn : high.length = 0 ∨ high.length = n) (hu : ∀ j : Nat, j < n → 0 ≤ rd u (j : Int) ∧ rd u (j : Int) ≤ 64)
    (hl : ∀ j : Nat, j < n → -24000000000000 ≤ rd low (j : Int) ∧ rd low (j : Int) ≤ 24000000000000) (hh : ∀ j : Nat, j < n → -24000000000000 ≤ rd high (j : Int) ∧ rd high (j : Int) ≤ 24000000000000)
    (g1 : 0 ≤ dotS u low n ↔ lo ≤ s) (g2 : high.length = 0 ↔ hi = 10000) (g3 : high.length ≠ 0 → (0 ≤ dotS u high n ↔ hi < s)) : ∀ (m i : Nat), i + m = n →
    Ev (fun k => spilelaw30_RefusalSigns.l0 k low high s (dotS u low i) (dotS u high i) u (u.length : Int) (i : Int) L V C lo hi al) true
  | 0, i, hi_ => Ev.ret (fun k => by
    obtain rfl : i = n := by omega
    simp only [spilelaw30_RefusalSigns.l0]
    rw [if_neg (by omega)]
    have e1 : decide (dotS u low i ≥ 0) = decide (s ≥ lo) := by rw [decide_eq_decide]; omega
    have e2 : (((high.length : Int) == 0) != (hi == 10000)) = false := by
      by_cases c : high.length = 0
      · rw [show ((high.length : Int) == 0) = true from beq_iff_eq.2 (by omega), beq_iff_eq.2 (g2.1 c)]; rfl
      · rw [show ((high.length : Int) == 0) = false from beq_eq_false_iff_ne.2 (by omega), beq_eq_false_iff_ne.2 (fun z => c (g2.2 z))]; rfl
    rw [e1, bne_self_eq_false, if_neg (by decide), e2, if_neg (by decide)]
    by_cases c : high.length = 0
    · rw [if_pos (by omega)]
    · have e3 : decide (dotS u high i ≥ 0) = decide (s > hi) := by rw [decide_eq_decide]; have := g3 c; omega
      rw [if_neg (by omega), e3, beq_self_eq_true])
  | m + 1, i, hi_ => Ev.step (fun k => by
    simp only [spilelaw30_RefusalSigns.l0]
    rw [if_pos (by omega), if_pos (by omega), if_pos (by omega), if_pos (by omega), dot_w hn hu hl (by omega), dot_w hn hu hh (by omega), inc30 (n := n) (by omega) (by omega)]
    by_cases c : high.length = 0
    · rw [if_neg (by omega)]
      have e : dotS u high i = dotS u high (i + 1) := by rw [List.length_eq_zero_iff.1 c, dot_nil, dot_nil]
      rw [e]
    · rw [if_pos (by omega), if_pos (by omega)]) (Signs_l0 hn hun hln hhn hu hl hh g1 g2 g3 m (i + 1) (by omega))
theorem RefusalSigns_pure : Go.Proofs.YtcdkbciagchlgaaDoor.refusalSigns.Pure := by
  intro l o u _ _ _
  show ∃ k, spilelaw30_RefusalSigns.f k l o.f0 o.f1 o.f2 o.f3 o.f4 o.f5 u = some true
  have hE : Ev (fun k => spilelaw30_RefusalSigns.f k l o.f0 o.f1 o.f2 o.f3 o.f4 o.f5 u) true := by
    obtain ⟨b, hb, -⟩ := few30_some l o.f0 o.f1 o.f2 o.f3 o.f4 o.f5 u 0 0 0
    unfold spilelaw30_RefusalSigns.f spilelaw30_awake.f
    rw [hb]
    cases b
    · exact Ev.now (fun _ => rfl)
    simp only [Option.bind_some, if_true]
    by_cases h : OrdOK l o.f0 o.f1 o.f2 o.f3 o.f4 o.f5
    case neg =>
      refine Ev.bind (Ev.now (fun k => Excess_no h k)) ?_
      exact Ev.now (fun _ => rfl)
    refine Ev.bind (Excess_ev h) ?_
    obtain ⟨r, hr, hz⟩ := Of_ev h u
    simp only [if_true]
    refine Ev.bind hr ?_
    have hj : ∀ a m : Int, Ev (fun k => spilelaw30_RefusalSigns.j0 k l u (exLow l o.f0 o.f3) (exHigh l o.f0 o.f4) true o.f0 o.f1 o.f2 o.f3 o.f4 o.f5 a m) true := fun a m => Ev.ret (fun k => by simp only [spilelaw30_RefusalSigns.j0, if_true])
    by_cases c : r.2.2 = 0
    case neg =>
      simp only [if_neg c]
      exact hj _ _
    simp only [if_pos c]
    obtain ⟨hul, hu, rfl, hp⟩ := hz c
    by_cases cm : mixM o.f0 u o.f0.length = 0
    · simp only [cm, beq_self_eq_true]
      exact hj _ _
    · have e1 : (mixM o.f0 u o.f0.length == 0) = false := beq_eq_false_iff_ne.2 cm
      simp only [e1]
      have hs : alcohol_Strength.f l (mixA o.f0 u o.f0.length) (mixM o.f0 u o.f0.length) = some (gradeS l (mixA o.f0 u o.f0.length) (mixM o.f0 u o.f0.length), 0) := by
        unfold alcohol_Strength.f
        rw [if_pos ((lchk_iff _ _ _).2 ((h.uok hu).liq h.right hp))]
      have n0 := h.n0
      have hhn : (exHigh l o.f0 o.f4).length = 0 ∨ (exHigh l o.f0 o.f4).length = o.f0.length := by rw [exHigh_len]; split; exact .inl rfl; exact .inr rfl
      have hl := Signs_l0 (L := o.f0) (V := o.f1) (C := o.f2) (al := o.f5) (s := gradeS l (mixA o.f0 u o.f0.length) (mixM o.f0 u o.f0.length)) h.n4 hul exLow_len hhn hu (fun j hj => ⟨by have := (h.low_t hj).1; omega, (h.low_t hj).2⟩) (fun j hj => ⟨by have := (h.high_t hj).1; omega, (h.high_t hj).2⟩)
        (h.sign_low hu hp cm) (by rw [exHigh_len]; split <;> omega) (fun hne => h.sign_high (fun z => hne (by rw [exHigh_len, if_pos z])) hu hp cm) o.f0.length 0 (by omega)
      refine Ev.step (G := fun k => spilelaw30_RefusalSigns.j1 k u (exLow l o.f0 o.f3) (exHigh l o.f0 o.f4) (gradeS l (mixA o.f0 u o.f0.length) (mixM o.f0 u o.f0.length)) false o.f0 o.f1 o.f2 o.f3 o.f4 o.f5) (fun k => ?_) ?_
      · simp only [spilelaw30_RefusalSigns.j0]
        rw [if_neg (by decide), hs, Option.bind_some, if_pos rfl, if_pos (by rw [exLow_len, hul])]
        by_cases c2 : (exHigh l o.f0 o.f4).length = 0
        · rw [if_pos (by omega)]
        · rw [if_neg (by omega), bne_eq_false_iff_eq.2 (by omega)]
      · refine Ev.step (fun k => ?_) hl
        simp only [spilelaw30_RefusalSigns.j1]
        rw [if_neg (by decide)]
        rfl
  obtain ⟨N, hN⟩ := hE
  exact ⟨N, hN N (Nat.le_refl _)⟩

end Go.Proofs.YtcdkbciagchlgaaDoor.PF
namespace Go.Proofs.YtcdkbciagchlgaaDoor
/-- The given statement. -/
theorem refusalSigns_holds : Rows.RefusalSignsCardSaid := refusalSigns.card PF.RefusalSigns_pure
#print axioms refusalSigns_holds
end Go.Proofs.YtcdkbciagchlgaaDoor
