/- Layer 52: small words for the laws. -/
import Derived.Test.YtdolabpkgienkaaMEv
import Derived.Test.YtdolabpkgienkaaPF0
import Derived.Test.YtdolabpkgienkaaPF10
import Derived.Test.YtdolabpkgienkaaPF5
namespace Go.Proofs.Ytdolabpkgienkaa.PF
open Go.RowKit Go.Proofs.YtdolabpkgienkaaW.PrintWords Go.Proofs.YtdolabpkgienkaaW.PrintLast Go.Proofs.YtdolabpkgienkaaW.PrintMore
set_option linter.unusedVariables false
set_option linter.unusedSimpArgs false
theorem Ev.ex {α : Type} {F : Nat → Option α} {r : α} (h : Ev F r) : ∃ k, F k = some r := by
  obtain ⟨N, hN⟩ := h
  exact ⟨N, hN N (Nat.le_refl _)⟩
theorem clB {l : List S31} (h : l.length ≤ 1000) : api_Bond_13.f l = some l := by
  unfold api_Bond_13.f
  rw [if_pos (by omega)]
theorem clH {l : List S35} (h : l.length ≤ 1000) : api_Hold_16.f l = some l := by
  unfold api_Hold_16.f
  rw [if_pos (by omega)]
theorem few52 (l : List S31) (h : List S35) : spileref52_Few.f l h = some (decide (((l.length : Int) ≤ 8 ∨ (l.length : Int) = 17) ∧ (h.length : Int) ≤ 17)) := by
  unfold spileref52_Few.f
  by_cases a : (l.length : Int) ≤ 8
  · rw [if_pos a]; congr 1; rw [decide_eq_decide]; exact ⟨fun e => ⟨.inl a, e⟩, fun e => e.2⟩
  · rw [if_neg a]
    by_cases b : (l.length : Int) = 17
    · rw [if_pos b]; congr 1; rw [decide_eq_decide]; exact ⟨fun e => ⟨.inr b, e⟩, fun e => e.2⟩
    · rw [if_neg b, decide_eq_false (fun e => e.1.elim a b)]

end Go.Proofs.Ytdolabpkgienkaa.PF
