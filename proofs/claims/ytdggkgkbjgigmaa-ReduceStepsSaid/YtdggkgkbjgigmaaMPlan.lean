/- What Plan and Check of package reduce return, in plain numbers. -/
import Derived.Test.YtdggkgkbjgigmaaPF0
import Derived.Test.YtdggkgkbjgigmaaPF1
import Derived.Test.YtdggkgkbjgigmaaPF21
import Derived.Test.YtdggkgkbjgigmaaPF22
import Derived.Test.YtdggkgkbjgigmaaPF6
namespace Go.Proofs.Ytdggkgkbjgigmaa.PF
open Go.RowKit Go.Proofs.YtdggkgkbjgigmaaW.PrintWords Go.Proofs.YtdggkgkbjgigmaaW.PrintLast Go.Proofs.YtdggkgkbjgigmaaW.PrintMore
set_option linter.unusedVariables false
set_option linter.unusedSimpArgs false
/-- The first of the masses that is not the plan's, with the error. -/
def misI (w p : List Int) : Nat → Nat → Int × Int
  | 0, _ => (-1, 0)
  | d + 1, i => if rd w (i : Int) = rd p (i : Int) then misI w p d (i + 1) else ((i : Int), 14)
theorem reduce_Check.go (w p : List Int) (hl : w.length = p.length) (hs : p.length ≤ 8) : ∀ d i : Nat, i + d = p.length → ∀ k, d < k → reduce_Check.l0 k w p (p.length : Int) (i : Int) = some (misI w p d i) := by
  intro d
  induction d with
  | zero =>
    intro i hi k hk
    obtain ⟨k, rfl⟩ : ∃ j, k = j + 1 := ⟨k - 1, by omega⟩
    simp only [reduce_Check.l0, misI]
    rw [if_neg (by omega)]
  | succ d ih =>
    intro i hi k hk
    obtain ⟨k, rfl⟩ : ∃ j, k = j + 1 := ⟨k - 1, by omega⟩
    have w1 : wrap64 ((i : Int) + 1) = ((i + 1 : Nat) : Int) := by rw [w64_ (by omega) (by omega)]; rfl
    simp only [reduce_Check.l0, misI]
    rw [if_pos (by omega), if_pos (by omega), if_pos (by omega), if_pos (by omega), w1, ih (i + 1) (by omega) k (by omega)]
    split <;> rfl
theorem planR_len {l : List S50} {a m : Int} {ts : List Int} : (planR l a m ts).1.length ≤ 8 := by
  unfold planR
  by_cases h : plnE l a m ts ts.length = 0
  · have := plnE_zero h
    have hr := run_len l a ts m
    rw [if_neg (not_not_intro h)]
    split
    · simp only [List.length_map]; omega
    · simp
  · rw [if_pos h]; simp
theorem run_all (l : List S50) (a : Int) (ts : List Int) : ∀ m, (runS l a m ts).2 = true → (runS l a m ts).1.length = ts.length := by
  induction ts with
  | nil => intro m _; rfl
  | cons t r ih =>
    intro m h
    simp only [runS] at h ⊢
    by_cases c : 128849018880000 - m < leastS l a m t
    · rw [if_pos c] at h; cases h
    · rw [if_neg c] at h ⊢
      simp only [List.length_cons]
      rw [ih _ h]
theorem planR_ok {l : List S50} {a m : Int} {ts : List Int} (h : (planR l a m ts).2 = 0) : plnE l a m ts ts.length = 0 ∧ (runS l a m ts).2 = true ∧ planR l a m ts = ((runS l a m ts).1.map Prod.fst, 0) ∧ (planR l a m ts).1.length = ts.length := by
  unfold planR at h ⊢
  by_cases c : plnE l a m ts ts.length = 0
  case neg => rw [if_pos c] at h; exact absurd h c
  rw [if_neg (not_not_intro c)] at h ⊢
  by_cases c2 : (runS l a m ts).2 = true
  · rw [if_pos c2]
    exact ⟨c, c2, rfl, by simp only [List.length_map]; exact run_all l a ts m c2⟩
  · rw [if_neg c2] at h; exact absurd h (by decide)
theorem planR_no {l : List S50} {a m : Int} {ts : List Int} (h : ¬ (planR l a m ts).2 = 0) : (planR l a m ts).1 = [] := by
  unfold planR at h ⊢
  split
  · rfl
  · rename_i c
    rw [if_neg c] at h
    split
    · rename_i c2; rw [if_pos c2] at h; exact absurd rfl h
    · rfl
/-- What Check answers. -/
def chkR (l : List S50) (a m : Int) (ts w : List Int) : Int × Int :=
  if plnE l a m ts w.length ≠ 0 then (-1, plnE l a m ts w.length) else if (planR l a m ts).2 = 0 then misI w (planR l a m ts).1 (planR l a m ts).1.length 0 else (-1, (planR l a m ts).2)
theorem reduce_Check.plain (l : List S50) (a m : Int) (ts w : List Int) (hz : ts.length < 4611686018427387904) (k : Nat) (hk : 20 < k) : reduce_Check.f k l a m ts w = some (chkR l a m ts w) := by
  unfold reduce_Check.f reduce_planned_s.f reduce_Plan.f chkR
  rw [if_pos hz, if_pos hz]
  simp only [Option.bind_some]
  by_cases c : plnE l a m ts w.length = 0
  case neg => rw [if_neg c, if_pos c]
  rw [if_pos c, if_neg (not_not_intro c)]
  by_cases c2 : (planR l a m ts).2 = 0
  case neg => rw [if_neg c2, if_neg c2]
  rw [if_pos c2, if_pos c2]
  have h1 := plnE_zero c
  have h2 := (planR_ok c2).2.2.2
  have h3 := planR_len (l := l) (a := a) (m := m) (ts := ts)
  exact reduce_Check.go w _ (by omega) h3 _ 0 (by omega) k (by omega)

end Go.Proofs.Ytdggkgkbjgigmaa.PF
