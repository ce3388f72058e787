/- What Plan and Check of the reference of package reduce return, in plain numbers. -/
import Derived.Test.YtdggkgkbjgigmaaMPlan
import Derived.Test.YtdggkgkbjgigmaaMRed
import Derived.Test.YtdggkgkbjgigmaaPF0
import Derived.Test.YtdggkgkbjgigmaaPF1
import Derived.Test.YtdggkgkbjgigmaaPF13
import Derived.Test.YtdggkgkbjgigmaaPF16
import Derived.Test.YtdggkgkbjgigmaaPF21
import Derived.Test.YtdggkgkbjgigmaaPF22
import Derived.Test.YtdggkgkbjgigmaaPF24
import Derived.Test.YtdggkgkbjgigmaaPF25
import Derived.Test.YtdggkgkbjgigmaaPF5
import Derived.Test.YtdggkgkbjgigmaaPF6
namespace Go.Proofs.Ytdggkgkbjgigmaa.PF
open Go.RowKit Go.Proofs.YtdggkgkbjgigmaaW.PrintWords Go.Proofs.YtdggkgkbjgigmaaW.PrintLast Go.Proofs.YtdggkgkbjgigmaaW.PrintMore
set_option linter.unusedVariables false
set_option linter.unusedSimpArgs false
theorem spileref28_Check.go (w p : List Int) (hl : w.length = p.length) (hs : p.length ≤ 8) : ∀ d i : Nat, i + d = p.length → ∀ k, d < k → spileref28_Check.l0 k w p (i : Int) = some (misI w p d i) := by
  intro d
  induction d with
  | zero =>
    intro i hi k hk
    obtain ⟨k, rfl⟩ : ∃ j, k = j + 1 := ⟨k - 1, by omega⟩
    simp only [spileref28_Check.l0, misI]
    rw [if_neg (by omega)]
  | succ d ih =>
    intro i hi k hk
    obtain ⟨k, rfl⟩ : ∃ j, k = j + 1 := ⟨k - 1, by omega⟩
    have w1 : wrap64 ((i : Int) + 1) = ((i + 1 : Nat) : Int) := by rw [w64_ (by omega) (by omega)]; rfl
    simp only [spileref28_Check.l0, misI]
    rw [if_pos (by omega), if_pos (by omega), if_pos (by omega), w1, ih (i + 1) (by omega) k (by omega)]
    by_cases c : rd p (i : Int) = rd w (i : Int)
    · rw [if_pos c, if_pos c.symm]
    · rw [if_neg c, if_neg (fun e => c e.symm)]
theorem equal_go (x : List Int) (hs : x.length ≤ 8) : ∀ d i : Nat, i + d = x.length → ∀ k, d < k → slices_Equal_int_int.l0 k x x (x.length : Int) (i : Int) = some true := by
  intro d
  induction d with
  | zero =>
    intro i hi k hk
    obtain ⟨k, rfl⟩ : ∃ j, k = j + 1 := ⟨k - 1, by omega⟩
    simp only [slices_Equal_int_int.l0]
    rw [if_neg (by omega)]
  | succ d ih =>
    intro i hi k hk
    obtain ⟨k, rfl⟩ : ∃ j, k = j + 1 := ⟨k - 1, by omega⟩
    have w1 : wrap64 ((i : Int) + 1) = ((i + 1 : Nat) : Int) := by rw [w64_ (by omega) (by omega)]; rfl
    simp only [slices_Equal_int_int.l0]
    rw [if_pos (by omega), if_pos (by omega), if_pos (by omega), if_pos (by omega), if_pos trivial, w1, ih (i + 1) (by omega) k (by omega)]
theorem equal_same (x : List Int) (hs : x.length ≤ 8) (k : Nat) (hk : 8 < k) : slices_Equal_int_int.f k x x = some true := by
  unfold slices_Equal_int_int.f
  rw [if_pos rfl]
  exact equal_go x hs x.length 0 (by omega) k (by omega)
theorem series_ord (ts : List Int) (hs : ts.length ≤ 8) : ∀ d i : Nat, i + d + 1 = ts.length → ∀ k, d < k → spileref28_series.l1 k ts ((i : Int) + 1) = some (if ordL (ts.drop i) = true then 0 else 5) := by
  intro d
  induction d with
  | zero =>
    intro i hi k hk
    obtain ⟨k, rfl⟩ : ∃ j, k = j + 1 := ⟨k - 1, by omega⟩
    simp only [spileref28_series.l1]
    rw [if_neg (by omega), List.drop_eq_getElem_cons (by omega), List.drop_eq_nil_of_le (by omega)]
    rfl
  | succ d ih =>
    intro i hi k hk
    obtain ⟨k, rfl⟩ : ∃ j, k = j + 1 := ⟨k - 1, by omega⟩
    have w1 : wrap64 ((i : Int) + 1 + 1) = ((i + 1 : Nat) : Int) + 1 := by rw [w64_ (by omega) (by omega)]; rfl
    have w2 : wrap64 ((i : Int) + 1 - 1) = (i : Int) := by rw [w64_ (by omega) (by omega)]; omega
    have w3 : rd ts ((i : Int) + 1) = rd ts ((i + 1 : Nat) : Int) := rfl
    have h1 : i < ts.length := by omega
    have h2 : i + 1 < ts.length := by omega
    simp only [spileref28_series.l1]
    rw [w1, w2, w3, if_pos (by omega), if_pos (by omega), if_pos (by omega), if_pos (by omega), rdI h1, rdI h2]
    have hih := ih (i + 1) (by omega) k (by omega)
    rw [List.drop_eq_getElem_cons h1]
    rw [List.drop_eq_getElem_cons h2] at hih ⊢
    have he : ∀ x y r, ordL (x :: y :: r) = (decide (y < x) && ordL (y :: r)) := fun _ _ _ => rfl
    rw [he]
    by_cases c : ts[i] ≤ ts[i + 1]
    · rw [if_pos (show ts[i + 1] ≥ ts[i] from c), decide_eq_false (by omega), Bool.false_and, if_neg (by decide)]
    · rw [if_neg (show ¬ ts[i + 1] ≥ ts[i] from c), decide_eq_true (by omega), Bool.true_and]
      exact hih
theorem series_far (ts : List Int) (hs : ts.length ≤ 8) : ∀ d i : Nat, i + d = ts.length → ∀ k, d + 9 < k → spileref28_series.l0 k ts (i : Int) = some (if 0 ≤ idxP (farT ts) d i then 2 else if ordL ts = true then 0 else 5) := by
  intro d
  induction d with
  | zero =>
    intro i hi k hk
    obtain ⟨k, rfl⟩ : ∃ j, k = j + 1 := ⟨k - 1, by omega⟩
    have e1 : idxP (farT ts) 0 i = -1 := rfl
    simp only [spileref28_series.l0]
    rw [if_neg (by omega), e1, if_neg (show ¬ (0 : Int) ≤ -1 by decide)]
    by_cases c4 : ts.length = 0
    · have e : ts = [] := List.length_eq_zero_iff.1 c4
      subst e
      obtain ⟨k, rfl⟩ : ∃ j, k = j + 1 := ⟨k - 1, by omega⟩
      rfl
    · have := series_ord ts hs (ts.length - 1) 0 (by omega) k (by omega)
      rw [List.drop_zero] at this
      exact this
  | succ d ih =>
    intro i hi k hk
    obtain ⟨k, rfl⟩ : ∃ j, k = j + 1 := ⟨k - 1, by omega⟩
    have w1 : wrap64 ((i : Int) + 1) = ((i + 1 : Nat) : Int) := by rw [w64_ (by omega) (by omega)]; rfl
    have e : idxP (farT ts) (d + 1) i = if farT ts i = true then (i : Int) else idxP (farT ts) d (i + 1) := rfl
    simp only [spileref28_series.l0]
    rw [if_pos (by omega), if_pos (by omega), w1, ih (i + 1) (by omega) k (by omega)]
    by_cases c1 : rd ts (i : Int) < 0
    · have e1 : idxP (farT ts) (d + 1) i = (i : Int) := by rw [e, if_pos (show farT ts i = true from decide_eq_true (.inl c1))]
      rw [if_pos c1, e1, if_pos (show (0 : Int) ≤ (i : Int) by omega)]
    rw [if_neg c1]
    by_cases c2 : rd ts (i : Int) > 10000
    · have e1 : idxP (farT ts) (d + 1) i = (i : Int) := by rw [e, if_pos (show farT ts i = true from decide_eq_true (.inr c2))]
      rw [if_pos c2, e1, if_pos (show (0 : Int) ≤ (i : Int) by omega)]
    have e1 : idxP (farT ts) (d + 1) i = idxP (farT ts) d (i + 1) := by rw [e, if_neg (show ¬ farT ts i = true by rw [show farT ts i = false from decide_eq_false (by omega)]; decide)]
    rw [if_neg c2, e1]
theorem series_ (l : List S50) (a m : Int) (ts : List Int) (n : Int) (k : Nat) (hk : 20 < k) : spileref28_series.f k l a m ts n = some (plnE l a m ts n) := by
  unfold spileref28_series.f spileref20_Check_s.f plnE
  simp only [Option.bind_some]
  by_cases c0 : lchk l a m = 0
  case neg => rw [if_neg c0, if_pos c0]
  rw [if_pos c0, if_neg (not_not_intro c0)]
  by_cases c1 : 8 < ts.length
  · rw [if_pos (by omega), if_pos c1]
  rw [if_neg (by omega), if_neg c1]
  by_cases c2 : n = (ts.length : Int)
  case neg => rw [if_neg c2, if_pos c2]
  rw [if_pos c2, if_neg (not_not_intro c2)]
  exact series_far ts (by omega) ts.length 0 (by omega) k (by omega)
theorem plan_go {l : List S50} (a : Int) (ts : List Int) (hs : ts.length ≤ 8) (hf : ¬ 0 ≤ idxP (farT ts) ts.length 0) : ∀ d i : Nat, i + d = ts.length → ∀ k, d < k → ∀ m acc, acc.length = i → LiqOK l a m →
    spileref28_plan.l0 k l ts acc (i : Int) a m = some (if (runS l a m (ts.drop i)).2 = true then (acc ++ (runS l a m (ts.drop i)).1.map Prod.fst, 0) else ([], 15)) := by
  intro d
  induction d with
  | zero =>
    intro i hi k hk m acc ha h
    obtain ⟨k, rfl⟩ : ∃ j, k = j + 1 := ⟨k - 1, by omega⟩
    simp only [spileref28_plan.l0]
    rw [if_neg (by omega), List.drop_eq_nil_of_le (by omega)]
    simp [runS]
  | succ d ih =>
    intro i hi k hk m acc ha h
    obtain ⟨k, rfl⟩ : ∃ j, k = j + 1 := ⟨k - 1, by omega⟩
    have w1 : wrap64 ((i : Int) + 1) = ((i + 1 : Nat) : Int) := by rw [w64_ (by omega) (by omega)]; rfl
    have h1 : i < ts.length := by omega
    have ht : ¬ (ts[i] < 0 ∨ 10000 < ts[i]) := fun e => hf ((idxP_any _ _ _).2 ⟨i, by omega, by omega, by unfold farT; rw [rdI h1]; exact decide_eq_true e⟩)
    have hl := h.least ts[i]
    have m0 := h.m0
    have m1 := h.m1
    simp only [spileref28_plan.l0]
    rw [if_pos (by omega), if_pos (by omega), rdI h1, need_ h (by omega) (by omega), List.drop_eq_getElem_cons h1]
    simp only [Option.bind_some]
    by_cases c : 128849018880000 - m < leastS l a m ts[i]
    · have e : runS l a m (ts[i] :: ts.drop (i + 1)) = ([(-1, m)], false) := by simp only [runS]; rw [if_pos c]
      rw [e, if_pos (show leastS l a m ts[i] > 128849018880000 - m from c), if_neg (show ¬ ((0, 15) : Int × Int).2 = 0 by decide), if_neg (show ¬ false = true by decide)]
    · have e : runS l a m (ts[i] :: ts.drop (i + 1)) = ((leastS l a m ts[i], m + leastS l a m ts[i]) :: (runS l a (m + leastS l a m ts[i]) (ts.drop (i + 1))).1, (runS l a (m + leastS l a m ts[i]) (ts.drop (i + 1))).2) := by simp only [runS]; rw [if_neg c]
      rw [e, if_neg (show ¬ leastS l a m ts[i] > 128849018880000 - m from c), if_pos rfl, if_pos (by omega)]
      unfold spileref28_watered.f
      rw [w64_ (x := m + leastS l a m ts[i]) (by omega) (by omega)]
      simp only [Option.bind_some]
      rw [w1, ih (i + 1) (by omega) k (by omega) (m + leastS l a m ts[i]) _ (by simp [ha]) (h.wet (by omega) (by omega))]
      simp
theorem plan_ {l : List S50} {a m : Int} {ts : List Int} {n : Int} (h : plnE l a m ts n = 0) (k : Nat) (hk : 20 < k) : spileref28_plan.f k l a m ts = some (planR l a m ts) := by
  obtain ⟨h1, h2, h3, h4, h5⟩ := plnE_zero h
  subst h3
  unfold spileref28_plan.f planR
  rw [if_neg (not_not_intro h)]
  have := plan_go a ts h2 h4 ts.length 0 (by omega) k (by omega) m [] rfl h1
  rw [List.drop_zero, List.nil_append] at this
  exact this
theorem spileref28_Check.plain (l : List S50) (a m : Int) (ts w : List Int) (k : Nat) (hk : 20 < k) : spileref28_Check.f k l a m ts w = some (chkR l a m ts w) := by
  unfold spileref28_Check.f chkR
  rw [series_ l a m ts _ k hk]
  simp only [Option.bind_some]
  by_cases c : plnE l a m ts w.length = 0
  case neg => rw [if_neg c, if_pos c]
  rw [if_pos c, if_neg (not_not_intro c), plan_ c k hk]
  simp only [Option.bind_some]
  by_cases c2 : (planR l a m ts).2 = 0
  case neg => rw [if_neg c2, if_neg c2]
  rw [if_pos c2, if_pos c2]
  have h1 := plnE_zero c
  have h2 := (planR_ok c2).2.2.2
  have h3 := planR_len (l := l) (a := a) (m := m) (ts := ts)
  exact spileref28_Check.go w _ (by omega) h3 _ 0 (by omega) k (by omega)
theorem spileref28_Plan.plain (l : List S50) (a m : Int) (ts : List Int) (k : Nat) (hk : 20 < k) : spileref28_Plan.f k l a m ts = some (planR l a m ts) := by
  unfold spileref28_Plan.f
  rw [series_ l a m ts _ k hk]
  simp only [Option.bind_some]
  by_cases c : plnE l a m ts ts.length = 0
  · rw [if_pos c, plan_ c k hk]; rfl
  · rw [if_neg c]; unfold planR; rw [if_pos c]

end Go.Proofs.Ytdggkgkbjgigmaa.PF
