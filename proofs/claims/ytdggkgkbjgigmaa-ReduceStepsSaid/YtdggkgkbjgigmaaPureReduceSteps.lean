/- The law ReduceSteps of package spilelaw28 returns true for every input and leaves its arguments as they were; there is no condition. -/
import Derived.Test.YtdggkgkbjgigmaaLawReduceSteps
import Derived.Test.YtdggkgkbjgigmaaMLiq
import Derived.Test.YtdggkgkbjgigmaaMPlan
import Derived.Test.YtdggkgkbjgigmaaMRed
import Derived.Test.YtdggkgkbjgigmaaMRedAwake
import Derived.Test.YtdggkgkbjgigmaaPF0
import Derived.Test.YtdggkgkbjgigmaaPF1
import Derived.Test.YtdggkgkbjgigmaaPF21
import Derived.Test.YtdggkgkbjgigmaaPF22
import Derived.Test.YtdggkgkbjgigmaaPF23
import Derived.Test.YtdggkgkbjgigmaaPF5
import Derived.Test.YtdggkgkbjgigmaaPF6
namespace Go.Proofs.Ytdggkgkbjgigmaa.PF
open Go.RowKit Go.Proofs.YtdggkgkbjgigmaaW.PrintWords Go.Proofs.YtdggkgkbjgigmaaW.PrintLast Go.Proofs.YtdggkgkbjgigmaaW.PrintMore
set_option linter.unusedVariables false
set_option linter.unusedSimpArgs false
/-- A plan that is the same but at one place is refused there. -/
theorem misI_at (w p : List Int) (x : Nat) (hx : ¬ rd w (x : Int) = rd p (x : Int)) (hb : ∀ j, j < x → rd w (j : Int) = rd p (j : Int)) : ∀ d i : Nat, i ≤ x → x < i + d → misI w p d i = ((x : Int), 14) := by
  intro d
  induction d with
  | zero => intro i h1 h2; omega
  | succ d ih =>
    intro i h1 h2
    simp only [misI]
    rcases Nat.eq_or_lt_of_le h1 with rfl | h3
    · rw [if_neg hx]
    · rw [if_pos (hb i h3)]
      exact ih (i + 1) (by omega) (by omega)
theorem misI_same (p : List Int) : ∀ d i : Nat, misI p p d i = (-1, 0) := by
  intro d
  induction d with
  | zero => intro i; rfl
  | succ d ih =>
    intro i
    simp only [misI]
    rw [if_pos trivial]
    exact ih (i + 1)
/-- The water of a plan, all together. -/
def sumI : List Int → Int
  | [] => 0
  | x :: r => x + sumI r
theorem run_sum {l : List S50} {a : Int} (ts : List Int) : ∀ m, LiqOK l a m → (runS l a m ts).2 = true → 0 ≤ sumI ((runS l a m ts).1.map Prod.fst) ∧ sumI ((runS l a m ts).1.map Prod.fst) ≤ 128849018880000 - m := by
  induction ts with
  | nil => intro m h _; have := h.m1; simp [runS, sumI]; omega
  | cons t r ih =>
    intro m h hb
    have hl := h.least t
    have m1 := h.m1
    by_cases c : 128849018880000 - m < leastS l a m t
    · simp only [runS] at hb; rw [if_pos c] at hb; cases hb
    · have e : runS l a m (t :: r) = ((leastS l a m t, m + leastS l a m t) :: (runS l a (m + leastS l a m t) r).1, (runS l a (m + leastS l a m t) r).2) := by simp only [runS]; rw [if_neg c]
      rw [e] at hb ⊢
      have := ih _ (h.wet (m' := m + leastS l a m t) (by omega) (by omega)) hb
      simp only [List.map_cons, sumI]
      omega
theorem least_mono {l : List S50} {a m t u : Int} (h : LiqOK l a m) (hu : u ≤ t) (ht : leastS l a m t ≤ 128849018880000 - m) : leastS l a m t ≤ leastS l a m u := by
  obtain ⟨b0, b1, b2, b3⟩ := h.least t
  obtain ⟨c0, c1, c2, c3⟩ := h.least u
  rcases Int.lt_or_le (leastS l a m u) (leastS l a m t) with h3 | h3
  · have := b2 _ c0 h3
    have := c3 _ (Int.le_refl _) (by omega)
    omega
  · exact h3
/-- What is left to do after some water. -/
theorem least_rest {l : List S50} {a m x u : Int} (h : LiqOK l a m) (h0 : 0 ≤ x) (h1 : x ≤ 128849018880000 - m) (h2 : x ≤ leastS l a m u) : leastS l a (m + x) u = leastS l a m u - x := by
  have hx := h.wet (m' := m + x) (by omega) (by omega)
  obtain ⟨b0, b1, b2, b3⟩ := h.least u
  obtain ⟨c0, c1, c2, c3⟩ := hx.least u
  rcases Int.lt_or_le (leastS l a (m + x) u) (leastS l a m u - x) with h3 | h3
  · have e1 := b2 (x + leastS l a (m + x) u) (by omega) (by omega)
    have e2 := c3 (leastS l a (m + x) u) (Int.le_refl _) (by omega)
    rw [← Int.add_assoc] at e1
    omega
  rcases Int.lt_or_le (leastS l a m u - x) (leastS l a (m + x) u) with h4 | h4
  · have e1 := c2 (leastS l a m u - x) (by omega) h4
    have e2 := b3 (leastS l a m u) (Int.le_refl _) (by omega)
    rw [show m + x + (leastS l a m u - x) = m + leastS l a m u by omega] at e1
    omega
  · omega
def lastI : Int → List Int → Int
  | x, [] => x
  | _, y :: r => lastI y r
theorem ordL_last : ∀ (r : List Int) (t : Int), ordL (t :: r) = true → lastI t r ≤ t := by
  intro r
  induction r with
  | nil => intro t _; exact Int.le_refl _
  | cons y r ih =>
    intro t h
    have he : ordL (t :: y :: r) = (decide (y < t) && ordL (y :: r)) := rfl
    rw [he, Bool.and_eq_true, decide_eq_true_iff] at h
    have := ih y h.2
    show lastI y r ≤ t
    omega
theorem ordL_tail (t : Int) (r : List Int) (h : ordL (t :: r) = true) : ordL r = true := by
  cases r with
  | nil => rfl
  | cons y r =>
    have he : ordL (t :: y :: r) = (decide (y < t) && ordL (y :: r)) := rfl
    rw [he, Bool.and_eq_true] at h
    exact h.2
/-- The waters of a plan come to the water for the last target. -/
theorem run_last {l : List S50} {a : Int} : ∀ (r : List Int) (t m : Int), LiqOK l a m → ordL (t :: r) = true → (runS l a m (t :: r)).2 = true → sumI ((runS l a m (t :: r)).1.map Prod.fst) = leastS l a m (lastI t r) := by
  intro r
  induction r with
  | nil =>
    intro t m h ho hb
    by_cases c : 128849018880000 - m < leastS l a m t
    · simp only [runS] at hb; rw [if_pos c] at hb; cases hb
    · have e : runS l a m [t] = ([(leastS l a m t, m + leastS l a m t)], true) := by simp only [runS]; rw [if_neg c]
      rw [e]
      simp only [List.map_cons, List.map_nil, sumI, lastI]
      omega
  | cons y r ih =>
    intro t m h ho hb
    have hl := h.least t
    have m1 := h.m1
    by_cases c : 128849018880000 - m < leastS l a m t
    · have e : runS l a m (t :: y :: r) = ([(-1, m)], false) := by rw [runS, if_pos c]
      rw [e] at hb; cases hb
    · have e : runS l a m (t :: y :: r) = ((leastS l a m t, m + leastS l a m t) :: (runS l a (m + leastS l a m t) (y :: r)).1, (runS l a (m + leastS l a m t) (y :: r)).2) := by rw [runS, if_neg c]
      rw [e] at hb ⊢
      have h2 := ih y _ (h.wet (m' := m + leastS l a m t) (by omega) (by omega)) (ordL_tail _ _ ho) hb
      have h3 := ordL_last _ _ ho
      have h4 := least_mono h h3 (by omega)
      have h5 := least_rest h (u := lastI t (y :: r)) hl.1 (by omega) h4
      simp only [List.map_cons, sumI]
      rw [h2]
      have e9 : lastI t (y :: r) = lastI y r := rfl
      rw [e9] at h5 ⊢
      omega
theorem sum_drop (p : List Int) (i : Nat) (hi : i < p.length) : sumI (p.drop i) = rd p (i : Int) + sumI (p.drop (i + 1)) := by
  rw [List.drop_eq_getElem_cons hi, rdI hi]
  rfl
theorem lastI_rd : ∀ (r : List Int) (t : Int), lastI t r = rd (t :: r) ((r.length : Nat) : Int) := by
  intro r
  induction r with
  | nil => intro t; rfl
  | cons y r ih => intro t; show lastI y r = _; rw [ih y]; rfl
theorem steps_sum (l : List S50) (ts : List Int) (x3 : Int) (x9 p : List Int) (a m : Int) (hp : p.length ≤ 8) (hn : ∀ x ∈ p, 0 ≤ x) : ∀ d i : Nat, i + d = p.length → ∀ (k : Nat) (s : Int), 0 ≤ s → s + sumI (p.drop i) ≤ 128849018880000 →
    spilelaw28_ReduceSteps.l0 (k + d) l ts x3 x9 s p (p.length : Int) (i : Int) a m = spilelaw28_ReduceSteps.l0 k l ts x3 x9 (s + sumI (p.drop i)) p (p.length : Int) (p.length : Int) a m := by
  intro d
  induction d with
  | zero =>
    intro i hi k s h0 h1
    rw [List.drop_eq_nil_of_le (by omega), show i = p.length by omega]
    simp only [sumI, Int.add_zero, Nat.add_zero]
  | succ d ih =>
    intro i hi k s h0 h1
    have w1 : wrap64 ((i : Int) + 1) = ((i + 1 : Nat) : Int) := by rw [w64_ (by omega) (by omega)]; rfl
    have hlt : i < p.length := by omega
    have hx : 0 ≤ rd p (i : Int) := by rw [rdI hlt]; exact hn _ (List.getElem_mem hlt)
    have hs : ∀ q : List Int, (∀ x ∈ q, 0 ≤ x) → 0 ≤ sumI q := by
      intro q
      induction q with
      | nil => intro _; exact Int.le_refl _
      | cons y q ihq =>
        intro hq
        have e1 := hq y (by simp)
        have e2 := ihq (fun x hx => hq x (by simp [hx]))
        show 0 ≤ y + sumI q
        omega
    have hd := hs (p.drop (i + 1)) (fun x hx => hn x (List.mem_of_mem_drop hx))
    have hsd := sum_drop p i hlt
    rw [hsd] at h1 ⊢
    rw [← Nat.add_assoc]
    conv => lhs; simp only [spilelaw28_ReduceSteps.l0]
    rw [if_pos (by omega), if_pos (by omega), if_pos (by omega), w1, w64_ (x := s + rd p (i : Int)) (by omega) (by omega), ih (i + 1) (by omega) k _ (by omega) (by omega), Int.add_assoc]
theorem rd_set_eq (p : List Int) (i : Nat) (v : Int) (hi : i < p.length) : rd (p.set i v) (i : Int) = v := by
  rw [rdI (by rw [List.length_set]; exact hi), List.getElem_set_self]
theorem rd_set_ne (p : List Int) (i j : Nat) (v : Int) (hi : i < p.length) (hj : j < i) : rd (p.set i v) (j : Int) = rd p (j : Int) := by
  rw [rdI (by rw [List.length_set]; omega), rdI (by omega), List.getElem_set_ne (by omega)]
theorem ReduceSteps_pure : Go.Proofs.Ytdggkgkbjgigmaa.reduceSteps.Pure := by
  intro l s ts a3 _ _ _ hw
  obtain ⟨a, m⟩ := s
  have hu : 0 ≤ a3 ∧ a3 ≤ 255 := YtdggkgkbjgigmaaR.wf_u8_ hw
  refine ⟨60, ?_⟩
  unfold spilelaw28_ReduceSteps.f
  rw [awake28]
  simp only [Option.bind_some, if_true]
  obtain ⟨b, hb⟩ := few_some l
  rw [hb]
  cases b
  · simp only [Option.bind_some, Bool.false_eq_true, if_false, spilelaw28_ReduceSteps.j0, if_true]
  simp only [Option.bind_some, if_true]
  by_cases h1 : (ts.length : Int) > 12
  · rw [decide_eq_true h1]; simp only [spilelaw28_ReduceSteps.j0, if_true]
  rw [decide_eq_false h1]
  simp only [spilelaw28_ReduceSteps.j0, Bool.false_eq_true, if_false]
  unfold reduce_Plan.f
  rw [if_pos (by omega)]
  simp only [Option.bind_some]
  by_cases h2 : (planR l a m ts).2 = 0
  case neg => rw [if_neg h2, planR_no h2]; rfl
  obtain ⟨g1, g2, g3, g4⟩ := planR_ok h2
  obtain ⟨q1, q2, q3, q4, q5⟩ := plnE_zero g1
  have hn : ∀ x ∈ (planR l a m ts).1, 0 ≤ x := by
    intro x hx
    rw [g3] at hx
    obtain ⟨y, hy, rfl⟩ := List.mem_map.1 hx
    exact runS_nonneg ts m q1 g2 y hy
  have hsum := run_sum ts m q1 g2
  have hme : (planR l a m ts).1 = (runS l a m ts).1.map Prod.fst := by rw [g3]
  rw [← hme] at hsum
  have hlast : ∀ t r, ts = t :: r → sumI (planR l a m ts).1 = leastS l a m (lastI t r) := by
    intro t r e
    rw [hme]
    subst e
    exact run_last r t m q1 q5 g2
  have hchk : ∀ w : List Int, w.length = ts.length → ∀ k, 20 < k → reduce_Check.f k l a m ts w = some (misI w (planR l a m ts).1 (planR l a m ts).1.length 0) := by
    intro w hl k hk
    rw [reduce_Check.plain l a m ts w (by omega) k hk]
    unfold chkR
    rw [hl, if_neg (not_not_intro g1), if_pos h2]
  clear hme g3 g2
  rw [if_pos h2]
  generalize (planR l a m ts).1 = p at *
  have hl8 : p.length ≤ 8 := by omega
  rw [hchk p g4 59 (by omega), misI_same]
  simp only [Option.bind_some]
  rw [if_pos (by rw [g4]), if_pos trivial]
  simp only [bne_self_eq_false, spilelaw28_ReduceSteps.j1, Bool.false_eq_true, if_false]
  by_cases h3 : (p.length : Int) = 0
  · rw [if_pos h3]
  rw [if_neg h3]
  obtain ⟨t, r, htr⟩ : ∃ t r, ts = t :: r := by
    cases ts with
    | nil => simp at g4; simp [g4] at h3
    | cons t r => exact ⟨t, r, rfl⟩
  have hlst := hlast t r htr
  have hloop := steps_sum l ts a3 p p a m hl8 hn p.length 0 (by omega) (58 - p.length) 0 (by omega) (by rw [List.drop_zero]; have := q1.m0; omega)
  rw [show 58 - p.length + p.length = 58 by omega, List.drop_zero, Int.zero_add] at hloop
  refine hloop.trans ?_
  obtain ⟨k, hk, hk2⟩ : ∃ k, 58 - p.length = k + 2 ∧ 40 < k := ⟨56 - p.length, by omega, by omega⟩
  rw [hk]
  simp only [spilelaw28_ReduceSteps.l0]
  have hr : rd ts ((ts.length : Int) - 1) = lastI t r := by
    rw [lastI_rd, htr]
    simp only [List.length_cons]
    rw [show (((r.length + 1 : Nat) : Int) - 1) = ((r.length : Nat) : Int) by omega]
  have hrr := rdI (ts := ts) (j := ts.length - 1) (by omega)
  rw [show ((ts.length - 1 : Nat) : Int) = (ts.length : Int) - 1 by omega] at hrr
  have hfar : ¬ (lastI t r < 0 ∨ 10000 < lastI t r) := fun e => q4 ((idxP_any _ _ _).2 ⟨ts.length - 1, by omega, by omega, by unfold farT; rw [show ((ts.length - 1 : Nat) : Int) = (ts.length : Int) - 1 by omega, hr]; exact decide_eq_true e⟩)
  have hwat : watS l a m (lastI t r) = (sumI p, 0) := by
    unfold watS
    rw [if_neg (not_not_intro ((lchk_iff _ _ _).2 q1)), if_neg hfar, ← hlst, if_neg (by omega)]
  have hw1 : wrap64 ((ts.length : Int) - 1) = (ts.length : Int) - 1 := w64_ (by omega) (by omega)
  rw [if_neg (by omega), hw1, if_pos (by omega), if_pos (by omega), hr, reduce_Water.plain, hwat]
  simp only [Option.bind_some, if_true, bne_self_eq_false, spilelaw28_ReduceSteps.j3, Bool.false_eq_true, if_false]
  unfold slices_Clone_int_int.f
  rw [if_neg h3, if_pos (by omega), w64_ (x := a3) (by omega) (by omega), Int.tmod_eq_emod_of_nonneg hu.1]
  simp only [Option.bind_some]
  have e0 := Int.emod_nonneg a3 h3
  have e1 := Int.emod_lt_of_pos a3 (show 0 < (p.length : Int) by omega)
  obtain ⟨j, hj⟩ : ∃ j : Nat, a3 % (p.length : Int) = (j : Int) := ⟨(a3 % (p.length : Int)).toNat, by omega⟩
  rw [hj] at e0 e1 ⊢
  have hjl : j < p.length := by omega
  have hb0 : 0 ≤ rd p (j : Int) := by rw [rdI hjl]; exact hn _ (List.getElem_mem hjl)
  have hb1 : wrap64 (rd p (j : Int) + 1) ≠ rd p (j : Int) := by
    intro e
    unfold wrap64 at e
    omega
  rw [if_pos e0, if_pos e1, Int.toNat_natCast, hchk _ (by rw [List.length_set]; exact g4) k (by omega), misI_at _ p j (by rw [rd_set_eq _ _ _ hjl]; exact hb1) (fun i hi => rd_set_ne p j i _ hjl hi) p.length 0 (by omega) (by omega)]
  simp only [Option.bind_some, if_true, beq_self_eq_true]

end Go.Proofs.Ytdggkgkbjgigmaa.PF
namespace Go.Proofs.Ytdggkgkbjgigmaa
/-- The given statement. -/
theorem reduceSteps_holds : Rows.ReduceStepsSaid := reduceSteps.over PF.ReduceSteps_pure
#print axioms reduceSteps_holds
end Go.Proofs.Ytdggkgkbjgigmaa
