/- The walk through the law RefusalTrue of package spilelaw30. -/
import Derived.Test.YtcdkbciagchlgaaDoorPF0
import Derived.Test.YtcdkbciagchlgaaDoorPF10
import Derived.Test.YtcdkbciagchlgaaDoorPF9
import Derived.Test.YtcdkbciagchlgaaDoorMPlans30
import Derived.Test.YtcdkbciagchlgaaDoorMRef30
import Derived.Test.YtcdkbciagchlgaaDoorMRef30b
import Derived.Test.YtcdkbciagchlgaaDoorMSig30
import Derived.Test.YtcdkbciagchlgaaDoorPF3
import Derived.Test.YtcdkbciagchlgaaDoorPF1
import Derived.Test.YtcdkbciagchlgaaDoorPF20
import Derived.Test.YtcdkbciagchlgaaDoorPF22
import Derived.Test.YtcdkbciagchlgaaDoorPF23
import Derived.Test.YtcdkbciagchlgaaDoorPF4
import Derived.Test.YtcdkbciagchlgaaDoorMEv
import Derived.Test.YtcdkbciagchlgaaDoorMFirst30
import Derived.Test.YtcdkbciagchlgaaDoorMRef30c
import Derived.Test.YtcdkbciagchlgaaDoorMRef30s
import Derived.Test.YtcdkbciagchlgaaDoorPF6
import Derived.Test.YtcdkbciagchlgaaDoorMRef30d
import Derived.Test.YtcdkbciagchlgaaDoorPF16
/- The sizes that the laws of layer 30 ask. -/
namespace Go.Proofs.YtcdkbciagchlgaaDoor.PF
open Go.RowKit Go.Proofs.YtcdkbciagchlgaaDoorW.PrintWords Go.Proofs.YtcdkbciagchlgaaDoorW.PrintLast Go.Proofs.YtcdkbciagchlgaaDoorW.PrintMore
set_option linter.unusedVariables false
set_option linter.unusedSimpArgs false
theorem few16_some (l : List S82) : ∃ b, spileref16_Few.f l = some b := by
  unfold spileref16_Few.f
  split
  · exact ⟨_, rfl⟩
  · split <;> exact ⟨_, rfl⟩
theorem few30_some (l : List S82) (L : List S45) (V C : List Int) (lo hi al : Int) (U : List Int) (f1 f2 f3 : Int) : ∃ b, spilelaw30_few.f l L V C lo hi al U f1 f2 f3 = some b ∧ (b = true → L.length ≤ 8 ∧ V.length ≤ 8 ∧ C.length ≤ 8 ∧ U.length ≤ 8) := by
  obtain ⟨b, hb⟩ := few16_some l
  unfold spilelaw30_few.f
  rw [hb, Option.bind_some]
  cases b
  · exact ⟨false, by rw [if_neg (by decide)], fun h => by cases h⟩
  rw [if_pos rfl]
  split
  case isFalse => exact ⟨false, rfl, fun h => by cases h⟩
  split
  case isFalse => exact ⟨false, rfl, fun h => by cases h⟩
  split
  case isFalse => exact ⟨false, rfl, fun h => by cases h⟩
  exact ⟨_, rfl, fun h => by have := of_decide_eq_true h; omega⟩
end Go.Proofs.YtcdkbciagchlgaaDoor.PF

/- A right refusal lets no units carry. -/
namespace Go.Proofs.YtcdkbciagchlgaaDoor.PF
open Go.RowKit Go.Proofs.YtcdkbciagchlgaaDoorW.PrintWords Go.Proofs.YtcdkbciagchlgaaDoorW.PrintLast Go.Proofs.YtcdkbciagchlgaaDoorW.PrintMore
set_option linter.unusedVariables false
set_option linter.unusedSimpArgs false
def sumU (u : List Int) : Nat → Int
  | 0 => 0
  | i + 1 => sumU u i + rd u (i : Int)
theorem dots_ge {low high U V u : List Int} {f1 f2 f3 : Int} {n : Nat} (hf : (f1 = 0 ∧ f2 = 0) ∨ (f1 = 1 ∧ f2 = 0) ∨ (f1 = 0 ∧ f2 = 1)) (hU : ∀ j : Nat, j < n → 0 ≤ rd U (j : Int)) (hu : ∀ j : Nat, j < n → 0 ≤ rd u (j : Int) ∧ rd u (j : Int) ≤ rd V (j : Int))
    (hl : ∀ j : Nat, j < n → lst f1 f2 f3 low high j ≤ rd U (j : Int)) : ∀ i : Nat, i ≤ n → f1 * dotS u low i + f3 * sumU u i - f2 * dotS u high i ≤ dotS U V i
  | 0, _ => by
    show f1 * 0 + f3 * 0 - f2 * 0 ≤ 0
    rw [Int.mul_zero, Int.mul_zero, Int.mul_zero]
    decide
  | i + 1, hi => by
    have ih := dots_ge hf hU hu hl i (by omega)
    obtain ⟨u0, u1⟩ := hu i (by omega)
    have p1 : rd U (i : Int) * rd u (i : Int) ≤ rd U (i : Int) * rd V (i : Int) := Int.mul_le_mul_of_nonneg_left u1 (hU i (by omega))
    have p2 : lst f1 f2 f3 low high i * rd u (i : Int) ≤ rd U (i : Int) * rd u (i : Int) := Int.mul_le_mul_of_nonneg_right (hl i (by omega)) u0
    show f1 * (dotS u low i + rd u (i : Int) * rd low (i : Int)) + f3 * (sumU u i + rd u (i : Int)) - f2 * (dotS u high i + rd u (i : Int) * rd high (i : Int)) ≤ dotS U V i + rd U (i : Int) * rd V (i : Int)
    unfold lst at p2
    have c1 := Int.mul_comm (rd u (i : Int)) (rd low (i : Int))
    have c2 := Int.mul_comm (rd u (i : Int)) (rd high (i : Int))
    rw [c1, c2]
    rcases hf with ⟨rfl, rfl⟩ | ⟨rfl, rfl⟩ | ⟨rfl, rfl⟩
    · rw [Int.zero_mul, Int.zero_mul, Int.zero_add, Int.sub_zero] at p2
      rw [Int.zero_mul, Int.zero_mul] at ih ⊢
      rw [Int.mul_add]
      omega
    · rw [Int.one_mul, Int.zero_mul, Int.sub_zero, Int.add_mul] at p2
      rw [Int.one_mul, Int.zero_mul] at ih ⊢
      rw [Int.mul_add]
      omega
    · rw [Int.zero_mul, Int.one_mul, Int.zero_add, Int.sub_mul] at p2
      rw [Int.zero_mul, Int.one_mul] at ih ⊢
      rw [Int.mul_add]
      omega
section
variable {l : List S82} {L : List S45} {V C U u : List Int} {lo hi al f1 f2 f3 : Int}
theorem RgtOK.none (hr : RgtOK l L V C lo hi al U f1 f2 f3) (hp : PlOK V u) (hs : al ≤ sumU u L.length) (h1 : mixM L u L.length * lo ≤ mixA L u L.length * dens l lo) (h2 : hi ≠ 10000 → mixA L u L.length * dens l (hi + 1) < mixM L u L.length * (hi + 1)) : False := by
  have hn := hr.n
  have hV := hr.o.lu
  have hf := hr.f
  have hr2 := hr.r
  unfold rigB at hr2
  rw [Bool.and_eq_true, Bool.not_eq_true', decide_eq_false_iff_not] at hr2
  obtain ⟨g1, g2⟩ := hr2
  obtain ⟨g3, g4⟩ := rgtB_iff.1 g2
  have hc : (f1 = 0 ∧ f2 = 0) ∨ (f1 = 1 ∧ f2 = 0) ∨ (f1 = 0 ∧ f2 = 1) := by have := hf.hf1; have := hf.hf2; have := hf.s; omega
  have hd := dots_ge (low := exLow l L lo) (high := exHigh l L hi) (V := V) (u := u) (f3 := f3) hc (fun j hj => (hf.u j (by omega)).1) (fun j hj => hp.b j (by omega)) g3 L.length (Nat.le_refl _)
  have e1 : dotS u (exLow l L lo) L.length = mixA L u L.length * dens l lo - mixM L u L.length * lo := dot_over lo (dens l lo) L.length (Nat.le_refl _)
  have hf3 : f3 * al ≤ f3 * sumU u L.length := Int.mul_le_mul_of_nonneg_left hs hf.hf3.1
  rw [e1] at hd
  rcases hc with ⟨rfl, rfl⟩ | ⟨rfl, rfl⟩ | ⟨rfl, rfl⟩
  · rw [Int.zero_mul, Int.zero_mul] at hd
    omega
  · rw [Int.one_mul, Int.zero_mul] at hd
    omega
  · have hh : hi ≠ 10000 := fun e => g1 ⟨rfl, e⟩
    have e2 : dotS u (exHigh l L hi) L.length = mixA L u L.length * dens l (hi + 1) - mixM L u L.length * (hi + 1) := by
      unfold exHigh
      rw [if_neg hh]
      exact dot_over (hi + 1) (dens l (hi + 1)) L.length (Nat.le_refl _)
    have := h2 hh
    rw [Int.zero_mul, Int.one_mul, e2] at hd
    omega
end
end Go.Proofs.YtcdkbciagchlgaaDoor.PF

/- Whether units carry, reckoned. -/
namespace Go.Proofs.YtcdkbciagchlgaaDoor.PF
open Go.RowKit Go.Proofs.YtcdkbciagchlgaaDoorW.PrintWords Go.Proofs.YtcdkbciagchlgaaDoorW.PrintLast Go.Proofs.YtcdkbciagchlgaaDoorW.PrintMore
set_option linter.unusedVariables false
set_option linter.unusedSimpArgs false
theorem sum_l0 {u : List Int} (hn : u.length ≤ 8) (hu : ∀ j : Nat, j < u.length → 0 ≤ rd u (j : Int) ∧ rd u (j : Int) ≤ 64) : ∀ (m i k : Nat), i + m = u.length → (0 ≤ sumU u i ∧ sumU u i ≤ 64 * (i : Int)) → blend_sum.l0 (k + m + 1) (sumU u i) u (u.length : Int) (i : Int) = some (sumU u u.length)
  | 0, i, k, hi, _ => by
    obtain rfl : i = u.length := by omega
    unfold blend_sum.l0
    rw [if_neg (by omega)]
  | m + 1, i, k, hi, hs => by
    obtain ⟨u0, u1⟩ := hu i (by omega)
    rw [show k + (m + 1) + 1 = (k + m + 1) + 1 by omega]
    unfold blend_sum.l0
    rw [if_pos (by omega), if_pos (by omega), if_pos (by omega), w64_ (x := sumU u i + rd u (i : Int)) (by omega) (by omega), inc30 (n := u.length) (by omega) (by omega)]
    exact sum_l0 hn hu m (i + 1) k (by omega) (by show 0 ≤ sumU u i + rd u (i : Int) ∧ sumU u i + rd u (i : Int) ≤ 64 * ((i + 1 : Nat) : Int); omega)
theorem sumU_rng {u : List Int} {n : Nat} (hu : ∀ j : Nat, j < n → 0 ≤ rd u (j : Int) ∧ rd u (j : Int) ≤ 64) : ∀ i : Nat, i ≤ n → 0 ≤ sumU u i ∧ sumU u i ≤ 64 * (i : Int)
  | 0, _ => ⟨Int.le_refl _, by show (0 : Int) ≤ 64 * ((0 : Nat) : Int); omega⟩
  | i + 1, hi => by
    obtain ⟨a, b⟩ := sumU_rng hu i (by omega)
    obtain ⟨c, d⟩ := hu i (by omega)
    show 0 ≤ sumU u i + rd u (i : Int) ∧ sumU u i + rd u (i : Int) ≤ 64 * ((i + 1 : Nat) : Int)
    omega
theorem sum_at {u : List Int} (hn : u.length ≤ 8) (hu : ∀ j : Nat, j < u.length → 0 ≤ rd u (j : Int) ∧ rd u (j : Int) ≤ 64) (k : Nat) : blend_sum.f (k + 9) u = some (sumU u u.length) := by
  have h := sum_l0 hn hu u.length 0 (k + 8 - u.length) (by omega) ⟨Int.le_refl _, by show (0 : Int) ≤ 64 * ((0 : Nat) : Int); omega⟩
  rw [show k + 8 - u.length + u.length + 1 = k + 9 by omega] at h
  exact h
section
variable {l : List S82} {L : List S45} {V C u : List Int} {lo hi al : Int}
theorem OrdOK.pl_rng (h : OrdOK l L V C lo hi al) (hp : PlOK V u) : u.length = L.length ∧ ∀ j : Nat, j < L.length → 0 ≤ rd u (j : Int) ∧ rd u (j : Int) ≤ 64 :=
  ⟨hp.len.trans h.lu, fun j hj => by
    have h1 := hp.b j (by rw [h.lu]; exact hj)
    have h2 := h.us j hj
    omega⟩
theorem OrdOK.dens_at (h : OrdOK l L V C lo hi al) {s : Int} (h0 : 0 ≤ s) (h1 : s ≤ 10000) : interpolate_Density.f l s = some (dens l s, 0) := by
  unfold interpolate_Density.f interpolate_right.f density_Check_s.f
  rw [Option.bind_some, Option.bind_some, (right_iff l).2 h.right, if_pos (show ((0 : Int) == 0) = true from rfl), if_neg (by omega), if_neg (by omega), h.right.at h0 h1]
  rfl
theorem OrdOK.dens_out (h : OrdOK l L V C lo hi al) {s : Int} (h1 : 10000 < s) : interpolate_Density.f l s = some (0, 2) := by
  unfold interpolate_Density.f interpolate_right.f density_Check_s.f
  rw [Option.bind_some, Option.bind_some, (right_iff l).2 h.right, if_pos (show ((0 : Int) == 0) = true from rfl), if_neg (by omega), if_pos h1]
theorem OrdOK.edge (h : OrdOK l L V C lo hi al) : ∃ D1, blend_edge.f l L V C lo hi al = some (dens l lo, D1) ∧ (hi ≠ 10000 → D1 = dens l (hi + 1)) := by
  have h0 := h.lo0; have h1 := h.lh; have h2 := h.h1
  unfold blend_edge.f
  rw [h.dens_at h0 (by omega), Option.bind_some, w64_ (x := hi + 1) (by omega) (by omega)]
  by_cases c : hi = 10000
  · rw [h.dens_out (s := hi + 1) (by omega)]
    exact ⟨0, rfl, fun e => absurd c e⟩
  · rw [h.dens_at (s := hi + 1) (by omega) (by omega)]
    exact ⟨_, rfl, fun _ => rfl⟩
theorem OrdOK.carries (h : OrdOK l L V C lo hi al) (hp : PlOK V u) {D1 : Int} (hD : hi ≠ 10000 → D1 = dens l (hi + 1)) (k : Nat) : ∃ b, blend_ends_carries.f (k + 9) (dens l lo) D1 L V C lo hi al u = some b ∧
    (b = true → al ≤ sumU u L.length ∧ mixM L u L.length * lo ≤ mixA L u L.length * dens l lo ∧ (hi ≠ 10000 → mixA L u L.length * dens l (hi + 1) < mixM L u L.length * (hi + 1))) := by
  obtain ⟨hl, hr⟩ := h.pl_rng hp
  have h0 := h.lo0; have h1 := h.lh; have h2 := h.h1; have n4 := h.n4
  have hu := h.uok hr
  obtain ⟨e, ⟨a0, a1⟩, m0, m1⟩ := hu.sums L.length (Nat.le_refl _)
  have hfit := hu.fit h.right L.length (Nat.le_refl _)
  unfold blend_ends_carries.f blend_mixed.f
  rw [if_pos ⟨by omega, by omega⟩, Option.bind_some, e, sum_at (by omega) (fun j hj => hr j (by omega)) k, Option.bind_some, hl]
  generalize mixA L u L.length = a at *
  generalize mixM L u L.length = m at *
  have hd := h.right.dens_rng h0 (show lo ≤ 10000 by omega)
  have hd2 := h.right.dens_rng (show (0 : Int) ≤ 10000 by decide) (show (10000 : Int) ≤ 10000 by decide)
  have p0 : a * 50000 ≤ a * dens l 10000 := Int.mul_le_mul_of_nonneg_left hd2.1 a0
  have p1 : a ≤ 52000000000 := by omega
  have q0 : 0 ≤ a * dens l lo := Int.mul_nonneg a0 (by omega)
  have q1 : a * dens l lo ≤ 52000000000 * 120000 := Int.mul_le_mul p1 hd.2 (by omega) (by decide)
  have q2 : 0 ≤ m * lo := Int.mul_nonneg m0 h0
  have q3 : m * lo ≤ 256000000000 * 10000 := Int.mul_le_mul (by omega) (by omega) h0 (by decide)
  have q4 : 0 ≤ m * (hi + 1) := Int.mul_nonneg m0 (by omega)
  have q5 : m * (hi + 1) ≤ 256000000000 * 10001 := Int.mul_le_mul (by omega) (by omega) (by omega) (by decide)
  simp only
  rw [w64_ (x := a * dens l lo) (by omega) (by omega), w64_ (x := m * lo) (by omega) (by omega), w64_ (x := hi + 1) (by omega) (by omega), w64_ (x := m * (hi + 1)) (by omega) (by omega)]
  by_cases c1 : sumU u L.length ≥ al
  case neg =>
    rw [if_neg c1]
    exact ⟨_, rfl, fun e => by cases e⟩
  by_cases c2 : a * dens l lo ≥ m * lo
  case neg =>
    rw [if_pos c1, if_neg c2]
    exact ⟨_, rfl, fun e => by cases e⟩
  by_cases c3 : hi = 10000
  · rw [if_pos c1, if_pos c2, if_pos c3]
    exact ⟨_, rfl, fun _ => ⟨c1, c2, fun e => absurd c3 e⟩⟩
  · have hd3 := h.right.dens_rng (s := hi + 1) (by omega) (by omega)
    have q6 : 0 ≤ a * dens l (hi + 1) := Int.mul_nonneg a0 (by omega)
    have q7 : a * dens l (hi + 1) ≤ 52000000000 * 120000 := Int.mul_le_mul p1 hd3.2 (by omega) (by decide)
    rw [if_pos c1, if_pos c2, if_neg c3, hD c3, w64_ (x := a * dens l (hi + 1)) (by omega) (by omega)]
    exact ⟨_, rfl, fun e => ⟨c1, c2, fun _ => of_decide_eq_true e⟩⟩
end
end Go.Proofs.YtcdkbciagchlgaaDoor.PF

/- What the law RefusalTrue meets, plainly. -/
namespace Go.Proofs.YtcdkbciagchlgaaDoor.PF
open Go.RowKit Go.Proofs.YtcdkbciagchlgaaDoorW.PrintWords Go.Proofs.YtcdkbciagchlgaaDoorW.PrintLast Go.Proofs.YtcdkbciagchlgaaDoorW.PrintMore
set_option linter.unusedVariables false
set_option linter.unusedSimpArgs false
theorem few29_l0 {V : List Int} (hn : V.length ≤ 1000000) (L : List S45) (C : List Int) (lo hi al : Int) : ∀ (m i : Nat) (p : Int), i + m = V.length → ∃ b, Ev (fun k => spileref29_Few.l0 k p (i : Int) L V C lo hi al) b
  | 0, i, p, h => ⟨_, Ev.ret (fun k => by
    simp only [spileref29_Few.l0]
    rw [if_neg (by omega)])⟩
  | m + 1, i, p, h => by
    have key : ∀ x : Bool, ∃ b, Ev (fun k => spileref29_Few.j2 k p (i : Int) x L V C lo hi al) b := by
      intro x
      cases x
      case true => exact ⟨true, Ev.ret (fun k => by simp only [spileref29_Few.j2, if_true])⟩
      by_cases c : wrap64 (p * wrap64 (rd V (i : Int) + 1)) > 4096
      · exact ⟨true, Ev.ret (fun k => by
          simp only [spileref29_Few.j2]
          rw [if_neg (by decide), if_pos (by omega), if_pos (by omega), if_pos c])⟩
      · obtain ⟨b, hb⟩ := few29_l0 hn L C lo hi al m (i + 1) (wrap64 (p * wrap64 (rd V (i : Int) + 1))) (by omega)
        exact ⟨b, Ev.step (fun k => by
          simp only [spileref29_Few.j2]
          rw [if_neg (by decide), if_pos (by omega), if_pos (by omega), if_neg c, inc30 (n := V.length) (by omega) (by omega)]) hb⟩
    by_cases c : rd V (i : Int) < 0
    · obtain ⟨b, hb⟩ := key true
      exact ⟨b, Ev.step (fun k => by
        simp only [spileref29_Few.l0]
        rw [if_pos (by omega), if_pos (by omega), if_pos c]) hb⟩
    · obtain ⟨b, hb⟩ := key (decide (rd V (i : Int) > 64))
      exact ⟨b, Ev.step (fun k => by
        simp only [spileref29_Few.l0]
        rw [if_pos (by omega), if_pos (by omega), if_neg c]) hb⟩
theorem few29_ev (L : List S45) (V C : List Int) (lo hi al : Int) : ∃ b, Ev (fun k => spileref29_Few.f k L V C lo hi al) b := by
  have key : ∀ x : Bool, (x = false → V.length ≤ 8) → ∃ b, Ev (fun k => spileref29_Few.j0 k x L V C lo hi al) b := by
    intro x hx
    cases x
    case true => exact ⟨false, Ev.ret (fun k => by simp only [spileref29_Few.j0, if_true])⟩
    obtain ⟨b, hb⟩ := few29_l0 (V := V) (by have := hx rfl; omega) L C lo hi al V.length 0 1 (by omega)
    exact ⟨b, Ev.step (fun k => by
      simp only [spileref29_Few.j0]
      rw [if_neg (by decide)]
      rfl) hb⟩
  unfold spileref29_Few.f
  by_cases c1 : (L.length : Int) > 8
  · simp only [if_pos c1]
    exact key true (fun e => by cases e)
  · simp only [if_neg c1]
    by_cases c2 : (V.length : Int) > 8
    · simp only [if_pos c2]
      exact key true (fun e => by cases e)
    · simp only [if_neg c2]
      exact key _ (fun _ => by omega)
theorem true_known (l : List S82) (L : List S45) (V C : List Int) (lo hi al : Int) {U : List Int} (hU : U.length ≤ 1000000) (f1 f2 f3 : Int) : ∃ (y1 : List Int) (y2 y3 y4 y5 c1 c2 r0 D1 : Int) (N : Nat), refusal_Refuse.f N l L V C lo hi al = some (y1, y2, y3, y4, y5) ∧ refusal_Check.f N l L V C lo hi al y1 y2 y3 y4 = some c1 ∧ refusal_Check.f N l L V C lo hi al U f1 f2 f3 = some c2 ∧ blend_Check.f l L V C lo hi al = some r0 ∧
    (r0 = 0 → blend_edge.f l L V C lo hi al = some (dens l lo, D1) ∧ 0 < V.length ∧ V.length ≤ 4 ∧ (∀ j : Nat, j < V.length → 0 ≤ rd V (j : Int) ∧ rd V (j : Int) ≤ 64) ∧ (∀ u, PlOK V u → ∃ r, blend_ends_carries.f N (dens l lo) D1 L V C lo hi al u = some r) ∧ ∀ u, PlOK V u → ∃ s, blend_sum.f N u = some s) ∧
    (y5 = 0 → c1 = 0) ∧ (y5 ≠ 0 → y1 = [] ∧ y2 = 0 ∧ y3 = 0 ∧ y4 = 0) ∧ ∀ n c, FirstR N (dens l lo) D1 L V C lo hi al r0 n c → (y5 = 0 → c = 20) ∧ (c2 = 0 → c = 20) ∧ (c = 0 → y5 = 22 ∧ al ≤ wrap64 (-n)) := by
  obtain ⟨c2, ⟨N2, k2⟩, -, i2⟩ := Check_ev l L V C lo hi al hU f1 f2 f3
  by_cases h : OrdOK l L V C lo hi al
  case neg =>
    obtain ⟨c1, ⟨N1, k1⟩, -, i1⟩ := Check_ev l L V C lo hi al (U := []) (by decide) 0 0 0
    have hb : bchk l L V C lo hi al ≠ 0 := fun e => h ((bchk_iff _ _ _ _ _ _ _).1 e)
    refine ⟨[], 0, 0, 0, 1, c1, c2, _, 0, N1 + N2, Refuse_no h _, k1 _ (by omega), k2 _ (by omega), bchk_plain l L V C lo hi al, fun e => absurd e hb, fun e => (by cases e), fun _ => ⟨rfl, rfl, rfl, rfl⟩, ?_⟩
    rintro n c (⟨-, rfl, rfl⟩ | ⟨e, -⟩ | ⟨e, -⟩)
    · exact ⟨fun e => (by cases e), fun e => absurd (i2.1 e).o h, fun e => (by cases e)⟩
    · exact absurd e hb
    · exact absurd e hb
  obtain ⟨D1, hE, hD⟩ := h.edge
  have hb : bchk l L V C lo hi al = 0 := (bchk_iff _ _ _ _ _ _ _).2 h
  have n0 := h.n0; have n4 := h.n4; have lu := h.lu; have al2 := h.al2
  obtain ⟨N3, k3⟩ := Refuse_ev h
  obtain ⟨y1, y2, y3, y4, y5, hy, hlen, hz, hR⟩ : ∃ y1 y2 y3 y4 y5, refuseR (rfsS l L V lo hi al) = (y1, y2, y3, y4, y5) ∧ y1.length ≤ 1000000 ∧ (y5 = 0 ∨ (y5 = 22 ∧ y1 = [] ∧ y2 = 0 ∧ y3 = 0 ∧ y4 = 0)) ∧ (y5 = 0 → RgtOK l L V C lo hi al y1 y2 y3 y4) := by
    rcases refuseR_cases (rfsS l L V lo hi al) with ⟨r, hr, h1, e⟩ | ⟨-, e⟩
    · obtain ⟨c, -, rfl⟩ := List.mem_map.1 hr
      exact ⟨_, _, _, _, _, e, by show (untS l L lo hi c).length ≤ 1000000; rw [untS_len]; omega, .inl rfl, fun _ => RgtOK.of_try h h1⟩
    · exact ⟨_, _, _, _, _, e, by decide, .inr ⟨rfl, rfl, rfl, rfl, rfl⟩, fun e => (by cases e)⟩
  obtain ⟨c1, ⟨N1, k1⟩, -, i1⟩ := Check_ev l L V C lo hi al hlen y2 y3 y4
  refine ⟨y1, y2, y3, y4, y5, c1, c2, 0, D1, N1 + N2 + N3 + 9, by rw [← hy]; exact k3 _ (by omega), k1 _ (by omega), k2 _ (by omega), by rw [bchk_plain, hb], fun _ => ⟨hE, by omega, by omega, fun j hj => h.us j (by omega), fun u hp => ?_, fun u hp => ?_⟩, fun e => i1.2 (hR e), fun e => ?_, ?_⟩
  · obtain ⟨b, q, -⟩ := h.carries hp hD (N1 + N2 + N3)
    exact ⟨b, q⟩
  · obtain ⟨ul, hr⟩ := h.pl_rng hp
    exact ⟨_, sum_at (by omega) (fun j hj => hr j (by omega)) _⟩
  · rcases hz with z | z
    · exact absurd z e
    · exact z.2
  · rintro n c (⟨e, -⟩ | ⟨-, rfl, rfl⟩ | ⟨-, rfl, u, s, hp, hc, hs, rfl⟩)
    · exact absurd rfl e
    · exact ⟨fun _ => rfl, fun _ => rfl, fun e => (by cases e)⟩
    · obtain ⟨b, q, g⟩ := h.carries hp hD (N1 + N2 + N3)
      rw [q] at hc
      obtain ⟨g1, g2, g3⟩ := g (Option.some.inj hc)
      obtain ⟨ul, hr⟩ := h.pl_rng hp
      have no : ∀ {U' : List Int} {a b c : Int}, RgtOK l L V C lo hi al U' a b c → False := fun hq => hq.none hp g1 g2 g3
      have e1 : s = sumU u L.length := by
        rw [sum_at (by omega) (fun j hj => hr j (by omega))] at hs
        rw [← Option.some.inj hs, ul]
      have hsr := sumU_rng hr L.length (Nat.le_refl _)
      refine ⟨fun e => (no (hR e)).elim, fun e => (no (i2.1 e)).elim, fun _ => ⟨?_, ?_⟩⟩
      · rcases hz with z | z
        · exact (no (hR z)).elim
        · exact z.1
      · rw [w64_ (x := -s) (by omega) (by omega), w64_ (by omega) (by omega)]
        omega
end Go.Proofs.YtcdkbciagchlgaaDoor.PF

/- The walk through the law RefusalTrue of package spilelaw30. -/
namespace Go.Proofs.YtcdkbciagchlgaaDoor.PF
open Go.RowKit Go.Proofs.YtcdkbciagchlgaaDoorW.PrintWords Go.Proofs.YtcdkbciagchlgaaDoorW.PrintLast Go.Proofs.YtcdkbciagchlgaaDoorW.PrintMore
set_option linter.unusedVariables false
set_option linter.unusedSimpArgs false
def spilelaw30_RefusalTrue.f (l : List S82) (L : List S45) (V C : List Int) (lo hi al : Int) (U : List Int) (f1 f2 f3 : Int) : Option Bool := some true
set_option maxHeartbeats 40000000 in
set_option maxRecDepth 100000 in
theorem spilelaw30_RefusalTrue.calls (A0 : Option Addr) (c0 : Nat) (l : List S82) (A1_0 : Option Addr) (c1_0 : Nat) (L : List S45) (A1_1 : Option Addr) (c1_1 : Nat) (V : List Int) (A1_2 : Option Addr) (c1_2 : Nat) (C : List Int) (lo hi al : Int) (A2_0 : Option Addr) (c2_0 : Nat) (U : List Int) (f1 f2 f3 : Int) (r : Bool) (w : World)
    (hr0 : Kd.C k82 w A0 l.length l) (hc0 : l.length ≤ c0) (hr1_0 : Kd.C k45 w A1_0 L.length L) (hc1_0 : L.length ≤ c1_0) (hr1_1 : Kd.C (Kd.int .i64) w A1_1 V.length V) (hc1_1 : V.length ≤ c1_1) (hr1_2 : Kd.C (Kd.int .i64) w A1_2 C.length C) (hc1_2 : C.length ≤ c1_2) (hr2_0 : Kd.C (Kd.int .i64) w A2_0 U.length U) (hc2_0 : U.length ≤ c2_0)
    (hA_ : Aside0 (∀ w1, Below w.heap.size w w1 → AwakeOK w1)) (hP_ : Aside0 (∀ w1, Below w.heap.size w w1 → WhyOK w1)) (h : spilelaw30_RefusalTrue.f l L V C lo hi al U f1 f2 f3 = some r) :
    Calls Tryd.prog 8 #[.slice A0 l.length c0, .agg #[.slice A1_0 L.length c1_0, .slice A1_1 V.length c1_1, .slice A1_2 C.length c1_2, .int .i64 lo, .int .i64 hi, .int .i64 al], .agg #[.slice A2_0 U.length c2_0, .int .i64 f1, .int .i64 f2, .int .i64 f3]] w fun e w' => e = .returned (.bool r) ∧ Below w.heap.size w w' := by
  have hu1 := Tryd.underlying26
  have hu2 := Tryd.underlying30
  obtain rfl : true = r := Option.some.inj h
  clear h
  obtain ⟨b, hb, hlen⟩ := few30_some l L V C lo hi al U f1 f2 f3
  obtain ⟨b2, N9, hb2⟩ := few29_ev L V C lo hi al
  obtain ⟨N8, hsame⟩ := same_ev (x := []) (by decide) 0 0 0
  have HSM := Aside0.mk (hsame N8 (Nat.le_refl _))
  have HFW := Aside0.mk (fun (W : World) (hw : Below w.heap.size w W) => spilelaw30_few.calls A0 c0 l A1_0 c1_0 L A1_1 c1_1 V A1_2 c1_2 C lo hi al A2_0 c2_0 U f1 f2 f3 b W (Kd.C_below hr0 hw) hc0 (Kd.C_below hr1_0 hw) hc1_0 (Kd.C_below hr1_1 hw) hc1_1 (Kd.C_below hr1_2 hw) hc1_2 (Kd.C_below hr2_0 hw) hc2_0 hb)
  have HF9 := Aside0.mk (fun (W : World) (hw : Below w.heap.size w W) => spileref29_Few.calls N9 A1_0 c1_0 L A1_1 c1_1 V A1_2 c1_2 C lo hi al b2 W (Kd.C_below hr1_0 hw) hc1_0 (Kd.C_below hr1_1 hw) hc1_1 (Kd.C_below hr1_2 hw) hc1_2 (hb2 _ (Nat.le_refl _)))
  have HRS := Aside0.mk (fun (N : Nat) (y1 : List Int) (y2 y3 y4 y5 : Int) (k3 : refusal_Refuse.f N l L V C lo hi al = some (y1, y2, y3, y4, y5)) (W : World) (hw : Below w.heap.size w W) => refusal_Refuse.calls N A0 c0 l A1_0 c1_0 L A1_1 c1_1 V A1_2 c1_2 C lo hi al y1 y2 y3 y4 y5 W (Kd.C_below hr0 hw) hc0 (Kd.C_below hr1_0 hw) hc1_0 (Kd.C_below hr1_1 hw) hc1_1 (Kd.C_below hr1_2 hw) hc1_2 k3)
  have HCK := Aside0.mk (fun (N : Nat) (A4 : Option Addr) (c4 : Nat) (y1 : List Int) (y2 y3 y4 e : Int) (W : World) (hw : Below w.heap.size w W) (h4 : Kd.C (Kd.int .i64) W A4 y1.length y1) (hc4 : y1.length ≤ c4) (hE : refusal_Check.f N l L V C lo hi al y1 y2 y3 y4 = some e) => refusal_Check.calls N A0 c0 l A1_0 c1_0 L A1_1 c1_1 V A1_2 c1_2 C lo hi al A4 c4 y1 y2 y3 y4 e W (Kd.C_below hr0 hw) hc0 (Kd.C_below hr1_0 hw) hc1_0 (Kd.C_below hr1_1 hw) hc1_1 (Kd.C_below hr1_2 hw) hc1_2 h4 hc4 hE)
  have HMS := Aside0.mk (fun (N : Nat) (D0 D1 r0 : Int) (hf : blend_Check.f l L V C lo hi al = some r0) (hok : r0 = 0 → blend_edge.f l L V C lo hi al = some (D0, D1) ∧ 0 < V.length ∧ V.length ≤ 4 ∧ (∀ j : Nat, j < V.length → 0 ≤ rd V (j : Int) ∧ rd V (j : Int) ≤ 64) ∧ (∀ u, PlOK V u → ∃ r, blend_ends_carries.f N D0 D1 L V C lo hi al u = some r) ∧ ∀ u, PlOK V u → ∃ s, blend_sum.f N u = some s) (W : World) (hw : Below w.heap.size w W) =>
    blend_Most.calls N A0 c0 l A1_0 c1_0 L A1_1 c1_1 V A1_2 c1_2 C lo hi al D0 D1 r0 W (Kd.C_below hr0 hw) hc0 (Kd.C_below hr1_0 hw) hc1_0 (Kd.C_below hr1_1 hw) hc1_1 (Kd.C_below hr1_2 hw) hc1_2 hf hok)
  have HU := Aside0.mk (fun (W : World) (hw : Below w.heap.size w W) => (⟨Kd.C_below hr2_0 hw, hc2_0⟩ : _ ∧ _))
  have HLEN := Aside0.mk hlen
  clear hr0 hc0 hr1_0 hc1_0 hr1_1 hc1_1 hr1_2 hc1_2 hr2_0 hc2_0 hb hlen hb2 hsame hP_
  have HB := Aside0.mk (Below.refl w.heap.size w)
  go_enter Tryd.func8, Tryd.ntmps8
  go_wp2_with fail
  obtain ⟨w1, hw1⟩ : ∃ x, x = (w.alloc (.cells #[.slice A1_0 L.length c1_0, .slice A1_1 V.length c1_1, .slice A1_2 C.length c1_2, .int .i64 lo, .int .i64 hi, .int .i64 al] 26)).alloc (.cells #[.slice A2_0 U.length c2_0, .int .i64 f1, .int .i64 f2, .int .i64 f3] 30) := ⟨_, rfl⟩
  have HB1 := Aside0.mk (show Below w.heap.size w w1 by rw [hw1]; exact below_alloc (below_alloc (Below.refl _ _) _) _)
  have BO := Aside0.mk (show w1.heap[w.heap.size]? = some (.cells #[.slice A1_0 L.length c1_0, .slice A1_1 V.length c1_1, .slice A1_2 C.length c1_2, .int .i64 lo, .int .i64 hi, .int .i64 al] 26 (0, 0)) by rw [hw1]; exact blk_alloc (blk_new w _) _)
  have BR := Aside0.mk (show w1.heap[w.heap.size + 1]? = some (.cells #[.slice A2_0 U.length c2_0, .int .i64 f1, .int .i64 f2, .int .i64 f3] 30 (0, 0)) by
    have h1 := blk_new (w.alloc (.cells #[.slice A1_0 L.length c1_0, .slice A1_1 V.length c1_1, .slice A1_2 C.length c1_2, .int .i64 lo, .int .i64 hi, .int .i64 al] 26)) (.cells #[.slice A2_0 U.length c2_0, .int .i64 f1, .int .i64 f2, .int .i64 f3] 30)
    rw [World.size_alloc] at h1
    rw [hw1]; exact h1)
  rw [← hw1]
  replace HB := HB1
  clear hw1 HB1
  obtain ⟨bo, hbo⟩ : ∃ b, b = w.heap.size := ⟨_, rfl⟩
  obtain ⟨br, hbr⟩ : ∃ b, b = w.heap.size + 1 := ⟨_, rfl⟩
  rw [← hbr] at BR
  rw [← hbo] at BO
  try rw [← hbr]
  try rw [← hbo]
  clear hbo hbr
  refine (spilelaw30_awake.calls true _ rfl (hA_.out _ HB.out)).mono ?_
  rintro e w2 ⟨rfl, hb⟩
  replace HB := Aside0.mk (below_step HB.out hb)
  replace BO := Aside0.mk (blk_below BO.out hb)
  replace BR := Aside0.mk (blk_below BR.out hb)
  clear hb
  have d0 : w2.cell? ⟨bo, 0, none⟩ = some (.slice A1_0 L.length c1_0) := blk_cell BO.out 0
  have d1 : w2.cell? ⟨bo, 1, none⟩ = some (.slice A1_1 V.length c1_1) := blk_cell BO.out 1
  have d2 : w2.cell? ⟨bo, 2, none⟩ = some (.slice A1_2 C.length c1_2) := blk_cell BO.out 2
  have d3 : w2.cell? ⟨bo, 3, none⟩ = some (.int .i64 lo) := blk_cell BO.out 3
  have d4 : w2.cell? ⟨bo, 4, none⟩ = some (.int .i64 hi) := blk_cell BO.out 4
  have d5 : w2.cell? ⟨bo, 5, none⟩ = some (.int .i64 al) := blk_cell BO.out 5
  have x0 : w2.cell? ⟨br, 0, none⟩ = some (.slice A2_0 U.length c2_0) := blk_cell BR.out 0
  have x1 : w2.cell? ⟨br, 1, none⟩ = some (.int .i64 f1) := blk_cell BR.out 1
  have x2 : w2.cell? ⟨br, 2, none⟩ = some (.int .i64 f2) := blk_cell BR.out 2
  have x3 : w2.cell? ⟨br, 3, none⟩ = some (.int .i64 f3) := blk_cell BR.out 3
  go_wp2_with fail
  refine (HFW.out _ HB.out).mono ?_
  rintro e w3 ⟨rfl, hb⟩
  clear d0 d1 d2 d3 d4 d5 x0 x1 x2 x3
  replace HB := Aside0.mk (below_step HB.out hb)
  replace BO := Aside0.mk (blk_below BO.out hb)
  replace BR := Aside0.mk (blk_below BR.out hb)
  clear hb
  have d0 : w3.cell? ⟨bo, 0, none⟩ = some (.slice A1_0 L.length c1_0) := blk_cell BO.out 0
  have d1 : w3.cell? ⟨bo, 1, none⟩ = some (.slice A1_1 V.length c1_1) := blk_cell BO.out 1
  have d2 : w3.cell? ⟨bo, 2, none⟩ = some (.slice A1_2 C.length c1_2) := blk_cell BO.out 2
  have d3 : w3.cell? ⟨bo, 3, none⟩ = some (.int .i64 lo) := blk_cell BO.out 3
  have d4 : w3.cell? ⟨bo, 4, none⟩ = some (.int .i64 hi) := blk_cell BO.out 4
  have d5 : w3.cell? ⟨bo, 5, none⟩ = some (.int .i64 al) := blk_cell BO.out 5
  have x0 : w3.cell? ⟨br, 0, none⟩ = some (.slice A2_0 U.length c2_0) := blk_cell BR.out 0
  have x1 : w3.cell? ⟨br, 1, none⟩ = some (.int .i64 f1) := blk_cell BR.out 1
  have x2 : w3.cell? ⟨br, 2, none⟩ = some (.int .i64 f2) := blk_cell BR.out 2
  have x3 : w3.cell? ⟨br, 3, none⟩ = some (.int .i64 f3) := blk_cell BR.out 3
  cases b
  case false =>
    go_wp2_with fail
    go_ret
    exact ⟨rfl, HB.out⟩
  have hU8 := (HLEN.out (by first | rfl | trivial)).2.2.2
  obtain ⟨y1, y2, y3, y4, y5, ck1, ck2, r0, D1, N, k1, k2, k3, k4, k5, k6, k7, k8⟩ := true_known l L V C lo hi al (U := U) (by omega) f1 f2 f3
  clear hU8
  have K1 := Aside0.mk k1
  have K2 := Aside0.mk k2
  have K3 := Aside0.mk k3
  have K4 := Aside0.mk k4
  have K5 := Aside0.mk k5
  have K6 := Aside0.mk k6
  have K7 := Aside0.mk k7
  have K8 := Aside0.mk k8
  clear k1 k2 k3 k4 k5 k6 k7 k8
  go_wp2_with fail
  refine (HF9.out _ HB.out).mono ?_
  rintro e w4 ⟨rfl, hb⟩
  clear d0 d1 d2 d3 d4 d5 x0 x1 x2 x3
  replace HB := Aside0.mk (below_step HB.out hb)
  replace BO := Aside0.mk (blk_below BO.out hb)
  replace BR := Aside0.mk (blk_below BR.out hb)
  clear hb
  have d0 : w4.cell? ⟨bo, 0, none⟩ = some (.slice A1_0 L.length c1_0) := blk_cell BO.out 0
  have d1 : w4.cell? ⟨bo, 1, none⟩ = some (.slice A1_1 V.length c1_1) := blk_cell BO.out 1
  have d2 : w4.cell? ⟨bo, 2, none⟩ = some (.slice A1_2 C.length c1_2) := blk_cell BO.out 2
  have d3 : w4.cell? ⟨bo, 3, none⟩ = some (.int .i64 lo) := blk_cell BO.out 3
  have d4 : w4.cell? ⟨bo, 4, none⟩ = some (.int .i64 hi) := blk_cell BO.out 4
  have d5 : w4.cell? ⟨bo, 5, none⟩ = some (.int .i64 al) := blk_cell BO.out 5
  have x0 : w4.cell? ⟨br, 0, none⟩ = some (.slice A2_0 U.length c2_0) := blk_cell BR.out 0
  have x1 : w4.cell? ⟨br, 1, none⟩ = some (.int .i64 f1) := blk_cell BR.out 1
  have x2 : w4.cell? ⟨br, 2, none⟩ = some (.int .i64 f2) := blk_cell BR.out 2
  have x3 : w4.cell? ⟨br, 3, none⟩ = some (.int .i64 f3) := blk_cell BR.out 3
  cases b2
  case false =>
    go_wp2_with fail
    go_ret
    exact ⟨rfl, HB.out⟩
  go_wp2_with fail
  refine (HRS.out N y1 y2 y3 y4 y5 K1.out _ HB.out).mono ?_
  rintro e w5 ⟨v1, rfl, ho1, hb⟩
  clear d0 d1 d2 d3 d4 d5 x0 x1 x2 x3
  replace HB := Aside0.mk (below_step HB.out hb)
  replace BO := Aside0.mk (blk_below BO.out hb)
  replace BR := Aside0.mk (blk_below BR.out hb)
  obtain ⟨A5, c5, rfl⟩ := Kd.R_slice ho1
  have F5 := Aside0.mk (Kd.R_reads' ho1).2
  clear ho1
  clear hb
  have d0 : w5.cell? ⟨bo, 0, none⟩ = some (.slice A1_0 L.length c1_0) := blk_cell BO.out 0
  have d1 : w5.cell? ⟨bo, 1, none⟩ = some (.slice A1_1 V.length c1_1) := blk_cell BO.out 1
  have d2 : w5.cell? ⟨bo, 2, none⟩ = some (.slice A1_2 C.length c1_2) := blk_cell BO.out 2
  have d3 : w5.cell? ⟨bo, 3, none⟩ = some (.int .i64 lo) := blk_cell BO.out 3
  have d4 : w5.cell? ⟨bo, 4, none⟩ = some (.int .i64 hi) := blk_cell BO.out 4
  have d5 : w5.cell? ⟨bo, 5, none⟩ = some (.int .i64 al) := blk_cell BO.out 5
  have x0 : w5.cell? ⟨br, 0, none⟩ = some (.slice A2_0 U.length c2_0) := blk_cell BR.out 0
  have x1 : w5.cell? ⟨br, 1, none⟩ = some (.int .i64 f1) := blk_cell BR.out 1
  have x2 : w5.cell? ⟨br, 2, none⟩ = some (.int .i64 f2) := blk_cell BR.out 2
  have x3 : w5.cell? ⟨br, 3, none⟩ = some (.int .i64 f3) := blk_cell BR.out 3
  go_upto_region 6 with fail
  obtain ⟨w6, hw_⟩ : ∃ x, x = w5.alloc (.cells #[.slice A5 y1.length c5, .int .i64 y2, .int .i64 y3, .int .i64 y4] 30) := ⟨_, rfl⟩
  rw [← hw_]
  have hb : Below w5.heap.size w5 w6 := by rw [hw_]; exact below_alloc (Below.refl _ _) _
  clear d0 d1 d2 d3 d4 d5 x0 x1 x2 x3
  replace HB := Aside0.mk (below_step HB.out hb)
  replace BO := Aside0.mk (blk_below BO.out hb)
  replace BR := Aside0.mk (blk_below BR.out hb)
  replace F5 := Aside0.mk (⟨F5.out.1, Kd.C_below F5.out.2 hb⟩ : _ ∧ _)
  have BX := Aside0.mk (show w6.heap[w5.heap.size]? = some (.cells #[.slice A5 y1.length c5, .int .i64 y2, .int .i64 y3, .int .i64 y4] 30 (0, 0)) by rw [hw_]; exact blk_new _ _)
  clear hw_ hb
  obtain ⟨g1, hg_⟩ : ∃ g, g = w5.heap.size := ⟨_, rfl⟩
  rw [← hg_] at BX
  try rw [← hg_]
  clear hg_
  have d0 : w6.cell? ⟨bo, 0, none⟩ = some (.slice A1_0 L.length c1_0) := blk_cell BO.out 0
  have d1 : w6.cell? ⟨bo, 1, none⟩ = some (.slice A1_1 V.length c1_1) := blk_cell BO.out 1
  have d2 : w6.cell? ⟨bo, 2, none⟩ = some (.slice A1_2 C.length c1_2) := blk_cell BO.out 2
  have d3 : w6.cell? ⟨bo, 3, none⟩ = some (.int .i64 lo) := blk_cell BO.out 3
  have d4 : w6.cell? ⟨bo, 4, none⟩ = some (.int .i64 hi) := blk_cell BO.out 4
  have d5 : w6.cell? ⟨bo, 5, none⟩ = some (.int .i64 al) := blk_cell BO.out 5
  have x0 : w6.cell? ⟨br, 0, none⟩ = some (.slice A2_0 U.length c2_0) := blk_cell BR.out 0
  have x1 : w6.cell? ⟨br, 1, none⟩ = some (.int .i64 f1) := blk_cell BR.out 1
  have x2 : w6.cell? ⟨br, 2, none⟩ = some (.int .i64 f2) := blk_cell BR.out 2
  have x3 : w6.cell? ⟨br, 3, none⟩ = some (.int .i64 f3) := blk_cell BR.out 3
  have p0 : w6.cell? ⟨g1, 0, none⟩ = some (.slice A5 y1.length c5) := blk_cell BX.out 0
  have p1 : w6.cell? ⟨g1, 1, none⟩ = some (.int .i64 y2) := blk_cell BX.out 1
  have p2 : w6.cell? ⟨g1, 2, none⟩ = some (.int .i64 y3) := blk_cell BX.out 2
  have p3 : w6.cell? ⟨g1, 3, none⟩ = some (.int .i64 y4) := blk_cell BX.out 3
  go_wp2_with fail
  refine (HMS.out N (dens l lo) D1 r0 K4.out K5.out _ HB.out).mono ?_
  rintro e w7 ⟨v, nn, cc, rfl, hb, hfr⟩
  clear d0 d1 d2 d3 d4 d5 x0 x1 x2 x3 p0 p1 p2 p3
  replace HB := Aside0.mk (below_step HB.out hb)
  replace BO := Aside0.mk (blk_below BO.out hb)
  replace BR := Aside0.mk (blk_below BR.out hb)
  replace BX := Aside0.mk (blk_below BX.out hb)
  replace F5 := Aside0.mk (⟨F5.out.1, Kd.C_below F5.out.2 hb⟩ : _ ∧ _)
  have HFR := Aside0.mk (K8.out nn cc hfr)
  clear hfr
  clear hb
  have d0 : w7.cell? ⟨bo, 0, none⟩ = some (.slice A1_0 L.length c1_0) := blk_cell BO.out 0
  have d1 : w7.cell? ⟨bo, 1, none⟩ = some (.slice A1_1 V.length c1_1) := blk_cell BO.out 1
  have d2 : w7.cell? ⟨bo, 2, none⟩ = some (.slice A1_2 C.length c1_2) := blk_cell BO.out 2
  have d3 : w7.cell? ⟨bo, 3, none⟩ = some (.int .i64 lo) := blk_cell BO.out 3
  have d4 : w7.cell? ⟨bo, 4, none⟩ = some (.int .i64 hi) := blk_cell BO.out 4
  have d5 : w7.cell? ⟨bo, 5, none⟩ = some (.int .i64 al) := blk_cell BO.out 5
  have x0 : w7.cell? ⟨br, 0, none⟩ = some (.slice A2_0 U.length c2_0) := blk_cell BR.out 0
  have x1 : w7.cell? ⟨br, 1, none⟩ = some (.int .i64 f1) := blk_cell BR.out 1
  have x2 : w7.cell? ⟨br, 2, none⟩ = some (.int .i64 f2) := blk_cell BR.out 2
  have x3 : w7.cell? ⟨br, 3, none⟩ = some (.int .i64 f3) := blk_cell BR.out 3
  have p0 : w7.cell? ⟨g1, 0, none⟩ = some (.slice A5 y1.length c5) := blk_cell BX.out 0
  have p1 : w7.cell? ⟨g1, 1, none⟩ = some (.int .i64 y2) := blk_cell BX.out 1
  have p2 : w7.cell? ⟨g1, 2, none⟩ = some (.int .i64 y3) := blk_cell BX.out 2
  have p3 : w7.cell? ⟨g1, 3, none⟩ = some (.int .i64 y4) := blk_cell BX.out 3
  by_cases z0 : y5 = 0
  · skip
    have z1 := K6.out z0
    have z7 := HFR.out.1 z0
    subst z0
    subst z1
    subst z7
    go_wp2_with fail
    refine (HCK.out N A5 c5 y1 y2 y3 y4 0 _ HB.out F5.out.2 F5.out.1 K2.out).mono ?_
    rintro e w8 ⟨rfl, hb⟩
    clear d0 d1 d2 d3 d4 d5 x0 x1 x2 x3 p0 p1 p2 p3
    replace HB := Aside0.mk (below_step HB.out hb)
    replace BO := Aside0.mk (blk_below BO.out hb)
    replace BR := Aside0.mk (blk_below BR.out hb)
    replace BX := Aside0.mk (blk_below BX.out hb)
    replace F5 := Aside0.mk (⟨F5.out.1, Kd.C_below F5.out.2 hb⟩ : _ ∧ _)
    clear hb
    have d0 : w8.cell? ⟨bo, 0, none⟩ = some (.slice A1_0 L.length c1_0) := blk_cell BO.out 0
    have d1 : w8.cell? ⟨bo, 1, none⟩ = some (.slice A1_1 V.length c1_1) := blk_cell BO.out 1
    have d2 : w8.cell? ⟨bo, 2, none⟩ = some (.slice A1_2 C.length c1_2) := blk_cell BO.out 2
    have d3 : w8.cell? ⟨bo, 3, none⟩ = some (.int .i64 lo) := blk_cell BO.out 3
    have d4 : w8.cell? ⟨bo, 4, none⟩ = some (.int .i64 hi) := blk_cell BO.out 4
    have d5 : w8.cell? ⟨bo, 5, none⟩ = some (.int .i64 al) := blk_cell BO.out 5
    have x0 : w8.cell? ⟨br, 0, none⟩ = some (.slice A2_0 U.length c2_0) := blk_cell BR.out 0
    have x1 : w8.cell? ⟨br, 1, none⟩ = some (.int .i64 f1) := blk_cell BR.out 1
    have x2 : w8.cell? ⟨br, 2, none⟩ = some (.int .i64 f2) := blk_cell BR.out 2
    have x3 : w8.cell? ⟨br, 3, none⟩ = some (.int .i64 f3) := blk_cell BR.out 3
    have p0 : w8.cell? ⟨g1, 0, none⟩ = some (.slice A5 y1.length c5) := blk_cell BX.out 0
    have p1 : w8.cell? ⟨g1, 1, none⟩ = some (.int .i64 y2) := blk_cell BX.out 1
    have p2 : w8.cell? ⟨g1, 2, none⟩ = some (.int .i64 y3) := blk_cell BX.out 2
    have p3 : w8.cell? ⟨g1, 3, none⟩ = some (.int .i64 y4) := blk_cell BX.out 3
    go_wp2_with fail
    refine (HCK.out N A2_0 c2_0 U f1 f2 f3 ck2 _ HB.out (HU.out _ HB.out).1 (HU.out _ HB.out).2 K3.out).mono ?_
    rintro e w9 ⟨rfl, hb⟩
    clear d0 d1 d2 d3 d4 d5 x0 x1 x2 x3 p0 p1 p2 p3
    replace HB := Aside0.mk (below_step HB.out hb)
    replace BO := Aside0.mk (blk_below BO.out hb)
    replace BR := Aside0.mk (blk_below BR.out hb)
    replace BX := Aside0.mk (blk_below BX.out hb)
    replace F5 := Aside0.mk (⟨F5.out.1, Kd.C_below F5.out.2 hb⟩ : _ ∧ _)
    clear hb
    have d0 : w9.cell? ⟨bo, 0, none⟩ = some (.slice A1_0 L.length c1_0) := blk_cell BO.out 0
    have d1 : w9.cell? ⟨bo, 1, none⟩ = some (.slice A1_1 V.length c1_1) := blk_cell BO.out 1
    have d2 : w9.cell? ⟨bo, 2, none⟩ = some (.slice A1_2 C.length c1_2) := blk_cell BO.out 2
    have d3 : w9.cell? ⟨bo, 3, none⟩ = some (.int .i64 lo) := blk_cell BO.out 3
    have d4 : w9.cell? ⟨bo, 4, none⟩ = some (.int .i64 hi) := blk_cell BO.out 4
    have d5 : w9.cell? ⟨bo, 5, none⟩ = some (.int .i64 al) := blk_cell BO.out 5
    have x0 : w9.cell? ⟨br, 0, none⟩ = some (.slice A2_0 U.length c2_0) := blk_cell BR.out 0
    have x1 : w9.cell? ⟨br, 1, none⟩ = some (.int .i64 f1) := blk_cell BR.out 1
    have x2 : w9.cell? ⟨br, 2, none⟩ = some (.int .i64 f2) := blk_cell BR.out 2
    have x3 : w9.cell? ⟨br, 3, none⟩ = some (.int .i64 f3) := blk_cell BR.out 3
    have p0 : w9.cell? ⟨g1, 0, none⟩ = some (.slice A5 y1.length c5) := blk_cell BX.out 0
    have p1 : w9.cell? ⟨g1, 1, none⟩ = some (.int .i64 y2) := blk_cell BX.out 1
    have p2 : w9.cell? ⟨g1, 2, none⟩ = some (.int .i64 y3) := blk_cell BX.out 2
    have p3 : w9.cell? ⟨g1, 3, none⟩ = some (.int .i64 y4) := blk_cell BX.out 3
    by_cases z2 : ck2 = 0
    · have q2 : (ck2 == 0) = true := by rw [z2]; rfl
      clear z2
      go_wp2_with fail
      go_ret
      exact ⟨rfl, HB.out⟩
    · have q2 : (ck2 == 0) = false := beq_eq_false_iff_ne.2 z2
      clear z2
      go_wp2_with fail
      go_ret
      exact ⟨rfl, HB.out⟩
  · skip
    have q0 : (y5 == 0) = false := beq_eq_false_iff_ne.2 z0
    obtain ⟨e1, e2, e3, e4⟩ := K7.out z0
    subst e1
    subst e2
    subst e3
    subst e4
    clear z0
    go_wp2_with fail
    refine (HCK.out N A2_0 c2_0 U f1 f2 f3 ck2 _ HB.out (HU.out _ HB.out).1 (HU.out _ HB.out).2 K3.out).mono ?_
    rintro e w8 ⟨rfl, hb⟩
    clear d0 d1 d2 d3 d4 d5 x0 x1 x2 x3 p0 p1 p2 p3
    replace HB := Aside0.mk (below_step HB.out hb)
    replace BO := Aside0.mk (blk_below BO.out hb)
    replace BR := Aside0.mk (blk_below BR.out hb)
    replace BX := Aside0.mk (blk_below BX.out hb)
    replace F5 := Aside0.mk (⟨F5.out.1, Kd.C_below F5.out.2 hb⟩ : _ ∧ _)
    clear hb
    have d0 : w8.cell? ⟨bo, 0, none⟩ = some (.slice A1_0 L.length c1_0) := blk_cell BO.out 0
    have d1 : w8.cell? ⟨bo, 1, none⟩ = some (.slice A1_1 V.length c1_1) := blk_cell BO.out 1
    have d2 : w8.cell? ⟨bo, 2, none⟩ = some (.slice A1_2 C.length c1_2) := blk_cell BO.out 2
    have d3 : w8.cell? ⟨bo, 3, none⟩ = some (.int .i64 lo) := blk_cell BO.out 3
    have d4 : w8.cell? ⟨bo, 4, none⟩ = some (.int .i64 hi) := blk_cell BO.out 4
    have d5 : w8.cell? ⟨bo, 5, none⟩ = some (.int .i64 al) := blk_cell BO.out 5
    have x0 : w8.cell? ⟨br, 0, none⟩ = some (.slice A2_0 U.length c2_0) := blk_cell BR.out 0
    have x1 : w8.cell? ⟨br, 1, none⟩ = some (.int .i64 f1) := blk_cell BR.out 1
    have x2 : w8.cell? ⟨br, 2, none⟩ = some (.int .i64 f2) := blk_cell BR.out 2
    have x3 : w8.cell? ⟨br, 3, none⟩ = some (.int .i64 f3) := blk_cell BR.out 3
    have p0 : w8.cell? ⟨g1, 0, none⟩ = some (.slice A5 0 c5) := blk_cell BX.out 0
    have p1 : w8.cell? ⟨g1, 1, none⟩ = some (.int .i64 0) := blk_cell BX.out 1
    have p2 : w8.cell? ⟨g1, 2, none⟩ = some (.int .i64 0) := blk_cell BX.out 2
    have p3 : w8.cell? ⟨g1, 3, none⟩ = some (.int .i64 0) := blk_cell BX.out 3
    by_cases z2 : ck2 = 0
    · have z3 := HFR.out.2.1 z2
      subst z3
      have q2 : (ck2 == 0) = true := by rw [z2]; rfl
      clear z2
      go_wp2_with fail
      go_wp2_with fail
      refine (spileref30_Same.calls N8 A5 c5 [] 0 0 0 none 0 [] 0 0 0 true _ F5.out.2 F5.out.1 (Kd.C_nil _ _) (Nat.le_refl _) HSM.out).mono ?_
      rintro e w9 ⟨rfl, hb⟩
      clear d0 d1 d2 d3 d4 d5 x0 x1 x2 x3 p0 p1 p2 p3
      replace HB := Aside0.mk (below_step HB.out hb)
      replace BO := Aside0.mk (blk_below BO.out hb)
      replace BR := Aside0.mk (blk_below BR.out hb)
      replace BX := Aside0.mk (blk_below BX.out hb)
      replace F5 := Aside0.mk (⟨F5.out.1, Kd.C_below F5.out.2 hb⟩ : _ ∧ _)
      clear hb
      have d0 : w9.cell? ⟨bo, 0, none⟩ = some (.slice A1_0 L.length c1_0) := blk_cell BO.out 0
      have d1 : w9.cell? ⟨bo, 1, none⟩ = some (.slice A1_1 V.length c1_1) := blk_cell BO.out 1
      have d2 : w9.cell? ⟨bo, 2, none⟩ = some (.slice A1_2 C.length c1_2) := blk_cell BO.out 2
      have d3 : w9.cell? ⟨bo, 3, none⟩ = some (.int .i64 lo) := blk_cell BO.out 3
      have d4 : w9.cell? ⟨bo, 4, none⟩ = some (.int .i64 hi) := blk_cell BO.out 4
      have d5 : w9.cell? ⟨bo, 5, none⟩ = some (.int .i64 al) := blk_cell BO.out 5
      have x0 : w9.cell? ⟨br, 0, none⟩ = some (.slice A2_0 U.length c2_0) := blk_cell BR.out 0
      have x1 : w9.cell? ⟨br, 1, none⟩ = some (.int .i64 f1) := blk_cell BR.out 1
      have x2 : w9.cell? ⟨br, 2, none⟩ = some (.int .i64 f2) := blk_cell BR.out 2
      have x3 : w9.cell? ⟨br, 3, none⟩ = some (.int .i64 f3) := blk_cell BR.out 3
      have p0 : w9.cell? ⟨g1, 0, none⟩ = some (.slice A5 0 c5) := blk_cell BX.out 0
      have p1 : w9.cell? ⟨g1, 1, none⟩ = some (.int .i64 0) := blk_cell BX.out 1
      have p2 : w9.cell? ⟨g1, 2, none⟩ = some (.int .i64 0) := blk_cell BX.out 2
      have p3 : w9.cell? ⟨g1, 3, none⟩ = some (.int .i64 0) := blk_cell BX.out 3
      go_wp2_with fail
      go_ret
      exact ⟨rfl, HB.out⟩
    · have q2 : (ck2 == 0) = false := beq_eq_false_iff_ne.2 z2
      clear z2
      by_cases z4 : cc = 0
      · obtain ⟨z5, z6⟩ := HFR.out.2.2 z4
        subst z4
        subst z5
        have q3 : decide (al ≤ wrap64 (-nn)) = true := decide_eq_true z6
        clear z6
        go_wp2_with fail
        go_ret
        exact ⟨rfl, HB.out⟩
      · have q4 : (cc == 0) = false := beq_eq_false_iff_ne.2 z4
        clear z4
        go_wp2_with fail
        refine (spileref30_Same.calls N8 A5 c5 [] 0 0 0 none 0 [] 0 0 0 true _ F5.out.2 F5.out.1 (Kd.C_nil _ _) (Nat.le_refl _) HSM.out).mono ?_
        rintro e w9 ⟨rfl, hb⟩
        clear d0 d1 d2 d3 d4 d5 x0 x1 x2 x3 p0 p1 p2 p3
        replace HB := Aside0.mk (below_step HB.out hb)
        replace BO := Aside0.mk (blk_below BO.out hb)
        replace BR := Aside0.mk (blk_below BR.out hb)
        replace BX := Aside0.mk (blk_below BX.out hb)
        replace F5 := Aside0.mk (⟨F5.out.1, Kd.C_below F5.out.2 hb⟩ : _ ∧ _)
        clear hb
        have d0 : w9.cell? ⟨bo, 0, none⟩ = some (.slice A1_0 L.length c1_0) := blk_cell BO.out 0
        have d1 : w9.cell? ⟨bo, 1, none⟩ = some (.slice A1_1 V.length c1_1) := blk_cell BO.out 1
        have d2 : w9.cell? ⟨bo, 2, none⟩ = some (.slice A1_2 C.length c1_2) := blk_cell BO.out 2
        have d3 : w9.cell? ⟨bo, 3, none⟩ = some (.int .i64 lo) := blk_cell BO.out 3
        have d4 : w9.cell? ⟨bo, 4, none⟩ = some (.int .i64 hi) := blk_cell BO.out 4
        have d5 : w9.cell? ⟨bo, 5, none⟩ = some (.int .i64 al) := blk_cell BO.out 5
        have x0 : w9.cell? ⟨br, 0, none⟩ = some (.slice A2_0 U.length c2_0) := blk_cell BR.out 0
        have x1 : w9.cell? ⟨br, 1, none⟩ = some (.int .i64 f1) := blk_cell BR.out 1
        have x2 : w9.cell? ⟨br, 2, none⟩ = some (.int .i64 f2) := blk_cell BR.out 2
        have x3 : w9.cell? ⟨br, 3, none⟩ = some (.int .i64 f3) := blk_cell BR.out 3
        have p0 : w9.cell? ⟨g1, 0, none⟩ = some (.slice A5 0 c5) := blk_cell BX.out 0
        have p1 : w9.cell? ⟨g1, 1, none⟩ = some (.int .i64 0) := blk_cell BX.out 1
        have p2 : w9.cell? ⟨g1, 2, none⟩ = some (.int .i64 0) := blk_cell BX.out 2
        have p3 : w9.cell? ⟨g1, 3, none⟩ = some (.int .i64 0) := blk_cell BX.out 3
        go_wp2_with fail
        go_ret
        exact ⟨rfl, HB.out⟩
end Go.Proofs.YtcdkbciagchlgaaDoor.PF
