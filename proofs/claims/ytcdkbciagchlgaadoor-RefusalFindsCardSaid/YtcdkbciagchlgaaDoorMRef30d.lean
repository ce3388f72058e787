/- What Refuse of the reference of package refusal returns, in plain numbers. -/
import Derived.Test.YtcdkbciagchlgaaDoorMEv
import Derived.Test.YtcdkbciagchlgaaDoorMRef30
import Derived.Test.YtcdkbciagchlgaaDoorMRef30b
import Derived.Test.YtcdkbciagchlgaaDoorMRef30c
import Derived.Test.YtcdkbciagchlgaaDoorPF0
import Derived.Test.YtcdkbciagchlgaaDoorPF1
import Derived.Test.YtcdkbciagchlgaaDoorPF15
import Derived.Test.YtcdkbciagchlgaaDoorPF16
import Derived.Test.YtcdkbciagchlgaaDoorPF3
import Derived.Test.YtcdkbciagchlgaaDoorPF4
import Derived.Test.YtcdkbciagchlgaaDoorPF6
import Derived.Test.YtcdkbciagchlgaaDoorPF7
import Derived.Test.YtcdkbciagchlgaaDoorPF9
namespace Go.Proofs.YtcdkbciagchlgaaDoor.PF
open Go.RowKit Go.Proofs.YtcdkbciagchlgaaDoorW.PrintWords Go.Proofs.YtcdkbciagchlgaaDoorW.PrintLast Go.Proofs.YtcdkbciagchlgaaDoorW.PrintMore
set_option linter.unusedVariables false
set_option linter.unusedSimpArgs false
theorem candH_drop {high : List Int} {i : Nat} (hi : i < high.length) : candH (high.drop i) = (if rd high (i : Int) > 0 then [(⟨[], 0, 1, rd high (i : Int)⟩ : S30)] else []) ++ candH (high.drop (i + 1)) := by
  have e : rd high (i : Int) = high[i] := by unfold rd; rw [Int.toNat_natCast, List.getD_eq_getElem?_getD, List.getElem?_eq_getElem hi]; rfl
  rw [List.drop_eq_getElem_cons hi, e]
  unfold candH
  by_cases h : high[i] > 0
  · rw [if_pos h, List.filter_cons_of_pos (by simpa using h)]; rfl
  · rw [if_neg h, List.filter_cons_of_neg (by simpa using h)]; rfl
theorem candL_drop {low : List Int} {i : Nat} (hi : i < low.length) : candL (low.drop i) = (if rd low (i : Int) < 0 then [(⟨[], 1, 0, wrap64 (-(rd low (i : Int)))⟩ : S30)] else []) ++ candL (low.drop (i + 1)) := by
  have e : rd low (i : Int) = low[i] := by unfold rd; rw [Int.toNat_natCast, List.getD_eq_getElem?_getD, List.getElem?_eq_getElem hi]; rfl
  rw [List.drop_eq_getElem_cons hi, e]
  unfold candL
  by_cases h : low[i] < 0
  · rw [if_pos h, List.filter_cons_of_pos (by simpa using h)]; rfl
  · rw [if_neg h, List.filter_cons_of_neg (by simpa using h)]; rfl
theorem rcand_l1 {high : List Int} (hn : high.length ≤ 4) : ∀ (m i : Nat) (acc : List S30), i + m = high.length → acc.length ≤ 20 + i → Ev (fun k => spileref30_candidates.l1 k high acc (i : Int)) (acc ++ candH (high.drop i))
  | 0, i, acc, hi, _ => Ev.ret (fun k => by
    simp only [spileref30_candidates.l1]
    rw [if_neg (by omega), List.drop_of_length_le (by omega)]
    show some acc = some (acc ++ [])
    rw [List.append_nil])
  | m + 1, i, acc, hi, ha => by
    rw [candH_drop (by omega)]
    by_cases h : rd high (i : Int) > 0
    · have ih := rcand_l1 hn m (i + 1) (acc ++ [(⟨[], 0, 1, rd high (i : Int)⟩ : S30)]) (by omega) (by rw [List.length_append, List.length_singleton]; omega)
      rw [List.append_assoc] at ih
      rw [if_pos h]
      refine Ev.step (fun k => ?_) ih
      simp only [spileref30_candidates.l1]
      rw [if_pos (by omega), if_pos (by omega), if_pos h, if_pos (by omega), inc30 (n := high.length) (by omega) (by omega)]
    · have ih := rcand_l1 hn m (i + 1) acc (by omega) (by omega)
      rw [if_neg h]
      refine Ev.step (fun k => ?_) ih
      simp only [spileref30_candidates.l1]
      rw [if_pos (by omega), if_pos (by omega), if_neg h, inc30 (n := high.length) (by omega) (by omega)]
theorem rcand_l0 {low high : List Int} (hl : low.length ≤ 4) (hn : high.length ≤ 4) : ∀ (m i : Nat) (acc : List S30), i + m = low.length → acc.length ≤ 1 + i → Ev (fun k => spileref30_candidates.l0 k low high acc (i : Int)) (acc ++ candL (low.drop i) ++ (if high.length = 0 then [] else [(⟨[], 0, 1, 0⟩ : S30)]) ++ candH high)
  | 0, i, acc, hi, ha => by
    rw [List.drop_of_length_le (by omega)]
    show Ev _ (acc ++ [] ++ _ ++ _)
    rw [List.append_nil]
    by_cases c : high.length = 0
    · rw [if_pos c, List.append_nil, List.length_eq_zero_iff.1 c]
      refine Ev.ret (fun k => ?_)
      simp only [spileref30_candidates.l0]
      rw [if_neg (by omega), if_pos (show ((([] : List Int).length : Int) = 0) from rfl)]
      show some acc = some (acc ++ [])
      rw [List.append_nil]
    · have ih := rcand_l1 hn high.length 0 (acc ++ [(⟨[], 0, 1, 0⟩ : S30)]) (by omega) (by rw [List.length_append, List.length_singleton]; omega)
      rw [if_neg c]
      refine Ev.step (fun k => ?_) ih
      simp only [spileref30_candidates.l0]
      rw [if_neg (by omega), if_neg (by omega), if_pos (by omega)]
      rfl
  | m + 1, i, acc, hi, ha => by
    rw [candL_drop (by omega)]
    by_cases h : rd low (i : Int) < 0
    · have ih := rcand_l0 hl hn m (i + 1) (acc ++ [(⟨[], 1, 0, wrap64 (-(rd low (i : Int)))⟩ : S30)]) (by omega) (by rw [List.length_append, List.length_singleton]; omega)
      rw [if_pos h, ← List.append_assoc acc]
      refine Ev.step (fun k => ?_) ih
      simp only [spileref30_candidates.l0]
      rw [if_pos (by omega), if_pos (by omega), if_pos h, if_pos (by omega), inc30 (n := low.length) (by omega) (by omega)]
    · have ih := rcand_l0 hl hn m (i + 1) acc (by omega) (by omega)
      rw [if_neg h, List.nil_append]
      refine Ev.step (fun k => ?_) ih
      simp only [spileref30_candidates.l0]
      rw [if_pos (by omega), if_pos (by omega), if_neg h, inc30 (n := low.length) (by omega) (by omega)]
section
variable {l : List S82} {L : List S45} {V C U : List Int} {lo hi al f1 f2 f3 : Int}
theorem rcand_ev (h : OrdOK l L V C lo hi al) : Ev (fun k => spileref30_candidates.f k (exLow l L lo) (exHigh l L hi)) (candS (exLow l L lo) (exHigh l L hi) (decide (hi = 10000))) := by
  have n0 := h.n0; have n4 := h.n4
  have hh : (exHigh l L hi).length ≤ 4 := by rw [exHigh_len]; split <;> omega
  have ih := rcand_l0 (low := exLow l L lo) (high := exHigh l L hi) (by rw [exLow_len]; exact n4) hh (exLow l L lo).length 0 [⟨[], 0, 0, 1⟩] (by omega) (by decide)
  rw [List.drop_zero] at ih
  unfold candS
  have e : (if (exHigh l L hi).length = 0 then [] else [(⟨[], 0, 1, 0⟩ : S30)]) = (if decide (hi = 10000) = true then [] else [(⟨[], 0, 1, 0⟩ : S30)]) := by
    rw [exHigh_len]
    by_cases c : hi = 10000
    · rw [if_pos c, if_pos rfl, if_pos (decide_eq_true c)]
    · rw [if_neg c, if_neg (by omega), if_neg (by simpa using c)]
  rw [e] at ih
  exact ih
/-- The excesses of a unit are small. -/
theorem LiqOK.ovr_tight {a m : Int} (h : LiqOK l a m) (hm : m ≤ 1000000000) {s : Int} (h0 : 0 ≤ s) (h1 : s ≤ 10000) : -10000000000000 ≤ a * dens l s - m * s ∧ a * dens l s - m * s ≤ 24000000000000 := by
  refine ⟨(h.ovr_rng hm h0 h1).1, ?_⟩
  have hd := h.right.dens_rng h0 h1
  have hd2 := h.right.dens_rng (show (0 : Int) ≤ 10000 by decide) (show (10000 : Int) ≤ 10000 by decide)
  have a0 := h.a0; have m0 := h.m0
  have hf := h.fit
  have p0 : a * 50000 ≤ a * dens l 10000 := Int.mul_le_mul_of_nonneg_left hd2.1 a0
  have p1 : a ≤ 200000000 := by omega
  have p2 : a * dens l s ≤ 200000000 * 120000 := Int.mul_le_mul p1 hd.2 (by omega) (by decide)
  have p3 : 0 ≤ m * s := Int.mul_nonneg m0 h0
  omega
theorem OrdOK.low_t (h : OrdOK l L V C lo hi al) {j : Nat} (hj : j < L.length) : -10000000000000 ≤ rd (exLow l L lo) (j : Int) ∧ rd (exLow l L lo) (j : Int) ≤ 24000000000000 := by
  rw [exLow_rd hj]
  exact (h.liq j hj).1.ovr_tight (h.liq j hj).2.2 h.lo0 (by have := h.lh; have := h.h1; omega)
theorem OrdOK.high_t (h : OrdOK l L V C lo hi al) {j : Nat} (hj : j < L.length) : -10000000000000 ≤ rd (exHigh l L hi) (j : Int) ∧ rd (exHigh l L hi) (j : Int) ≤ 24000000000000 := by
  by_cases c : hi = 10000
  · have e : rd (exHigh l L hi) (j : Int) = 0 := by unfold exHigh rd; rw [if_pos c]; simp
    rw [e]; exact ⟨by decide, by decide⟩
  · rw [exHigh_rd c hj]
    exact (h.liq j hj).1.ovr_tight (h.liq j hj).2.2 (by have := h.lh; have := h.lo0; omega) (by have := h.h1; omega)
/-- Every candidate has its form. -/
theorem cand_form (h : OrdOK l L V C lo hi al) {c : S30} (hc : c ∈ candS (exLow l L lo) (exHigh l L hi) (decide (hi = 10000))) : FrmOK (untS l L lo hi c) c.f1 c.f2 c.f3 := by
  have key : (0 ≤ c.f1 ∧ c.f1 ≤ 1) ∧ (0 ≤ c.f2 ∧ c.f2 ≤ 1) ∧ c.f1 + c.f2 < 2 ∧ (0 ≤ c.f3 ∧ c.f3 ≤ 24000000000000) := by
    rcases candS_mem hc with rfl | ⟨j, hj, h1, rfl⟩ | ⟨h1, rfl⟩ | ⟨j, hj, h1, rfl⟩
    · exact ⟨⟨by decide, by decide⟩, ⟨by decide, by decide⟩, by decide, by decide, by decide⟩
    · rw [exLow_len] at hj
      have h2 := h.low_t hj
      have e : wrap64 (-(rd (exLow l L lo) (j : Int))) = -(rd (exLow l L lo) (j : Int)) := w64_ (by omega) (by omega)
      exact ⟨⟨by show (0 : Int) ≤ 1; decide, by show (1 : Int) ≤ 1; decide⟩, ⟨by show (0 : Int) ≤ 0; decide, by show (0 : Int) ≤ 1; decide⟩, by show (1 : Int) + 0 < 2; decide, by show 0 ≤ wrap64 _; omega, by show wrap64 _ ≤ _; omega⟩
    · exact ⟨⟨by decide, by decide⟩, ⟨by decide, by decide⟩, by decide, by decide, by decide⟩
    · have hh : hi ≠ 10000 := fun z => by rw [exHigh_len, if_pos z] at hj; omega
      rw [exHigh_len, if_neg hh] at hj
      have h2 := h.high_t hj
      exact ⟨⟨by show (0 : Int) ≤ 0; decide, by show (0 : Int) ≤ 1; decide⟩, ⟨by show (0 : Int) ≤ 1; decide, by show (1 : Int) ≤ 1; decide⟩, by show (0 : Int) + 1 < 2; decide, by show 0 ≤ rd _ _; omega, h2.2⟩
  obtain ⟨k1, k2, k3, k4⟩ := key
  refine ⟨fun i hi_ => ?_, k1, k2, k3, by omega⟩
  rw [untS_len] at hi_
  rw [untS_rd hi_]
  have hu := up0_of (lst c.f1 c.f2 c.f3 (exLow l L lo) (exHigh l L hi) i)
  refine ⟨hu.2, ?_⟩
  have a1 := h.low_t hi_
  have a2 := h.high_t hi_
  unfold up0 lst
  have e1 : c.f1 * rd (exLow l L lo) (i : Int) = 0 ∨ c.f1 * rd (exLow l L lo) (i : Int) = rd (exLow l L lo) (i : Int) := by rcases (show c.f1 = 0 ∨ c.f1 = 1 by omega) with e | e <;> rw [e] <;> simp
  have e2 : c.f2 * rd (exHigh l L hi) (i : Int) = 0 ∨ c.f2 * rd (exHigh l L hi) (i : Int) = rd (exHigh l L hi) (i : Int) := by rcases (show c.f2 = 0 ∨ c.f2 = 1 by omega) with e | e <;> rw [e] <;> simp
  split <;> omega
theorem rtry_ev (h : OrdOK l L V C lo hi al) {c : S30} (hc : c ∈ candS (exLow l L lo) (exHigh l L hi) (decide (hi = 10000))) : Ev (fun k => rtryC k l L V C lo hi al (exLow l L lo) (exHigh l L hi) c) (tryS l L V lo hi al c) := by
  obtain ⟨h1, h2, h3, h4⟩ := h.cand hc
  have n4 := h.n4
  have hF := cand_form h hc
  unfold rtryC
  refine Ev.bind (need_ev (h.lstok h1 h2 h3 h4) []) ?_
  have hl : (tab (exLow l L lo).length (lst c.f1 c.f2 c.f3 (exLow l L lo) (exHigh l L hi))).length ≤ 5000 := by rw [tab_len, exLow_len]; omega
  simp only [if_pos hl]
  have eU : (tab (exLow l L lo).length (lst c.f1 c.f2 c.f3 (exLow l L lo) (exHigh l L hi))).map up0 = untS l L lo hi c := by unfold untS; rw [exLow_len]
  rw [eU]
  unfold tryS
  rw [(formB_iff _ _ _ _).2 hF, Bool.true_and]
  exact Ev.bind (rright_ev h hF (untS_len _ _ _ _ _)) (Ev.now fun _ => rfl)
theorem candS_len (low high : List Int) (nil : Bool) : (candS low high nil).length ≤ 2 + low.length + high.length := by
  unfold candS
  rw [List.length_append, List.length_append, List.length_append]
  have := candL_len low; have := candH_len high
  split <;> simp <;> omega
theorem rRefuse_ev (h : OrdOK l L V C lo hi al) : Ev (fun k => spileref30_Refuse.f k l L V C lo hi al) (refuseR (rfsS l L V lo hi al)) := by
  obtain ⟨e, he, hiff⟩ := ref29_ev l L V C lo hi al
  obtain rfl := hiff.2 h
  have n4 := h.n4
  unfold spileref30_Refuse.f
  refine Ev.bind he ?_
  simp only [if_true]
  refine Ev.bind (rexcess_ev h) (Ev.bind (rcand_ev h) ?_)
  have hl : (candS (exLow l L lo) (exHigh l L hi) (decide (hi = 10000))).length ≤ 5000 := by
    have := candS_len (exLow l L lo) (exHigh l L hi) (decide (hi = 10000))
    rw [exLow_len, exHigh_len] at this
    split at this <;> omega
  simp only [if_pos hl]
  exact Ev.bind (Ev.mapM _ (fun c hm => rtry_ev h hm)) (Ev.now fun _ => rfl)
theorem rRefuse_no (h : ¬ OrdOK l L V C lo hi al) : Ev (fun k => spileref30_Refuse.f k l L V C lo hi al) ([], 0, 0, 0, 1) := by
  obtain ⟨e, he, hiff⟩ := ref29_ev l L V C lo hi al
  unfold spileref30_Refuse.f
  refine Ev.bind he ?_
  simp only [if_neg (fun z => h (hiff.1 z))]
  exact Ev.now fun _ => rfl
end
/-! ### Equal things -/
theorem eq_l0 {x : List Int} (hs : x.length ≤ 1000) : ∀ (m i : Nat), i + m = x.length → Ev (fun k => slices_Equal_int_int.l0 k x x (x.length : Int) (i : Int)) true
  | 0, i, hi => Ev.ret (fun k => by
    simp only [slices_Equal_int_int.l0]
    rw [if_neg (by omega)])
  | m + 1, i, hi => Ev.step (fun k => by
    simp only [slices_Equal_int_int.l0]
    rw [if_pos (by omega), if_pos (by omega), if_pos (by omega), if_pos (by omega), if_pos trivial, inc30 (n := x.length) (by omega) (by omega)]) (eq_l0 hs m (i + 1) (by omega))
theorem eq_ev {x : List Int} (hs : x.length ≤ 1000) : Ev (fun k => slices_Equal_int_int.f k x x) true := by
  refine Ev.same (fun k => ?_) (eq_l0 hs x.length 0 (by omega))
  unfold slices_Equal_int_int.f
  rw [if_pos rfl]
  rfl
theorem same_l0 {x : List Int} (hs : x.length ≤ 1000) (a b c : Int) : ∀ (m i : Nat), i + m = x.length → Ev (fun k => spileref30_Same.l0 k (i : Int) x a b c x a b c) true
  | 0, i, hi => Ev.ret (fun k => by
    simp only [spileref30_Same.l0]
    rw [if_neg (by omega)])
  | m + 1, i, hi => Ev.step (fun k => by
    simp only [spileref30_Same.l0]
    rw [if_pos (by omega), if_pos (by omega), if_pos (by omega), if_pos trivial, inc30 (n := x.length) (by omega) (by omega)]) (same_l0 hs a b c m (i + 1) (by omega))
theorem same_ev {x : List Int} (hs : x.length ≤ 1000) (a b c : Int) : Ev (fun k => spileref30_Same.f k x a b c x a b c) true := by
  refine Ev.step (fun k => ?_) (same_l0 hs a b c x.length 0 (by omega))
  unfold spileref30_Same.f
  rw [if_pos rfl, if_pos rfl, if_pos rfl, bne_self_eq_false]
  simp only [spileref30_Same.j0]
  rw [if_neg (by decide)]
  rfl

end Go.Proofs.YtcdkbciagchlgaaDoor.PF
