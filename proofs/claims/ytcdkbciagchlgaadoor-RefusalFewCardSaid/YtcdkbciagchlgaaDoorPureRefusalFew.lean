/- The law RefusalFew of package spilelaw30 returns true for every input and leaves its arguments as they were; the library's table of powers of ten reads as the program's text lays it. -/
import Derived.Test.YtcdkbciagchlgaaDoorLawRefusalFew
import Derived.Test.YtcdkbciagchlgaaDoorMEv
import Derived.Test.YtcdkbciagchlgaaDoorMRef30
import Derived.Test.YtcdkbciagchlgaaDoorMRef30b
import Derived.Test.YtcdkbciagchlgaaDoorMRef30c
import Derived.Test.YtcdkbciagchlgaaDoorMWhy30
import Derived.Test.YtcdkbciagchlgaaDoorPF0
import Derived.Test.YtcdkbciagchlgaaDoorPF1
import Derived.Test.YtcdkbciagchlgaaDoorPF19
import Derived.Test.YtcdkbciagchlgaaDoorPF4
import Derived.Test.YtcdkbciagchlgaaDoorPF7
import Derived.Test.YtcdkbciagchlgaaDoorPF8
import Derived.Test.YtcdkbciagchlgaaDoorPF9
namespace Go.Proofs.YtcdkbciagchlgaaDoor.PF
open Go.RowKit Go.Proofs.YtcdkbciagchlgaaDoorW.PrintWords Go.Proofs.YtcdkbciagchlgaaDoorW.PrintLast Go.Proofs.YtcdkbciagchlgaaDoorW.PrintMore
set_option linter.unusedVariables false
set_option linter.unusedSimpArgs false
def sumV (V : List Int) : Nat → Int
  | 0 => 0
  | i + 1 => sumV V i + rd V (i : Int)
theorem sumV_rng {V : List Int} {n : Nat} (h : ∀ j : Nat, j < n → 0 ≤ rd V (j : Int) ∧ rd V (j : Int) ≤ 64) : ∀ i, i ≤ n → 0 ≤ sumV V i ∧ sumV V i ≤ 64 * i
  | 0, _ => ⟨Int.le_refl _, by show (0 : Int) ≤ 64 * ((0 : Nat) : Int); omega⟩
  | i + 1, hi => by
    have h1 := sumV_rng h i (by omega)
    have h2 := h i (by omega)
    show 0 ≤ sumV V i + rd V (i : Int) ∧ sumV V i + rd V (i : Int) ≤ 64 * ((i + 1 : Nat) : Int)
    omega
theorem dotS_ones {U V : List Int} : ∀ n : Nat, (∀ j : Nat, j < n → rd U (j : Int) = 1) → dotS U V n = sumV V n
  | 0, _ => rfl
  | n + 1, h => by
    show dotS U V n + rd U (n : Int) * rd V (n : Int) = sumV V n + rd V (n : Int)
    rw [dotS_ones n (fun j hj => h j (by omega)), h n (by omega), Int.one_mul]
def allB (p : Nat → Bool) : Nat → Bool
  | 0 => true
  | i + 1 => allB p i && p i
theorem allB_iff {p : Nat → Bool} : ∀ n, allB p n = true ↔ ∀ j, j < n → p j = true
  | 0 => ⟨fun _ j hj => absurd hj (Nat.not_lt_zero _), fun _ => rfl⟩
  | n + 1 => by
    show (allB p n && p n) = true ↔ _
    rw [Bool.and_eq_true, allB_iff n]
    constructor
    · rintro ⟨h1, h2⟩ j hj
      rcases Nat.lt_or_ge j n with hh | hh
      · exact h1 j hh
      · obtain rfl : j = n := by omega
        exact h2
    · intro h
      exact ⟨fun j hj => h j (by omega), h n (by omega)⟩
theorem exists_max (g : Nat → Int) : ∀ n : Nat, 0 < n → ∃ j, j < n ∧ ∀ i, i < n → g i ≤ g j
  | 0, h => absurd h (Nat.lt_irrefl _)
  | n + 1, _ => by
    rcases Nat.eq_zero_or_pos n with rfl | hp
    · exact ⟨0, by omega, fun i hi => by obtain rfl : i = 0 := (by omega); exact Int.le_refl _⟩
    · obtain ⟨j, hj, h⟩ := exists_max g n hp
      by_cases c : g n ≤ g j
      · exact ⟨j, by omega, fun i hi => by
          rcases Nat.lt_or_ge i n with hh | hh
          · exact h i hh
          · obtain rfl : i = n := by omega
            exact c⟩
      · exact ⟨n, by omega, fun i hi => by
          rcases Nat.lt_or_ge i n with hh | hh
          · have := h i hh; omega
          · obtain rfl : i = n := by omega
            exact Int.le_refl _⟩
section
variable {l : List S82} {L : List S45} {V C U : List Int} {lo hi al f1 f2 f3 : Int}
def grd (l : List S82) (L : List S45) (j : Nat) : Int := gradeS l (rd_T45 L (j : Int)).f0 (rd_T45 L (j : Int)).f1
def wkB (l : List S82) (L : List S45) (lo : Int) : Nat → Bool := allB (fun j => decide (grd l L j < lo))
def stB (l : List S82) (L : List S45) (hi : Int) : Nat → Bool := allB (fun j => decide (grd l L j > hi))
def finF (e s : Int) (w t : Bool) (al r1 r2 r3 : Int) : Bool := if s < al then (if e = 0 then (if r1 = 0 then (if r2 = 0 then r3 == 1 else false) else false) else false) else if w = true then e == 0 else if t = true then e == 0 else true
theorem Few_l0 (h : OrdOK l L V C lo hi al) (e : Int) (R : List Int) (r1 r2 r3 : Int) : ∀ (m i : Nat), i + m = L.length →
    Ev (fun k => spilelaw30_RefusalFew.l0 k l e (sumV V i) (wkB l L lo i) (stB l L hi i) L (L.length : Int) (i : Int) L V C lo hi al R r1 r2 r3) (finF e (sumV V L.length) (wkB l L lo L.length) (stB l L hi L.length) al r1 r2 r3)
  | 0, i, hi_ => Ev.ret (fun k => by
    obtain rfl : i = L.length := by omega
    simp only [spilelaw30_RefusalFew.l0]
    rw [if_neg (by omega)]
    unfold finF
    split
    · split
      · split
        · split <;> rfl
        · rfl
      · rfl
    · split
      · rfl
      · split <;> rfl)
  | m + 1, i, hi_ => Ev.step (fun k => by
    have hlu := h.lu; have n4 := h.n4
    have hs : alcohol_Strength.f l (rd_T45 L (i : Int)).f0 (rd_T45 L (i : Int)).f1 = some (grd l L i, 0) := by
      unfold alcohol_Strength.f grd
      rw [if_pos ((lchk_iff _ _ _).2 (h.liq i (by omega)).1)]
    have hr := sumV_rng h.us i (by omega)
    have hv := h.us i (by omega)
    simp only [spilelaw30_RefusalFew.l0]
    rw [if_pos (by omega), if_pos (by omega), if_pos (by omega), if_neg (by omega), hs, Option.bind_some, if_pos rfl, if_pos (by omega), w64_ (x := sumV V i + rd V (i : Int)) (by omega) (by omega), inc30 (n := L.length) (by omega) (by omega)]
    have e1 : wkB l L lo (i + 1) = (wkB l L lo i && decide (grd l L i < lo)) := rfl
    have e2 : stB l L hi (i + 1) = (stB l L hi i && decide (grd l L i > hi)) := rfl
    rw [e1, e2]
    cases wkB l L lo i <;> cases stB l L hi i <;> rfl) (Few_l0 h e R r1 r2 r3 m (i + 1) (by omega))
theorem few_right (h : OrdOK l L V C lo hi al) (hs : sumV V L.length < al) : refuseR (rfsS l L V lo hi al) = (untS l L lo hi ⟨[], 0, 0, 1⟩, 0, 0, 1, 0) := by
  have h1 : (tryS l L V lo hi al ⟨[], 0, 0, 1⟩).2 = true := by
    have hr : ∀ j : Nat, j < L.length → rd (untS l L lo hi ⟨[], 0, 0, 1⟩) (j : Int) = 1 := fun j hj => by
      rw [untS_rd hj]
      have e : lst 0 0 1 (exLow l L lo) (exHigh l L hi) j = 1 := by unfold lst; omega
      show up0 (lst 0 0 1 _ _ j) = 1
      rw [e]
      rfl
    show (formB _ _ _ _ && rigB _ _ _ _ _ _ _ _ _ _) = true
    rw [Bool.and_eq_true]
    refine ⟨(formB_iff _ _ _ _).2 ⟨fun i hi_ => ?_, by decide, by decide, by decide, by decide⟩, rigB_of (fun z => absurd z.1 (by decide)) (fun j hj => ?_) ?_⟩
    · rw [untS_len] at hi_
      rw [hr i hi_]
      exact ⟨by decide, by decide⟩
    · rw [hr j hj]
      unfold lst
      show 0 * _ + 1 - 0 * _ ≤ (1 : Int)
      omega
    · rw [dotS_ones _ hr]
      show sumV V L.length < 0 + 1 * al
      omega
  unfold rfsS candS refuseR
  rw [List.append_assoc, List.append_assoc, List.singleton_append, List.map_cons, List.find?_cons_of_pos h1]
  rfl
theorem some_right (h : OrdOK l L V C lo hi al) {c : S30} (hc : c ∈ candS (exLow l L lo) (exHigh l L hi) (decide (hi = 10000))) (ht : (tryS l L V lo hi al c).2 = true) : (refuseR (rfsS l L V lo hi al)).2.2.2.2 = 0 := by
  rcases refuseR_cases (rfsS l L V lo hi al) with ⟨r, -, -, e⟩ | ⟨h1, -⟩
  · rw [e]
  · have := h1 _ (List.mem_map.2 ⟨c, hc, rfl⟩)
    rw [ht] at this
    cases this
theorem weak_right (h : OrdOK l L V C lo hi al) (hw : wkB l L lo L.length = true) : (refuseR (rfsS l L V lo hi al)).2.2.2.2 = 0 := by
  have hl := h.lh; have hh := h.h1; have h0 := h.lo0
  have hneg : ∀ j : Nat, j < L.length → rd (exLow l L lo) (j : Int) < 0 := fun j hj => by
    have h1 := of_decide_eq_true ((allB_iff _).1 hw j hj)
    obtain ⟨a, b, d⟩ := h.liq j hj
    obtain ⟨-, -, -, g⟩ := a.grade
    have := g (by omega) lo h1 (by omega)
    rw [exLow_rd hj]
    unfold ovr
    omega
  obtain ⟨j, hj, hm⟩ := exists_max (fun j => rd (exLow l L lo) (j : Int)) L.length h.n0
  have h1 := hneg j hj
  have h2 := h.low_ge hj
  have e : wrap64 (-(rd (exLow l L lo) (j : Int))) = -(rd (exLow l L lo) (j : Int)) := w64_ (by omega) (by omega)
  have hc := candS_low (low := exLow l L lo) (high := exHigh l L hi) (nil := decide (hi = 10000)) (j := j) (by rw [exLow_len]; exact hj) h1
  rw [e] at hc
  refine some_right h hc (try_zero h hc (by show -_ ≤ _; omega) (by show (1 : Int) + 0 < 2; decide) (fun i hi_ => ?_) (by show 0 < (0 : Int) + -_; omega))
  have := hm i hi_
  unfold lst
  show 1 * rd (exLow l L lo) (i : Int) + -(rd (exLow l L lo) (j : Int)) - 0 * _ ≤ 0
  omega
theorem strong_right (h : OrdOK l L V C lo hi al) (hs : stB l L hi L.length = true) : (refuseR (rfsS l L V lo hi al)).2.2.2.2 = 0 := by
  have hl := h.lh; have h0 := h.lo0
  have hg : ∀ j : Nat, j < L.length → hi < grd l L j := fun j hj => of_decide_eq_true ((allB_iff _).1 hs j hj)
  have hh : hi < 10000 := by
    have h1 := hg 0 h.n0
    obtain ⟨-, h2, -⟩ := (h.liq 0 h.n0).1.grade
    unfold grd at h1
    omega
  have hc := candS_one (low := exLow l L lo) (high := exHigh l L hi)
  have e : decide (hi = 10000) = false := decide_eq_false (by omega)
  rw [← e] at hc
  refine some_right h hc (try_zero h hc (by show (0 : Int) ≤ _; decide) (by show (0 : Int) + 1 < 2; decide) (fun i hi_ => ?_) (by show 0 < (1 : Int) + 0; decide))
  have h1 := hg i hi_
  obtain ⟨-, -, g, -⟩ := (h.liq i hi_).1.grade
  have h2 := g (hi + 1) (by omega) (by unfold grd at h1; omega)
  have h3 := exHigh_rd (l := l) (L := L) (show hi ≠ 10000 by omega) hi_
  unfold lst
  show 0 * _ + 0 - 1 * rd (exHigh l L hi) (i : Int) ≤ 0
  rw [h3]
  unfold ovr
  omega
end
theorem RefusalFew_pure : Go.Proofs.YtcdkbciagchlgaaDoor.refusalFew.Pure := by
  intro l o _ _
  show ∃ k, spilelaw30_RefusalFew.f k l o.f0 o.f1 o.f2 o.f3 o.f4 o.f5 = some true
  have hE : Ev (fun k => spilelaw30_RefusalFew.f k l o.f0 o.f1 o.f2 o.f3 o.f4 o.f5) true := by
    obtain ⟨b, hb, -⟩ := few30_some l o.f0 o.f1 o.f2 o.f3 o.f4 o.f5 [] 0 0 0
    unfold spilelaw30_RefusalFew.f spilelaw30_awake.f
    rw [hb]
    cases b
    · exact Ev.now (fun _ => rfl)
    simp only [Option.bind_some, if_true]
    by_cases h : OrdOK l o.f0 o.f1 o.f2 o.f3 o.f4 o.f5
    case neg =>
      refine Ev.bind (Ev.now (fun k => Refuse_no h k)) ?_
      refine ⟨2, fun k hk => ?_⟩
      obtain ⟨k, rfl⟩ : ∃ j, k = j + 2 := ⟨k - 2, by omega⟩
      rfl
    refine Ev.bind (Refuse_ev h) ?_
    have hE1 : (refuseR (rfsS l o.f0 o.f1 o.f3 o.f4 o.f5)).2.2.2.2 ≠ 1 := by
      rcases refuseR_cases (rfsS l o.f0 o.f1 o.f3 o.f4 o.f5) with ⟨r, -, -, e⟩ | ⟨-, e⟩ <;> rw [e]
      · exact (by decide : (0 : Int) ≠ 1)
      · exact (by decide : (22 : Int) ≠ 1)
    simp only [if_neg hE1]
    have hl := Few_l0 h (refuseR (rfsS l o.f0 o.f1 o.f3 o.f4 o.f5)).2.2.2.2 (refuseR (rfsS l o.f0 o.f1 o.f3 o.f4 o.f5)).1 (refuseR (rfsS l o.f0 o.f1 o.f3 o.f4 o.f5)).2.1 (refuseR (rfsS l o.f0 o.f1 o.f3 o.f4 o.f5)).2.2.1 (refuseR (rfsS l o.f0 o.f1 o.f3 o.f4 o.f5)).2.2.2.1 o.f0.length 0 (by omega)
    have hf : finF (refuseR (rfsS l o.f0 o.f1 o.f3 o.f4 o.f5)).2.2.2.2 (sumV o.f1 o.f0.length) (wkB l o.f0 o.f3 o.f0.length) (stB l o.f0 o.f4 o.f0.length) o.f5 (refuseR (rfsS l o.f0 o.f1 o.f3 o.f4 o.f5)).2.1 (refuseR (rfsS l o.f0 o.f1 o.f3 o.f4 o.f5)).2.2.1 (refuseR (rfsS l o.f0 o.f1 o.f3 o.f4 o.f5)).2.2.2.1 = true := by
      unfold finF
      by_cases c : sumV o.f1 o.f0.length < o.f5
      · rw [if_pos c, few_right h c]
        rfl
      · rw [if_neg c]
        by_cases c2 : wkB l o.f0 o.f3 o.f0.length = true
        · rw [if_pos c2, weak_right h c2]
          rfl
        · rw [if_neg c2]
          by_cases c3 : stB l o.f0 o.f4 o.f0.length = true
          · rw [if_pos c3, strong_right h c3]
            rfl
          · rw [if_neg c3]
    rw [hf] at hl
    exact hl
  obtain ⟨N, hN⟩ := hE
  exact ⟨N, hN N (Nat.le_refl _)⟩

end Go.Proofs.YtcdkbciagchlgaaDoor.PF
namespace Go.Proofs.YtcdkbciagchlgaaDoor
/-- The given statement. -/
theorem refusalFew_holds : Rows.RefusalFewCardSaid := refusalFew.card PF.RefusalFew_pure
#print axioms refusalFew_holds
end Go.Proofs.YtcdkbciagchlgaaDoor
