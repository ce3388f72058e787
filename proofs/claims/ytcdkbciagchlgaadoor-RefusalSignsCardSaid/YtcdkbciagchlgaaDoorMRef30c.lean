/- What Refuse of package refusal returns, in plain numbers. -/
import Derived.Test.YtcdkbciagchlgaaDoorMEv
import Derived.Test.YtcdkbciagchlgaaDoorMRef30
import Derived.Test.YtcdkbciagchlgaaDoorMRef30b
import Derived.Test.YtcdkbciagchlgaaDoorPF0
import Derived.Test.YtcdkbciagchlgaaDoorPF1
import Derived.Test.YtcdkbciagchlgaaDoorPF3
import Derived.Test.YtcdkbciagchlgaaDoorPF4
import Derived.Test.YtcdkbciagchlgaaDoorPF7
import Derived.Test.YtcdkbciagchlgaaDoorPF8
import Derived.Test.YtcdkbciagchlgaaDoorPF9
namespace Go.Proofs.YtcdkbciagchlgaaDoor.PF
open Go.RowKit Go.Proofs.YtcdkbciagchlgaaDoorW.PrintWords Go.Proofs.YtcdkbciagchlgaaDoorW.PrintLast Go.Proofs.YtcdkbciagchlgaaDoorW.PrintMore
set_option linter.unusedVariables false
set_option linter.unusedSimpArgs false
theorem Ev.mapM {α β : Type} {F : Nat → α → Option β} {g : α → β} : ∀ l : List α, (∀ x, x ∈ l → Ev (fun k => F k x) (g x)) → Ev (fun k => l.mapM (F k)) (l.map g)
  | [], _ => Ev.now (fun k => by rw [List.mapM_nil]; rfl)
  | a :: l, h => by
    refine Ev.same (G := fun k => (F k a).bind fun b => (l.mapM (F k)).bind fun r => some (b :: r)) (fun k => by rw [List.mapM_cons]; rfl) ?_
    exact Ev.bind (h a (List.mem_cons_self ..)) (Ev.bind (Ev.mapM l (fun x hx => h x (List.mem_cons_of_mem _ hx))) (Ev.now fun _ => rfl))
theorem mem_rd {n : Int} {l : List Int} (h : n ∈ l) : ∃ j : Nat, j < l.length ∧ rd l (j : Int) = n := by
  obtain ⟨j, hj, e⟩ := List.getElem_of_mem h
  exact ⟨j, hj, by unfold rd; rw [Int.toNat_natCast, List.getD_eq_getElem?_getD, List.getElem?_eq_getElem hj]; exact e⟩
theorem rd_mem {l : List Int} {j : Nat} (h : j < l.length) : rd l (j : Int) ∈ l := by
  unfold rd
  rw [Int.toNat_natCast, List.getD_eq_getElem?_getD, List.getElem?_eq_getElem h]
  exact List.getElem_mem h
theorem candS_mem {low high : List Int} {nil : Bool} {c : S30} (h : c ∈ candS low high nil) : c = ⟨[], 0, 0, 1⟩ ∨ (∃ j : Nat, j < low.length ∧ rd low (j : Int) < 0 ∧ c = ⟨[], 1, 0, wrap64 (-(rd low (j : Int)))⟩) ∨ (nil = false ∧ c = ⟨[], 0, 1, 0⟩) ∨ (∃ j : Nat, j < high.length ∧ 0 < rd high (j : Int) ∧ c = ⟨[], 0, 1, rd high (j : Int)⟩) := by
  unfold candS at h
  simp only [List.mem_append, List.mem_singleton] at h
  rcases h with ((h | h) | h) | h
  · exact .inl h
  · unfold candL at h
    obtain ⟨n, hn, rfl⟩ := List.mem_map.1 h
    obtain ⟨h1, h2⟩ := List.mem_filter.1 hn
    obtain ⟨j, hj, e⟩ := mem_rd h1
    exact .inr (.inl ⟨j, hj, by rw [e]; exact of_decide_eq_true h2, by rw [e]⟩)
  · cases nil
    · rw [if_neg (by decide)] at h
      exact .inr (.inr (.inl ⟨rfl, List.mem_singleton.1 h⟩))
    · rw [if_pos rfl] at h
      cases h
  · unfold candH at h
    obtain ⟨n, hn, rfl⟩ := List.mem_map.1 h
    obtain ⟨h1, h2⟩ := List.mem_filter.1 hn
    obtain ⟨j, hj, e⟩ := mem_rd h1
    exact .inr (.inr (.inr ⟨j, hj, by rw [e]; exact of_decide_eq_true h2, by rw [e]⟩))
theorem candS_low {low high : List Int} {nil : Bool} {j : Nat} (hj : j < low.length) (h : rd low (j : Int) < 0) : (⟨[], 1, 0, wrap64 (-(rd low (j : Int)))⟩ : S30) ∈ candS low high nil := by
  unfold candS candL
  simp only [List.mem_append]
  exact .inl (.inl (.inr (List.mem_map.2 ⟨rd low (j : Int), List.mem_filter.2 ⟨rd_mem hj, decide_eq_true h⟩, rfl⟩)))
theorem candS_one {low high : List Int} : (⟨[], 0, 1, 0⟩ : S30) ∈ candS low high false := by
  unfold candS
  simp only [List.mem_append]
  exact .inl (.inr (by rw [if_neg (by decide)]; exact List.mem_singleton.2 rfl))
/-- The units of a candidate. -/
def untS (l : List S82) (L : List S45) (lo hi : Int) (c : S30) : List Int := (tab L.length (lst c.f1 c.f2 c.f3 (exLow l L lo) (exHigh l L hi))).map up0
/-- A candidate tried. -/
def tryS (l : List S82) (L : List S45) (V : List Int) (lo hi al : Int) (c : S30) : S30 × Bool :=
  (⟨untS l L lo hi c, c.f1, c.f2, c.f3⟩, formB (untS l L lo hi c) c.f1 c.f2 c.f3 && rigB l L V lo hi al (untS l L lo hi c) c.f1 c.f2 c.f3)
theorem untS_len (l : List S82) (L : List S45) (lo hi : Int) (c : S30) : (untS l L lo hi c).length = L.length := by unfold untS; rw [List.length_map, tab_len]
theorem map_rd {l : List Int} {f : Int → Int} {j : Nat} (hj : j < l.length) : rd (l.map f) (j : Int) = f (rd l (j : Int)) := by
  unfold rd
  simp [List.getD_eq_getElem?_getD, hj]
theorem untS_rd {l : List S82} {L : List S45} {lo hi : Int} {c : S30} {j : Nat} (hj : j < L.length) : rd (untS l L lo hi c) (j : Int) = up0 (lst c.f1 c.f2 c.f3 (exLow l L lo) (exHigh l L hi) j) := by
  unfold untS
  rw [map_rd (by rw [tab_len]; exact hj), tab_rd hj]
section
variable {l : List S82} {L : List S45} {V C U : List Int} {lo hi al f1 f2 f3 : Int}
theorem exLow_rd {j : Nat} (hj : j < L.length) : rd (exLow l L lo) (j : Int) = ovr lo (dens l lo) L j := by unfold exLow overS; rw [tab_rd hj]
theorem exHigh_rd (hh : hi ≠ 10000) {j : Nat} (hj : j < L.length) : rd (exHigh l L hi) (j : Int) = ovr (hi + 1) (dens l (hi + 1)) L j := by unfold exHigh; rw [if_neg hh]; unfold overS; rw [tab_rd hj]
theorem exLow_len : (exLow l L lo).length = L.length := overS_len _ _ _
theorem OrdOK.low_ge (h : OrdOK l L V C lo hi al) {j : Nat} (hj : j < L.length) : -10000000000000 ≤ rd (exLow l L lo) (j : Int) := by
  rw [exLow_rd hj]
  exact ((h.liq j hj).1.ovr_rng (h.liq j hj).2.2 h.lo0 (by have := h.lh; have := h.h1; omega)).1
theorem OrdOK.cand (h : OrdOK l L V C lo hi al) {c : S30} (hc : c ∈ candS (exLow l L lo) (exHigh l L hi) (decide (hi = 10000))) : (c.f1 = 0 ∨ c.f1 = 1) ∧ (c.f2 = 0 ∨ c.f2 = 1) ∧ (0 ≤ c.f3 ∧ c.f3 ≤ 2000000000000000000) ∧ ¬ (c.f2 = 1 ∧ hi = 10000) := by
  rcases candS_mem hc with rfl | ⟨j, hj, h1, rfl⟩ | ⟨h1, rfl⟩ | ⟨j, hj, h1, rfl⟩
  · exact ⟨.inl rfl, .inl rfl, ⟨by decide, by decide⟩, fun z => absurd z.1 (by decide)⟩
  · rw [exLow_len] at hj
    have h2 := h.low_ge hj
    have e : wrap64 (-(rd (exLow l L lo) (j : Int))) = -(rd (exLow l L lo) (j : Int)) := w64_ (by omega) (by omega)
    exact ⟨.inr rfl, .inl rfl, ⟨by show 0 ≤ wrap64 _; omega, by show wrap64 _ ≤ _; omega⟩, fun z => absurd (show (0 : Int) = 1 from z.1) (by decide)⟩
  · exact ⟨.inl rfl, .inr rfl, ⟨by decide, by decide⟩, fun z => absurd z.2 (of_decide_eq_false h1)⟩
  · have hh : hi ≠ 10000 := fun z => by rw [exHigh_len, if_pos z] at hj; omega
    rw [exHigh_len, if_neg hh] at hj
    have h2 := h.high_rng hj
    exact ⟨.inl rfl, .inr rfl, ⟨by show 0 ≤ rd _ _; omega, h2.2⟩, fun z => hh z.2⟩
theorem try_ev (h : OrdOK l L V C lo hi al) {c : S30} (hc : c ∈ candS (exLow l L lo) (exHigh l L hi) (decide (hi = 10000))) : Ev (fun k => tryC k L V C lo hi al (exLow l L lo) (exHigh l L hi) c) (tryS l L V lo hi al c) := by
  obtain ⟨h1, h2, h3, h4⟩ := h.cand hc
  have n4 := h.n4
  unfold tryC
  refine Ev.bind (leasts_ev (h.lstok h1 h2 h3 h4) []) ?_
  have hl : (tab (exLow l L lo).length (lst c.f1 c.f2 c.f3 (exLow l L lo) (exHigh l L hi))).length ≤ 5000 := by rw [tab_len, exLow_len]; omega
  simp only [if_pos hl]
  have eU : (tab (exLow l L lo).length (lst c.f1 c.f2 c.f3 (exLow l L lo) (exHigh l L hi))).map up0 = untS l L lo hi c := by unfold untS; rw [exLow_len]
  rw [eU, formed_plain (by rw [untS_len]; omega)]
  simp only [Option.bind_some]
  unfold tryS
  cases hf : formB (untS l L lo hi c) c.f1 c.f2 c.f3
  · simp only [Bool.false_eq_true, if_false, Bool.false_and]
    exact Ev.now fun _ => rfl
  · simp only [if_true, Bool.true_and]
    exact Ev.bind (right_ev h ((formB_iff _ _ _ _).1 hf) (untS_len _ _ _ _ _)) (Ev.now fun _ => rfl)
def rfsS (l : List S82) (L : List S45) (V : List Int) (lo hi al : Int) : List (S30 × Bool) := (candS (exLow l L lo) (exHigh l L hi) (decide (hi = 10000))).map (tryS l L V lo hi al)
theorem Refuse_ev (h : OrdOK l L V C lo hi al) : Ev (fun k => refusal_Refuse.f k l L V C lo hi al) (refuseR (rfsS l L V lo hi al)) := by
  have n0 := h.n0
  have n4 := h.n4
  unfold refusal_Refuse.f
  refine Ev.bind (Excess_ev h) ?_
  have hc : (exLow l L lo).length ≤ 1000 ∧ (exHigh l L hi).length ≤ 1000 ∧ (hi = 10000 ∨ 0 < (exHigh l L hi).length) := by
    rw [exLow_len, exHigh_len]
    split
    · omega
    · omega
  simp only [if_true, if_pos hc]
  exact Ev.bind (Ev.mapM _ (fun c hm => try_ev h hm)) (Ev.now fun _ => rfl)
theorem Refuse_no (h : ¬ OrdOK l L V C lo hi al) (k : Nat) : refusal_Refuse.f k l L V C lo hi al = some ([], 0, 0, 0, 1) := by
  unfold refusal_Refuse.f
  rw [Excess_no h, Option.bind_some, if_neg (by decide)]
/-- What Refuse returns: the first candidate that is right, or nothing. -/
theorem refuseR_cases (rs : List (S30 × Bool)) : (∃ r, r ∈ rs ∧ r.2 = true ∧ refuseR rs = (r.1.f0, r.1.f1, r.1.f2, r.1.f3, 0)) ∨ ((∀ r, r ∈ rs → r.2 = false) ∧ refuseR rs = ([], 0, 0, 0, 22)) := by
  unfold refuseR
  cases e : rs.find? (fun r => r.2) with
  | none =>
    refine .inr ⟨fun r hr => ?_, rfl⟩
    have := List.find?_eq_none.1 e r hr
    cases hb : r.2
    · rfl
    · rw [hb] at this; exact absurd rfl this
  | some r => exact .inl ⟨r, List.mem_of_find?_eq_some e, List.find?_some e, rfl⟩
theorem RgtOK.of_try (h : OrdOK l L V C lo hi al) {c : S30} (ht : (tryS l L V lo hi al c).2 = true) : RgtOK l L V C lo hi al (untS l L lo hi c) c.f1 c.f2 c.f3 := by
  have ht : (formB (untS l L lo hi c) c.f1 c.f2 c.f3 && rigB l L V lo hi al (untS l L lo hi c) c.f1 c.f2 c.f3) = true := ht
  rw [Bool.and_eq_true] at ht
  exact ⟨h, untS_len _ _ _ _ _, (formB_iff _ _ _ _).1 ht.1, ht.2⟩
theorem up0_of (n : Int) : n ≤ up0 n ∧ 0 ≤ up0 n := by unfold up0; split <;> omega
theorem up0_le {n : Int} (h : n ≤ 0) : up0 n = 0 := by unfold up0; split <;> omega
theorem rigB_of (hh : ¬ (f2 = 1 ∧ hi = 10000)) (h1 : ∀ j : Nat, j < L.length → lst f1 f2 f3 (exLow l L lo) (exHigh l L hi) j ≤ rd U (j : Int)) (h2 : dotS U V L.length < f2 + f3 * al) : rigB l L V lo hi al U f1 f2 f3 = true := by
  unfold rigB
  rw [decide_eq_false hh, Bool.not_false, Bool.true_and]
  exact rgtB_iff.2 ⟨h1, h2⟩
theorem dotS_zero {U V : List Int} : ∀ n : Nat, (∀ j : Nat, j < n → rd U (j : Int) = 0) → dotS U V n = 0
  | 0, _ => rfl
  | n + 1, h => by
    show dotS U V n + rd U (n : Int) * rd V (n : Int) = 0
    rw [dotS_zero n (fun j hj => h j (by omega)), h n (by omega), Int.zero_mul]
    rfl
/-- A candidate none of whose leasts is greater than 0 is right, if it says anything. -/
theorem try_zero (h : OrdOK l L V C lo hi al) {c : S30} (hc : c ∈ candS (exLow l L lo) (exHigh l L hi) (decide (hi = 10000))) (h3 : c.f3 ≤ 1125899906842624) (h12 : c.f1 + c.f2 < 2)
    (hz : ∀ j : Nat, j < L.length → lst c.f1 c.f2 c.f3 (exLow l L lo) (exHigh l L hi) j ≤ 0) (hp : 0 < c.f2 + c.f3) : (tryS l L V lo hi al c).2 = true := by
  obtain ⟨a1, a2, a3, a4⟩ := h.cand hc
  show (formB _ _ _ _ && rigB _ _ _ _ _ _ _ _ _ _) = true
  have hr : ∀ j : Nat, j < L.length → rd (untS l L lo hi c) (j : Int) = 0 := fun j hj => by rw [untS_rd hj, up0_le (hz j hj)]
  rw [Bool.and_eq_true]
  refine ⟨(formB_iff _ _ _ _).2 ⟨fun i hi_ => ?_, by omega, by omega, h12, by omega⟩, rigB_of a4 (fun j hj => by rw [hr j hj]; exact hz j hj) ?_⟩
  · rw [untS_len] at hi_
    rw [hr i hi_]
    exact ⟨by decide, by decide⟩
  · rw [dotS_zero _ hr]
    have := h.al1
    have e : c.f3 * 1 ≤ c.f3 * al := Int.mul_le_mul_of_nonneg_left this a3.1
    omega
/-- The excesses of a unit are small. -/
theorem LiqOK.ovr_tight {a m : Int} (h : LiqOK l a m) (hm : m ≤ 1000000000) {s : Int} (h0 : 0 ≤ s) (h1 : s ≤ 10000) : -10000000000000 ≤ a * dens l s - m * s ∧ a * dens l s - m * s ≤ 24000000000000 := by
  refine ⟨(h.ovr_rng hm h0 h1).1, ?_⟩
  have hd := h.right.dens_rng h0 h1
  have hd2 := h.right.dens_rng (show (0 : Int) ≤ 10000 by decide) (show (10000 : Int) ≤ 10000 by decide)
  have a0 := h.a0; have m0 := h.m0
  have hf := h.fit
  have p0 : a * 50000 ≤ a * dens l 10000 := Int.mul_le_mul_of_nonneg_left hd2.1 a0
  have p1 : a ≤ 200000000 := by omega
  have p2 : a * dens l s ≤ 200000000 * 120000 := Int.mul_le_mul p1 hd.2 (by omega) (by decide)
  have p3 : 0 ≤ m * s := Int.mul_nonneg m0 h0
  omega
theorem OrdOK.low_t (h : OrdOK l L V C lo hi al) {j : Nat} (hj : j < L.length) : -10000000000000 ≤ rd (exLow l L lo) (j : Int) ∧ rd (exLow l L lo) (j : Int) ≤ 24000000000000 := by
  rw [exLow_rd hj]
  exact (h.liq j hj).1.ovr_tight (h.liq j hj).2.2 h.lo0 (by have := h.lh; have := h.h1; omega)
theorem OrdOK.high_t (h : OrdOK l L V C lo hi al) {j : Nat} (hj : j < L.length) : -10000000000000 ≤ rd (exHigh l L hi) (j : Int) ∧ rd (exHigh l L hi) (j : Int) ≤ 24000000000000 := by
  by_cases c : hi = 10000
  · have e : rd (exHigh l L hi) (j : Int) = 0 := by unfold exHigh rd; rw [if_pos c]; simp
    rw [e]; exact ⟨by decide, by decide⟩
  · rw [exHigh_rd c hj]
    exact (h.liq j hj).1.ovr_tight (h.liq j hj).2.2 (by have := h.lh; have := h.lo0; omega) (by have := h.h1; omega)
end

end Go.Proofs.YtcdkbciagchlgaaDoor.PF
