/- What Refuse of package refusal returns, in plain numbers. -/
import Derived.Test.YtcdkbciagchlgaaDoorMEv
import Derived.Test.YtcdkbciagchlgaaDoorMRef30
import Derived.Test.YtcdkbciagchlgaaDoorMRef30b
import Derived.Test.YtcdkbciagchlgaaDoorPF0
import Derived.Test.YtcdkbciagchlgaaDoorPF1
import Derived.Test.YtcdkbciagchlgaaDoorPF3
import Derived.Test.YtcdkbciagchlgaaDoorPF4
import Derived.Test.YtcdkbciagchlgaaDoorPF7
import Derived.Test.YtcdkbciagchlgaaDoorPF8
import Derived.Test.YtcdkbciagchlgaaDoorPF9
namespace Go.Proofs.YtcdkbciagchlgaaDoor.PF
open Go.RowKit Go.Proofs.YtcdkbciagchlgaaDoorW.PrintWords Go.Proofs.YtcdkbciagchlgaaDoorW.PrintLast Go.Proofs.YtcdkbciagchlgaaDoorW.PrintMore
set_option linter.unusedVariables false
set_option linter.unusedSimpArgs false
theorem Ev.mapM {α β : Type} {F : Nat → α → Option β} {g : α → β} : ∀ l : List α, (∀ x, x ∈ l → Ev (fun k => F k x) (g x)) → Ev (fun k => l.mapM (F k)) (l.map g)
  | [], _ => Ev.now (fun k => by rw [List.mapM_nil]; rfl)
  | a :: l, h => by
    refine Ev.same (G := fun k => (F k a).bind fun b => (l.mapM (F k)).bind fun r => some (b :: r)) (fun k => by rw [List.mapM_cons]; rfl) ?_
    exact Ev.bind (h a (List.mem_cons_self ..)) (Ev.bind (Ev.mapM l (fun x hx => h x (List.mem_cons_of_mem _ hx))) (Ev.now fun _ => rfl))
theorem mem_rd {n : Int} {l : List Int} (h : n ∈ l) : ∃ j : Nat, j < l.length ∧ rd l (j : Int) = n := by
  obtain ⟨j, hj, e⟩ := List.getElem_of_mem h
  exact ⟨j, hj, by unfold rd; rw [Int.toNat_natCast, List.getD_eq_getElem?_getD, List.getElem?_eq_getElem hj]; exact e⟩
theorem candS_mem {low high : List Int} {nil : Bool} {c : S30} (h : c ∈ candS low high nil) : c = ⟨[], 0, 0, 1⟩ ∨ (∃ j : Nat, j < low.length ∧ rd low (j : Int) < 0 ∧ c = ⟨[], 1, 0, wrap64 (-(rd low (j : Int)))⟩) ∨ (nil = false ∧ c = ⟨[], 0, 1, 0⟩) ∨ (∃ j : Nat, j < high.length ∧ 0 < rd high (j : Int) ∧ c = ⟨[], 0, 1, rd high (j : Int)⟩) := by
  unfold candS at h
  simp only [List.mem_append, List.mem_singleton] at h
  rcases h with ((h | h) | h) | h
  · exact .inl h
  · unfold candL at h
    obtain ⟨n, hn, rfl⟩ := List.mem_map.1 h
    obtain ⟨h1, h2⟩ := List.mem_filter.1 hn
    obtain ⟨j, hj, e⟩ := mem_rd h1
    exact .inr (.inl ⟨j, hj, by rw [e]; exact of_decide_eq_true h2, by rw [e]⟩)
  · cases nil
    · rw [if_neg (by decide)] at h
      exact .inr (.inr (.inl ⟨rfl, List.mem_singleton.1 h⟩))
    · rw [if_pos rfl] at h
      cases h
  · unfold candH at h
    obtain ⟨n, hn, rfl⟩ := List.mem_map.1 h
    obtain ⟨h1, h2⟩ := List.mem_filter.1 hn
    obtain ⟨j, hj, e⟩ := mem_rd h1
    exact .inr (.inr (.inr ⟨j, hj, by rw [e]; exact of_decide_eq_true h2, by rw [e]⟩))
def untS (l : List S82) (L : List S45) (lo hi : Int) (c : S30) : List Int := (tab L.length (lst c.f1 c.f2 c.f3 (exLow l L lo) (exHigh l L hi))).map up0
def tryS (l : List S82) (L : List S45) (V : List Int) (lo hi al : Int) (c : S30) : S30 × Bool :=
  (⟨untS l L lo hi c, c.f1, c.f2, c.f3⟩, formB (untS l L lo hi c) c.f1 c.f2 c.f3 && rigB l L V lo hi al (untS l L lo hi c) c.f1 c.f2 c.f3)
theorem untS_len (l : List S82) (L : List S45) (lo hi : Int) (c : S30) : (untS l L lo hi c).length = L.length := by unfold untS; rw [List.length_map, tab_len]
section
variable {l : List S82} {L : List S45} {V C U : List Int} {lo hi al f1 f2 f3 : Int}
theorem exLow_rd {j : Nat} (hj : j < L.length) : rd (exLow l L lo) (j : Int) = ovr lo (dens l lo) L j := by unfold exLow overS; rw [tab_rd hj]
theorem exLow_len : (exLow l L lo).length = L.length := overS_len _ _ _
theorem OrdOK.low_ge (h : OrdOK l L V C lo hi al) {j : Nat} (hj : j < L.length) : -10000000000000 ≤ rd (exLow l L lo) (j : Int) := by
  rw [exLow_rd hj]
  exact ((h.liq j hj).1.ovr_rng (h.liq j hj).2.2 h.lo0 (by have := h.lh; have := h.h1; omega)).1
theorem OrdOK.cand (h : OrdOK l L V C lo hi al) {c : S30} (hc : c ∈ candS (exLow l L lo) (exHigh l L hi) (decide (hi = 10000))) : (c.f1 = 0 ∨ c.f1 = 1) ∧ (c.f2 = 0 ∨ c.f2 = 1) ∧ (0 ≤ c.f3 ∧ c.f3 ≤ 2000000000000000000) ∧ ¬ (c.f2 = 1 ∧ hi = 10000) := by
  rcases candS_mem hc with rfl | ⟨j, hj, h1, rfl⟩ | ⟨h1, rfl⟩ | ⟨j, hj, h1, rfl⟩
  · exact ⟨.inl rfl, .inl rfl, ⟨by decide, by decide⟩, fun z => absurd z.1 (by decide)⟩
  · rw [exLow_len] at hj
    have h2 := h.low_ge hj
    have e : wrap64 (-(rd (exLow l L lo) (j : Int))) = -(rd (exLow l L lo) (j : Int)) := w64_ (by omega) (by omega)
    exact ⟨.inr rfl, .inl rfl, ⟨by show 0 ≤ wrap64 _; omega, by show wrap64 _ ≤ _; omega⟩, fun z => absurd (show (0 : Int) = 1 from z.1) (by decide)⟩
  · exact ⟨.inl rfl, .inr rfl, ⟨by decide, by decide⟩, fun z => absurd z.2 (of_decide_eq_false h1)⟩
  · have hh : hi ≠ 10000 := fun z => by rw [exHigh_len, if_pos z] at hj; omega
    rw [exHigh_len, if_neg hh] at hj
    have h2 := h.high_rng hj
    exact ⟨.inl rfl, .inr rfl, ⟨by show 0 ≤ rd _ _; omega, h2.2⟩, fun z => hh z.2⟩
theorem try_ev (h : OrdOK l L V C lo hi al) {c : S30} (hc : c ∈ candS (exLow l L lo) (exHigh l L hi) (decide (hi = 10000))) : Ev (fun k => tryC k L V C lo hi al (exLow l L lo) (exHigh l L hi) c) (tryS l L V lo hi al c) := by
  obtain ⟨h1, h2, h3, h4⟩ := h.cand hc
  have n4 := h.n4
  unfold tryC
  refine Ev.bind (leasts_ev (h.lstok h1 h2 h3 h4) []) ?_
  have hl : (tab (exLow l L lo).length (lst c.f1 c.f2 c.f3 (exLow l L lo) (exHigh l L hi))).length ≤ 5000 := by rw [tab_len, exLow_len]; omega
  simp only [if_pos hl]
  have eU : (tab (exLow l L lo).length (lst c.f1 c.f2 c.f3 (exLow l L lo) (exHigh l L hi))).map up0 = untS l L lo hi c := by unfold untS; rw [exLow_len]
  rw [eU, formed_plain (by rw [untS_len]; omega)]
  simp only [Option.bind_some]
  unfold tryS
  cases hf : formB (untS l L lo hi c) c.f1 c.f2 c.f3
  · simp only [Bool.false_eq_true, if_false, Bool.false_and]
    exact Ev.now fun _ => rfl
  · simp only [if_true, Bool.true_and]
    exact Ev.bind (right_ev h ((formB_iff _ _ _ _).1 hf) (untS_len _ _ _ _ _)) (Ev.now fun _ => rfl)
def rfsS (l : List S82) (L : List S45) (V : List Int) (lo hi al : Int) : List (S30 × Bool) := (candS (exLow l L lo) (exHigh l L hi) (decide (hi = 10000))).map (tryS l L V lo hi al)
theorem Refuse_ev (h : OrdOK l L V C lo hi al) : Ev (fun k => refusal_Refuse.f k l L V C lo hi al) (refuseR (rfsS l L V lo hi al)) := by
  have n0 := h.n0
  have n4 := h.n4
  unfold refusal_Refuse.f
  refine Ev.bind (Excess_ev h) ?_
  have hc : (exLow l L lo).length ≤ 1000 ∧ (exHigh l L hi).length ≤ 1000 ∧ (hi = 10000 ∨ 0 < (exHigh l L hi).length) := by
    rw [exLow_len, exHigh_len]
    split
    · omega
    · omega
  simp only [if_true, if_pos hc]
  exact Ev.bind (Ev.mapM _ (fun c hm => try_ev h hm)) (Ev.now fun _ => rfl)
theorem Refuse_no (h : ¬ OrdOK l L V C lo hi al) (k : Nat) : refusal_Refuse.f k l L V C lo hi al = some ([], 0, 0, 0, 1) := by
  unfold refusal_Refuse.f
  rw [Excess_no h, Option.bind_some, if_neg (by decide)]
theorem refuseR_cases (rs : List (S30 × Bool)) : (∃ r, r ∈ rs ∧ r.2 = true ∧ refuseR rs = (r.1.f0, r.1.f1, r.1.f2, r.1.f3, 0)) ∨ ((∀ r, r ∈ rs → r.2 = false) ∧ refuseR rs = ([], 0, 0, 0, 22)) := by
  unfold refuseR
  cases e : rs.find? (fun r => r.2) with
  | none =>
    refine .inr ⟨fun r hr => ?_, rfl⟩
    have := List.find?_eq_none.1 e r hr
    cases hb : r.2
    · rfl
    · rw [hb] at this; exact absurd rfl this
  | some r => exact .inl ⟨r, List.mem_of_find?_eq_some e, List.find?_some e, rfl⟩
theorem RgtOK.of_try (h : OrdOK l L V C lo hi al) {c : S30} (ht : (tryS l L V lo hi al c).2 = true) : RgtOK l L V C lo hi al (untS l L lo hi c) c.f1 c.f2 c.f3 := by
  have ht : (formB (untS l L lo hi c) c.f1 c.f2 c.f3 && rigB l L V lo hi al (untS l L lo hi c) c.f1 c.f2 c.f3) = true := ht
  rw [Bool.and_eq_true] at ht
  exact ⟨h, untS_len _ _ _ _ _, (formB_iff _ _ _ _).1 ht.1, ht.2⟩
end
end Go.Proofs.YtcdkbciagchlgaaDoor.PF
