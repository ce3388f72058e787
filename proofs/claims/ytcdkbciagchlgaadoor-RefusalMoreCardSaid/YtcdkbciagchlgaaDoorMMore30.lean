/- Right refusals stay right: more units needed, fewer units there, greater units of the refusal. -/
import Derived.Test.YtcdkbciagchlgaaDoorMEv
import Derived.Test.YtcdkbciagchlgaaDoorMRef30
import Derived.Test.YtcdkbciagchlgaaDoorMRef30b
import Derived.Test.YtcdkbciagchlgaaDoorMRef30c
import Derived.Test.YtcdkbciagchlgaaDoorPF0
import Derived.Test.YtcdkbciagchlgaaDoorPF5
import Derived.Test.YtcdkbciagchlgaaDoorPF9
namespace Go.Proofs.YtcdkbciagchlgaaDoor.PF
open Go.RowKit Go.Proofs.YtcdkbciagchlgaaDoorW.PrintWords Go.Proofs.YtcdkbciagchlgaaDoorW.PrintLast Go.Proofs.YtcdkbciagchlgaaDoorW.PrintMore
set_option linter.unusedVariables false
set_option linter.unusedSimpArgs false
theorem rd_set {V : List Int} {i : Nat} (hi : i < V.length) (x : Int) (j : Nat) : rd (V.set i x) (j : Int) = if j = i then x else rd V (j : Int) := by
  unfold rd
  rw [Int.toNat_natCast, List.getD_eq_getElem?_getD, List.getD_eq_getElem?_getD, List.getElem?_set]
  by_cases c : j = i
  · subst c
    rw [if_pos rfl, if_pos rfl, if_pos hi]
    rfl
  · rw [if_neg c, if_neg (fun e => c e.symm)]
theorem prodU_nn : ∀ V : List Int, (∀ y, y ∈ V → 0 ≤ y) → 0 ≤ prodU V
  | [], _ => by show (0 : Int) ≤ 1; decide
  | u :: r, h => Int.mul_nonneg (by have := h u (List.mem_cons_self ..); omega) (prodU_nn r (fun y hy => h y (List.mem_cons_of_mem _ hy)))
theorem prodU_set : ∀ (V : List Int) (i : Nat) (x : Int), (∀ y, y ∈ V → 0 ≤ y) → (∀ y, V[i]? = some y → x ≤ y) → prodU (V.set i x) ≤ prodU V
  | [], _, _, _, _ => Int.le_refl _
  | u :: r, 0, x, h, hx => by
    show (x + 1) * prodU r ≤ (u + 1) * prodU r
    exact Int.mul_le_mul_of_nonneg_right (by have := hx u rfl; omega) (prodU_nn r (fun y hy => h y (List.mem_cons_of_mem _ hy)))
  | u :: r, i + 1, x, h, hx => by
    show (u + 1) * prodU (r.set i x) ≤ (u + 1) * prodU r
    exact Int.mul_le_mul_of_nonneg_left (prodU_set r i x (fun y hy => h y (List.mem_cons_of_mem _ hy)) (fun y hy => hx y (by simpa using hy))) (by have := h u (List.mem_cons_self ..); omega)
theorem dotS_mono {U V V' : List Int} : ∀ n : Nat, (∀ j : Nat, j < n → 0 ≤ rd U (j : Int) ∧ rd V' (j : Int) ≤ rd V (j : Int)) → dotS U V' n ≤ dotS U V n
  | 0, _ => Int.le_refl _
  | n + 1, h => by
    have h1 := dotS_mono n (fun j hj => h j (by omega))
    have h2 := Int.mul_le_mul_of_nonneg_left (h n (by omega)).2 (h n (by omega)).1
    show dotS U V' n + rd U (n : Int) * rd V' (n : Int) ≤ dotS U V n + rd U (n : Int) * rd V (n : Int)
    omega
theorem dotS_same {U U' V : List Int} : ∀ n : Nat, (∀ j : Nat, j < n → rd U' (j : Int) * rd V (j : Int) = rd U (j : Int) * rd V (j : Int)) → dotS U' V n = dotS U V n
  | 0, _ => rfl
  | n + 1, h => by
    show dotS U' V n + rd U' (n : Int) * rd V (n : Int) = dotS U V n + rd U (n : Int) * rd V (n : Int)
    rw [dotS_same n (fun j hj => h j (by omega)), h n (by omega)]
section
variable {l : List S82} {L : List S45} {V C U : List Int} {lo hi al f1 f2 f3 : Int}
theorem rigB_iff : rigB l L V lo hi al U f1 f2 f3 = true ↔ ¬ (f2 = 1 ∧ hi = 10000) ∧ (∀ j : Nat, j < L.length → lst f1 f2 f3 (exLow l L lo) (exHigh l L hi) j ≤ rd U (j : Int)) ∧ dotS U V L.length < f2 + f3 * al := by
  unfold rigB
  rw [Bool.and_eq_true, rgtB_iff, Bool.not_eq_true', decide_eq_false_iff_not]
theorem RgtOK.more (h : RgtOK l L V C lo hi al U f1 f2 f3) (ha : al < 256) : RgtOK l L V C lo hi (al + 1) U f1 f2 f3 := by
  have h1 := h.o.al1
  obtain ⟨a, b, c⟩ := rigB_iff.1 h.r
  refine ⟨{ h.o with al1 := by omega, al2 := by omega }, h.n, h.f, rigB_iff.2 ⟨a, b, ?_⟩⟩
  have := h.f.hf3
  rw [Int.mul_add, Int.mul_one]
  omega
theorem RgtOK.fewer (h : RgtOK l L V C lo hi al U f1 f2 f3) {i : Nat} (hi_ : i < L.length) (hp : 0 < rd V (i : Int)) : RgtOK l L (V.set i (rd V (i : Int) - 1)) C lo hi al U f1 f2 f3 := by
  obtain ⟨a, b, c⟩ := rigB_iff.1 h.r
  have hlu := h.o.lu
  have hs := rd_set (V := V) (i := i) (by omega) (rd V (i : Int) - 1)
  have hle : ∀ j : Nat, j < L.length → rd (V.set i (rd V (i : Int) - 1)) (j : Int) ≤ rd V (j : Int) := fun j hj => by
    rw [hs j]
    split
    · rename_i e; subst e; omega
    · exact Int.le_refl _
  refine ⟨{ h.o with lu := by rw [List.length_set]; exact hlu, us := fun j hj => ?_, pl := ?_ }, h.n, h.f, rigB_iff.2 ⟨a, b, ?_⟩⟩
  · have := h.o.us j hj
    have := hle j hj
    have := hs j
    split at this
    · omega
    · omega
  · refine Int.le_trans (prodU_set V i _ (fun y hy => ?_) (fun y hy => ?_)) h.o.pl
    · obtain ⟨j, hj, e⟩ := mem_rd hy
      rw [← e]
      exact (h.o.us j (by omega)).1
    · have e : rd V (i : Int) = y := by unfold rd; rw [Int.toNat_natCast, List.getD_eq_getElem?_getD, hy]; rfl
      omega
  · refine Int.lt_of_le_of_lt (dotS_mono L.length (fun j hj => ⟨(h.f.u j (by have := h.n; omega)).1, hle j hj⟩)) c
theorem RgtOK.greater (h : RgtOK l L V C lo hi al U f1 f2 f3) {i : Nat} (hi_ : i < L.length) (hp : rd V (i : Int) = 0) (hu : rd U (i : Int) < 1125899906842624) : RgtOK l L V C lo hi al (U.set i (rd U (i : Int) + 1)) f1 f2 f3 := by
  obtain ⟨a, b, c⟩ := rigB_iff.1 h.r
  have hn := h.n
  have hs := rd_set (V := U) (i := i) (by omega) (rd U (i : Int) + 1)
  refine ⟨h.o, by rw [List.length_set]; exact hn, ⟨fun j hj => ?_, h.f.hf1, h.f.hf2, h.f.s, h.f.hf3⟩, rigB_iff.2 ⟨a, fun j hj => ?_, ?_⟩⟩
  · rw [List.length_set] at hj
    have h1 := h.f.u j hj
    rw [hs j]
    split
    · rename_i e; subst e; omega
    · exact h1
  · have h1 := b j hj
    rw [hs j]
    split
    · rename_i e; subst e; omega
    · exact h1
  · rw [dotS_same (U := U) L.length (fun j hj => ?_)]
    · exact c
    · rw [hs j]
      split
      · rename_i e; subst e; rw [hp, Int.mul_zero, Int.mul_zero]
      · rfl
end
theorem Check_yes {l : List S82} {L : List S45} {V C U : List Int} {lo hi al f1 f2 f3 : Int} (h : RgtOK l L V C lo hi al U f1 f2 f3) : Ev (fun k => refusal_Check.f k l L V C lo hi al U f1 f2 f3) 0 := by
  obtain ⟨e, he, -, hiff⟩ := Check_ev l L V C lo hi al (U := U) (by have := h.n; have := h.o.n4; omega) f1 f2 f3
  obtain rfl := hiff.2 h
  exact he

end Go.Proofs.YtcdkbciagchlgaaDoor.PF
