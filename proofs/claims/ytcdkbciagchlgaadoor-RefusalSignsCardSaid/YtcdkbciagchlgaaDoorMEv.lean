/- Functions with rounds: what they return with enough of them; two loops, one in the other. -/
import Derived.Test.YtcdkbciagchlgaaDoorPF0
namespace Go.Proofs.YtcdkbciagchlgaaDoor.PF
open Go.RowKit Go.Proofs.YtcdkbciagchlgaaDoorW.PrintWords Go.Proofs.YtcdkbciagchlgaaDoorW.PrintLast Go.Proofs.YtcdkbciagchlgaaDoorW.PrintMore
set_option linter.unusedVariables false
set_option linter.unusedSimpArgs false
/-- With enough rounds a function returns r. -/
def Ev {α : Type} (F : Nat → Option α) (r : α) : Prop := ∃ N, ∀ k, N ≤ k → F k = some r
theorem Ev.step {α : Type} {F G : Nat → Option α} {r : α} (h : ∀ k, F (k + 1) = G k) (hG : Ev G r) : Ev F r := by
  obtain ⟨N, hN⟩ := hG
  refine ⟨N + 1, fun k hk => ?_⟩
  obtain ⟨j, rfl⟩ : ∃ j, k = j + 1 := ⟨k - 1, by omega⟩
  rw [h]
  exact hN j (by omega)
theorem Ev.ret {α : Type} {F : Nat → Option α} {r : α} (h : ∀ k, F (k + 1) = some r) : Ev F r := by
  refine ⟨1, fun k hk => ?_⟩
  obtain ⟨j, rfl⟩ : ∃ j, k = j + 1 := ⟨k - 1, by omega⟩
  exact h j
theorem Ev.now {α : Type} {F : Nat → Option α} {r : α} (h : ∀ k, F k = some r) : Ev F r := ⟨0, fun k _ => h k⟩
theorem Ev.same {α : Type} {F G : Nat → Option α} {r : α} (h : ∀ k, F k = G k) (hG : Ev G r) : Ev F r := by
  obtain ⟨N, hN⟩ := hG
  exact ⟨N, fun k hk => by rw [h]; exact hN k hk⟩
theorem Ev.bind {α β : Type} {F : Nat → Option β} {G : Nat → β → Option α} {b : β} {r : α} (hF : Ev F b) (hG : Ev (fun k => G k b) r) : Ev (fun k => (F k).bind (G k)) r := by
  obtain ⟨N, hN⟩ := hF
  obtain ⟨M, hM⟩ := hG
  refine ⟨N + M, fun k hk => ?_⟩
  show (F k).bind (G k) = some r
  rw [hN k (by omega)]
  exact hM k (by omega)
/-! ### All pairs of numbers below n -/
def rowP (n i j : Nat) : List (Nat × Nat) := (List.range' j (n - j)).map (fun x => (i, x))
def allP (n i : Nat) : List (Nat × Nat) := (List.range' i (n - i)).flatMap (fun a => rowP n a (a + 1))
theorem rowP_cons {n i j : Nat} (h : j < n) : rowP n i j = (i, j) :: rowP n i (j + 1) := by
  unfold rowP
  obtain ⟨d, rfl⟩ : ∃ d, n = j + 1 + d := ⟨n - j - 1, by omega⟩
  rw [show j + 1 + d - j = d + 1 by omega, show j + 1 + d - (j + 1) = d by omega, List.range'_succ]
  rfl
theorem rowP_end {n i j : Nat} (h : n ≤ j) : rowP n i j = [] := by
  unfold rowP
  rw [show n - j = 0 by omega]
  rfl
theorem allP_cons {n i : Nat} (h : i < n) : allP n i = rowP n i (i + 1) ++ allP n (i + 1) := by
  unfold allP
  obtain ⟨d, rfl⟩ : ∃ d, n = i + 1 + d := ⟨n - i - 1, by omega⟩
  rw [show i + 1 + d - i = d + 1 by omega, show i + 1 + d - (i + 1) = d by omega, List.range'_succ]
  rfl
theorem allP_end {n i : Nat} (h : n ≤ i) : allP n i = [] := by
  unfold allP
  rw [show n - i = 0 by omega]
  rfl
theorem mem_allP {n i : Nat} {p : Nat × Nat} : p ∈ allP n i ↔ i ≤ p.1 ∧ p.1 < p.2 ∧ p.2 < n := by
  unfold allP rowP
  simp only [List.mem_flatMap, List.mem_map, List.mem_range'_1]
  constructor
  · rintro ⟨a, ⟨h1, h2⟩, x, ⟨h3, h4⟩, rfl⟩
    exact ⟨h1, by show a < x; omega, by show x < n; omega⟩
  · rintro ⟨h1, h2, h3⟩
    exact ⟨p.1, ⟨h1, by omega⟩, p.2, ⟨by omega, by omega⟩, rfl⟩
theorem allP_length (n : Nat) (d : Nat) : ∀ i, i + d = n → (allP n i).length ≤ d * n := by
  induction d with
  | zero => intro i hi; rw [allP_end (by omega)]; simp
  | succ d ih =>
    intro i hi
    rw [allP_cons (by omega), List.length_append]
    have := ih (i + 1) (by omega)
    have h2 : (rowP n i (i + 1)).length ≤ n := by unfold rowP; simp
    rw [Nat.succ_mul]
    omega
theorem pairLoop {α ρ : Type} (n : Nat) (F : α → Nat × Nat → α) (I : α → Nat → Prop) (out : α → ρ) (L0 : Nat → α → Nat → Option ρ) (L1 : Nat → α → Nat → Nat → Option ρ)
    (h0 : ∀ k a i, i < n → L0 (k + 1) a i = L1 k a i (i + 1)) (h0e : ∀ k a, L0 (k + 1) a n = some (out a))
    (h1 : ∀ k a i j m, i < j → j < n → I a (m + 1) → L1 (k + 1) a i j = L1 k (F a (i, j)) i (j + 1)) (hI : ∀ a i j m, I a (m + 1) → I (F a (i, j)) m)
    (h1e : ∀ k a i, i < n → L1 (k + 1) a i n = L0 k a (i + 1)) (a : α) (ha : I a (allP n 0).length) : Ev (fun k => L0 k a 0) (out ((allP n 0).foldl F a)) := by
  have key : ∀ d i, i + d = n → ∀ a, I a (allP n i).length → Ev (fun k => L0 k a i) (out ((allP n i).foldl F a)) := by
    intro d
    induction d with
    | zero =>
      intro i hi a ha
      obtain rfl : i = n := by omega
      rw [allP_end (Nat.le_refl _)]
      exact Ev.ret (fun k => h0e k a)
    | succ d ih =>
      intro i hi a ha
      have hrow : ∀ e j, j + e = n → i < j → ∀ a, I a ((rowP n i j).length + (allP n (i + 1)).length) → Ev (fun k => L1 k a i j) (out ((allP n (i + 1)).foldl F ((rowP n i j).foldl F a))) := by
        intro e
        induction e with
        | zero =>
          intro j hj hij a ha
          obtain rfl : j = n := by omega
          rw [rowP_end (Nat.le_refl _)] at ha ⊢
          refine Ev.step (fun k => h1e k a i (by omega)) (ih (i + 1) (by omega) a ?_)
          simpa using ha
        | succ e ihe =>
          intro j hj hij a ha
          rw [rowP_cons (show j < n by omega)] at ha ⊢
          rw [List.length_cons, show (rowP n i (j + 1)).length + 1 + (allP n (i + 1)).length = ((rowP n i (j + 1)).length + (allP n (i + 1)).length) + 1 by omega] at ha
          exact Ev.step (fun k => h1 k a i j _ hij (by omega) ha) (ihe (j + 1) (by omega) (by omega) _ (hI _ _ _ _ ha))
      rw [allP_cons (show i < n by omega)] at ha ⊢
      rw [List.foldl_append]
      rw [List.length_append] at ha
      refine Ev.step (fun k => h0 k a i (by omega)) (hrow (n - (i + 1)) (i + 1) (by omega) (by omega) a ha)
  exact key n 0 (by omega) a ha

end Go.Proofs.YtcdkbciagchlgaaDoor.PF
