/- Functions with rounds: what they return with enough of them; two loops, one in the other. -/
import Derived.Test.YtcdkbciagchlgaaDoorPF0
namespace Go.Proofs.YtcdkbciagchlgaaDoor.PF
open Go.RowKit Go.Proofs.YtcdkbciagchlgaaDoorW.PrintWords Go.Proofs.YtcdkbciagchlgaaDoorW.PrintLast Go.Proofs.YtcdkbciagchlgaaDoorW.PrintMore
set_option linter.unusedVariables false
set_option linter.unusedSimpArgs false
def Ev {α : Type} (F : Nat → Option α) (r : α) : Prop := ∃ N, ∀ k, N ≤ k → F k = some r
theorem Ev.step {α : Type} {F G : Nat → Option α} {r : α} (h : ∀ k, F (k + 1) = G k) (hG : Ev G r) : Ev F r := by
  obtain ⟨N, hN⟩ := hG
  refine ⟨N + 1, fun k hk => ?_⟩
  obtain ⟨j, rfl⟩ : ∃ j, k = j + 1 := ⟨k - 1, by omega⟩
  rw [h]
  exact hN j (by omega)
theorem Ev.ret {α : Type} {F : Nat → Option α} {r : α} (h : ∀ k, F (k + 1) = some r) : Ev F r := by
  refine ⟨1, fun k hk => ?_⟩
  obtain ⟨j, rfl⟩ : ∃ j, k = j + 1 := ⟨k - 1, by omega⟩
  exact h j
theorem Ev.now {α : Type} {F : Nat → Option α} {r : α} (h : ∀ k, F k = some r) : Ev F r := ⟨0, fun k _ => h k⟩
theorem Ev.same {α : Type} {F G : Nat → Option α} {r : α} (h : ∀ k, F k = G k) (hG : Ev G r) : Ev F r := by
  obtain ⟨N, hN⟩ := hG
  exact ⟨N, fun k hk => by rw [h]; exact hN k hk⟩
theorem Ev.bind {α β : Type} {F : Nat → Option β} {G : Nat → β → Option α} {b : β} {r : α} (hF : Ev F b) (hG : Ev (fun k => G k b) r) : Ev (fun k => (F k).bind (G k)) r := by
  obtain ⟨N, hN⟩ := hF
  obtain ⟨M, hM⟩ := hG
  refine ⟨N + M, fun k hk => ?_⟩
  show (F k).bind (G k) = some r
  rw [hN k (by omega)]
  exact hM k (by omega)
end Go.Proofs.YtcdkbciagchlgaaDoor.PF
