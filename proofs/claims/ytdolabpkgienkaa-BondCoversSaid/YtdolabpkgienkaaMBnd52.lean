/- Layer 52: Free in closed form. -/
import Derived.Test.YtdolabpkgienkaaMEv
import Derived.Test.YtdolabpkgienkaaPF0
import Derived.Test.YtdolabpkgienkaaPF3
import Derived.Test.YtdolabpkgienkaaPF4
import Derived.Test.YtdolabpkgienkaaPF5
import Derived.Test.YtdolabpkgienkaaPF7
namespace Go.Proofs.Ytdolabpkgienkaa.PF
open Go.RowKit Go.Proofs.YtdolabpkgienkaaW.PrintWords Go.Proofs.YtdolabpkgienkaaW.PrintLast Go.Proofs.YtdolabpkgienkaaW.PrintMore
set_option linter.unusedVariables false
set_option linter.unusedSimpArgs false
theorem Ev.of_mono {α : Type} {F : Nat → Option α} {n : Nat} {r : α} (hm : ∀ k, LeO (F k) (F (k + 1))) (h : F n = some r) : Ev F r := by
  refine ⟨n, fun k hk => ?_⟩
  obtain ⟨d, rfl⟩ : ∃ d, k = n + d := ⟨k - n, by omega⟩
  clear hk
  induction d with
  | zero => exact h
  | succ d ih => exact hm (n + d) r ih
theorem Ev.bind_some {α β : Type} {F : Nat → Option β} {f : β → α} {b : β} (hF : Ev F b) : Ev (fun k => (F k).bind fun t => some (f t)) (f b) :=
  Ev.bind (G := fun _ t => some (f t)) hF (Ev.now fun _ => rfl)
theorem asks52 (l : List S31) (h : List S35) : bond_asks.f l h = some (if (hldR l h).2 = 0 then 0 else 1) := by
  unfold bond_asks.f bond_Holds.f
  rw [Option.bind_some]
  split <;> rfl
def freR (l : List S31) (h : List S35) (id : Int) : Int × Int :=
  if (hldR l h).2 = 0 then match findB l id with | none => (0, 7) | some b => (b.f3 - sumH h b.f0, 0) else (0, 1)
theorem RightH.sum {l : List S31} {h : List S35} (hr : RightH l h) (id : Int) : 0 ≤ sumH h id ∧ sumH h id ≤ 18014398509481984 := by
  have a1 := sumH_nonneg (h := h) (fun x hx => (hr.2.2.1 x hx).2.2.1) id
  have a2 := sumH_le (h := h) (M := 1125899906842624) (by decide) (fun x hx => (hr.2.2.1 x hx).2.2.2) id
  have a3 := hr.2.1
  omega
theorem pfree_ev {h : List S35} (b0 b1 b2 b3 : Int) (hl : h.length ≤ 17) (hk : ∀ x ∈ h, okH x) (hb : 0 ≤ b3 ∧ b3 ≤ 1125899906842624) : Ev (fun k => bond_free.f k b0 b1 b2 b3 h) (b3 - sumH h b0) :=
  Ev.of_mono (fun k => bond_free.mono _ _ _ _ _ k) (bond_free.plain b0 b1 b2 b3 hl hk hb)
theorem pFree_ev {l : List S31} (hl : l.length ≤ 1000) (h : List S35) (id : Int) : Ev (fun k => bond_Free.f k l h id) (freR l h id) := by
  unfold freR
  by_cases e : (hldR l h).2 = 0
  · have hr := (hldR_zero l h).1 e
    rw [if_pos e]
    cases hf : findB l id with
    | none =>
      refine Ev.now fun k => ?_
      unfold bond_Free.f bond_find.f
      rw [asks52, if_pos e, if_pos (by omega), hf, Option.bind_some, if_pos rfl, Option.bind_some, if_neg (by decide)]
    | some b =>
      refine Ev.same (G := fun k => (bond_free.f k b.f0 b.f1 b.f2 b.f3 h).bind fun t => some (t, 0)) (fun k => ?_) (Ev.bind_some (f := fun t : Int => (t, (0 : Int))) (pfree_ev _ _ _ _ (by have := hr.2.1; omega) hr.2.2.1 ?_))
      · unfold bond_Free.f bond_find.f
        rw [asks52, if_pos e, if_pos (by omega), hf, Option.bind_some, if_pos rfl, Option.bind_some, if_pos rfl]
      · have := hr.1.2.1 b (findB_some hf).1
        unfold okB at this
        omega
  · rw [if_neg e]
    refine Ev.now fun k => ?_
    unfold bond_Free.f
    rw [asks52, if_neg e, Option.bind_some, if_neg (by decide)]

end Go.Proofs.Ytdolabpkgienkaa.PF
