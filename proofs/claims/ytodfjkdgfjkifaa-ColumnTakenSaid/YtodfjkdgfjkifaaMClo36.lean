/- What the missing flow is: it closes the open plates. -/
import Derived.Test.YtodfjkdgfjkifaaMBal36
import Derived.Test.YtodfjkdgfjkifaaMCol36
import Derived.Test.YtodfjkdgfjkifaaMMis36
import Derived.Test.YtodfjkdgfjkifaaMOpn36
import Derived.Test.YtodfjkdgfjkifaaPF0
namespace Go.Proofs.Ytodfjkdgfjkifaa.PF
open Go.RowKit Go.Proofs.YtodfjkdgfjkifaaW.PrintWords Go.Proofs.YtodfjkdgfjkifaaW.PrintLast Go.Proofs.YtodfjkdgfjkifaaW.PrintMore
set_option linter.unusedVariables false
set_option linter.unusedSimpArgs false
theorem openS_nodup (B : Nat → Int × Int) : (openS B).Nodup := by
  unfold openS openTo
  exact List.Pairwise.map (fun q : Nat => (q : Int)) (fun a b h e => h (by omega)) ((List.nodup_range (n := 17)).filter _)
theorem misF_err {a b : Int} {p : Int × Int} {f : S28} {e : Int} (h : misF a b p = (f, e)) (he : e ≠ 0) : f = fl0 := by
  unfold misF at h
  simp only at h
  by_cases hy : p.2 < 0
  · rw [if_pos hy] at h
    simp only at h
    split at h
    · exact (congrArg Prod.fst h).symm
    · split at h
      · exact (congrArg Prod.fst h).symm
      · exact absurd (congrArg Prod.snd h).symm he
  · rw [if_neg hy] at h
    simp only at h
    split at h
    · exact (congrArg Prod.fst h).symm
    · split at h
      · exact (congrArg Prod.fst h).symm
      · exact absurd (congrArg Prod.snd h).symm he
theorem misR_err {p : Int} {l : List S28} {f : S28} {e : Int} (h : misR p l = (f, e)) (he : e ≠ 0) : f = fl0 := by
  unfold misR at h
  split at h
  · unfold misO at h
    split at h
    · exact (congrArg Prod.fst h).symm
    · exact misF_err h he
    · split at h
      · exact (congrArg Prod.fst h).symm
      · exact misF_err h he
    · exact (congrArg Prod.fst h).symm
  · exact (congrArg Prod.fst h).symm
/-- The flow from a to b, or from b to a, that takes (x, y) off a. -/
theorem misF_ok {a b x y : Int} {f : S28} (h : misF a b (x, y) = (f, 0)) : 1 ≤ f.f3 ∧ 0 ≤ f.f2 ∧ ((f.f0 = a ∧ f.f1 = b ∧ f.f2 = x ∧ f.f3 = y) ∨ (f.f0 = b ∧ f.f1 = a ∧ f.f2 = -x ∧ f.f3 = -y)) := by
  unfold misF at h
  simp only at h
  by_cases hy : y < 0
  · rw [if_pos hy] at h
    simp only at h
    split at h
    · cases congrArg Prod.snd h
    · split at h
      · cases congrArg Prod.snd h
      · have := congrArg Prod.fst h
        simp only at this
        subst this
        exact ⟨by simp only; omega, by simp only; omega, .inr ⟨rfl, rfl, rfl, rfl⟩⟩
  · rw [if_neg hy] at h
    simp only at h
    split at h
    · cases congrArg Prod.snd h
    · split at h
      · cases congrArg Prod.snd h
      · have := congrArg Prod.fst h
        simp only at this
        subst this
        exact ⟨by simp only; omega, by simp only; omega, .inl ⟨rfl, rfl, rfl, rfl⟩⟩
theorem misR_ok {p : Int} {l : List S28} {f : S28} (h : misR p l = (f, 0)) : rt36 p l = true ∧ 1 ≤ f.f3 ∧ 0 ≤ f.f2 ∧ f.f0 ≠ f.f1 ∧ (f.f0 ≠ 0 → f.f0 ∈ openS (balL l)) ∧ (f.f1 ≠ 0 → f.f1 ∈ openS (balL l)) ∧
    ∀ q ∈ openS (balL l), (balL l q.toNat).1 + (if q = f.f1 then f.f2 else 0) - (if q = f.f0 then f.f2 else 0) = 0 ∧ (balL l q.toNat).2 + (if q = f.f1 then f.f3 else 0) - (if q = f.f0 then f.f3 else 0) = 0 := by
  unfold misR at h
  cases hb : rt36 p l
  · rw [hb] at h
    cases congrArg Prod.snd h
  rw [hb, if_pos rfl] at h
  refine ⟨rfl, ?_⟩
  have hnd := openS_nodup (balL l)
  have hmem := fun q (hq : q ∈ openS (balL l)) => openS_mem hq
  generalize balL l = B at *
  generalize openS B = O at *
  rcases O with _ | ⟨a, _ | ⟨b, _ | ⟨d, r⟩⟩⟩
  · cases congrArg Prod.snd h
  · simp only [misO] at h
    have ha := hmem a (by simp)
    obtain ⟨⟨x, y⟩, hxy⟩ : ∃ z, z = B a.toNat := ⟨_, rfl⟩
    rw [← hxy] at h
    obtain ⟨h1, h2, h3⟩ := misF_ok h
    refine ⟨h1, h2, by omega, fun h0 => by simp; omega, fun h0 => by simp; omega, fun q hq => ?_⟩
    rw [List.mem_singleton] at hq
    subst hq
    rw [← hxy]
    simp only
    rcases h3 with ⟨e0, e1, e2, e3⟩ | ⟨e0, e1, e2, e3⟩
    · rw [if_neg (by omega), if_pos (by omega), if_neg (by omega), if_pos (by omega)]; omega
    · rw [if_pos (by omega), if_neg (by omega), if_pos (by omega), if_neg (by omega)]; omega
  · simp only [misO] at h
    have ha := hmem a (by simp)
    have hb := hmem b (by simp)
    have hab : a ≠ b := by simp at hnd; exact hnd
    obtain ⟨⟨x, y⟩, hxy⟩ : ∃ z, z = B a.toNat := ⟨_, rfl⟩
    obtain ⟨⟨z, u⟩, hzu⟩ : ∃ z, z = B b.toNat := ⟨_, rfl⟩
    rw [← hxy, ← hzu] at h
    simp only at h
    split at h
    · cases congrArg Prod.snd h
    · rename_i hne
      obtain ⟨h1, h2, h3⟩ := misF_ok h
      refine ⟨h1, h2, by omega, fun h0 => by simp; omega, fun h0 => by simp; omega, fun q hq => ?_⟩
      simp only [List.mem_cons, List.not_mem_nil, or_false] at hq
      rcases hq with hq | hq <;> subst hq
      · rw [← hxy]
        simp only
        rcases h3 with ⟨e0, e1, e2, e3⟩ | ⟨e0, e1, e2, e3⟩
        · rw [if_neg (by omega), if_pos (by omega), if_neg (by omega), if_pos (by omega)]; omega
        · rw [if_pos (by omega), if_neg (by omega), if_pos (by omega), if_neg (by omega)]; omega
      · rw [← hzu]
        simp only
        rcases h3 with ⟨e0, e1, e2, e3⟩ | ⟨e0, e1, e2, e3⟩
        · rw [if_pos (by omega), if_neg (by omega), if_pos (by omega), if_neg (by omega)]; omega
        · rw [if_neg (by omega), if_pos (by omega), if_neg (by omega), if_pos (by omega)]; omega
  · cases congrArg Prod.snd h

end Go.Proofs.Ytodfjkdgfjkifaa.PF
