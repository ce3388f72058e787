/- Layer 52: what bonds are short of, and bonds that are raised by it. -/
import Derived.Test.YtdolabpkgienkaaMBnd52e
import Derived.Test.YtdolabpkgienkaaPF0
import Derived.Test.YtdolabpkgienkaaPF1
import Derived.Test.YtdolabpkgienkaaPF10
import Derived.Test.YtdolabpkgienkaaPF3
import Derived.Test.YtdolabpkgienkaaPF4
import Derived.Test.YtdolabpkgienkaaPF5
namespace Go.Proofs.Ytdolabpkgienkaa.PF
open Go.RowKit Go.Proofs.YtdolabpkgienkaaW.PrintWords Go.Proofs.YtdolabpkgienkaaW.PrintLast Go.Proofs.YtdolabpkgienkaaW.PrintMore
set_option linter.unusedVariables false
set_option linter.unusedSimpArgs false
theorem sht_err {l : List S31} {h : List S35} (e : (shtR l h).2 ≠ 0) : (shtR l h).1 = [] := by
  unfold shtR at e ⊢
  split at e
  · rename_i c; rw [if_pos c]
  rename_i c; rw [if_neg c]
  split at e
  · rename_i c; rw [if_pos c]
  rename_i c; rw [if_neg c]
  split at e
  · rename_i c; rw [if_pos c]
  rename_i c; rw [if_neg c]
  split at e
  · rename_i c; rw [if_pos c]
  · exact absurd rfl e
theorem sht_zero {l : List S31} {h s : List S35} (e : shtR l h = (s, 0)) : RightB l ∧ h.length ≤ 64 ∧ (∀ x ∈ h, okA x = true) ∧ (∀ x ∈ h, (findB l x.f0).isNone = false) ∧ s = shtL l h := by
  unfold shtR at e
  by_cases c1 : (chkB l).2 = 0
  case neg => rw [if_pos c1] at e; cases e
  rw [if_neg (not_not_intro c1)] at e
  by_cases c2 : 64 < h.length
  · rw [if_pos c2] at e; cases e
  rw [if_neg c2] at e
  by_cases c3 : h.any (fun x => !okA x) = true
  · rw [if_pos c3] at e; cases e
  rw [if_neg c3] at e
  by_cases c4 : h.any (fun x => (findB l x.f0).isNone) = true
  · rw [if_pos c4] at e; cases e
  rw [if_neg c4] at e
  rw [Bool.not_eq_true, List.any_eq_false] at c3 c4
  exact ⟨(chkB_zero l).1 c1, by omega, fun x hx => by have := c3 x hx; simpa using this, fun x hx => Bool.eq_false_iff.mpr (c4 x hx), (congrArg Prod.fst e).symm⟩
theorem sht_mk {l : List S31} {h : List S35} (hl : RightB l) (hh : h.length ≤ 64) (h1 : ∀ x ∈ h, okA x = true) (h2 : ∀ x ∈ h, (findB l x.f0).isNone = false) : shtR l h = (shtL l h, 0) := by
  unfold shtR
  rw [if_neg (not_not_intro ((chkB_zero l).2 hl)), if_neg (by omega), if_neg, if_neg]
  · rw [Bool.not_eq_true, List.any_eq_false]; intro x hx; rw [h2 x hx]; decide
  · rw [Bool.not_eq_true, List.any_eq_false]; intro x hx; rw [h1 x hx]; decide
theorem shtL_nil {l : List S31} {h : List S35} (hn : ∀ b ∈ l, sumH h b.f0 ≤ b.f3) : shtL l h = [] := by
  unfold shtL
  rw [List.filterMap_eq_nil_iff]
  intro b hb
  have := hn b hb
  rw [if_neg (by omega)]
theorem sht_right {l : List S31} {h : List S35} (hr : RightH l h) : shtR l h = ([], 0) := by
  rw [sht_mk hr.1 (by have := hr.2.1; omega) (fun x hx => decide_eq_true ⟨(hr.2.2.1 x hx).2.2.1, (hr.2.2.1 x hx).2.2.2⟩) (fun x hx => by obtain ⟨b, hb, _⟩ := hr.2.2.2.2 x hx; rw [hb]; rfl), shtL_nil (fun b hb => right_most hr hb)]
theorem mem_sht {l : List S31} {h : List S35} {x : S35} (hx : x ∈ shtL l h) : ∃ b ∈ l, 0 < sumH h b.f0 - b.f3 ∧ x = ⟨b.f0, 0, sumH h b.f0 - b.f3⟩ := by
  unfold shtL at hx
  obtain ⟨b, hb, e⟩ := List.mem_filterMap.1 hx
  by_cases c : 0 < sumH h b.f0 - b.f3
  · rw [if_pos c] at e; exact ⟨b, hb, c, (Option.some.inj e).symm⟩
  · rw [if_neg c] at e; cases e
theorem sht_mem {l : List S31} {h : List S35} {b : S31} (hb : b ∈ l) (c : 0 < sumH h b.f0 - b.f3) : (⟨b.f0, 0, sumH h b.f0 - b.f3⟩ : S35) ∈ shtL l h := by
  unfold shtL
  exact List.mem_filterMap.2 ⟨b, hb, by rw [if_pos c]⟩
theorem sht_pw {l : List S31} (hl : RightB l) (h : List S35) : (shtL l h).Pairwise (fun a b => a.f0 < b.f0) := by
  unfold shtL
  refine hl.2.2.filterMap _ ?_
  intro a b hab x hx y hy
  by_cases c : 0 < sumH h a.f0 - a.f3
  · rw [if_pos c] at hx
    by_cases d : 0 < sumH h b.f0 - b.f3
    · rw [if_pos d] at hy
      obtain rfl := Option.some.inj hx
      obtain rfl := Option.some.inj hy
      exact hab
    · rw [if_neg d] at hy; cases hy
  · rw [if_neg c] at hx; cases hx
/-- R are the bonds l, those of t raised to the sum of their needs. -/
def Raised (l : List S31) (nd t : List S35) (R : List S31) : Prop :=
  R.length = l.length ∧ ∀ i (hi : i < l.length) (hi' : i < R.length), R[i].f0 = l[i].f0 ∧ R[i].f1 = l[i].f1 ∧ R[i].f2 = l[i].f2 ∧
    ((l[i].f0 ∈ t.map (fun x => x.f0) ∧ R[i].f3 = sumH nd l[i].f0 ∧ R[i].f3 ≤ 1125899906842624) ∨ (l[i].f0 ∉ t.map (fun x => x.f0) ∧ R[i].f3 = l[i].f3))
theorem raised_nil (l : List S31) (nd : List S35) : Raised l nd [] l := ⟨rfl, fun i hi hi' => ⟨rfl, rfl, rfl, .inr ⟨by simp, rfl⟩⟩⟩
theorem id_inj {l : List S31} (hl : RightB l) {i j : Nat} (hi : i < l.length) (hj : j < l.length) (e : l[i].f0 = l[j].f0) : i = j := by
  rcases Nat.lt_trichotomy i j with c | c | c
  · have := List.pairwise_iff_getElem.1 hl.2.2 i j hi hj c; omega
  · exact c
  · have := List.pairwise_iff_getElem.1 hl.2.2 j i hj hi c; omega
/-- The place of the bond that is to be raised, and what it has there. -/
theorem raised_at {l R : List S31} {nd : List S35} (hl : RightB l) {j : Nat} (hj : j < (shtL l nd).length) (hR : Raised l nd ((shtL l nd).take j) R) :
    ∃ i, ∃ hi : i < l.length, 0 < sumH nd l[i].f0 - l[i].f3 ∧ (shtL l nd)[j] = ⟨l[i].f0, 0, sumH nd l[i].f0 - l[i].f3⟩ ∧ idxP (fun k => (rd_T31 R (k : Int)).f0 == (shtL l nd)[j].f0) R.length 0 = (i : Int) ∧
      rd_T31 R (i : Int) = ⟨l[i].f0, l[i].f1, l[i].f2, l[i].f3⟩ := by
  obtain ⟨b, hb, hpos, hx⟩ := mem_sht (List.getElem_mem hj)
  obtain ⟨i, hi, rfl⟩ := List.mem_iff_getElem.1 hb
  have hiR : i < R.length := by rw [hR.1]; exact hi
  refine ⟨i, hi, hpos, hx, ?_, ?_⟩
  · refine idxP_found _ i R.length 0 ?_ (fun k _ hk => ?_) (Nat.zero_le _) (by omega)
    · rw [rdB hiR, (hR.2 i hi hiR).1, hx]; simp
    · have hk' : k < R.length := by omega
      have hkl : k < l.length := by omega
      rw [rdB hk', (hR.2 k hkl hk').1, hx, beq_eq_false_iff_ne]
      intro e
      have := id_inj hl hkl hi e
      omega
  · rw [rdB hiR]
    obtain ⟨r0, r1, r2, r3⟩ := hR.2 i hi hiR
    rcases r3 with ⟨hm, _⟩ | ⟨_, r3⟩
    · exfalso
      obtain ⟨y, hy, hye⟩ := List.mem_map.1 hm
      obtain ⟨k, hk, rfl⟩ := List.mem_iff_getElem.1 hy
      rw [List.length_take] at hk
      rw [List.getElem_take] at hye
      have := List.pairwise_iff_getElem.1 (sht_pw hl nd) k j (by omega) hj (by omega)
      rw [hx] at this
      simp only at this
      omega
    · cases hr : R[i] with
      | mk a b c d =>
        rw [hr] at r0 r1 r2 r3
        simp only at r0 r1 r2 r3
        rw [r0, r1, r2, r3]
theorem raised_step {l R : List S31} {nd : List S35} (hl : RightB l) {j : Nat} (hj : j < (shtL l nd).length) (hR : Raised l nd ((shtL l nd).take j) R) {i : Nat} (hi : i < l.length) (hx : (shtL l nd)[j] = ⟨l[i].f0, 0, sumH nd l[i].f0 - l[i].f3⟩) (hle : sumH nd l[i].f0 ≤ 1125899906842624) :
    Raised l nd ((shtL l nd).take (j + 1)) (R.set i ⟨l[i].f0, l[i].f1, l[i].f2, sumH nd l[i].f0⟩) := by
  refine ⟨by rw [List.length_set]; exact hR.1, fun k hk hk' => ?_⟩
  rw [List.length_set] at hk'
  rw [List.take_succ_eq_append_getElem hj, List.map_append, hx]
  rw [List.getElem_set]
  by_cases e : i = k
  · subst e
    rw [if_pos rfl]
    exact ⟨rfl, rfl, rfl, .inl ⟨by simp, rfl, hle⟩⟩
  · rw [if_neg e]
    obtain ⟨r0, r1, r2, r3⟩ := hR.2 k hk hk'
    refine ⟨r0, r1, r2, ?_⟩
    rcases r3 with ⟨hm, r3⟩ | ⟨hm, r3⟩
    · exact .inl ⟨List.mem_append_left _ hm, r3⟩
    · refine .inr ⟨fun h => ?_, r3⟩
      rcases List.mem_append.1 h with h | h
      · exact hm h
      · simp only [List.map_cons, List.map_nil, List.mem_singleton] at h
        exact e (id_inj hl hi hk h.symm)
theorem raised_end {l R : List S31} {nd : List S35} (hl : RightB l) (hn : nd.length ≤ 64) (h1 : ∀ x ∈ nd, okA x = true) (h2 : ∀ x ∈ nd, (findB l x.f0).isNone = false) (hR : Raised l nd (shtL l nd) R) : shtR R nd = ([], 0) := by
  have hnn : ∀ id, 0 ≤ sumH nd id := fun id => sumH_nonneg (fun x hx => by have := h1 x hx; unfold okA at this; simp at this; exact this.1) id
  have hmem : ∀ c ∈ R, ∃ i, ∃ hi : i < l.length, ∃ hi' : i < R.length, c = R[i] := fun c hc => by
    obtain ⟨i, hi, e⟩ := List.mem_iff_getElem.1 hc
    exact ⟨i, by rw [← hR.1]; exact hi, hi, e.symm⟩
  have hb : RightB R := by
    refine ⟨by rw [hR.1]; exact hl.1, fun c hc => ?_, ?_⟩
    · obtain ⟨i, hi, hi', rfl⟩ := hmem c hc
      have := hl.2.1 _ (List.getElem_mem hi)
      unfold okB at this ⊢
      obtain ⟨r0, r1, r2, r3⟩ := hR.2 i hi hi'
      have h0 := hnn l[i].f0
      rcases r3 with ⟨_, r3, r4⟩ | ⟨_, r3⟩ <;> omega
    · rw [List.pairwise_iff_getElem]
      intro i j hi hj hij
      rw [hR.1] at hi hj
      have := List.pairwise_iff_getElem.1 hl.2.2 i j hi hj hij
      rw [(hR.2 i hi (by rw [hR.1]; exact hi)).1, (hR.2 j hj (by rw [hR.1]; exact hj)).1]
      exact this
  rw [sht_mk hb hn h1 (fun x hx => ?_), shtL_nil (fun c hc => ?_)]
  · obtain ⟨i, hi, hi', rfl⟩ := hmem c hc
    obtain ⟨r0, r1, r2, r3⟩ := hR.2 i hi hi'
    rw [r0]
    rcases r3 with ⟨_, r3, r4⟩ | ⟨hm, r3⟩
    · omega
    · rcases Int.lt_or_le 0 (sumH nd l[i].f0 - l[i].f3) with c | c
      · exact absurd (List.mem_map.2 ⟨_, sht_mem (List.getElem_mem hi) c, rfl⟩) hm
      · omega
  · have := h2 x hx
    cases hf : findB l x.f0 with
    | none => rw [hf] at this; cases this
    | some b =>
      obtain ⟨hbm, hbid⟩ := findB_some hf
      obtain ⟨i, hi, rfl⟩ := List.mem_iff_getElem.1 hbm
      have hi' : i < R.length := by rw [hR.1]; exact hi
      cases hf2 : findB R x.f0 with
      | some _ => rfl
      | none =>
        exact absurd (by rw [(hR.2 i hi hi').1]; exact hbid) (findB_none hf2 _ (List.getElem_mem hi'))

end Go.Proofs.Ytdolabpkgienkaa.PF
