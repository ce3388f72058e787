/- Layer 52: what is right stays right. -/
import Derived.Test.YtdolabpkgienkaaMBnd52d
import Derived.Test.YtdolabpkgienkaaPF0
import Derived.Test.YtdolabpkgienkaaPF3
import Derived.Test.YtdolabpkgienkaaPF5
namespace Go.Proofs.Ytdolabpkgienkaa.PF
open Go.RowKit Go.Proofs.YtdolabpkgienkaaW.PrintWords Go.Proofs.YtdolabpkgienkaaW.PrintLast Go.Proofs.YtdolabpkgienkaaW.PrintMore
set_option linter.unusedVariables false
set_option linter.unusedSimpArgs false
theorem sum_ins (h : List S35) (x : S35) (id : Int) : sumH (insH h x) id = sumH h id + (if x.f0 = id then x.f2 else 0) := by
  unfold insH
  rw [sumH_append, sumH]
  have : sumH h id = sumH (h.take (plc h x.f1)) id + sumH (h.drop (plc h x.f1)) id := by rw [← sumH_append, List.take_append_drop]
  omega
theorem mem_ins (h : List S35) (x y : S35) : y ∈ insH h x ↔ y = x ∨ y ∈ h := by
  unfold insH
  rw [List.mem_append, List.mem_cons]
  constructor
  · rintro (a | a | a)
    · exact .inr (List.mem_of_mem_take a)
    · exact .inl a
    · exact .inr (List.mem_of_mem_drop a)
  · rintro (a | a)
    · exact .inr (.inl a)
    · rw [← List.take_append_drop (plc h x.f1) h, List.mem_append] at a
      exact a.elim .inl (fun b => .inr (.inr b))
theorem len_ins (h : List S35) (x : S35) : (insH h x).length = h.length + 1 := by
  have := plc_le h x.f1
  unfold insH
  rw [List.length_append, List.length_cons, List.length_take, List.length_drop]
  omega
theorem sort_ins {h : List S35} (hs : SortH h) {x : S35} (hn : has h x.f1 = false) : SortH (insH h x) := by
  obtain ⟨s1, s2⟩ := plc_spec hs x.f1
  have hne : ∀ y ∈ h, y.f1 ≠ x.f1 := fun y hy e => by
    have : has h x.f1 = true := has_iff.2 ⟨y, hy, e⟩
    rw [hn] at this; cases this
  unfold SortH insH
  unfold SortH at hs
  have h0 := hs
  rw [← List.take_append_drop (plc h x.f1) h, List.pairwise_append] at h0
  obtain ⟨p1, p2, p3⟩ := h0
  have q1 : ∀ y ∈ h.take (plc h x.f1), y.f1 < x.f1 := fun y hy => by
    obtain ⟨j, hj, rfl⟩ := List.mem_iff_getElem.1 hy
    rw [List.length_take] at hj
    rw [List.getElem_take]
    exact s1 j (by omega) (by omega)
  have q2 : ∀ y ∈ h.drop (plc h x.f1), x.f1 < y.f1 := fun y hy => by
    have hym := List.mem_of_mem_drop hy
    obtain ⟨j, hj, rfl⟩ := List.mem_iff_getElem.1 hy
    rw [List.length_drop] at hj
    have := hne _ hym
    rw [List.getElem_drop] at this ⊢
    have := s2 (plc h x.f1 + j) (by omega) (by omega)
    omega
  rw [List.pairwise_append, List.pairwise_cons]
  refine ⟨p1, ⟨q2, p2⟩, fun a ha b hb => ?_⟩
  rcases List.mem_cons.1 hb with rfl | hb
  · exact q1 a ha
  · exact p3 a ha b hb
/-- What Bind says, when it says no error. -/
theorem bnd_ok {l : List S31} {h a : List S35} {x : S35} {day : Int} (e : bndR l h x day = (a, 0)) :
    RightH l h ∧ okH x ∧ (0 ≤ day ∧ day ≤ 100000) ∧ has h x.f1 = false ∧ (∃ b, findB l x.f0 = some b ∧ (b.f1 ≤ day ∧ day ≤ b.f2) ∧ x.f2 ≤ b.f3 - sumH h b.f0) ∧ h.length ≤ 15 ∧ a = insH h x := by
  unfold bndR at e
  by_cases c0 : (hldR l h).2 = 0
  case neg => rw [if_pos c0] at e; cases e
  have hr := (hldR_zero l h).1 c0
  rw [if_neg (not_not_intro c0)] at e
  by_cases c1 : 1 ≤ x.f1 ∧ x.f1 ≤ 1073741824
  case neg => rw [if_pos c1] at e; cases e
  rw [if_neg (not_not_intro c1)] at e
  by_cases c2 : 0 ≤ x.f2 ∧ x.f2 ≤ 1125899906842624
  case neg => rw [if_pos c2] at e; cases e
  rw [if_neg (not_not_intro c2)] at e
  by_cases c3 : 0 ≤ day ∧ day ≤ 100000
  case neg => rw [if_pos c3] at e; cases e
  rw [if_neg (not_not_intro c3)] at e
  cases c4 : has h x.f1 with
  | true => rw [c4, if_pos rfl] at e; cases e
  | false =>
  rw [c4, if_neg (by decide)] at e
  cases hf : findB l x.f0 with
  | none => rw [hf] at e; cases e
  | some b =>
  rw [hf] at e
  simp only at e
  by_cases c5 : b.f1 ≤ day ∧ day ≤ b.f2
  case neg => rw [if_pos c5] at e; cases e
  rw [if_neg (not_not_intro c5)] at e
  by_cases c6 : b.f3 - sumH h b.f0 < x.f2
  · rw [if_pos c6] at e; cases e
  rw [if_neg c6] at e
  by_cases c7 : h.length = 16
  · rw [if_pos c7] at e; cases e
  rw [if_neg c7] at e
  have := hr.2.1
  exact ⟨hr, ⟨c1.1, c1.2, c2.1, c2.2⟩, c3, rfl, ⟨b, rfl, c5, by omega⟩, by omega, (congrArg Prod.fst e).symm⟩
theorem bnd_err {l : List S31} {h : List S35} {x : S35} {day : Int} (e : (bndR l h x day).2 ≠ 0) : (bndR l h x day).1 = [] := by
  unfold bndR at e ⊢
  split at e
  · rename_i c; rw [if_pos c]
  rename_i c; rw [if_neg c]
  split at e
  · rename_i c; rw [if_pos c]
  rename_i c; rw [if_neg c]
  split at e
  · rename_i c; rw [if_pos c]
  rename_i c; rw [if_neg c]
  split at e
  · rename_i c; rw [if_pos c]
  rename_i c; rw [if_neg c]
  split at e
  · rename_i c; rw [if_pos c]
  rename_i c; rw [if_neg c]
  cases hf : findB l x.f0 with
  | none => rfl
  | some b =>
  rw [hf] at e
  simp only at e ⊢
  split at e
  · rename_i c; rw [if_pos c]
  rename_i c; rw [if_neg c]
  split at e
  · rename_i c; rw [if_pos c]
  rename_i c; rw [if_neg c]
  split at e
  · rename_i c; rw [if_pos c]
  · exact absurd rfl e
theorem right_ins {l : List S31} {h : List S35} {x : S35} (hr : RightH l h) (hx : okH x) (hn : has h x.f1 = false) {b : S31} (hf : findB l x.f0 = some b) (hle : x.f2 ≤ b.f3 - sumH h b.f0) (hlen : h.length ≤ 15) : RightH l (insH h x) := by
  refine ⟨hr.1, by rw [len_ins]; omega, fun y hy => ?_, sort_ins hr.sort hn, fun y hy => ?_⟩
  · rcases (mem_ins h x y).1 hy with rfl | hy
    · exact hx
    · exact hr.2.2.1 y hy
  · have hid := (findB_some hf).2
    rw [sum_ins]
    by_cases e : x.f0 = y.f0
    · rw [if_pos e, ← e]
      exact ⟨b, hf, by rw [hid] at hle; omega⟩
    · rw [if_neg e, Int.add_zero]
      rcases (mem_ins h x y).1 hy with rfl | hy
      · exact absurd rfl e
      · exact hr.2.2.2.2 y hy
theorem del_ins {h : List S35} {x : S35} (hn : has h x.f1 = false) : delH (insH h x) x.f1 = h := by
  have hne : ∀ y ∈ h, (y.f1 != x.f1) = true := fun y hy => by
    rw [bne_iff_ne]
    intro e
    have : has h x.f1 = true := has_iff.2 ⟨y, hy, e⟩
    rw [hn] at this; cases this
  unfold delH insH
  rw [List.filter_append, List.filter_cons_of_neg (by simp), List.filter_eq_self.2 (fun y hy => hne y (List.mem_of_mem_take hy)), List.filter_eq_self.2 (fun y hy => hne y (List.mem_of_mem_drop hy)), List.take_append_drop]
theorem rel_ok {l : List S31} {h a : List S35} {m : Int} (e : relR l h m = (a, 0)) : RightH l h ∧ has h m = true ∧ a = delH h m := by
  unfold relR at e
  by_cases c0 : (hldR l h).2 = 0
  case neg => rw [if_pos c0] at e; cases e
  rw [if_neg (not_not_intro c0)] at e
  cases c : has h m with
  | false => rw [c, if_pos rfl] at e; cases e
  | true =>
    rw [c, if_neg (by decide)] at e
    exact ⟨(hldR_zero l h).1 c0, rfl, (congrArg Prod.fst e).symm⟩
theorem rel_err {l : List S31} {h : List S35} {m : Int} (e : (relR l h m).2 ≠ 0) : (relR l h m).1 = [] := by
  unfold relR at e ⊢
  split at e
  · rename_i c; rw [if_pos c]
  rename_i c; rw [if_neg c]
  split at e
  · rename_i c; rw [if_pos c]
  · exact absurd rfl e
theorem sum_del {h : List S35} (hk : ∀ x ∈ h, 0 ≤ x.f2) (m id : Int) : sumH (delH h m) id ≤ sumH h id := by
  unfold delH
  induction h with
  | nil => exact Int.le_refl _
  | cons x h ih =>
    have h1 := ih (fun y hy => hk y (List.mem_cons_of_mem _ hy))
    have h2 := hk x (List.mem_cons_self ..)
    by_cases e : (x.f1 != m) = true
    · rw [List.filter_cons_of_pos (p := fun y : S35 => y.f1 != m) e, sumH, sumH]
      omega
    · rw [List.filter_cons_of_neg (p := fun y : S35 => y.f1 != m) e, sumH]
      split <;> omega
theorem right_del {l : List S31} {h : List S35} (hr : RightH l h) (m : Int) : RightH l (delH h m) := by
  have hmem : ∀ y ∈ delH h m, y ∈ h := fun y hy => by unfold delH at hy; exact (List.mem_filter.1 hy).1
  refine ⟨hr.1, Nat.le_trans (List.length_filter_le _ _) hr.2.1, fun y hy => hr.2.2.1 y (hmem y hy), hr.2.2.2.1.filter _, fun y hy => ?_⟩
  obtain ⟨b, hb, hle⟩ := hr.2.2.2.2 y (hmem y hy)
  exact ⟨b, hb, Int.le_trans (sum_del (fun x hx => (hr.2.2.1 x hx).2.2.1) m y.f0) hle⟩
theorem chg_ok {l : List S31} {h a : List S35} {m v : Int} (e : chgR l h m v = (a, 0)) :
    RightH l h ∧ (0 ≤ v ∧ v ≤ 1125899906842624) ∧ has h m = true ∧ (∃ b, findB l (hidR h m) = some b ∧ sumH (setH h m v) b.f0 ≤ b.f3) ∧ a = setH h m v := by
  unfold chgR at e
  by_cases c0 : (hldR l h).2 = 0
  case neg => rw [if_pos c0] at e; cases e
  rw [if_neg (not_not_intro c0)] at e
  by_cases c1 : 0 ≤ v ∧ v ≤ 1125899906842624
  case neg => rw [if_pos c1] at e; cases e
  rw [if_neg (not_not_intro c1)] at e
  cases c : has h m with
  | false => rw [c, if_pos rfl] at e; cases e
  | true =>
  rw [c, if_neg (by decide)] at e
  cases hf : findB l (hidR h m) with
  | none => rw [hf] at e; cases e
  | some b =>
  rw [hf] at e
  simp only at e
  by_cases c2 : b.f3 < sumH (setH h m v) b.f0
  · rw [if_pos c2] at e; cases e
  rw [if_neg c2] at e
  exact ⟨(hldR_zero l h).1 c0, c1, rfl, ⟨b, rfl, by omega⟩, (congrArg Prod.fst e).symm⟩
theorem chg_err {l : List S31} {h : List S35} {m v : Int} (e : (chgR l h m v).2 ≠ 0) : (chgR l h m v).1 = [] := by
  unfold chgR at e ⊢
  split at e
  · rename_i c; rw [if_pos c]
  rename_i c; rw [if_neg c]
  split at e
  · rename_i c; rw [if_pos c]
  rename_i c; rw [if_neg c]
  split at e
  · rename_i c; rw [if_pos c]
  rename_i c; rw [if_neg c]
  cases hf : findB l (hidR h m) with
  | none => rfl
  | some b =>
  rw [hf] at e
  simp only at e ⊢
  split at e
  · rename_i c; rw [if_pos c]
  · exact absurd rfl e
theorem sum_set {h : List S35} {m v id : Int} (hn : ∀ y ∈ h, y.f1 = m → y.f0 ≠ id) : sumH (setH h m v) id = sumH h id := by
  unfold setH
  induction h with
  | nil => rfl
  | cons x h ih =>
    rw [List.map_cons, sumH, sumH, ih (fun y hy => hn y (List.mem_cons_of_mem _ hy))]
    have hx := hn x (List.mem_cons_self ..)
    by_cases e : x.f1 = m
    · simp only [if_pos e]
      rw [if_neg (hx e), if_neg (hx e)]
    · rw [if_neg e]
theorem sort_inj {h : List S35} (hs : SortH h) {x y : S35} (hx : x ∈ h) (hy : y ∈ h) (e : x.f1 = y.f1) : x = y := by
  obtain ⟨i, hi, rfl⟩ := List.mem_iff_getElem.1 hx
  obtain ⟨j, hj, rfl⟩ := List.mem_iff_getElem.1 hy
  rcases Nat.lt_trichotomy i j with c | c | c
  · have := List.pairwise_iff_getElem.1 hs i j hi hj c; omega
  · subst c; rfl
  · have := List.pairwise_iff_getElem.1 hs j i hj hi c; omega
theorem hid_mem {h : List S35} (hs : SortH h) {x : S35} (hx : x ∈ h) : hidR h x.f1 = x.f0 := by
  obtain ⟨i, hi, rfl⟩ := List.mem_iff_getElem.1 hx
  exact hid_at hs hi
theorem mem_set {h : List S35} {m v : Int} {y : S35} (hy : y ∈ setH h m v) : ∃ x ∈ h, y = (if x.f1 = m then ⟨x.f0, x.f1, v⟩ else x) := by
  unfold setH at hy
  obtain ⟨x, hx, rfl⟩ := List.mem_map.1 hy
  exact ⟨x, hx, rfl⟩
theorem sort_set {h : List S35} (hs : SortH h) (m v : Int) : SortH (setH h m v) := by
  unfold SortH setH
  rw [List.pairwise_map]
  refine hs.imp ?_
  intro a b hab
  split <;> split <;> exact hab
theorem right_set {l : List S31} {h : List S35} (hr : RightH l h) {m v : Int} (hv : 0 ≤ v ∧ v ≤ 1125899906842624) {b : S31} (hf : findB l (hidR h m) = some b) (hle : sumH (setH h m v) b.f0 ≤ b.f3) : RightH l (setH h m v) := by
  refine ⟨hr.1, by rw [set_len]; exact hr.2.1, set_ok hr.2.2.1 hv, sort_set hr.sort m v, fun y hy => ?_⟩
  obtain ⟨x, hx, rfl⟩ := mem_set hy
  obtain ⟨c, hc, hcl⟩ := hr.2.2.2.2 x hx
  have hf0 : (if x.f1 = m then (⟨x.f0, x.f1, v⟩ : S35) else x).f0 = x.f0 := by split <;> rfl
  rw [hf0]
  have hbid := (findB_some hf).2
  by_cases e : x.f0 = b.f0
  · have : findB l x.f0 = some b := by rw [e, hbid]; exact hf
    exact ⟨b, this, by rw [e]; exact hle⟩
  · refine ⟨c, hc, ?_⟩
    rw [sum_set]
    · exact hcl
    · intro z hz hzm e2
      have := hid_mem hr.sort hz
      rw [hzm] at this
      rw [this] at hbid
      exact e (e2.symm.trans hbid.symm)
theorem set_set (h : List S35) (m v v' : Int) : setH (setH h m v) m v' = setH h m v' := by
  unfold setH
  rw [List.map_map]
  apply List.map_congr_left
  intro x _
  simp only [Function.comp]
  by_cases e : x.f1 = m
  · simp only [if_pos e]
  · simp only [if_neg e]
theorem set_back {h : List S35} (hs : SortH h) {x : S35} (hx : x ∈ h) : setH h x.f1 x.f2 = h := by
  unfold setH
  conv => rhs; rw [← List.map_id h]
  apply List.map_congr_left
  intro y hy
  by_cases e : y.f1 = x.f1
  · rw [if_pos e]
    have := sort_inj hs hy hx e
    subst this
    rfl
  · rw [if_neg e]; rfl
theorem has_set (h : List S35) (m v k : Int) : has (setH h m v) k = has h k := by
  unfold has setH
  rw [List.any_map]
  congr 1
  funext x
  simp only [Function.comp]
  split <;> rfl
theorem hid_set (h : List S35) (m v k : Int) : hidR (setH h m v) k = hidR h k := by
  unfold hidR setH
  rw [List.find?_map]
  have e : ((fun y : S35 => y.f1 == k) ∘ fun y => if y.f1 = m then (⟨y.f0, y.f1, v⟩ : S35) else y) = (fun y => y.f1 == k) := by
    funext x
    simp only [Function.comp]
    split <;> rfl
  rw [e]
  cases h.find? (fun y => y.f1 == k) with
  | none => rfl
  | some y =>
    simp only [Option.map_some]
    split <;> rfl
/-- No bond is bound for more than its Most. -/
theorem right_most {l : List S31} {h : List S35} (hr : RightH l h) {b : S31} (hb : b ∈ l) : sumH h b.f0 ≤ b.f3 := by
  have hfb := findB_mem hr.1 hb
  by_cases e : ∃ x ∈ h, x.f0 = b.f0
  · obtain ⟨x, hx, he⟩ := e
    obtain ⟨c, hc, hle⟩ := hr.2.2.2.2 x hx
    rw [he] at hc hle
    rw [hfb] at hc
    obtain rfl := Option.some.inj hc
    exact hle
  · have h0 : ∀ k : List S35, (∀ x ∈ k, x ∈ h) → sumH k b.f0 = 0 := by
      intro k
      induction k with
      | nil => intro _; rfl
      | cons x k ih =>
        intro hk
        rw [sumH, ih (fun y hy => hk y (List.mem_cons_of_mem _ hy)), if_neg (fun e2 => e ⟨x, hk x (List.mem_cons_self ..), e2⟩)]
        rfl
    rw [h0 h (fun x hx => hx)]
    have := hr.1.2.1 b hb
    unfold okB at this
    omega
theorem right_nil {l : List S31} (h : RightB l) : RightH l [] := ⟨h, by simp, fun x hx => by simp at hx, List.Pairwise.nil, fun x hx => by simp at hx⟩
theorem chg_back {l : List S31} {h : List S35} {m v : Int} (hr : RightH l (setH h m v)) (hh : RightH l h) {x : S35} (hx : x ∈ h) (hm : x.f1 = m) : chgR l (setH h m v) m x.f2 = (h, 0) := by
  have hok := hh.2.2.1 x hx
  unfold okH at hok
  obtain ⟨b, hb, hle⟩ := hh.2.2.2.2 x hx
  have hhas : has h m = true := has_iff.2 ⟨x, hx, hm⟩
  have hid : hidR h m = x.f0 := by rw [← hm]; exact hid_mem hh.sort hx
  unfold chgR
  rw [if_neg (not_not_intro ((hldR_zero l _).2 hr)), if_neg (not_not_intro ⟨hok.2.2.1, hok.2.2.2⟩), has_set, hhas, if_neg (by decide), hid_set, hid, hb]
  simp only
  rw [set_set, ← hm, set_back hh.sort hx, if_neg (by rw [(findB_some hb).2]; omega)]

end Go.Proofs.Ytdolabpkgienkaa.PF
