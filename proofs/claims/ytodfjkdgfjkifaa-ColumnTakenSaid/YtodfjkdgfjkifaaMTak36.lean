/- A flow that is taken out of a column without open plates is the missing one. -/
import Derived.Test.YtodfjkdgfjkifaaMBal36
import Derived.Test.YtodfjkdgfjkifaaMCol36
import Derived.Test.YtodfjkdgfjkifaaMCom36
import Derived.Test.YtodfjkdgfjkifaaMMis36
import Derived.Test.YtodfjkdgfjkifaaMOpn36
import Derived.Test.YtodfjkdgfjkifaaMRmi36
import Derived.Test.YtodfjkdgfjkifaaMSam36
import Derived.Test.YtodfjkdgfjkifaaPF0
namespace Go.Proofs.Ytodfjkdgfjkifaa.PF
open Go.RowKit Go.Proofs.YtodfjkdgfjkifaaW.PrintWords Go.Proofs.YtodfjkdgfjkifaaW.PrintLast Go.Proofs.YtodfjkdgfjkifaaW.PrintMore
set_option linter.unusedVariables false
set_option linter.unusedSimpArgs false
theorem sorted_ext : ∀ (l1 l2 : List Int), l1.Pairwise (· < ·) → l2.Pairwise (· < ·) → (∀ x, x ∈ l1 ↔ x ∈ l2) → l1 = l2 := by
  intro l1
  induction l1 with
  | nil =>
    intro l2 _ _ h
    rcases l2 with _ | ⟨b, l2⟩
    · rfl
    · exact absurd ((h b).2 (by simp)) (by simp)
  | cons a l1 ih =>
    intro l2 h1 h2 h
    rcases l2 with _ | ⟨b, l2⟩
    · exact absurd ((h a).1 (by simp)) (by simp)
    · rw [List.pairwise_cons] at h1 h2
      have hab : a = b := by
        rcases List.mem_cons.1 ((h a).1 (by simp)) with e | e
        · exact e
        · rcases List.mem_cons.1 ((h b).2 (by simp)) with e' | e'
          · exact e'.symm
          · have := h2.1 a e; have := h1.1 b e'; omega
      subst hab
      congr 1
      refine ih l2 h1.2 h2.2 (fun x => ?_)
      constructor
      · intro hx
        rcases List.mem_cons.1 ((h x).1 (by simp [hx])) with e | e
        · have := h1.1 x hx; omega
        · exact e
      · intro hx
        rcases List.mem_cons.1 ((h x).2 (by simp [hx])) with e | e
        · have := h2.1 x hx; omega
        · exact e
theorem openS_sorted (B : Nat → Int × Int) : (openS B).Pairwise (· < ·) := by
  unfold openS openTo
  refine List.Pairwise.map (fun q : Nat => (q : Int)) (fun a b h => ?_) (List.Pairwise.filter _ (List.pairwise_lt_range (n := 17)))
  omega
theorem openS_is {B : Nat → Int × Int} {O : List Int} (hs : O.Pairwise (· < ·)) (hr : ∀ x ∈ O, 1 ≤ x ∧ x ≤ 16) (h : ∀ n : Nat, 1 ≤ n → n ≤ 16 → (B n ≠ (0, 0) ↔ (n : Int) ∈ O)) : openS B = O := by
  refine sorted_ext _ _ (openS_sorted B) hs (fun x => ?_)
  constructor
  · intro hx
    have h16 := openS_mem hx
    have := (h x.toNat (by omega) (by omega)).1 ((openS_iff h16.1 h16.2).1 hx)
    rwa [show ((x.toNat : Nat) : Int) = x by omega] at this
  · intro hx
    have h16 := hr x hx
    refine (openS_iff h16.1 h16.2).2 ((h x.toNat (by omega) (by omega)).2 ?_)
    rwa [show ((x.toNat : Nat) : Int) = x by omega]
theorem balL_erase {l : List S28} {i : Nat} (hi : i < l.length) : balL l = addB (balL (l.eraseIdx i)) l[i] := by
  have key : ∀ (l : List S28) (i : Nat) (hi : i < l.length) (B : Nat → Int × Int), l.foldl addB B = addB ((l.eraseIdx i).foldl addB B) l[i] := by
    intro l
    induction l with
    | nil => intro i hi; exact absurd hi (Nat.not_lt_zero _)
    | cons f l ih =>
      intro i hi B
      cases i with
      | zero => rw [List.foldl_cons, List.eraseIdx_cons_zero, fold_addB]; rfl
      | succ i => rw [List.foldl_cons, List.eraseIdx_cons_succ, List.foldl_cons, ih i (Nat.lt_of_succ_lt_succ hi)]; rfl
  exact key l i hi _
theorem right_erase {p : Int} {l : List S28} (h : RightC p l) (i : Nat) : RightC p (l.eraseIdx i) := by
  have hs := List.eraseIdx_sublist l i
  exact ⟨h.1, h.2.1, Nat.le_trans hs.length_le h.2.2.1, fun f hf => h.2.2.2.1 f (hs.subset hf), h.2.2.2.2.sublist hs⟩
/-- The balances where only the flow from a to b, of (u, v), is lacking. -/
theorem mis_lack {D : Nat → Int × Int} {a b u v : Int} (ha : 0 ≤ a ∧ a ≤ 16) (hb : 0 ≤ b ∧ b ≤ 16) (hab : a ≠ b) (hu : 0 ≤ u) (hu' : u ≤ 10737418240000) (hv : 0 ≤ v) (hv' : v ≤ 128849018880000) (huv : 0 < u → v ≠ 0)
    (hD : ∀ n : Nat, 1 ≤ n → n ≤ 16 → D n = ((if (n : Int) = a then u else 0) - (if (n : Int) = b then u else 0), (if (n : Int) = a then v else 0) - (if (n : Int) = b then v else 0))) :
    misO D (openS D) = if v = 0 then (fl0, 9) else (⟨a, b, u, v⟩, 0) := by
  by_cases h0 : v = 0
  · have hu0 : u = 0 := by omega
    rw [if_pos h0]
    have : openS D = [] := openS_nil.2 (fun n h1 h2 => by
      rw [hD n h1 h2, h0, hu0]
      refine Prod.ext ?_ ?_ <;> simp only <;> omega)
    rw [this]
    rfl
  rw [if_neg h0]
  have hin : ∀ n : Nat, 1 ≤ n → n ≤ 16 → (D n ≠ (0, 0) ↔ ((n : Int) = a ∨ (n : Int) = b)) := fun n h1 h2 => by
    rw [hD n h1 h2]
    constructor
    · intro h
      refine Decidable.byContradiction (fun hc => h ?_)
      rw [if_neg (fun e => hc (.inl e)), if_neg (fun e => hc (.inr e)), if_neg (fun e => hc (.inl e)), if_neg (fun e => hc (.inr e))]
      rfl
    · intro h e
      have e2 := congrArg Prod.snd e
      simp only at e2
      rcases h with h | h
      · rw [if_pos h, if_neg (by omega)] at e2; omega
      · rw [if_neg (by omega), if_pos h] at e2; omega
  have hDa : 1 ≤ a → D a.toNat = (u, v) := fun h1 => by
    rw [hD a.toNat (by omega) (by omega), if_pos (by omega), if_neg (by omega), if_pos (by omega), if_neg (by omega), Int.sub_zero, Int.sub_zero]
  have hDb : 1 ≤ b → D b.toNat = (-u, -v) := fun h1 => by
    rw [hD b.toNat (by omega) (by omega), if_neg (by omega), if_pos (by omega), if_neg (by omega), if_pos (by omega), Int.zero_sub, Int.zero_sub]
  have m1 : ∀ c, misF a c (u, v) = (⟨a, c, u, v⟩, 0) := fun c => by
    unfold misF
    simp only
    rw [if_neg (show ¬ v < 0 by omega)]
    simp only
    rw [if_neg (by omega), if_neg (by omega)]
  have m2 : ∀ c, misF b c (-u, -v) = (⟨c, b, u, v⟩, 0) := fun c => by
    unfold misF
    simp only
    rw [if_pos (show -v < 0 by omega)]
    simp only [Int.neg_neg]
    rw [if_neg (by omega), if_neg (by omega)]
  rcases Int.lt_or_le a 1 with c | c
  · obtain rfl : a = 0 := by omega
    have : openS D = [b] := openS_is (by simp) (fun x hx => by rw [List.mem_singleton] at hx; omega) (fun n h1 h2 => by rw [hin n h1 h2, List.mem_singleton]; omega)
    rw [this]
    show misF b 0 (D b.toNat) = _
    rw [hDb (by omega), m2]
  · rcases Int.lt_or_le b 1 with c' | c'
    · obtain rfl : b = 0 := by omega
      have : openS D = [a] := openS_is (by simp) (fun x hx => by rw [List.mem_singleton] at hx; omega) (fun n h1 h2 => by rw [hin n h1 h2, List.mem_singleton]; omega)
      rw [this]
      show misF a 0 (D a.toNat) = _
      rw [hDa (by omega), m1]
    · rcases Int.lt_or_le a b with c2 | c2
      · have : openS D = [a, b] := openS_is (by simp; omega) (fun x hx => by simp at hx; omega) (fun n h1 h2 => by rw [hin n h1 h2]; simp)
        rw [this]
        simp only [misO]
        rw [hDa (by omega), hDb (by omega)]
        simp only
        rw [if_neg (by omega), m1]
      · have : openS D = [b, a] := openS_is (by simp; omega) (fun x hx => by simp at hx; omega) (fun n h1 h2 => by rw [hin n h1 h2]; simp; omega)
        rw [this]
        simp only [misO]
        rw [hDa (by omega), hDb (by omega)]
        simp only
        rw [if_neg (by omega), m2]
theorem mis_taken {p : Int} {l : List S28} (h : RightC p l) (ho : openS (balL l) = []) {i : Nat} (hi : i < l.length) : misR p (l.eraseIdx i) = if l[i].f3 = 0 then (fl0, 9) else (l[i], 0) := by
  have hr := right_erase h i
  unfold misR
  rw [rt36_iff.2 hr, if_pos rfl]
  have hf := h.2.2.2.1 l[i] (List.getElem_mem hi)
  have he := balL_erase hi
  have hz := openS_nil.1 ho
  rw [he] at hz
  generalize l[i] = f at *
  obtain ⟨a, b, u, v⟩ := f
  unfold FlowOK at hf
  simp only at hf ⊢
  refine mis_lack ⟨hf.1.1, hf.1.2.1⟩ ⟨hf.1.2.2.1, hf.1.2.2.2.1⟩ hf.2.2.2.1 hf.1.2.2.2.2.1 hf.1.2.2.2.2.2.1 hf.1.2.2.2.2.2.2.1 hf.1.2.2.2.2.2.2.2 hf.2.2.2.2 (fun n h1 h2 => ?_)
  have := hz n h1 h2
  have e1 := (addB_1 (balL (l.eraseIdx i)) ⟨a, b, u, v⟩ n).symm.trans (congrArg Prod.fst this)
  have e2 := (addB_2 (balL (l.eraseIdx i)) ⟨a, b, u, v⟩ n).symm.trans (congrArg Prod.snd this)
  simp only at e1 e2
  exact Prod.ext (by simp only; omega) (by simp only; omega)

end Go.Proofs.Ytodfjkdgfjkifaa.PF
