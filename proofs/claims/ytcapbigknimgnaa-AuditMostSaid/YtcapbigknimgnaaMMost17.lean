/- The largest choice has no clash, and no choice without a clash has more rows. -/
import Derived.Test.YtcapbigknimgnaaMAud
import Derived.Test.YtcapbigknimgnaaMAud2
import Derived.Test.YtcapbigknimgnaaMAud3
import Derived.Test.YtcapbigknimgnaaMOpt
import Derived.Test.YtcapbigknimgnaaPF0
namespace Go.Proofs.Ytcapbigknimgnaa.PF
open Go.RowKit Go.Proofs.YtcapbigknimgnaaW.PrintWords Go.Proofs.YtcapbigknimgnaaW.PrintLast Go.Proofs.YtcapbigknimgnaaW.PrintMore
set_option linter.unusedVariables false
set_option linter.unusedSimpArgs false
theorem bey_zero {l : List S44} {i j : Nat} : bey l i j = 0 ↔ gd l j ≤ gd l i ∧ (gs l i = gs l j → gd l i = gd l j) := by
  unfold bey gd gs mx
  by_cases hs : (rd_T44 l (i : Int)).f0 = (rd_T44 l (j : Int)).f0
  · rw [if_pos hs]
    split <;> (constructor <;> intro h)
    · exact ⟨by omega, fun _ => by omega⟩
    · have := h.2 hs; omega
    · exact ⟨by omega, fun _ => by omega⟩
    · have := h.2 hs; omega
  · rw [if_neg hs]
    split <;> (constructor <;> intro h)
    · exact ⟨by omega, fun e => absurd e hs⟩
    · omega
    · exact ⟨by omega, fun e => absurd e hs⟩
    · omega
theorem RightR.bey_trans {l : List S44} (h : RightR l) {i j k : Nat} (hij : i < j) (hjk : j < k) (hk : k < l.length) (h1 : bey l i j = 0) (h2 : bey l j k = 0) : bey l i k = 0 := by
  rw [bey_zero] at *
  have m1 := h.mono (j - i) i (by omega)
  have m2 := h.mono (k - j) j (by omega)
  rw [show i + (j - i) = j by omega] at m1
  rw [show j + (k - j) = k by omega] at m2
  refine ⟨by omega, fun e => ?_⟩
  have e1 := h1.2 (by omega)
  have e2 := h2.2 (by omega)
  omega
/-- What the lengths of the longest choices meet. -/
structure LongS (l : List S44) (V : Nat → Int) (i : Nat) : Prop where
  pos : ∀ a, i ≤ a → a < l.length → 1 ≤ V a
  ge : ∀ a b, i ≤ a → a < b → b < l.length → bey l a b = 0 → 1 + V b ≤ V a
  att : ∀ a, i ≤ a → a < l.length → V a = 1 ∨ ∃ b, a < b ∧ b < l.length ∧ bey l a b = 0 ∧ V a = 1 + V b
theorem lnRow_spec (l : List S44) (i : Nat) : ∀ (d j : Nat) (V : Nat → Int), j + d = l.length → i < j →
    (∀ m, m ≠ i → lnRow l i d j V m = V m) ∧ V i ≤ lnRow l i d j V i ∧ (∀ b, j ≤ b → b < l.length → bey l i b = 0 → 1 + V b ≤ lnRow l i d j V i) ∧
    (lnRow l i d j V i = V i ∨ ∃ b, j ≤ b ∧ b < l.length ∧ bey l i b = 0 ∧ lnRow l i d j V i = 1 + V b) := by
  intro d
  induction d with
  | zero => exact fun j V hj hij => ⟨fun _ _ => rfl, Int.le_refl _, fun b h1 h2 _ => by omega, Or.inl rfl⟩
  | succ d ih =>
    intro j V hj hij
    obtain ⟨a1, a2, a3, a4⟩ := ih (j + 1) (lnStep l i V j) (by omega) (by omega)
    have s1 : ∀ m, m ≠ i → lnStep l i V j m = V m := fun m hm => by unfold lnStep; rw [if_neg hm]
    have s2 : lnStep l i V j i = if bey l i j = 0 then mx (V i) (1 + V j) else V i := by unfold lnStep; rw [if_pos rfl]
    have g := mx_ge_ (V i) (1 + V j)
    show (∀ m, m ≠ i → lnRow l i d (j + 1) (lnStep l i V j) m = V m) ∧ V i ≤ lnRow l i d (j + 1) (lnStep l i V j) i ∧ (∀ b, j ≤ b → b < l.length → bey l i b = 0 → 1 + V b ≤ lnRow l i d (j + 1) (lnStep l i V j) i) ∧
      (lnRow l i d (j + 1) (lnStep l i V j) i = V i ∨ ∃ b, j ≤ b ∧ b < l.length ∧ bey l i b = 0 ∧ lnRow l i d (j + 1) (lnStep l i V j) i = 1 + V b)
    refine ⟨fun m hm => by rw [a1 m hm, s1 m hm], ?_, fun b h1 h2 h3 => ?_, ?_⟩
    · split at s2 <;> omega
    · rcases Nat.eq_or_lt_of_le h1 with rfl | h4
      · rw [if_pos h3] at s2
        omega
      · have := a3 b h4 h2 h3
        rw [s1 b (by omega)] at this
        exact this
    · rcases a4 with e | ⟨b, h1, h2, h3, e⟩
      · by_cases hb : bey l i j = 0
        · rw [if_pos hb] at s2
          rcases mx_or_ (V i) (1 + V j) with q | q
          · exact Or.inl (by rw [e, s2, q])
          · exact Or.inr ⟨j, Nat.le_refl _, by omega, hb, by rw [e, s2, q]⟩
        · rw [if_neg hb] at s2
          exact Or.inl (by rw [e, s2])
      · exact Or.inr ⟨b, by omega, h2, h3, by rw [e, s1 b (by omega)]⟩
theorem lnAll_spec (l : List S44) : ∀ (i : Nat) (V : Nat → Int), i ≤ l.length → LongS l V i → LongS l (lnAll l i V) 0 := by
  intro i
  induction i with
  | zero => exact fun V _ h => h
  | succ i ih =>
    intro V hi h
    refine ih _ (by omega) ?_
    obtain ⟨a1, a2, a3, a4⟩ := lnRow_spec l i (l.length - (i + 1)) (i + 1) (lnInit i V) (by omega) (by omega)
    have s1 : ∀ m, m ≠ i → lnInit i V m = V m := fun m hm => by unfold lnInit; rw [if_neg hm]
    have s2 : lnInit i V i = 1 := by unfold lnInit; rw [if_pos rfl]
    rw [s2] at a2 a4
    generalize lnRow l i (l.length - (i + 1)) (i + 1) (lnInit i V) = U at a1 a2 a3 a4 ⊢
    have a1' : ∀ m, i < m → U m = V m := fun m hm => by rw [a1 m (by omega), s1 m (by omega)]
    refine ⟨fun a h1 h2 => ?_, fun a b h1 h2 h3 h4 => ?_, fun a h1 h2 => ?_⟩
    · rcases Nat.eq_or_lt_of_le h1 with rfl | h5
      · exact a2
      · rw [a1' a h5]; exact h.pos a h5 h2
    · rcases Nat.eq_or_lt_of_le h1 with rfl | h5
      · have := a3 b h2 h3 h4
        rw [s1 b (by omega)] at this
        rw [a1' b h2]
        exact this
      · rw [a1' a h5, a1' b (by omega)]; exact h.ge a b h5 h2 h3 h4
    · rcases Nat.eq_or_lt_of_le h1 with rfl | h5
      · rcases a4 with e | ⟨b, q1, q2, q3, q4⟩
        · exact Or.inl e
        · refine Or.inr ⟨b, q1, q2, q3, ?_⟩
          rw [s1 b (by omega)] at q4
          rw [a1' b q1]
          exact q4
      · rcases h.att a h5 h2 with e | ⟨b, q1, q2, q3, q4⟩
        · exact Or.inl (by rw [a1' a h5]; exact e)
        · exact Or.inr ⟨b, q1, q2, q3, by rw [a1' a h5, a1' b (by omega)]; exact q4⟩
theorem lnS_spec (l : List S44) : LongS l (lnS l) 0 := lnAll_spec l l.length _ (Nat.le_refl _) ⟨fun a h1 h2 => by omega, fun a b h1 h2 h3 _ => by omega, fun a h1 h2 => by omega⟩
theorem mxV_spec (V : Nat → Int) : ∀ m, 0 ≤ mxV V m ∧ (∀ a, a < m → V a ≤ mxV V m) ∧ (mxV V m = 0 ∨ ∃ a, a < m ∧ mxV V m = V a) := by
  intro m
  induction m with
  | zero => exact ⟨Int.le_refl _, fun a h => by omega, Or.inl rfl⟩
  | succ m ih =>
    obtain ⟨h0, h1, h2⟩ := ih
    have e : mxV V (m + 1) = mx (mxV V m) (V m) := rfl
    have g := mx_ge_ (mxV V m) (V m)
    rw [← e] at g
    refine ⟨by omega, fun a ha => ?_, ?_⟩
    · rcases Nat.lt_or_ge a m with q | q
      · have := h1 a q; omega
      · obtain rfl : a = m := by omega
        omega
    · rw [e]
      rcases mx_or_ (mxV V m) (V m) with q | q
      · rcases h2 with h2 | ⟨a, ha, h2⟩
        · exact Or.inl (by rw [q, h2])
        · exact Or.inr ⟨a, by omega, by rw [q, h2]⟩
      · exact Or.inr ⟨m, by omega, q⟩
/-- How many of the rows i, i + 1, .. are chosen. -/
def cntC (c : Nat → Bool) : Nat → Nat → Int
  | 0, _ => 0
  | d + 1, i => (if c i = true then 1 else 0) + cntC c d (i + 1)
/-- No more rows are chosen than the greatest length. -/
theorem chosen_le {l : List S44} (c : Nat → Bool) (hc : ∀ i j, i < j → j < l.length → c i = true → c j = true → bey l i j = 0) : ∀ (d i : Nat), i + d = l.length → cntC c d i ≤ mxV (lnS l) l.length ∧ (∀ a, a < i → c a = true → 1 + cntC c d i ≤ lnS l a) := by
  have hL := lnS_spec l
  have hM := mxV_spec (lnS l) l.length
  intro d
  induction d with
  | zero => exact fun i hi => ⟨hM.1, fun a ha _ => by have := hL.pos a (by omega) (by omega); show 1 + (0 : Int) ≤ _; omega⟩
  | succ d ih =>
    intro i hi
    obtain ⟨h1, h2⟩ := ih (i + 1) (by omega)
    simp only [cntC]
    by_cases hb : c i = true
    · rw [if_pos hb]
      have h3 := h2 i (by omega) hb
      refine ⟨by have := hM.2.1 i (by omega); omega, fun a ha hca => ?_⟩
      have := hL.ge a i (by omega) ha (by omega) (hc a i ha (by omega) hca hb)
      omega
    · rw [if_neg hb]
      exact ⟨by omega, fun a ha hca => by have := h2 a (by omega) hca; omega⟩
/-- A choice: rows in their order, each one without a clash with the next one. -/
inductive Chn (l : List S44) : List Int → Prop
  | nil : Chn l []
  | one (a : Nat) : a < l.length → Chn l [(a : Int)]
  | more (xs : List Int) (a b : Nat) : Chn l (xs ++ [(a : Int)]) → a < b → b < l.length → bey l a b = 0 → Chn l (xs ++ [(a : Int)] ++ [(b : Int)])
theorem grGo_spec {l : List S44} (h : RightR l) : ∀ (d i : Nat) (left : Int) (out : List Int), i + d = l.length → 0 ≤ left → Chn l out → (∀ a : Nat, out.getLast? = some (a : Int) → a < i ∧ a < l.length ∧ (left = 0 ∨ ∃ b, i ≤ b ∧ b < l.length ∧ bey l a b = 0 ∧ lnS l b = left)) →
    (out = [] → left = 0 ∨ ∃ b, i ≤ b ∧ b < l.length ∧ lnS l b = left) →
    ((grGo l (lnS l) d i left out).length : Int) = out.length + left ∧ Chn l (grGo l (lnS l) d i left out) := by
  have hL := lnS_spec l
  intro d
  induction d with
  | zero =>
    intro i left out hi h0 hC h1 h2
    simp only [grGo]
    refine ⟨?_, hC⟩
    rcases hlast : out.getLast? with _ | a
    · have e := List.getLast?_eq_none_iff.1 hlast
      rcases h2 e with q | ⟨b, q1, q2, _⟩
      · omega
      · omega
    · have ha : ∃ n : Nat, a = (n : Int) := by
        cases hC with
        | nil => simp at hlast
        | one n hn => simp at hlast; exact ⟨n, hlast.symm⟩
        | more xs m n _ _ _ _ => simp at hlast; exact ⟨n, hlast.symm⟩
      obtain ⟨n, rfl⟩ := ha
      rcases (h1 n hlast).2.2 with q | ⟨b, q1, q2, _⟩
      · omega
      · omega
  | succ d ih =>
    intro i left out hi h0 hC h1 h2
    simp only [grGo]
    have hpos := hL.pos i (by omega) (by omega)
    by_cases hp : lnS l i = left ∧ gOK l out i = true
    · rw [if_pos hp]
      have hnext : left - 1 = 0 ∨ ∃ b, i + 1 ≤ b ∧ b < l.length ∧ bey l i b = 0 ∧ lnS l b = left - 1 := by
        rcases hL.att i (by omega) (by omega) with q | ⟨b, q1, q2, q3, q4⟩
        · left; omega
        · exact Or.inr ⟨b, q1, q2, q3, by omega⟩
      have hC' : Chn l (out ++ [(i : Int)]) := by
        cases hC with
        | nil => exact Chn.one i (by omega)
        | one n hn =>
          have hl := h1 n (by simp)
          have hg := hp.2
          unfold gOK at hg
          simp only [List.getLast?_singleton, Int.toNat_natCast, decide_eq_true_eq] at hg
          exact Chn.more [] n i (Chn.one n hn) hl.1 (by omega) hg
        | more xs m n q1 q2 q3 q4 =>
          have hl := h1 n (by simp)
          have hg := hp.2
          unfold gOK at hg
          rw [List.getLast?_concat] at hg
          simp only [Int.toNat_natCast, decide_eq_true_eq] at hg
          exact Chn.more (xs ++ [(m : Int)]) n i (Chn.more xs m n q1 q2 q3 q4) hl.1 (by omega) hg
      obtain ⟨r1, r2⟩ := ih (i + 1) (left - 1) (out ++ [(i : Int)]) (by omega) (by omega) hC' (fun a ha => by
          rw [List.getLast?_concat] at ha
          have e : (i : Int) = (a : Int) := Option.some.inj ha
          have e' : i = a := by omega
          subst e'
          exact ⟨by omega, by omega, hnext⟩) (fun e => absurd e (by simp))
      rw [List.length_append, List.length_singleton] at r1
      exact ⟨by omega, r2⟩
    · rw [if_neg hp]
      refine ih (i + 1) left out (by omega) h0 hC (fun a ha => ?_) (fun e => ?_)
      · obtain ⟨q1, q2, q3⟩ := h1 a ha
        refine ⟨by omega, q2, ?_⟩
        rcases q3 with q | ⟨b, b1, b2, b3, b4⟩
        · exact Or.inl q
        · rcases Nat.eq_or_lt_of_le b1 with rfl | b5
          · refine absurd ⟨b4, ?_⟩ hp
            unfold gOK
            rw [ha]
            simp only [Int.toNat_natCast, decide_eq_true_eq]
            exact b3
          · exact Or.inr ⟨b, b5, b2, b3, b4⟩
      · rcases h2 e with q | ⟨b, b1, b2, b4⟩
        · exact Or.inl q
        · rcases Nat.eq_or_lt_of_le b1 with rfl | b5
          · refine absurd ⟨b4, ?_⟩ hp
            unfold gOK
            rw [e]
            rfl
          · exact Or.inr ⟨b, b5, b2, b4⟩
/-- All rows of a choice are numbers of rows; two of them never clash. -/
theorem Chn.last_lt {l : List S44} {xs : List Int} {a : Nat} (h : Chn l (xs ++ [(a : Int)])) : a < l.length := by
  generalize hq : xs ++ [(a : Int)] = ys at h
  cases h with
  | nil => simp at hq
  | one n hn =>
    have := congrArg List.getLast? hq
    simp at this
    omega
  | more zs m n _ _ h3 _ =>
    have := congrArg List.getLast? hq
    rw [List.getLast?_concat, List.getLast?_concat] at this
    have e := Option.some.inj this
    omega
theorem Chn.free {l : List S44} (h : RightR l) {xs : List Int} (hC : Chn l xs) : (∀ x ∈ xs, 0 ≤ x ∧ x < l.length) ∧ (∀ i j : Nat, i < j → (i : Int) ∈ xs → (j : Int) ∈ xs → bey l i j = 0) ∧ (∀ a : Nat, xs.getLast? = some (a : Int) → ∀ x ∈ xs, x ≤ a) := by
  induction hC with
  | nil => exact ⟨fun x hx => (by cases hx), fun i j _ hi => (by cases hi), fun a ha => (by simp at ha)⟩
  | one n hn =>
    refine ⟨fun x hx => ?_, fun i j hij hi hj => ?_, fun a ha x hx => ?_⟩
    · rw [List.mem_singleton] at hx; omega
    · rw [List.mem_singleton] at hi hj; omega
    · simp at ha
      rw [List.mem_singleton] at hx
      omega
  | more zs m n hq h2 h3 h4 ih =>
    obtain ⟨a1, a2, a3⟩ := ih
    have a3' := a3 m (by rw [List.getLast?_concat])
    refine ⟨fun x hx => ?_, fun i j hij hi hj => ?_, fun a ha x hx => ?_⟩
    · rcases List.mem_append.1 hx with hx | hx
      · exact a1 x hx
      · rw [List.mem_singleton] at hx; omega
    · rcases List.mem_append.1 hj with hj | hj
      · rcases List.mem_append.1 hi with hi | hi
        · exact a2 i j hij hi hj
        · rw [List.mem_singleton] at hi
          have := a3' _ hj
          omega
      · rw [List.mem_singleton] at hj
        have ej : j = n := by omega
        subst ej
        rcases List.mem_append.1 hi with hi | hi
        · have := a3' _ hi
          rcases Nat.lt_or_ge i m with q | q
          · exact h.bey_trans q h2 h3 (a2 i m q hi (List.mem_append_right _ (List.mem_singleton.2 rfl))) h4
          · have e : i = m := by omega
            rw [e]; exact h4
        · rw [List.mem_singleton] at hi; omega
    · rw [List.getLast?_concat] at ha
      have e := Option.some.inj ha
      rcases List.mem_append.1 hx with hx | hx
      · have := a3' _ hx; omega
      · rw [List.mem_singleton] at hx; omega
/-- The largest choice. -/
theorem RightR.largest {l : List S44} (h : RightR l) : ∃ xs, lgS l = (xs, 0) ∧ Chn l xs ∧ (xs.length : Int) = mxV (lnS l) l.length := by
  have hM := mxV_spec (lnS l) l.length
  obtain ⟨r1, r2⟩ := grGo_spec h l.length 0 (mxV (lnS l) l.length) [] (by omega) hM.1 Chn.nil (fun a ha => by simp at ha) (fun _ => by
    rcases hM.2.2 with q | ⟨b, q1, q2⟩
    · exact Or.inl q
    · exact Or.inr ⟨b, by omega, q1, q2.symm⟩)
  refine ⟨_, ?_, r2, by simpa using r1⟩
  unfold lgS
  rw [if_neg (not_not_intro ((rchk_iff l).2 h))]

end Go.Proofs.Ytcapbigknimgnaa.PF
