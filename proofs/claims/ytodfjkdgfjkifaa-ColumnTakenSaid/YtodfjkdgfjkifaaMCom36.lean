/- What the laws of layer 36 share: the copy of a column, membership, sums of balances. -/
import Derived.Test.YtodfjkdgfjkifaaMBal36
import Derived.Test.YtodfjkdgfjkifaaMCol36
import Derived.Test.YtodfjkdgfjkifaaMEv
import Derived.Test.YtodfjkdgfjkifaaMOpn36
import Derived.Test.YtodfjkdgfjkifaaPF0
import Derived.Test.YtodfjkdgfjkifaaPF1
import Derived.Test.YtodfjkdgfjkifaaPF3
import Derived.Test.YtodfjkdgfjkifaaPF7
namespace Go.Proofs.Ytodfjkdgfjkifaa.PF
open Go.RowKit Go.Proofs.YtodfjkdgfjkifaaW.PrintWords Go.Proofs.YtodfjkdgfjkifaaW.PrintLast Go.Proofs.YtodfjkdgfjkifaaW.PrintMore
set_option linter.unusedVariables false
set_option linter.unusedSimpArgs false
theorem idx_int.go (l : List Int) (x : Int) (hn : l.length ≤ 20000) : ∀ d i : Nat, i + d = l.length → ∃ r : Int, Ev (fun k => slices_Index_int_int.l0 k l x (l.length : Int) (i : Int)) r ∧ (0 ≤ r ↔ ∃ j, i ≤ j ∧ ∃ hj : j < l.length, l[j] = x) := by
  intro d
  induction d with
  | zero =>
    intro i hi
    refine ⟨-1, Ev.ret (fun k => ?_), fun h => absurd h (by decide), fun ⟨j, h1, h2, _⟩ => by omega⟩
    simp only [slices_Index_int_int.l0]
    rw [if_neg (by omega)]
  | succ d ih =>
    intro i hi
    have hil : i < l.length := by omega
    have hrd : rd l (i : Int) = l[i] := by unfold rd; rw [Int.toNat_natCast, List.getD_eq_getElem?_getD, List.getElem?_eq_getElem hil]; rfl
    by_cases hb : x = rd l (i : Int)
    · refine ⟨(i : Int), Ev.ret (fun k => ?_), fun _ => ⟨i, Nat.le_refl _, hil, by rw [← hrd]; exact hb.symm⟩, fun _ => by omega⟩
      simp only [slices_Index_int_int.l0]
      rw [if_pos (by omega), if_pos (by omega), if_pos (by omega), if_pos hb]
    · obtain ⟨r, hr, hiff⟩ := ih (i + 1) (by omega)
      refine ⟨r, Ev.step (fun k => ?_) hr, ?_⟩
      · simp only [slices_Index_int_int.l0]
        rw [if_pos (by omega), if_pos (by omega), if_pos (by omega), if_neg hb, w64_ (by omega) (by omega)]
        rfl
      · rw [hiff]
        constructor
        · rintro ⟨j, h1, h2, h3⟩
          exact ⟨j, by omega, h2, h3⟩
        · rintro ⟨j, h1, h2, h3⟩
          rcases Nat.eq_or_lt_of_le h1 with rfl | h4
          · exact absurd (by rw [hrd]; exact h3.symm) hb
          · exact ⟨j, h4, h2, h3⟩
theorem contains_int.known (l : List Int) (x : Int) (A : Option Addr) (c : Nat) (w : World) (hr : Kd.C (Kd.int .i64) w A l.length l) (hc : l.length ≤ c) (hn : l.length ≤ 20000) :
    Calls Try.prog 27 #[.slice A l.length c, .int .i64 x] w fun e w' => e = .returned (.bool (decide (x ∈ l))) ∧ Below w.heap.size w w' := by
  obtain ⟨r, hE, hiff⟩ := idx_int.go l x hn l.length 0 (by omega)
  have h : Ev (fun k => slices_Contains_int_int.f k l x) (decide (x ∈ l)) := by
    unfold slices_Contains_int_int.f
    refine Ev.bind (b := r) hE (Ev.now (fun k => ?_))
    congr 1
    rw [decide_eq_decide]
    show 0 ≤ r ↔ _
    rw [hiff, List.mem_iff_getElem]
    constructor
    · rintro ⟨j, _, hj, e⟩; exact ⟨j, hj, e⟩
    · rintro ⟨j, hj, e⟩; exact ⟨j, Nat.zero_le _, hj, e⟩
  obtain ⟨k, hk⟩ : ∃ k, slices_Contains_int_int.f k l x = some (decide (x ∈ l)) := by obtain ⟨N, hN⟩ := h; exact ⟨N, hN N (Nat.le_refl _)⟩
  refine (slices_Contains_int_int.calls k A c l x _ w hr hc hk).mono ?_
  rintro e w' ⟨rfl, hd⟩
  exact ⟨rfl, hd.below⟩
theorem cp36.known (p : Int) (A : Option Addr) (c : Nat) (l : List S28) (w : World) (hr : Kd.C k28 w A l.length l) (hc : l.length ≤ c) (hl : l.length ≤ 1000) :
    Calls Try.prog 13 #[.agg #[.int .i64 p, .slice A l.length c]] w fun e w' => ∃ A' c', e = .returned (.agg #[.int .i64 p, .slice A' l.length c']) ∧ l.length ≤ c' ∧ Kd.C k28 w' A' l.length l ∧ Below w.heap.size w w' := by
  refine (spilelaw36_cp.calls p A c l p l w hr hc (by unfold spilelaw36_cp.f api_Flow_35.f; rw [if_pos (by omega)]; rfl)).mono ?_
  rintro e w' ⟨v, rfl, hR, hb⟩
  obtain ⟨A', c', rfl⟩ := Kd.R_slice hR
  exact ⟨A', c', rfl, (Kd.R_reads' hR).2.1, (Kd.R_reads' hR).2.2, hb⟩
/-- The sum of the balances of the plates from 1 on. -/
def psA (B : Nat → Int × Int) : Nat → Int × Int
  | 0 => (0, 0)
  | n + 1 => ((psA B n).1 + (B (n + 1)).1, (psA B n).2 + (B (n + 1)).2)
theorem psA_bnd {B : Nat → Int × Int} {M : Int} (h : BndB B M) (n : Nat) : -((n : Int) * M) ≤ (psA B n).1 ∧ (psA B n).1 ≤ (n : Int) * M ∧ -((n : Int) * M) ≤ (psA B n).2 ∧ (psA B n).2 ≤ (n : Int) * M := by
  induction n with
  | zero => simp [psA]
  | succ n ih =>
    have := h (n + 1)
    simp only [psA]
    rw [show ((n + 1 : Nat) : Int) * M = (n : Int) * M + M by rw [show ((n + 1 : Nat) : Int) = (n : Int) + 1 by omega, Int.add_mul, Int.one_mul]]
    omega
theorem psA_add (B : Nat → Int × Int) (f : S28) (h0 : 0 ≤ f.f0) (h1 : 0 ≤ f.f1) (n : Nat) :
    (addB B f 0).1 + (psA (addB B f) n).1 = (B 0).1 + (psA B n).1 - (if f.f0 ≤ n then f.f2 else 0) + (if f.f1 ≤ n then f.f2 else 0) ∧
    (addB B f 0).2 + (psA (addB B f) n).2 = (B 0).2 + (psA B n).2 - (if f.f0 ≤ n then f.f3 else 0) + (if f.f1 ≤ n then f.f3 else 0) := by
  induction n with
  | zero =>
    simp only [psA, addB]
    constructor <;> (split <;> split <;> split <;> split <;> omega)
  | succ n ih =>
    have e1 : (addB B f (n + 1)).1 = (B (n + 1)).1 - (if ((n + 1 : Nat) : Int) = f.f0 then f.f2 else 0) + (if ((n + 1 : Nat) : Int) = f.f1 then f.f2 else 0) := rfl
    have e2 : (addB B f (n + 1)).2 = (B (n + 1)).2 - (if ((n + 1 : Nat) : Int) = f.f0 then f.f3 else 0) + (if ((n + 1 : Nat) : Int) = f.f1 then f.f3 else 0) := rfl
    simp only [psA]
    rw [e1, e2]
    have key : ∀ (x v : Int), 0 ≤ x → (if x ≤ ((n + 1 : Nat) : Int) then v else 0) = (if x ≤ (n : Int) then v else 0) + (if ((n + 1 : Nat) : Int) = x then v else 0) := by
      intro x v hx
      by_cases q1 : x ≤ (n : Int)
      · rw [if_pos (by omega), if_pos q1, if_neg (by omega)]; omega
      · by_cases q2 : ((n + 1 : Nat) : Int) = x
        · rw [if_pos (by omega), if_neg q1, if_pos q2]; omega
        · rw [if_neg (by omega), if_neg q1, if_neg q2]; rfl
    rw [key f.f0 f.f2 h0, key f.f1 f.f2 h1, key f.f0 f.f3 h0, key f.f1 f.f3 h1]
    generalize (if ((n + 1 : Nat) : Int) = f.f0 then f.f2 else 0) = v1 at *
    generalize (if ((n + 1 : Nat) : Int) = f.f1 then f.f2 else 0) = v2 at *
    generalize (if ((n + 1 : Nat) : Int) = f.f0 then f.f3 else 0) = v3 at *
    generalize (if ((n + 1 : Nat) : Int) = f.f1 then f.f3 else 0) = v4 at *
    generalize (if f.f0 ≤ (n : Int) then f.f2 else 0) = v5 at *
    generalize (if f.f1 ≤ (n : Int) then f.f2 else 0) = v6 at *
    generalize (if f.f0 ≤ (n : Int) then f.f3 else 0) = v7 at *
    generalize (if f.f1 ≤ (n : Int) then f.f3 else 0) = v8 at *
    omega
theorem psA_sum {p : Int} {l : List S28} (h : RightC p l) : (balL l 0).1 + (psA (balL l) p.toNat).1 = 0 ∧ (balL l 0).2 + (psA (balL l) p.toNat).2 = 0 := by
  have key : ∀ (l : List S28) (B : Nat → Int × Int), (∀ f ∈ l, FlowOK f ∧ f.f0 ≤ p ∧ f.f1 ≤ p) → (B 0).1 + (psA B p.toNat).1 = 0 ∧ (B 0).2 + (psA B p.toNat).2 = 0 → ((l.foldl addB B) 0).1 + (psA (l.foldl addB B) p.toNat).1 = 0 ∧ ((l.foldl addB B) 0).2 + (psA (l.foldl addB B) p.toNat).2 = 0 := by
    intro l
    induction l with
    | nil => intro B _ hB; exact hB
    | cons f l ih =>
      intro B hf hB
      have h1 := hf f (by simp)
      unfold FlowOK at h1
      have h2 := psA_add B f h1.1.1 h1.1.2.2.1 p.toNat
      rw [if_pos (by omega), if_pos (by omega), if_pos (by omega), if_pos (by omega)] at h2
      rw [List.foldl_cons]
      exact ih _ (fun g hg => hf g (by simp [hg])) ⟨by omega, by omega⟩
  refine key l (fun _ => (0, 0)) (fun f hf => ⟨(h.2.2.2.1 f hf).1, (h.2.2.2.1 f hf).2.1, (h.2.2.2.1 f hf).2.2.1⟩) ?_
  have : ∀ n, psA (fun _ => ((0 : Int), (0 : Int))) n = (0, 0) := fun n => by induction n with
    | zero => rfl
    | succ n ih => simp only [psA, ih]; rfl
  rw [this]
  exact ⟨rfl, rfl⟩
theorem openS_iff {B : Nat → Int × Int} {q : Int} (h0 : 1 ≤ q) (h1 : q ≤ 16) : q ∈ openS B ↔ B q.toNat ≠ (0, 0) := by
  unfold openS openTo
  rw [List.mem_map]
  constructor
  · rintro ⟨n, hn, rfl⟩
    rw [List.mem_filter] at hn
    have := hn.2
    simp only [Bool.and_eq_true, Bool.not_eq_true', beq_eq_false_iff_ne] at this
    rw [Int.toNat_natCast]
    exact this.2
  · intro h
    refine ⟨q.toNat, ?_, by omega⟩
    rw [List.mem_filter]
    refine ⟨List.mem_range.2 (by omega), ?_⟩
    simp only [Bool.and_eq_true, decide_eq_true_eq, Bool.not_eq_true', beq_eq_false_iff_ne]
    exact ⟨by omega, h⟩
theorem psA_zero {B : Nat → Int × Int} (h : openS B = []) (n : Nat) (hn : n ≤ 16) : psA B n = (0, 0) := by
  induction n with
  | zero => rfl
  | succ n ih =>
    have h1 : B (n + 1) = (0, 0) := by
      have := mt (openS_iff (B := B) (q := ((n + 1 : Nat) : Int)) (by omega) (by omega)).2 (by rw [h]; exact List.not_mem_nil)
      rw [Int.toNat_natCast] at this
      exact Decidable.not_not.1 this
    simp only [psA, ih (by omega), h1]
    rfl
/-! #### The struct type of columns -/
structure S24 where
  f0 : Int
  f1 : List S28
def k24 : Kd S24 := Kd.iso (Kd.pair (Kd.int .i64) (Kd.slice 28 k28)) (fun x : S24 => (x.f0, x.f1))
theorem k24_open {w : World} {x : S24} {cs : List Value} (h : k24.K w x cs) : ∃ A c, cs = [.int .i64 x.f0, .slice A x.f1.length c] ∧ x.f1.length ≤ c ∧ k28.C w A x.f1.length x.f1 := by
  obtain ⟨_, _, rfl, rfl, A, c, rfl, hl, hC⟩ := h
  exact ⟨A, c, rfl, hl, hC⟩

end Go.Proofs.Ytodfjkdgfjkifaa.PF
