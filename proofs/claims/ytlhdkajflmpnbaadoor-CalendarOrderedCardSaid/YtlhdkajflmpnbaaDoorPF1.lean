-- Written by a program of this session (wip/pr.py) out of Lean's print of the translation; Lean checks it.
import Derived.Test.YtlhdkajflmpnbaaDoorPF0
namespace Go.Proofs.YtlhdkajflmpnbaaDoor.PF
open Go.RowKit Go.Proofs.YtlhdkajflmpnbaaDoorW.PrintWords Go.Proofs.YtlhdkajflmpnbaaDoorW.PrintLast Go.Proofs.YtlhdkajflmpnbaaDoorW.PrintMore
attribute [local go_sem] max2_int min2_int max_two min_two max_three min_three max_four min_four   -- for this text's walks alone
set_option linter.unusedVariables false
set_option linter.unusedSimpArgs false

theorem w64_ {x : Int} (h0 : -9223372036854775808 ≤ x) (h1 : x ≤ 9223372036854775807) : wrap64 x = x := by unfold wrap64; omega
theorem countP_split (n m : Nat) (p : Nat → Bool) (hm : m ≤ n) (h1 : ∀ t, t < m → p t = true) (h2 : ∀ t, m ≤ t → t < n → p t = false) : (List.range n).countP p = m := by
  induction n with
  | zero => simp; omega
  | succ n ih =>
    rw [List.range_succ, List.countP_append, List.countP_singleton]
    rcases Nat.lt_or_ge m (n + 1) with h | h
    · rw [ih (by omega) (fun t h3 h4 => h2 t h3 (by omega)), h2 n (by omega) (by omega)]
      simp
    · obtain rfl : m = n + 1 := by omega
      have e : (List.range n).countP p = n := by
        rw [List.countP_eq_length.2 (fun t ht => h1 t (by have := List.mem_range.1 ht; omega)), List.length_range]
      rw [e, h1 n (by omega)]
      simp
theorem pw_cell_new (W : World) (v : Value) (t : TypeId) : (W.alloc (.cells #[v] t)).cell? ⟨W.heap.size, 0, none⟩ = some v := by
  rw [World.cell?_alloc_at _ _ _ _ (by simp)]; rfl
theorem pw_cell_alloc {W : World} {a : Addr} {v : Value} (o : Obj) (h : W.cell? a = some v) : (W.alloc o).cell? a = some v :=
  pw_cell_below (below_alloc (Below.refl _ _) o) h
theorem pw_still_tail {P : Program} {id : Nat} {Q : Exit → Act → World → Prop} {a : Act} {w : World} {l : List Oper} (n : Nat) (hm : P.follows .mixedOrders = true) (hB : Region.lexTailB .any l.toArray n = true)
    (h : wpStill P l.toArray (w.drewN 1) (fun a' => wpList P l.toArray Q (l.drop n) a' (w.drewN 1)) (l.take n) a) : (Code.region id l.toArray true).wp P Q a w := wp_region_still_tail n hm hB h
theorem pw_cell_drewN {W : World} {a : Addr} {v : Value} (h : W.cell? a = some v) (n : Nat) : (W.drewN n).cell? a = some v := h
theorem mul_rng {x y X Y : Int} (hx : 0 ≤ x) (hX : x ≤ X) (hy : 0 ≤ y) (hY : y ≤ Y) : 0 ≤ x * y ∧ x * y ≤ X * Y :=
  ⟨Int.mul_nonneg hx hy, Int.mul_le_mul hX hY hy (Int.le_trans hx hX)⟩
theorem wmul {x y X Y : Int} (hx : 0 ≤ x) (hX : x ≤ X) (hy : 0 ≤ y) (hY : y ≤ Y) (h : X * Y ≤ 9223372036854775807) : wrap64 (x * y) = x * y := by
  have := mul_rng hx hX hy hY
  exact w64_ (by omega) (by omega)
theorem countP_mono (n : Nat) (p : Nat → Bool) (hm : ∀ a b, a ≤ b → b < n → p a = true → p b = true) :
    (List.range n).countP (fun i => !p i) ≤ n ∧ (∀ t, t < (List.range n).countP (fun i => !p i) → p t = false) ∧ (∀ t, (List.range n).countP (fun i => !p i) ≤ t → t < n → p t = true) := by
  induction n with
  | zero => exact ⟨by simp, fun t ht => by simp at ht, fun t _ h => by omega⟩
  | succ n ih =>
    obtain ⟨i1, i2, i3⟩ := ih (fun a b h1 h2 => hm a b h1 (by omega))
    rw [List.range_succ, List.countP_append, List.countP_singleton]
    cases hp : p n with
    | true =>
      simp only [Bool.not_true, Bool.false_eq_true, if_false, Nat.add_zero]
      refine ⟨by omega, i2, fun t h1 h2 => ?_⟩
      rcases Nat.lt_or_ge t n with h3 | h3
      · exact i3 t h1 h3
      · obtain rfl : t = n := by omega
        exact hp
    | false =>
      have e : (List.range n).countP (fun i => !p i) = n := by
        rcases Nat.lt_or_ge ((List.range n).countP (fun i => !p i)) n with h3 | h3
        · have := hm (n - 1) n (by omega) (by omega) (i3 (n - 1) (by omega) (by omega))
          rw [hp] at this
          cases this
        · omega
      simp only [Bool.not_false, if_true]
      rw [e] at i2 ⊢
      refine ⟨Nat.le_refl _, fun t ht => ?_, fun t h1 h2 => by omega⟩
      rcases Nat.lt_or_ge t n with h3 | h3
      · exact i2 t h3
      · obtain rfl : t = n := by omega
        exact hp

/-- The first place from i on, of d places, at which q holds, or -1. -/
def idxP (q : Nat → Bool) : Nat → Nat → Int
  | 0, _ => -1
  | d + 1, i => if q i = true then (i : Int) else idxP q d (i + 1)
theorem idxP_found (q : Nat → Bool) (x d : Nat) : ∀ i, q x = true → (∀ j, i ≤ j → j < x → q j = false) → i ≤ x → x < i + d → idxP q d i = (x : Int) := by
  induction d with
  | zero => intro i _ _ h1 h2; omega
  | succ d ih =>
    intro i hq hb h1 h2
    simp only [idxP]
    rcases Nat.eq_or_lt_of_le h1 with rfl | h3
    · rw [if_pos hq]
    · rw [if_neg (by rw [hb i (Nat.le_refl _) h3]; decide)]
      exact ih (i + 1) hq (fun j h4 h5 => hb j (by omega) h5) h3 (by omega)
theorem idxP_none (q : Nat → Bool) (d : Nat) : ∀ i, (∀ j, i ≤ j → j < i + d → q j = false) → idxP q d i = -1 := by
  induction d with
  | zero => intro i _; rfl
  | succ d ih =>
    intro i hb
    simp only [idxP]
    rw [if_neg (by rw [hb i (Nat.le_refl _) (by omega)]; decide)]
    exact ih (i + 1) (fun j h4 h5 => hb j (by omega) (by omega))
theorem idxP_lt (q : Nat → Bool) (d : Nat) : ∀ i, idxP q d i < (i : Int) + d ∨ idxP q d i = -1 := by
  induction d with
  | zero => intro i; exact .inr rfl
  | succ d ih =>
    intro i
    simp only [idxP]
    split
    · left; omega
    · rcases ih (i + 1) with h | h
      · left; omega
      · exact .inr h
theorem idxP_any (q : Nat → Bool) (d : Nat) : ∀ i, (0 ≤ idxP q d i ↔ ∃ j, i ≤ j ∧ j < i + d ∧ q j = true) := by
  induction d with
  | zero => intro i; simp only [idxP]; constructor
            · intro h; omega
            · rintro ⟨j, h1, h2, _⟩; omega
  | succ d ih =>
    intro i
    simp only [idxP]
    split
    · rename_i h
      exact ⟨fun _ => ⟨i, Nat.le_refl _, by omega, h⟩, fun _ => by omega⟩
    · rename_i h
      rw [ih (i + 1)]
      constructor
      · rintro ⟨j, h1, h2, h3⟩; exact ⟨j, by omega, by omega, h3⟩
      · rintro ⟨j, h1, h2, h3⟩
        rcases Nat.eq_or_lt_of_le h1 with rfl | h4
        · exact absurd h3 h
        · exact ⟨j, by omega, by omega, h3⟩
theorem pw_rd_at {w : World} {A : Option Addr} {n : Nat} {xs : List Int} (h : Kd.C (Kd.int .i64) w A n xs) (i : Int) (h0 : 0 ≤ i) (h1 : i < n) : ∃ ad, A = some ad ∧ w.cell? (ad.add i.toNat) = some (.int .i64 (rd xs i)) :=
  ReadsOf.at_ (enc := Value.int .i64) (d := 0) (Kd.reads_of_C h) i h0 h1

end Go.Proofs.YtlhdkajflmpnbaaDoor.PF
