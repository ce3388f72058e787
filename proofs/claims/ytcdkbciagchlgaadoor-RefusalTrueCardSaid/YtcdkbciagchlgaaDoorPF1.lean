-- Written by a program of this session (wip/pr.py) out of Lean's print of the translation; Lean checks it.
import Derived.Test.YtcdkbciagchlgaaDoorPF0
namespace Go.Proofs.YtcdkbciagchlgaaDoor.PF
open Go.RowKit Go.Proofs.YtcdkbciagchlgaaDoorW.PrintWords Go.Proofs.YtcdkbciagchlgaaDoorW.PrintLast Go.Proofs.YtcdkbciagchlgaaDoorW.PrintMore
attribute [local go_sem] max2_int min2_int max_two min_two max_three min_three max_four min_four   
set_option linter.unusedVariables false
set_option linter.unusedSimpArgs false
theorem w64_ {x : Int} (h0 : -9223372036854775808 ≤ x) (h1 : x ≤ 9223372036854775807) : wrap64 x = x := by unfold wrap64; omega
theorem countP_split (n m : Nat) (p : Nat → Bool) (hm : m ≤ n) (h1 : ∀ t, t < m → p t = true) (h2 : ∀ t, m ≤ t → t < n → p t = false) : (List.range n).countP p = m := by
  induction n with
  | zero => simp; omega
  | succ n ih =>
    rw [List.range_succ, List.countP_append, List.countP_singleton]
    rcases Nat.lt_or_ge m (n + 1) with h | h
    · rw [ih (by omega) (fun t h3 h4 => h2 t h3 (by omega)), h2 n (by omega) (by omega)]
      simp
    · obtain rfl : m = n + 1 := by omega
      have e : (List.range n).countP p = n := by
        rw [List.countP_eq_length.2 (fun t ht => h1 t (by have := List.mem_range.1 ht; omega)), List.length_range]
      rw [e, h1 n (by omega)]
      simp
theorem pw_cell_new (W : World) (v : Value) (t : TypeId) : (W.alloc (.cells #[v] t)).cell? ⟨W.heap.size, 0, none⟩ = some v := by
  rw [World.cell?_alloc_at _ _ _ _ (by simp)]; rfl
theorem pw_cell_alloc {W : World} {a : Addr} {v : Value} (o : Obj) (h : W.cell? a = some v) : (W.alloc o).cell? a = some v :=
  pw_cell_below (below_alloc (Below.refl _ _) o) h
theorem pw_still_tail {P : Program} {id : Nat} {Q : Exit → Act → World → Prop} {a : Act} {w : World} {l : List Oper} (n : Nat) (hm : P.follows .mixedOrders = true) (hB : Region.lexTailB .any l.toArray n = true)
    (h : wpStill P l.toArray (w.drewN 1) (fun a' => wpList P l.toArray Q (l.drop n) a' (w.drewN 1)) (l.take n) a) : (Code.region id l.toArray true).wp P Q a w := wp_region_still_tail n hm hB h
theorem pw_cell_drewN {W : World} {a : Addr} {v : Value} (h : W.cell? a = some v) (n : Nat) : (W.drewN n).cell? a = some v := h
theorem mul_rng {x y X Y : Int} (hx : 0 ≤ x) (hX : x ≤ X) (hy : 0 ≤ y) (hY : y ≤ Y) : 0 ≤ x * y ∧ x * y ≤ X * Y :=
  ⟨Int.mul_nonneg hx hy, Int.mul_le_mul hX hY hy (Int.le_trans hx hX)⟩
theorem wmul {x y X Y : Int} (hx : 0 ≤ x) (hX : x ≤ X) (hy : 0 ≤ y) (hY : y ≤ Y) (h : X * Y ≤ 9223372036854775807) : wrap64 (x * y) = x * y := by
  have := mul_rng hx hX hy hY
  exact w64_ (by omega) (by omega)
def idxP (q : Nat → Bool) : Nat → Nat → Int
  | 0, _ => -1
  | d + 1, i => if q i = true then (i : Int) else idxP q d (i + 1)
theorem idxP_found (q : Nat → Bool) (x d : Nat) : ∀ i, q x = true → (∀ j, i ≤ j → j < x → q j = false) → i ≤ x → x < i + d → idxP q d i = (x : Int) := by
  induction d with
  | zero => intro i _ _ h1 h2; omega
  | succ d ih =>
    intro i hq hb h1 h2
    simp only [idxP]
    rcases Nat.eq_or_lt_of_le h1 with rfl | h3
    · rw [if_pos hq]
    · rw [if_neg (by rw [hb i (Nat.le_refl _) h3]; decide)]
      exact ih (i + 1) hq (fun j h4 h5 => hb j (by omega) h5) h3 (by omega)
theorem idxP_none (q : Nat → Bool) (d : Nat) : ∀ i, (∀ j, i ≤ j → j < i + d → q j = false) → idxP q d i = -1 := by
  induction d with
  | zero => intro i _; rfl
  | succ d ih =>
    intro i hb
    simp only [idxP]
    rw [if_neg (by rw [hb i (Nat.le_refl _) (by omega)]; decide)]
    exact ih (i + 1) (fun j h4 h5 => hb j (by omega) (by omega))
theorem idxP_any (q : Nat → Bool) (d : Nat) : ∀ i, (0 ≤ idxP q d i ↔ ∃ j, i ≤ j ∧ j < i + d ∧ q j = true) := by
  induction d with
  | zero => intro i; simp only [idxP]; constructor
            · intro h; omega
            · rintro ⟨j, h1, h2, _⟩; omega
  | succ d ih =>
    intro i
    simp only [idxP]
    split
    · rename_i h
      exact ⟨fun _ => ⟨i, Nat.le_refl _, by omega, h⟩, fun _ => by omega⟩
    · rename_i h
      rw [ih (i + 1)]
      constructor
      · rintro ⟨j, h1, h2, h3⟩; exact ⟨j, by omega, by omega, h3⟩
      · rintro ⟨j, h1, h2, h3⟩
        rcases Nat.eq_or_lt_of_le h1 with rfl | h4
        · exact absurd h3 h
        · exact ⟨j, by omega, by omega, h3⟩
theorem bl_ {n : Nat} {w w' : World} (h : Below n w w' := by repeat (first | (with_reducible first | exact HB.out | apply below_alloc | apply pw_below_drewN | apply below_drew1) | exact HB.out)) : Below n w w' := h
theorem bls_ {n : Nat} {w w' : World} (h : Below n w w' := by repeat (first | (with_reducible first | exact HB.out | apply below_alloc | apply pw_below_drewN | apply below_drew1 | refine below_set ?_ (Aside0.out (by assumption))) | exact HB.out)) : Below n w w' := h
theorem bkt_ {w w' : World} {g : Nat} {o : Obj} (h : Aside0 (w.heap[g]? = some o)) (t : w'.heap[g]? = some o := by (with_reducible repeat (first | refine blk_drewN ?_ _ | refine blk_drew ?_ | refine blk_alloc ?_ _)); first | exact Aside0.out (by with_reducible assumption) | exact Aside0.out (by assumption)) : w'.heap[g]? = some o := t
theorem kr_ {α : Type} {d : Kd α} {e base : Nat} {w w' : World} {ok : Nat → Prop} {v : Value} {xs : List α} (h : Aside0 (Kd.R d e w base ok v xs)) (t : Kd.R d e w' base ok v xs := by (with_reducible repeat (first | apply Kd.R_alloc | apply Kd.R_drewN | apply Kd.R_drew)); first | exact Aside0.out (by with_reducible assumption) | exact Aside0.out (by assumption)) : Kd.R d e w' base ok v xs := t
theorem kc_ {α : Type} {d : Kd α} {w w' : World} {A : Option Addr} {n : Nat} {xs : List α} (h : Aside0 (Kd.C d w A n xs)) (t : Kd.C d w' A n xs := by repeat (first | exact (Kd.C_below (Aside0.out (by with_reducible assumption)) HB.out) | exact (Kd.C_below (Aside0.out (by assumption)) HB.out) | (with_reducible refine Kd.C_alloc ?_ _) | (with_reducible refine Kd.C_drewN ?_ _) | (with_reducible refine Kd.C_drew ?_))) : Kd.C d w' A n xs := t
theorem as_ {p : Prop} (h : p := by first | (with_reducible assumption) | assumption) : p := h
theorem fin_ {p : Prop} (h : p := by first | rfl | (simp [errW_none, errW_some] <;> rfl) | (simp [*, errW_none, errW_some] <;> rfl)) : p := h
theorem sm_ {p : Prop} (h : p := by first | rfl | (simp; done) | (simp [*]; done)) : p := h
section
variable {P : Program} {ops : Array Oper} {Q : Exit → Act → World → Prop}
theorem gl_ {rest : List Oper} {oi : Oper} {a : Act} {w : World} (N : Option Tmp) {f : FuncId} {fn : Func} {ar : Array Operand} {ts : Array TypeId} (hf : P.funcs[f]? = some fn) (args : Array Value)
    (h : Calls P f args w fun e w' => ∃ v, e = .returned v ∧ wpList P ops Q rest (a.put N v) w') (hd : oi.dst = N := by rfl) (hg : oi.guard = none := by rfl) (hname : (fn.name == "runtime.NumGoroutine") = false := by kernel_rfl) (hb : fn.body.isSome = true := by rfl)
    (hop : oi.op = .call { callee := .value (.func f), args := ar, argTypes := ts } := by rfl) (hargs : ar.map a.eval = args := by (try simp only [List.map_toArray, List.map_cons, List.map_nil]); first | done | rfl | (simp only [List.length_drop, List.length_take]; rfl)) : wpList P ops Q (oi :: rest) a w :=
  goesL_ N hd hg hf hname hb args hop hargs h
theorem be_ {a : Act} {o : Oper} {rest : List Oper} {W : World} {N : Tmp} {cs : Array Value} {t : TypeId}
    (h : ∀ g, g = W.heap.size → ∀ w1, w1.heap[g]? = some (.cells cs t (0, 0)) → Below W.heap.size W w1 → wpList P ops Q rest (a.put o.dst (.pointer (some ⟨g, 0, none⟩))) w1)
    (hd : o.dst = some N := by rfl) (hgd : o.guard = none := by rfl) (hrun : (execOp a.eval o).run P W = .ok (.value (.pointer (some ⟨W.heap.size, 0, none⟩))) (W.alloc (.cells cs t (0, 0))) := by first | (go_simp; done) | (go_simp; rfl)) : wpList P ops Q (o :: rest) a W :=
  box_event hgd hd hrun h
end
theorem bc2_ {w : World} {g t : Nat} {v0 v1 : Value} (h : Aside0 (w.heap[g]? = some (.cells #[v0, v1] t (0, 0)))) : w.cell? ⟨g, 0, none⟩ = some v0 ∧ w.cell? ⟨g, 1, none⟩ = some v1 := ⟨(blk_cell h.out 0).trans rfl, (blk_cell h.out 1).trans rfl⟩
theorem bf2_ {w : World} {g t : Nat} {cs : Array Value} (h : Aside0 (w.heap[g]? = some (.cells cs t (0, 0)))) : w.frozen? ⟨g, 0, none⟩ = false ∧ w.frozen? ⟨g, 1, none⟩ = false := ⟨blk_frozen h.out 0, blk_frozen h.out 1⟩
theorem bf3_ {w : World} {g t : Nat} {cs : Array Value} (h : Aside0 (w.heap[g]? = some (.cells cs t (0, 0)))) : w.frozen? ⟨g, 0, none⟩ = false ∧ w.frozen? ⟨g, 1, none⟩ = false ∧ w.frozen? ⟨g, 2, none⟩ = false := ⟨blk_frozen h.out 0, blk_frozen h.out 1, blk_frozen h.out 2⟩
theorem bc4_ {w : World} {g t : Nat} {v0 v1 v2 v3 : Value} (h : Aside0 (w.heap[g]? = some (.cells #[v0, v1, v2, v3] t (0, 0)))) : w.cell? ⟨g, 0, none⟩ = some v0 ∧ w.cell? ⟨g, 1, none⟩ = some v1 ∧ w.cell? ⟨g, 2, none⟩ = some v2 ∧ w.cell? ⟨g, 3, none⟩ = some v3 := ⟨(blk_cell h.out 0).trans rfl, (blk_cell h.out 1).trans rfl, (blk_cell h.out 2).trans rfl, (blk_cell h.out 3).trans rfl⟩
theorem bf4_ {w : World} {g t : Nat} {cs : Array Value} (h : Aside0 (w.heap[g]? = some (.cells cs t (0, 0)))) : w.frozen? ⟨g, 0, none⟩ = false ∧ w.frozen? ⟨g, 1, none⟩ = false ∧ w.frozen? ⟨g, 2, none⟩ = false ∧ w.frozen? ⟨g, 3, none⟩ = false := ⟨blk_frozen h.out 0, blk_frozen h.out 1, blk_frozen h.out 2, blk_frozen h.out 3⟩
theorem bf5_ {w : World} {g t : Nat} {cs : Array Value} (h : Aside0 (w.heap[g]? = some (.cells cs t (0, 0)))) : w.frozen? ⟨g, 0, none⟩ = false ∧ w.frozen? ⟨g, 1, none⟩ = false ∧ w.frozen? ⟨g, 2, none⟩ = false ∧ w.frozen? ⟨g, 3, none⟩ = false ∧ w.frozen? ⟨g, 4, none⟩ = false := ⟨blk_frozen h.out 0, blk_frozen h.out 1, blk_frozen h.out 2, blk_frozen h.out 3, blk_frozen h.out 4⟩
theorem bc6_ {w : World} {g t : Nat} {v0 v1 v2 v3 v4 v5 : Value} (h : Aside0 (w.heap[g]? = some (.cells #[v0, v1, v2, v3, v4, v5] t (0, 0)))) : w.cell? ⟨g, 0, none⟩ = some v0 ∧ w.cell? ⟨g, 1, none⟩ = some v1 ∧ w.cell? ⟨g, 2, none⟩ = some v2 ∧ w.cell? ⟨g, 3, none⟩ = some v3 ∧ w.cell? ⟨g, 4, none⟩ = some v4 ∧ w.cell? ⟨g, 5, none⟩ = some v5 := ⟨(blk_cell h.out 0).trans rfl, (blk_cell h.out 1).trans rfl, (blk_cell h.out 2).trans rfl, (blk_cell h.out 3).trans rfl, (blk_cell h.out 4).trans rfl, (blk_cell h.out 5).trans rfl⟩
theorem bf6_ {w : World} {g t : Nat} {cs : Array Value} (h : Aside0 (w.heap[g]? = some (.cells cs t (0, 0)))) : w.frozen? ⟨g, 0, none⟩ = false ∧ w.frozen? ⟨g, 1, none⟩ = false ∧ w.frozen? ⟨g, 2, none⟩ = false ∧ w.frozen? ⟨g, 3, none⟩ = false ∧ w.frozen? ⟨g, 4, none⟩ = false ∧ w.frozen? ⟨g, 5, none⟩ = false := ⟨blk_frozen h.out 0, blk_frozen h.out 1, blk_frozen h.out 2, blk_frozen h.out 3, blk_frozen h.out 4, blk_frozen h.out 5⟩
end Go.Proofs.YtcdkbciagchlgaaDoor.PF
