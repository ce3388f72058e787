/- Maps of this layer, keyed by the ends of flows: the set that Check keeps, the places that Merge keeps. -/
import Derived.Test.YtodfjkdgfjkifaaPF0
import Derived.Maps.Own
import Derived.Maps.OwnOps
import Derived.Maps.Views
import Derived.Maps.Keyed
import Derived.DeepKeys4
import Derived.DeepKeys5
namespace Go.Proofs.Ytodfjkdgfjkifaa.PF
open Go.RowKit Go.Proofs.YtodfjkdgfjkifaaW.PrintWords Go.Proofs.YtodfjkdgfjkifaaW.PrintLast Go.Proofs.YtodfjkdgfjkifaaW.PrintMore
set_option linter.unusedVariables false
set_option linter.unusedSimpArgs false
open Go.Maps (Keyed IsMap)
/-- The key of two ends. -/
def endsV (a c : Int) : Value := .agg #[.int .i64 a, .int .i64 c]
theorem laid36 : laidOutB Try.prog = true := by kernel_rfl
theorem ends_keyed : Keyed Try.prog 63 := Keyed.of_law (deep_law_gate laid36 (of_decide_eq_true (by kernel_rfl)) (of_decide_eq_true (by kernel_rfl)) (by kernel_rfl) (by kernel_rfl))
theorem ends_keyType : Try.prog.keyType 63 = true := by kernel_rfl
theorem ends_cells : Try.prog.cellsOf 63 = 2 := by kernel_rfl
theorem int_cells : Try.prog.cellsOf 3 = 1 := by kernel_rfl
theorem types_succ : ∃ m, Try.prog.types.size + 1 = m + 2 := ⟨Try.prog.types.size - 1, by have : 1 ≤ Try.prog.types.size := of_decide_eq_true (by kernel_rfl); omega⟩
theorem ends_keyOf {a c : Int} (ha : (Lit.int .i64 a).wf = true) (hc : (Lit.int .i64 c).wf = true) : ∃ l, keyOf Try.prog 63 (endsV a c) = some l := by
  obtain ⟨m, hm⟩ := types_succ
  have hf : (endsV a c).formed Try.prog 63 = true := by
    unfold endsV Value.formed
    rw [Try.underlying63]
    simp [ends_cells]
  refine ⟨.string (keyBytes [.int .i64 a, .int .i64 c]), ?_⟩
  unfold keyOf
  rw [Try.underlying63]
  simp only [ends_keyType, hf, Bool.and_self, if_true]
  rw [hm]
  have h1 : ∀ x : Int, (Lit.int .i64 x).wf = true → Try.prog.keyLits (m + 1) 3 [.int .i64 x] = some [.int .i64 x] := fun x hx => by
    unfold Program.keyLits
    rw [Try.underlying3]
    simp [hx]
  have h2 : Try.prog.keyLits (m + 2) 63 (endsV a c).cells.toList = some [.int .i64 a, .int .i64 c] := by
    unfold Program.keyLits
    rw [Try.underlying63]
    simp [endsV, Value.cells, ends_cells, int_cells, h1 a ha, h1 c hc]
  rw [h2]
  rfl
theorem plainElem_bool_inv {P : Program} {e : TypeId} (he : P.underlying e = some .bool) {v : Value} {z : DataW Unit × List MemPlace} (h : plainElem P e v = some z) : ∃ b, v = .bool b ∧ z.1 = .lit (.bool b) := by
  unfold plainElem at h
  rw [he] at h
  cases v <;> simp at h
  subst h
  exact ⟨_, rfl, rfl⟩
/-- Block b is a map that holds just the ends of S. -/
def SeenM (w : World) (b n : Nat) (S : List (Int × Int)) : Prop :=
  ∃ D : DataW Unit, IsMap D ∧ w.ownsMap Try.prog 63 (plainElem Try.prog 4) b n D ∧
    ∀ a c l, keyOf Try.prog 63 (endsV a c) = some l → D.atKey l (.lit (.bool false)) = .lit (.bool (decide ((a, c) ∈ S)))
theorem SeenM.made (w : World) : SeenM (w.alloc (.map #[] 0)) w.heap.size 0 [] :=
  ⟨.map [], ⟨_, rfl⟩, World.ownsMap_made w _ _ _, fun _ _ _ _ => by simp [DataW.atKey]⟩
theorem SeenM.kept {w w' : World} {b n : Nat} {S : List (Int × Int)} {row : Option Nat} (h : SeenM w b n S) (hg : w.grownBy w' row) (hne : some b ≠ row) : SeenM w' b n S := by
  obtain ⟨D, h1, h2, h3⟩ := h
  exact ⟨D, h1, h2.kept hg hne, h3⟩
theorem SeenM.alloc {w : World} {b n : Nat} {S : List (Int × Int)} (h : SeenM w b n S) (o : Obj) : SeenM (w.alloc o) b n S := h.kept (World.grownBy_alloc w o none) (by simp)
theorem SeenM.mono {w : World} {b n n' : Nat} {S : List (Int × Int)} (h : SeenM w b n S) (hn : n ≤ n') : SeenM w b n' S := by
  obtain ⟨D, h1, h2, h3⟩ := h
  exact ⟨D, h1, h2.mono hn, h3⟩
theorem SeenM.lookup {w : World} {b n : Nat} {S : List (Int × Int)} (h : SeenM w b n S) {a c : Int} (ha : (Lit.int .i64 a).wf = true) (hc : (Lit.int .i64 c).wf = true) :
    (Instr.lookup 66 (.map (some b)) (endsV a c) false).run Try.prog w = .ok (.bool (decide ((a, c) ∈ S))) w := by
  obtain ⟨D, h1, h2, h3⟩ := h
  obtain ⟨l, hl⟩ := ends_keyOf ha hc
  obtain ⟨v, ps, hrun, hv⟩ := h2.lookup ends_keyed Try.underlying66 (z := .bool false) rfl (plainElem_bool Try.underlying4 false) hl
  obtain ⟨x, rfl, hx⟩ := plainElem_bool_inv Try.underlying4 hv
  rw [h3 a c l hl] at hx
  rw [hrun]
  have : decide ((a, c) ∈ S) = x := by injection hx with hx; injection hx
  rw [this]
theorem SeenM.update {w : World} {b n : Nat} {S : List (Int × Int)} (h : SeenM w b n S) (hn : n < maxLen) {a c : Int} (ha : (Lit.int .i64 a).wf = true) (hc : (Lit.int .i64 c).wf = true) :
    ∃ w', (Instr.mapUpdate 66 (.map (some b)) (endsV a c) (.bool true)).run Try.prog w = .ok () w' ∧ SeenM w' b (n + 1) ((a, c) :: S) ∧ w.grownBy w' (some b) := by
  obtain ⟨D, h1, h2, h3⟩ := h
  obtain ⟨l, hl⟩ := ends_keyOf ha hc
  obtain ⟨w', hrun, r1, r2⟩ := h2.update ends_keyed Try.underlying66 hn hl (plainElem_bool Try.underlying4 true)
  refine ⟨w', hrun, ⟨_, h1.put _ _, r1, fun a' c' l' hl' => ?_⟩, r2⟩
  by_cases he : l' = l
  · subst he
    have := ends_keyed.inj hl hl'
    simp [endsV] at this
    obtain ⟨rfl, rfl⟩ := this
    rw [Go.Maps.atKey_put_same h1 (ends_keyed.key hl)]
    simp
  · rw [Go.Maps.atKey_put_other he, h3 a' c' l' hl']
    have : (a', c') ≠ (a, c) := fun e => by
      injection e with e1 e2
      subst e1
      subst e2
      rw [hl] at hl'
      exact he (Option.some.inj hl').symm
    simp [this]

end Go.Proofs.Ytodfjkdgfjkifaa.PF
