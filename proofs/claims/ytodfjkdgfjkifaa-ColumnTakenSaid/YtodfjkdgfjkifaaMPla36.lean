/- The map that column.Merge keeps: the place of each pair of ends. -/
import Derived.Test.YtodfjkdgfjkifaaMChk36
import Derived.Test.YtodfjkdgfjkifaaMMap36
import Derived.Maps.Own
import Derived.Maps.OwnOps
import Derived.Maps.Views
import Derived.Maps.Keyed
namespace Go.Proofs.Ytodfjkdgfjkifaa.PF
open Go.RowKit Go.Proofs.YtodfjkdgfjkifaaW.PrintWords Go.Proofs.YtodfjkdgfjkifaaW.PrintLast Go.Proofs.YtodfjkdgfjkifaaW.PrintMore
set_option linter.unusedVariables false
set_option linter.unusedSimpArgs false
open Go.Maps (Keyed IsMap has)
/-- Block b is a map from the ends of E to their places. -/
def PlaceM (w : World) (b n : Nat) (E : List (Int × Int)) : Prop :=
  ∃ D : DataW Unit, IsMap D ∧ w.ownsMap Try.prog 63 (plainElem Try.prog 3) b n D ∧
    ∀ a c l, keyOf Try.prog 63 (endsV a c) = some l → has D l = decide ((a, c) ∈ E) ∧ ((a, c) ∈ E → D.atKey l (.lit (.int .i64 0)) = .lit (.int .i64 (E.idxOf (a, c) : Nat)))
theorem PlaceM.made (w : World) : PlaceM (w.alloc (.map #[] 0)) w.heap.size 0 [] :=
  ⟨.map [], ⟨_, rfl⟩, World.ownsMap_made w _ _ _, fun _ _ _ _ => ⟨by simp [has], fun h => by cases h⟩⟩
theorem PlaceM.heap {w w' : World} {b n : Nat} {E : List (Int × Int)} (h : PlaceM w b n E) (hh : w'.heap[b]? = w.heap[b]?) : PlaceM w' b n E := by
  obtain ⟨D, h1, ⟨es, clock, hb, h2⟩, h3⟩ := h
  exact ⟨D, h1, ⟨es, clock, hh.trans hb, h2⟩, h3⟩
theorem PlaceM.lt {w : World} {b n : Nat} {E : List (Int × Int)} (h : PlaceM w b n E) : b < w.heap.size := by
  obtain ⟨D, h1, h2, h3⟩ := h
  exact h2.lt
theorem PlaceM.below {w w' : World} {b n : Nat} {E : List (Int × Int)} (h : PlaceM w b n E) (hb : Below w.heap.size w w') : PlaceM w' b n E := h.heap (hb.block b h.lt)
theorem PlaceM.kept {w w' : World} {b n : Nat} {E : List (Int × Int)} {row : Option Nat} (h : PlaceM w b n E) (hg : w.grownBy w' row) (hne : some b ≠ row) : PlaceM w' b n E := h.heap (hg.block b h.lt hne)
theorem PlaceM.isMap {w : World} {b n : Nat} {E : List (Int × Int)} (h : PlaceM w b n E) : ∃ es clock, w.heap[b]? = some (.map es clock) := by
  obtain ⟨D, h1, ⟨es, clock, hb, h2⟩, h3⟩ := h
  exact ⟨es, clock, hb⟩
theorem PlaceM.lookup {w : World} {b n : Nat} {E : List (Int × Int)} (h : PlaceM w b n E) {a c : Int} (ha : (Lit.int .i64 a).wf = true) (hc : (Lit.int .i64 c).wf = true) :
    (Instr.lookup 60 (.map (some b)) (endsV a c) true).run Try.prog w = .ok (.tuple #[.int .i64 (if (a, c) ∈ E then (E.idxOf (a, c) : Nat) else 0), .bool (decide ((a, c) ∈ E))]) w := by
  obtain ⟨D, h1, ⟨es, clock, hb, F, _, hD⟩, h3⟩ := h
  obtain ⟨l, hl⟩ := ends_keyOf ha hc
  obtain ⟨q1, q2⟩ := h3 a c l hl
  rcases Go.Maps.fit_look true ends_keyed Try.underlying60 (z := .int .i64 0) rfl hb F hl with ⟨hrun, _, hat⟩ | ⟨e0, y, _, _, hrun, hRv, hat, _⟩
  · rw [← hD] at hat
    have hf : has D l = false := Go.Maps.has_false_of_atKey hat
    rw [q1] at hf
    have hn : (a, c) ∉ E := of_decide_eq_false hf
    rw [hrun]
    simp [hn]
  · rw [← hD] at hat
    have ht : has D l = true := Go.Maps.has_true_of_atKey hat
    rw [q1] at ht
    have hm : (a, c) ∈ E := of_decide_eq_true ht
    obtain ⟨x, hx, hz, _⟩ := plainElem_int_inv Try.underlying3 hRv
    have := (hat (.lit (.int .i64 0))).symm.trans (q2 hm)
    rw [hz] at this
    injection this with this
    injection this with _ this
    rw [hrun, hx, this]
    simp [hm]
theorem PlaceM.update {w : World} {b n : Nat} {E : List (Int × Int)} (h : PlaceM w b n E) (hn : n < maxLen) {a c : Int} (ha : (Lit.int .i64 a).wf = true) (hc : (Lit.int .i64 c).wf = true) (hne : (a, c) ∉ E) (hlen : E.length ≤ 1000) :
    ∃ w', (Instr.mapUpdate 60 (.map (some b)) (endsV a c) (.int .i64 E.length)).run Try.prog w = .ok () w' ∧ PlaceM w' b (n + 1) (E ++ [(a, c)]) ∧ w.grownBy w' (some b) := by
  obtain ⟨D, h1, h2, h3⟩ := h
  obtain ⟨l, hl⟩ := ends_keyOf ha hc
  obtain ⟨w', hrun, r1, r2⟩ := h2.update ends_keyed Try.underlying60 hn hl (plainElem_int Try.underlying3 (wf_i64 (x := (E.length : Int)) (by omega) (by omega)))
  refine ⟨w', hrun, ⟨_, h1.put _ _, r1, fun a' c' l' hl' => ?_⟩, r2⟩
  by_cases he : l' = l
  · subst he
    have := ends_keyed.inj hl hl'
    simp [endsV] at this
    obtain ⟨rfl, rfl⟩ := this
    rw [Go.Maps.has_put_same h1 (ends_keyed.key hl), Go.Maps.atKey_put_same h1 (ends_keyed.key hl)]
    refine ⟨by simp, fun _ => ?_⟩
    rw [List.idxOf_append, if_neg hne]
    simp
  · have hne' : (a', c') ≠ (a, c) := fun e => by
      injection e with e1 e2
      subst e1
      subst e2
      rw [hl] at hl'
      exact he (Option.some.inj hl').symm
    rw [Go.Maps.has_put_other he, Go.Maps.atKey_put_other he]
    obtain ⟨q1, q2⟩ := h3 a' c' l' hl'
    refine ⟨by rw [q1]; simp [hne'], fun hm => ?_⟩
    have hm' : (a', c') ∈ E := by
      rcases List.mem_append.1 hm with h | h
      · exact h
      · simp at h; exact absurd (Prod.ext h.1 h.2) hne'
    rw [q2 hm', List.idxOf_append, if_pos hm']

end Go.Proofs.Ytodfjkdgfjkifaa.PF
