-- Written by a program of this session (wip/pr.py) out of Lean's print of the translation; Lean checks it.
import Derived.Test.YtdolabpkgienkaaPF0
import Derived.Test.YtdolabpkgienkaaPF1
import Derived.Test.YtdolabpkgienkaaPF3
namespace Go.Proofs.Ytdolabpkgienkaa.PF
open Go.RowKit Go.Proofs.YtdolabpkgienkaaW.PrintWords Go.Proofs.YtdolabpkgienkaaW.PrintLast Go.Proofs.YtdolabpkgienkaaW.PrintMore
attribute [local go_sem] max2_int min2_int max_two min_two max_three min_three max_four min_four   -- for this text's walks alone
set_option linter.unusedVariables false
set_option linter.unusedSimpArgs false

/-! ### bond_find: function 39 -/
-- MAKING
theorem idxP_drop (l : List S31) (id : Int) (q : Nat → Bool) (hq : ∀ j (hj : j < l.length), q j = (l[j].f0 == id)) : ∀ d i : Nat, i + d = l.length →
    (idxP q d i < 0 ∧ (l.drop i).find? (fun b => b.f0 == id) = none) ∨ (∃ j : Nat, ∃ hj : j < l.length, idxP q d i = (j : Int) ∧ (l.drop i).find? (fun b => b.f0 == id) = some l[j]) := by
  intro d
  induction d with
  | zero =>
    intro i hi
    rw [List.drop_eq_nil_of_le (by omega)]
    exact .inl ⟨by simp [idxP], rfl⟩
  | succ d ih =>
    intro i hi
    have hil : i < l.length := by omega
    rw [List.drop_eq_getElem_cons hil]
    simp only [idxP]
    by_cases h : q i = true
    · rw [if_pos h]
      have h' := h
      rw [hq i hil] at h'
      exact .inr ⟨i, hil, rfl, by rw [List.find?_cons_of_pos (p := fun b : S31 => b.f0 == id) h']⟩
    · rw [if_neg h]
      have h' := h
      rw [hq i hil] at h'
      rw [List.find?_cons_of_neg (p := fun b : S31 => b.f0 == id) h']
      exact ih (i + 1) (by omega)
theorem rdB {l : List S31} {j : Nat} (hj : j < l.length) : rd_T31 l (j : Int) = l[j] := by
  unfold rd_T31
  rw [Int.toNat_natCast, List.getD_eq_getElem?_getD, List.getElem?_eq_getElem hj]
  rfl
theorem bond_find.clo (g : Nat) (b0 b1 b2 b3 id : Int) (W : World) (h : W.cell? ⟨g, 0, none⟩ = some (.int .i64 id)) :
    Calls Try.prog 53 #[.agg #[.int .i64 b0, .int .i64 b1, .int .i64 b2, .int .i64 b3], .pointer (some ⟨g, 0, none⟩)] W fun e w' => e = .returned (.bool (b0 == id)) ∧ Below W.heap.size W w' := by
  have hu := Try.underlying31
  go_enter Try.func53, Try.ntmps53
  go_wp2_with ((with_reducible refine gate_dst (N := 2) rfl ?_); refine box_event ?hg (N := 2) ?hd (cs := #[.int .i64 b0, .int .i64 b1, .int .i64 b2, .int .i64 b3]) (t := 31) ?hr ?_; (case hd => rfl); (case hg => rfl); (case hr => first | (go_simp; done) | (go_simp; rfl)); intro g2 hg w2 hbox hb; have c0 : w2.cell? ⟨g2, 0, none⟩ = some (.int .i64 b0) := blk_cell hbox 0; replace h := pw_cell_below hb h; have HB := Aside0.mk hb; clear hb hg hbox)
  go_ret
  exact ⟨rfl, HB.out⟩
def bond_find.f (l0 : List S31) (a1 : Int) : Option (Int × Int × Int × Int × Bool) := if l0.length < 4611686018427387904 then some (match findB l0 a1 with | some b => (b.f0, b.f1, b.f2, b.f3, true) | none => (0, 0, 0, 0, false)) else none
set_option maxHeartbeats 4000000 in
set_option maxRecDepth 100000 in
theorem bond_find.calls (A0 : Option Addr) (c0 : Nat) (l0 : List S31) (a1 : Int) (r1 r2 r3 r4 : Int) (r5 : Bool) (w : World) (hr0 : Kd.C k31 w A0 l0.length l0) (hc0 : l0.length ≤ c0) (h : bond_find.f l0 a1 = some (r1, r2, r3, r4, r5)) :
    Calls Try.prog 39 #[.slice A0 l0.length c0, .int .i64 a1] w fun e w' => e = .returned (.tuple #[.agg #[.int .i64 r1, .int .i64 r2, .int .i64 r3, .int .i64 r4], .bool r5]) ∧ Below w.heap.size w w' := by
  by_cases hsz : l0.length < 4611686018427387904
  case neg =>
    unfold bond_find.f at h
    rw [if_neg hsz] at h
    cases h
  have hu := Try.underlying31
  unfold bond_find.f at h
  rw [if_pos hsz] at h
  have h := Option.some.inj h
  have eg : ∀ args w, (callFunc 53 args).run Try.prog w = .ok (.enter 53 args) w := enters_of Try.func53 (by kernel_rfl) rfl
  have HI := Aside0.mk (fun (W : World) (g : Nat) (hb : Below w.heap.size w W) (hc : W.cell? ⟨g, 0, none⟩ = some (.int .i64 a1)) => api_Bond_33.below 53 #[.pointer (some ⟨g, 0, none⟩)] A0 c0 l0 (fun j => ((rd_T31 l0 (j : Int)).f0 == a1)) W eg hsz (Kd.C_below hr0 hb)
    (fun W' i h0 h1 hb' => by
      have := bond_find.clo g (rd_T31 l0 i).f0 (rd_T31 l0 i).f1 (rd_T31 l0 i).f2 (rd_T31 l0 i).f3 a1 W' (pw_cell_below hb' hc)
      rw [show ((i.toNat : Nat) : Int) = i by omega]
      exact this))
  have hcase := idxP_drop l0 a1 (fun j => ((rd_T31 l0 (j : Int)).f0 == a1)) (fun j hj => by rw [rdB hj]) l0.length 0 (by omega)
  rw [List.drop_zero] at hcase
  have HAT := Aside0.mk (fun (j : Nat) (hj : j < l0.length) (W : World) (hb : Below w.heap.size w W) => at_T31 (Kd.C_below hr0 hb) (j : Int) (by omega) (by omega))
  generalize idxP _ _ _ = x at hcase HI
  clear hr0 eg
  rcases hcase with ⟨hneg, hf⟩ | ⟨j, hj, hx, hf⟩
  · have hf' : findB l0 a1 = none := hf
    rw [hf'] at h
    simp only [Prod.mk.injEq] at h
    obtain ⟨rfl, rfl, rfl, rfl, rfl⟩ := h
    have b1 : decide (x < 0) = true := decide_eq_true hneg
    clear hf hf' hneg hsz hc0 HAT
    go_enter Try.func39, Try.ntmps39
    go_wp2_with (first | ((with_reducible refine gate_dst (N := 3) rfl ?_); refine box_event ?hg (N := 3) ?hd (cs := #[.int .i64 a1]) (t := 3) ?hr ?_; (case hd => rfl); (case hg => rfl); (case hr => first | (go_simp; done) | (go_simp; rfl)); intro g3 hg w3 hbox hb; have cb : w3.cell? ⟨g3, 0, none⟩ = some (.int .i64 a1) := blk_cell hbox 0; have HB := Aside0.mk hb; clear hb hg hbox) | ((with_reducible refine gate_dst (N := 4) rfl ?_); refine box_event ?hg (N := 4) ?hd (cs := #[.int .i64 0, .int .i64 0, .int .i64 0, .int .i64 0]) (t := 31) ?hr ?_; (case hd => rfl); (case hg => rfl); (case hr => first | (go_simp; done) | (go_simp; rfl)); intro g4 hg w4 hbox hb; replace cb := pw_cell_below hb cb; have GE := Aside0.mk (show w.heap.size ≤ g4 by rw [hg]; exact HB.out.size); have BK := Aside0.mk hbox; replace HB := Aside0.mk (below_step HB.out hb); clear hb hg hbox))
    refine (HI.out _ _ HB.out cb).mono ?_
    rintro e' w5 ⟨rfl, hb⟩
    replace BK := Aside0.mk (blk_below BK.out hb)
    replace HB := Aside0.mk (below_step HB.out hb)
    clear hb cb HI
    have z0 : w5.cell? ⟨g4, 0, none⟩ = some (.int .i64 0) := blk_cell BK.out 0
    have z1 : w5.cell? ⟨g4, 1, none⟩ = some (.int .i64 0) := blk_cell BK.out 1
    have z2 : w5.cell? ⟨g4, 2, none⟩ = some (.int .i64 0) := blk_cell BK.out 2
    have z3 : w5.cell? ⟨g4, 3, none⟩ = some (.int .i64 0) := blk_cell BK.out 3
    have fz0 := blk_frozen BK.out 0
    have fz1 := blk_frozen BK.out 1
    have fz2 := blk_frozen BK.out 2
    have fz3 := blk_frozen BK.out 3
    go_wp2
    refine bodyPost_ret (results_ct rfl _ _ g4 31 #[.int .i64 0, .int .i64 0, .int .i64 0, .int .i64 0] (0, 0) _ rfl (by refine blk_put (cs := #[.int .i64 0, .int .i64 0, .int .i64 0, .int .i64 0]) ?_ 3 _ rfl; refine blk_put (cs := #[.int .i64 0, .int .i64 0, .int .i64 0, .int .i64 0]) ?_ 2 _ rfl; refine blk_put (cs := #[.int .i64 0, .int .i64 0, .int .i64 0, .int .i64 0]) ?_ 1 _ rfl; refine blk_put (cs := #[.int .i64 0, .int .i64 0, .int .i64 0, .int .i64 0]) ?_ 0 _ rfl; exact BK.out) Try.underlying31 rfl (by kernel_rfl)) rfl ?_
    exact ⟨by first | rfl | simp, below_set (below_set (below_set (below_set HB.out GE.out) GE.out) GE.out) GE.out⟩
  · have hf' : findB l0 a1 = some l0[j] := hf
    rw [hf'] at h
    simp only [Prod.mk.injEq] at h
    obtain ⟨h1, h2, h3, h4, rfl⟩ := h
    subst hx
    have b1 : decide ((j : Int) < 0) = false := decide_eq_false (by omega)
    have p1 : (0 ≤ (j : Int)) = True := eq_true (by omega)
    have p2 : ((j : Int) < (l0.length : Int)) = True := eq_true (by omega)
    have p3 : (j < l0.length) = True := eq_true hj
    have HA2 := Aside0.mk (HAT.out j hj)
    rw [rdB hj, h1, h2, h3, h4] at HA2
    clear hf hf' hsz hc0 HAT h1 h2 h3 h4
    go_enter Try.func39, Try.ntmps39
    go_wp2_with (first | ((with_reducible refine gate_dst (N := 3) rfl ?_); refine box_event ?hg (N := 3) ?hd (cs := #[.int .i64 a1]) (t := 3) ?hr ?_; (case hd => rfl); (case hg => rfl); (case hr => first | (go_simp; done) | (go_simp; rfl)); intro g3 hg w3 hbox hb; have cb : w3.cell? ⟨g3, 0, none⟩ = some (.int .i64 a1) := blk_cell hbox 0; have HB := Aside0.mk hb; clear hb hg hbox) | ((with_reducible refine gate_dst (N := 4) rfl ?_); refine box_event ?hg (N := 4) ?hd (cs := #[.int .i64 0, .int .i64 0, .int .i64 0, .int .i64 0]) (t := 31) ?hr ?_; (case hd => rfl); (case hg => rfl); (case hr => first | (go_simp; done) | (go_simp; rfl)); intro g4 hg w4 hbox hb; replace cb := pw_cell_below hb cb; have GE := Aside0.mk (show w.heap.size ≤ g4 by rw [hg]; exact HB.out.size); have BK := Aside0.mk hbox; replace HB := Aside0.mk (below_step HB.out hb); clear hb hg hbox))
    refine (HI.out _ _ HB.out cb).mono ?_
    rintro e' w5 ⟨rfl, hb⟩
    replace BK := Aside0.mk (blk_below BK.out hb)
    replace HB := Aside0.mk (below_step HB.out hb)
    clear hb cb HI
    have z0 : w5.cell? ⟨g4, 0, none⟩ = some (.int .i64 0) := blk_cell BK.out 0
    have z1 : w5.cell? ⟨g4, 1, none⟩ = some (.int .i64 0) := blk_cell BK.out 1
    have z2 : w5.cell? ⟨g4, 2, none⟩ = some (.int .i64 0) := blk_cell BK.out 2
    have z3 : w5.cell? ⟨g4, 3, none⟩ = some (.int .i64 0) := blk_cell BK.out 3
    have fz0 := blk_frozen BK.out 0
    have fz1 := blk_frozen BK.out 1
    have fz2 := blk_frozen BK.out 2
    have fz3 := blk_frozen BK.out 3
    obtain ⟨ad, e, q1, q2, q3, q4⟩ := HA2.out _ HB.out
    cases e
    rw [Int.toNat_natCast] at q1 q2 q3 q4
    go_wp2
    refine bodyPost_ret (results_ct rfl _ _ g4 31 #[.int .i64 r1, .int .i64 r2, .int .i64 r3, .int .i64 r4] (0, 0) _ rfl (by refine blk_put (cs := #[.int .i64 r1, .int .i64 r2, .int .i64 r3, .int .i64 0]) ?_ 3 _ rfl; refine blk_put (cs := #[.int .i64 r1, .int .i64 r2, .int .i64 0, .int .i64 0]) ?_ 2 _ rfl; refine blk_put (cs := #[.int .i64 r1, .int .i64 0, .int .i64 0, .int .i64 0]) ?_ 1 _ rfl; refine blk_put (cs := #[.int .i64 0, .int .i64 0, .int .i64 0, .int .i64 0]) ?_ 0 _ rfl; exact BK.out) Try.underlying31 rfl (by kernel_rfl)) rfl ?_
    exact ⟨by first | rfl | simp, below_set (below_set (below_set (below_set HB.out GE.out) GE.out) GE.out) GE.out⟩

/-! ### bond_Holds: function 15 -/
-- MAKING
-- behind 12
-- SUM
open Go.Maps (Keyed IsMap)
theorem intk : Keyed Try.prog 3 := Go.Maps.int_keyed Try.underlying3
theorem int_keyOf {a : Int} (ha : (Lit.int .i64 a).wf = true) : ∃ l, keyOf Try.prog 3 (.int .i64 a) = some l := ⟨_, Go.Maps.keyOf_int_mk Try.underlying3 ha⟩
/-- Block b is a map from whole numbers to what S says. -/
def SumM (w : World) (b n : Nat) (S : Int → Int) : Prop :=
  ∃ D : DataW Unit, IsMap D ∧ w.ownsMap Try.prog 3 (plainElem Try.prog 3) b n D ∧
    ∀ a l, keyOf Try.prog 3 (.int .i64 a) = some l → D.atKey l (.lit (.int .i64 0)) = .lit (.int .i64 (S a))
theorem SumM.made (w : World) : SumM (w.alloc (.map #[] 0)) w.heap.size 0 (fun _ => 0) :=
  ⟨.map [], ⟨_, rfl⟩, World.ownsMap_made w _ _ _, fun _ _ _ => by simp [DataW.atKey]⟩
theorem SumM.heap {w w' : World} {b n : Nat} {S : Int → Int} (h : SumM w b n S) (hh : w'.heap[b]? = w.heap[b]?) : SumM w' b n S := by
  obtain ⟨D, h1, ⟨es, clock, hb, h2⟩, h3⟩ := h
  exact ⟨D, h1, ⟨es, clock, hh.trans hb, h2⟩, h3⟩
theorem SumM.lt {w : World} {b n : Nat} {S : Int → Int} (h : SumM w b n S) : b < w.heap.size := by
  obtain ⟨D, h1, h2, h3⟩ := h
  exact h2.lt
theorem SumM.below {w w' : World} {b n : Nat} {S : Int → Int} (h : SumM w b n S) (hb : Below w.heap.size w w') : SumM w' b n S := h.heap (hb.block b h.lt)
theorem SumM.kept {w w' : World} {b n : Nat} {S : Int → Int} {row : Option Nat} (h : SumM w b n S) (hg : w.grownBy w' row) (hne : some b ≠ row) : SumM w' b n S := h.heap (hg.block b h.lt hne)
theorem SumM.isMap {w : World} {b n : Nat} {S : Int → Int} (h : SumM w b n S) : ∃ es clock, w.heap[b]? = some (.map es clock) := by
  obtain ⟨D, h1, ⟨es, clock, hb, h2⟩, h3⟩ := h
  exact ⟨es, clock, hb⟩
theorem SumM.lookup {w : World} {b n : Nat} {S : Int → Int} (h : SumM w b n S) {a : Int} (ha : (Lit.int .i64 a).wf = true) :
    (Instr.lookup 61 (.map (some b)) (.int .i64 a) false).run Try.prog w = .ok (.int .i64 (S a)) w := by
  obtain ⟨D, h1, h2, h3⟩ := h
  obtain ⟨l, hl⟩ := int_keyOf ha
  obtain ⟨v, ps, hrun, hv⟩ := h2.lookup intk Try.underlying61 (z := .int .i64 0) rfl (plainElem_int Try.underlying3 (by decide)) hl
  obtain ⟨x, rfl, hx, _⟩ := plainElem_int_inv Try.underlying3 hv
  rw [h3 a l hl] at hx
  rw [hrun]
  have hx := congrArg Prod.fst hx
  simp only [DataW.lit.injEq, Lit.int.injEq, true_and] at hx
  rw [hx]
theorem SumM.update {w : World} {b n : Nat} {S : Int → Int} (h : SumM w b n S) (hn : n < maxLen) {a v : Int} (ha : (Lit.int .i64 a).wf = true) (hv : (Lit.int .i64 v).wf = true) :
    ∃ w', (Instr.mapUpdate 61 (.map (some b)) (.int .i64 a) (.int .i64 v)).run Try.prog w = .ok () w' ∧ SumM w' b (n + 1) (fun x => if x = a then v else S x) ∧ w.grownBy w' (some b) := by
  obtain ⟨D, h1, h2, h3⟩ := h
  obtain ⟨l, hl⟩ := int_keyOf ha
  obtain ⟨w', hrun, r1, r2⟩ := h2.update intk Try.underlying61 hn hl (plainElem_int Try.underlying3 hv)
  refine ⟨w', hrun, ⟨_, h1.put _ _, r1, fun a' l' hl' => ?_⟩, r2⟩
  by_cases he : l' = l
  · subst he
    have := intk.inj hl hl'
    injection this with _ this
    subst this
    rw [Go.Maps.atKey_put_same h1 (intk.key hl)]
    show _ = DataW.lit (Lit.int .i64 (if a = a then v else S a))
    rw [if_pos rfl]
  · rw [Go.Maps.atKey_put_other he, h3 a' l' hl']
    show _ = DataW.lit (Lit.int .i64 (if a' = a then v else S a'))
    rw [if_neg]
    rintro rfl
    rw [hl] at hl'
    exact he (Option.some.inj hl').symm
-- ENDSUM
theorem wf_i64 {x : Int} (h0 : -9223372036854775808 ≤ x) (h1 : x ≤ 9223372036854775807) : (Lit.int .i64 x).wf = true := by
  simp only [Lit.wf, Bool.and_eq_true, decide_eq_true_eq]
  exact ⟨h0, h1⟩
theorem small_max {n : Nat} (h : n ≤ 1000) : n < maxLen := Nat.lt_of_le_of_lt h (of_decide_eq_true (by kernel_rfl))
theorem wpList_mapUpdate_sum (w : World) {ops : Array Oper} {rest : List Oper} {o : Oper} {a : Act} {Q : Exit → Act → World → Prop}
    (hg : o.guard = none) (m x v : Operand) (hop : o.op = Op.mapUpdate 61 m x v) (b n : Nat) (S : Int → Int) (hm : a.eval m = .map (some b)) (h : SumM w b n S) (hn : n < maxLen)
    (k z : Int) (h0 : (Lit.int .i64 k).wf = true) (h1 : (Lit.int .i64 z).wf = true) (hx : a.eval x = .int .i64 k) (hv : a.eval v = .int .i64 z)
    (hK : ∀ w', SumM w' b (n + 1) (fun y => if y = k then z else S y) → w.grownBy w' (some b) → wpList Try.prog ops Q rest (a.put o.dst undef) w') :
    wpList Try.prog ops Q (o :: rest) a w := by
  refine wpList_plain hg fun K' hK' => ?_
  obtain ⟨w', hrun, r1, r2⟩ := h.update hn h0 h1
  unfold Oper.wp
  simp [execOp, hop, hm, hx, hv, hrun, Result.andThen]
  exact hK' _ _ (hK w' r1 r2)
theorem box3_ {W W5 : World} {g t : Nat} {a b c x y z : Value} (hb : Below W.heap.size W W5) (hg : g = W.heap.size) (hbox : W5.heap[g]? = some (.cells #[a, b, c] t (0, 0))) :
    Below W.heap.size W (((W5.setCell ⟨g, 0, none⟩ x).setCell ⟨g, 1, none⟩ y).setCell ⟨g, 2, none⟩ z) ∧ (((W5.setCell ⟨g, 0, none⟩ x).setCell ⟨g, 1, none⟩ y).setCell ⟨g, 2, none⟩ z).heap[g]? = some (.cells #[x, y, z] t (0, 0)) :=
  ⟨below_set (below_set (below_set hb (Nat.le_of_eq hg.symm)) (Nat.le_of_eq hg.symm)) (Nat.le_of_eq hg.symm), blk_put (blk_put (blk_put hbox 0 x rfl) 1 y rfl) 2 z rfl⟩
theorem box4_ {W W5 : World} {g t : Nat} {a b c d x y z u : Value} (hb : Below W.heap.size W W5) (hg : g = W.heap.size) (hbox : W5.heap[g]? = some (.cells #[a, b, c, d] t (0, 0))) :
    Below W.heap.size W ((((W5.setCell ⟨g, 0, none⟩ x).setCell ⟨g, 1, none⟩ y).setCell ⟨g, 2, none⟩ z).setCell ⟨g, 3, none⟩ u) ∧ ((((W5.setCell ⟨g, 0, none⟩ x).setCell ⟨g, 1, none⟩ y).setCell ⟨g, 2, none⟩ z).setCell ⟨g, 3, none⟩ u).heap[g]? = some (.cells #[x, y, z, u] t (0, 0)) :=
  ⟨below_set (below_set (below_set (below_set hb (Nat.le_of_eq hg.symm)) (Nat.le_of_eq hg.symm)) (Nat.le_of_eq hg.symm)) (Nat.le_of_eq hg.symm), blk_put (blk_put (blk_put (blk_put hbox 0 x rfl) 1 y rfl) 2 z rfl) 3 u rfl⟩
theorem pw_cell_grown {W W' : World} {row : Option Nat} {g j : Nat} {v : Value} (hg : W.grownBy W' row) (hne : some g ≠ row) (h : W.cell? ⟨g, j, none⟩ = some v) : W'.cell? ⟨g, j, none⟩ = some v := by
  have hlt : g < W.heap.size := World.block_lt_of_cell? W ⟨g, j, none⟩ h
  rw [World.cell?_of_block (hg.block g hlt hne)]
  exact h
theorem map_not_cell {W : World} {g n j : Nat} {S : Int → Int} {v : Value} (h : SumM W g n S) (hc : W.cell? ⟨g, j, none⟩ = some v) : False := by
  obtain ⟨es, clock, hm⟩ := h.isMap
  unfold World.cell? at hc
  rw [hm] at hc
  cases hc
theorem dropH {l : List S35} {i : Nat} (hi : i < l.length) : l.drop i = rd_T35 l (i : Int) :: l.drop (i + 1) := by
  rw [List.drop_eq_getElem_cons hi]
  unfold rd_T35
  rw [Int.toNat_natCast, List.getD_eq_getElem?_getD, List.getElem?_eq_getElem hi]
  rfl
theorem takeH {l : List S35} {i : Nat} (hi : i < l.length) : l.take (i + 1) = l.take i ++ [rd_T35 l (i : Int)] := by
  rw [List.take_succ_eq_append_getElem hi]
  unfold rd_T35
  rw [Int.toNat_natCast, List.getD_eq_getElem?_getD, List.getElem?_eq_getElem hi]
  rfl
/-- The movement ahead of a place, or 0. -/
def prvH (l : List S35) (i : Nat) : Int := if i = 0 then 0 else (rd_T35 l ((i : Int) - 1)).f1
def bond_Holds.f (l0 : List S31) (l1 : List S35) : Option (Int × Int) := some (hldR l0 l1)
set_option maxHeartbeats 8000000 in
set_option maxRecDepth 100000 in
theorem bond_Holds.calls (A0 : Option Addr) (c0 : Nat) (l : List S31) (A1 : Option Addr) (c1 : Nat) (h : List S35) (r1 r2 : Int) (w : World) (hr0 : Kd.C k31 w A0 l.length l) (hc0 : l.length ≤ c0) (hr1 : Kd.C k35 w A1 h.length h) (hc1 : h.length ≤ c1) (hh : bond_Holds.f l h = some (r1, r2)) :
    Calls Try.prog 15 #[.slice A0 l.length c0, .slice A1 h.length c1] w fun e w' => e = .returned (.tuple #[.int .i64 r1, .int .i64 r2]) ∧ Below w.heap.size w w' := by
  have hu1 := Try.underlying31
  have hu2 := Try.underlying35
  have hh := Option.some.inj hh
  obtain ⟨⟨q1, q2⟩, hck⟩ : ∃ q, chkB l = q := ⟨_, rfl⟩
  have HCK := Aside0.mk (fun W (hb : Below w.heap.size w W) => bond_Check_s.calls A0 c0 l q1 q2 W (Kd.C_below hr0 hb) hc0 (by unfold bond_Check_s.f; rw [hck]))
  unfold hldR at hh
  rw [hck] at hh
  by_cases hq : q2 = 0
  case neg =>
    rw [if_pos hq] at hh
    simp only [Prod.mk.injEq] at hh
    obtain ⟨rfl, rfl⟩ := hh
    have b1 : (q2 != 0) = true := bne_iff_ne.mpr hq
    clear hr0 hr1 hc0 hc1 hck hq
    go_enter Try.func15, Try.ntmps15
    go_wp2_with fail
    refine (HCK.out _ (Below.refl _ _)).mono ?_
    rintro e' w4 ⟨rfl, hb⟩
    go_wp2
    go_ret2
    exact ⟨rfl, hb⟩
  subst hq
  rw [if_neg (by simp)] at hh
  by_cases hl : 16 < h.length
  · rw [if_pos hl] at hh
    simp only [Prod.mk.injEq] at hh
    obtain ⟨rfl, rfl⟩ := hh
    have b1 : decide (16 < (h.length : Int)) = true := decide_eq_true (by omega)
    have b2 : decide (16 < h.length) = true := decide_eq_true hl
    clear hr0 hr1 hc0 hc1 hck hl
    go_enter Try.func15, Try.ntmps15
    go_wp2_with fail
    refine (HCK.out _ (Below.refl _ _)).mono ?_
    rintro e' w4 ⟨rfl, hb⟩
    go_wp2
    go_ret2
    exact ⟨rfl, hb⟩
  rw [if_neg hl] at hh
  have b1 : decide (16 < (h.length : Int)) = false := decide_eq_false (by omega)
  have b2 : decide (16 < h.length) = false := decide_eq_false hl
  have RB := (chkB_zero l).1 (by rw [hck])
  have HRB := Aside0.mk RB
  have HFA := Aside0.mk (fun (id : Int) {x1 x2 x3 x4 : Int} {x5 : Bool} (hf : bond_find.f l id = some (x1, x2, x3, x4, x5)) (W : World) (hb : Below w.heap.size w W) => bond_find.calls A0 c0 l id x1 x2 x3 x4 x5 W (Kd.C_below hr0 hb) hc0 hf)
  have HAT := Aside0.mk (fun (W : World) (hb : Below w.heap.size w W) => at_T35 (Kd.C_below hr1 hb))
  have HH := Aside0.mk (show h.length ≤ 16 by omega)
  have HR := Aside0.mk hh
  have hmm := @run_makeMap Try.prog
  clear hr0 hr1 hc0 hc1 hck hl hh RB
  go_enter Try.func15, Try.ntmps15
  go_wp2_with fail
  refine (HCK.out _ (Below.refl _ _)).mono ?_
  rintro e' w3 ⟨rfl, hb⟩
  have HB := Aside0.mk hb
  clear hb HCK
  go_wp2
  have hM0 : SumM (w3.alloc (.map #[] 0)) w3.heap.size 0 (fun _ => 0) := SumM.made w3
  have HB3 := Aside0.mk (below_alloc HB.out (.map #[] 0))
  obtain ⟨mb, hmb⟩ : ∃ mb, mb = w3.heap.size := ⟨_, rfl⟩
  have HMB := Aside0.mk (show w.heap.size ≤ mb by rw [hmb]; exact HB.out.size)
  rw [← hmb] at hM0
  have HM0 := Aside0.mk hM0
  generalize hw4 : w3.alloc (.map #[] 0) = w4 at *
  rw [← hmb]
  clear hw4 hmb hM0 hmm HB
  go_loopg [26] (h.length + 1) (fun g s26 wr => ∃ (j : Nat) (S : Int → Int), s26 = .int .i64 (j : Int) ∧ Aside0 (j ≤ h.length ∧ h.length + 1 - j ≤ g ∧ hldS l (h.take j) (h.drop j) (j : Int) (prvH h j) = (r1, r2) ∧ (∀ x ∈ h.take j, okH x) ∧ ∀ id, S id = sumH (h.take j) id) ∧ Aside0 (SumM wr mb j S) ∧ Aside0 (Below w.heap.size w wr))
  case atStart => exact ⟨0, fun _ => 0, by rfl, ⟨by omega, by omega, by rw [List.take_zero, List.drop_zero]; exact HR.out, fun x hx => by simp at hx, fun id => by rw [List.take_zero]; rfl⟩, HM0, HB3⟩
  case round =>
    obtain ⟨j, S, rfl, HJ, HM, HB⟩ := hrel
    clear HM0 HB3 HR
    by_cases hlt : j < h.length
    case neg =>
      have hltb : decide (j < h.length) = false := decide_eq_false hlt
      have hltc : decide ((j : Int) < (h.length : Int)) = false := decide_eq_false (by omega)
      have hre := HJ.out.2.2.1
      rw [List.drop_of_length_le (by omega)] at hre
      simp only [hldS, Prod.mk.injEq] at hre
      obtain ⟨rfl, rfl⟩ := hre
      clear hlt
      go_wp2
      go_ret2
      exact ⟨rfl, HB.out⟩
    have hltb : decide (j < h.length) = true := decide_eq_true hlt
    have hltc : decide ((j : Int) < (h.length : Int)) = true := decide_eq_true (by omega)
    have p1 : (0 ≤ (j : Int)) = True := eq_true (by omega)
    have p2 : ((j : Int) < (h.length : Int)) = True := eq_true (by omega)
    have p3 : (j < h.length) = True := eq_true hlt
    obtain ⟨ad, e, h1, h2, h3⟩ := HAT.out wr HB.out (j : Int) (by omega) (by omega)
    cases e
    rw [Int.toNat_natCast] at h1 h2 h3
    have hJ := HJ.out.2.2.1
    have htk := takeH hlt
    rw [dropH hlt] at hJ
    have hpn : prvH h (j + 1) = (rd_T35 h (j : Int)).f1 := by
      unfold prvH
      rw [if_neg (by omega), show ((j + 1 : Nat) : Int) - 1 = (j : Int) by omega]
    have hw' : wrap64 ((j : Int) + 1) = (j : Int) + 1 := w64_ (by omega) (by have := HH.out; omega)
    have hw : IntKind.i64.wrap ((j : Int) + 1) = (j : Int) + 1 := by rw [i64_w]; exact hw'
    generalize (rd_T35 h (j : Int)) = x at *
    obtain ⟨x0, x1, x2⟩ := x
    simp only at h1 h2 h3 hpn
    unfold hldS at hJ
    obtain ⟨b0, b1', b2', b3, ok, hfi⟩ : ∃ b0 b1 b2 b3 ok, bond_find.f l x0 = some (b0, b1, b2, b3, ok) := by
      unfold bond_find.f
      rw [if_pos (by have := HRB.out.1; omega)]
      cases findB l x0 with
      | none => exact ⟨_, _, _, _, _, rfl⟩
      | some b => exact ⟨_, _, _, _, _, rfl⟩
    have HFI := Aside0.mk (fun W hb => HFA.out x0 hfi W hb)
    have HFE := Aside0.mk hfi
    have HLT := Aside0.mk hlt
    have HW := Aside0.mk (⟨hw, hw'⟩ : _ ∧ _)
    clear hlt hfi hw hw'
    by_cases m1 : 1 ≤ x1 ∧ x1 ≤ 1073741824
    case neg =>
      rw [if_pos (show ¬ okH (⟨x0, x1, x2⟩ : S35) from fun hk => m1 ⟨hk.1, hk.2.1⟩)] at hJ
      simp only [Prod.mk.injEq] at hJ
      obtain ⟨rfl, rfl⟩ := hJ
      have HW1 := Aside0.mk (fun W => bond_within.calls x1 1 1073741824 false W (by rw [bond_within.plain, decide_eq_false m1]))
      clear m1 htk hpn
      go_wp2_with (first
        | ((with_reducible refine gate_dst (N := 10) rfl ?_); refine box_event ?hg (N := 10) ?hd (cs := #[.int .i64 0, .int .i64 0, .int .i64 0]) (t := 35) ?hr ?_; (case hd => rfl); (case hg => rfl); (case hr => first | (go_simp; done) | (go_simp; rfl)); intro g10 hg wy hbox hb5; have hc0 : wy.cell? ⟨g10, 0, none⟩ = some (.int .i64 0) := blk_cell hbox 0; have hf0 := blk_frozen hbox 0; have hc1 : wy.cell? ⟨g10, 1, none⟩ = some (.int .i64 0) := blk_cell hbox 1; have hf1 := blk_frozen hbox 1; have hc2 : wy.cell? ⟨g10, 2, none⟩ = some (.int .i64 0) := blk_cell hbox 2; have hf2 := blk_frozen hbox 2; replace hbox := Aside0.mk hbox; replace hb5 := Aside0.mk hb5; replace hg := Aside0.mk hg)
        | ((with_reducible refine gate_store (t := 35) (p := 10) rfl ?_); refine store_event (t := 35) (p := 10) (v := .tmp 30) (w1 := (((wy.setCell ⟨g10, 0, none⟩ (.int .i64 x0)).setCell ⟨g10, 1, none⟩ (.int .i64 x1)).setCell ⟨g10, 2, none⟩ (.int .i64 x2))) ?hg ?ho ?hn ?hr ?_; (case ho => rfl); (case hg => rfl); (case hn => rfl); (case hr => first | (go_simp; done) | (go_simp; rfl)); intro wz hw6; clear hc0 hf0 hc1 hf1 hc2 hf2; have hbx := box3_ (x := .int .i64 x0) (y := .int .i64 x1) (z := .int .i64 x2) hb5.out hg.out hbox.out; rw [← hw6] at hbx; clear hw6 hb5 hg hbox; obtain ⟨hb, hk6⟩ := hbx; replace HM := Aside0.mk (HM.out.below hb); replace HB := Aside0.mk (below_step HB.out hb); have d0 : wz.cell? ⟨g10, 0, none⟩ = some (.int .i64 x0) := blk_cell hk6 0; have d1 : wz.cell? ⟨g10, 1, none⟩ = some (.int .i64 x1) := blk_cell hk6 1; have d2 : wz.cell? ⟨g10, 2, none⟩ = some (.int .i64 x2) := blk_cell hk6 2; clear h1 h2 h3; clear hb hk6)
        | (go_at_call 39; refine (HFI.out _ HB.out).mono ?_; rintro e' wz ⟨rfl, hb⟩; replace HM := Aside0.mk (HM.out.below hb); replace HB := Aside0.mk (below_step HB.out hb); replace d0 := pw_cell_below hb d0; replace d1 := pw_cell_below hb d1; replace d2 := pw_cell_below hb d2; clear hb)
        | ((with_reducible refine gate_dst (N := 11) rfl ?_); refine box_event ?hg (N := 11) ?hd (cs := #[.int .i64 0, .int .i64 0, .int .i64 0, .int .i64 0]) (t := 31) ?hr ?_; (case hd => rfl); (case hg => rfl); (case hr => first | (go_simp; done) | (go_simp; rfl)); intro g11 hg wy hbox hb5; have hc0 : wy.cell? ⟨g11, 0, none⟩ = some (.int .i64 0) := blk_cell hbox 0; have hf0 := blk_frozen hbox 0; have hc1 : wy.cell? ⟨g11, 1, none⟩ = some (.int .i64 0) := blk_cell hbox 1; have hf1 := blk_frozen hbox 1; have hc2 : wy.cell? ⟨g11, 2, none⟩ = some (.int .i64 0) := blk_cell hbox 2; have hf2 := blk_frozen hbox 2; have hc3 : wy.cell? ⟨g11, 3, none⟩ = some (.int .i64 0) := blk_cell hbox 3; have hf3 := blk_frozen hbox 3; replace hbox := Aside0.mk hbox; replace hb5 := Aside0.mk hb5; replace hg := Aside0.mk hg)
        | ((with_reducible refine gate_store (t := 31) (p := 11) rfl ?_); refine store_event (t := 31) (p := 11) (v := .tmp 36) (w1 := ((((wy.setCell ⟨g11, 0, none⟩ (.int .i64 b0)).setCell ⟨g11, 1, none⟩ (.int .i64 b1')).setCell ⟨g11, 2, none⟩ (.int .i64 b2')).setCell ⟨g11, 3, none⟩ (.int .i64 b3))) ?hg ?ho ?hn ?hr ?_; (case ho => rfl); (case hg => rfl); (case hn => rfl); (case hr => first | (go_simp; done) | (go_simp; rfl)); intro wz hw6; clear hc0 hf0 hc1 hf1 hc2 hf2 hc3 hf3; have hbx := box4_ (x := .int .i64 b0) (y := .int .i64 b1') (z := .int .i64 b2') (u := .int .i64 b3) hb5.out hg.out hbox.out; rw [← hw6] at hbx; clear hw6 hb5 hg hbox; obtain ⟨hb, hk6⟩ := hbx; replace HM := Aside0.mk (HM.out.below hb); replace HB := Aside0.mk (below_step HB.out hb); replace d0 := pw_cell_below hb d0; replace d1 := pw_cell_below hb d1; replace d2 := pw_cell_below hb d2; have e0 : wz.cell? ⟨g11, 0, none⟩ = some (.int .i64 b0) := blk_cell hk6 0; have e3 : wz.cell? ⟨g11, 3, none⟩ = some (.int .i64 b3) := blk_cell hk6 3; clear hb hk6)
        | (go_at_call 37; refine (HW1.out _).mono ?_; rintro e' wz ⟨rfl, hd⟩; have hb := hd.below; replace HM := Aside0.mk (HM.out.below hb); replace HB := Aside0.mk (below_step HB.out hb); replace d0 := pw_cell_below hb d0; replace d1 := pw_cell_below hb d1; replace d2 := pw_cell_below hb d2; replace e0 := pw_cell_below hb e0; replace e3 := pw_cell_below hb e3; clear hb hd HW1)
        | (go_at_call 37; refine (HW2.out _).mono ?_; rintro e' wz ⟨rfl, hd⟩; have hb := hd.below; replace HM := Aside0.mk (HM.out.below hb); replace HB := Aside0.mk (below_step HB.out hb); replace d0 := pw_cell_below hb d0; replace d1 := pw_cell_below hb d1; replace d2 := pw_cell_below hb d2; replace e0 := pw_cell_below hb e0; replace e3 := pw_cell_below hb e3; clear hb hd HW2))
      go_ret2
      exact ⟨rfl, HB.out⟩
    by_cases m2 : 0 ≤ x2 ∧ x2 ≤ 1125899906842624
    case neg =>
      rw [if_pos (show ¬ okH (⟨x0, x1, x2⟩ : S35) from fun hk => m2 ⟨hk.2.2.1, hk.2.2.2⟩)] at hJ
      simp only [Prod.mk.injEq] at hJ
      obtain ⟨rfl, rfl⟩ := hJ
      have HW1 := Aside0.mk (fun W => bond_within.calls x1 1 1073741824 true W (by rw [bond_within.plain, decide_eq_true m1]))
      have HW2 := Aside0.mk (fun W => bond_within.calls x2 0 1125899906842624 false W (by rw [bond_within.plain, decide_eq_false m2]))
      clear m1 m2 htk hpn
      go_wp2_with (first
        | ((with_reducible refine gate_dst (N := 10) rfl ?_); refine box_event ?hg (N := 10) ?hd (cs := #[.int .i64 0, .int .i64 0, .int .i64 0]) (t := 35) ?hr ?_; (case hd => rfl); (case hg => rfl); (case hr => first | (go_simp; done) | (go_simp; rfl)); intro g10 hg wy hbox hb5; have hc0 : wy.cell? ⟨g10, 0, none⟩ = some (.int .i64 0) := blk_cell hbox 0; have hf0 := blk_frozen hbox 0; have hc1 : wy.cell? ⟨g10, 1, none⟩ = some (.int .i64 0) := blk_cell hbox 1; have hf1 := blk_frozen hbox 1; have hc2 : wy.cell? ⟨g10, 2, none⟩ = some (.int .i64 0) := blk_cell hbox 2; have hf2 := blk_frozen hbox 2; replace hbox := Aside0.mk hbox; replace hb5 := Aside0.mk hb5; replace hg := Aside0.mk hg)
        | ((with_reducible refine gate_store (t := 35) (p := 10) rfl ?_); refine store_event (t := 35) (p := 10) (v := .tmp 30) (w1 := (((wy.setCell ⟨g10, 0, none⟩ (.int .i64 x0)).setCell ⟨g10, 1, none⟩ (.int .i64 x1)).setCell ⟨g10, 2, none⟩ (.int .i64 x2))) ?hg ?ho ?hn ?hr ?_; (case ho => rfl); (case hg => rfl); (case hn => rfl); (case hr => first | (go_simp; done) | (go_simp; rfl)); intro wz hw6; clear hc0 hf0 hc1 hf1 hc2 hf2; have hbx := box3_ (x := .int .i64 x0) (y := .int .i64 x1) (z := .int .i64 x2) hb5.out hg.out hbox.out; rw [← hw6] at hbx; clear hw6 hb5 hg hbox; obtain ⟨hb, hk6⟩ := hbx; replace HM := Aside0.mk (HM.out.below hb); replace HB := Aside0.mk (below_step HB.out hb); have d0 : wz.cell? ⟨g10, 0, none⟩ = some (.int .i64 x0) := blk_cell hk6 0; have d1 : wz.cell? ⟨g10, 1, none⟩ = some (.int .i64 x1) := blk_cell hk6 1; have d2 : wz.cell? ⟨g10, 2, none⟩ = some (.int .i64 x2) := blk_cell hk6 2; clear h1 h2 h3; clear hb hk6)
        | (go_at_call 39; refine (HFI.out _ HB.out).mono ?_; rintro e' wz ⟨rfl, hb⟩; replace HM := Aside0.mk (HM.out.below hb); replace HB := Aside0.mk (below_step HB.out hb); replace d0 := pw_cell_below hb d0; replace d1 := pw_cell_below hb d1; replace d2 := pw_cell_below hb d2; clear hb)
        | ((with_reducible refine gate_dst (N := 11) rfl ?_); refine box_event ?hg (N := 11) ?hd (cs := #[.int .i64 0, .int .i64 0, .int .i64 0, .int .i64 0]) (t := 31) ?hr ?_; (case hd => rfl); (case hg => rfl); (case hr => first | (go_simp; done) | (go_simp; rfl)); intro g11 hg wy hbox hb5; have hc0 : wy.cell? ⟨g11, 0, none⟩ = some (.int .i64 0) := blk_cell hbox 0; have hf0 := blk_frozen hbox 0; have hc1 : wy.cell? ⟨g11, 1, none⟩ = some (.int .i64 0) := blk_cell hbox 1; have hf1 := blk_frozen hbox 1; have hc2 : wy.cell? ⟨g11, 2, none⟩ = some (.int .i64 0) := blk_cell hbox 2; have hf2 := blk_frozen hbox 2; have hc3 : wy.cell? ⟨g11, 3, none⟩ = some (.int .i64 0) := blk_cell hbox 3; have hf3 := blk_frozen hbox 3; replace hbox := Aside0.mk hbox; replace hb5 := Aside0.mk hb5; replace hg := Aside0.mk hg)
        | ((with_reducible refine gate_store (t := 31) (p := 11) rfl ?_); refine store_event (t := 31) (p := 11) (v := .tmp 36) (w1 := ((((wy.setCell ⟨g11, 0, none⟩ (.int .i64 b0)).setCell ⟨g11, 1, none⟩ (.int .i64 b1')).setCell ⟨g11, 2, none⟩ (.int .i64 b2')).setCell ⟨g11, 3, none⟩ (.int .i64 b3))) ?hg ?ho ?hn ?hr ?_; (case ho => rfl); (case hg => rfl); (case hn => rfl); (case hr => first | (go_simp; done) | (go_simp; rfl)); intro wz hw6; clear hc0 hf0 hc1 hf1 hc2 hf2 hc3 hf3; have hbx := box4_ (x := .int .i64 b0) (y := .int .i64 b1') (z := .int .i64 b2') (u := .int .i64 b3) hb5.out hg.out hbox.out; rw [← hw6] at hbx; clear hw6 hb5 hg hbox; obtain ⟨hb, hk6⟩ := hbx; replace HM := Aside0.mk (HM.out.below hb); replace HB := Aside0.mk (below_step HB.out hb); replace d0 := pw_cell_below hb d0; replace d1 := pw_cell_below hb d1; replace d2 := pw_cell_below hb d2; have e0 : wz.cell? ⟨g11, 0, none⟩ = some (.int .i64 b0) := blk_cell hk6 0; have e3 : wz.cell? ⟨g11, 3, none⟩ = some (.int .i64 b3) := blk_cell hk6 3; clear hb hk6)
        | (go_at_call 37; refine (HW1.out _).mono ?_; rintro e' wz ⟨rfl, hd⟩; have hb := hd.below; replace HM := Aside0.mk (HM.out.below hb); replace HB := Aside0.mk (below_step HB.out hb); replace d0 := pw_cell_below hb d0; replace d1 := pw_cell_below hb d1; replace d2 := pw_cell_below hb d2; replace e0 := pw_cell_below hb e0; replace e3 := pw_cell_below hb e3; clear hb hd HW1)
        | (go_at_call 37; refine (HW2.out _).mono ?_; rintro e' wz ⟨rfl, hd⟩; have hb := hd.below; replace HM := Aside0.mk (HM.out.below hb); replace HB := Aside0.mk (below_step HB.out hb); replace d0 := pw_cell_below hb d0; replace d1 := pw_cell_below hb d1; replace d2 := pw_cell_below hb d2; replace e0 := pw_cell_below hb e0; replace e3 := pw_cell_below hb e3; clear hb hd HW2))
      go_ret2
      exact ⟨rfl, HB.out⟩
    have hok : okH (⟨x0, x1, x2⟩ : S35) := ⟨m1.1, m1.2, m2.1, m2.2⟩
    rw [if_neg (not_not_intro hok)] at hJ
    have HW1 := Aside0.mk (fun W => bond_within.calls x1 1 1073741824 true W (by rw [bond_within.plain, decide_eq_true m1]))
    have HW2 := Aside0.mk (fun W => bond_within.calls x2 0 1125899906842624 true W (by rw [bond_within.plain, decide_eq_true m2]))
    have hprv : ∃ pv, pv = prvH h j ∧ (j = 0 → ¬ x1 ≤ pv) := ⟨_, rfl, fun e => by unfold prvH; rw [if_pos e]; omega⟩
    obtain ⟨pv, hpv, hpz⟩ := hprv
    rw [← hpv] at hJ
    have HOK := Aside0.mk hok
    have HTK := Aside0.mk htk
    have HPN := Aside0.mk hpn
    clear hok htk hpn m1 m2
    by_cases m3 : x1 ≤ pv
    case pos =>
      rw [if_pos m3] at hJ
      simp only [Prod.mk.injEq] at hJ
      obtain ⟨rfl, rfl⟩ := hJ
      have hj0 : 0 < j := Nat.pos_of_ne_zero (fun e => hpz e m3)
      obtain ⟨k, hk⟩ : ∃ k, j = k + 1 := ⟨j - 1, by omega⟩
      have z0 : decide (0 < j) = true := decide_eq_true hj0
      have z1 : decide (0 < (j : Int)) = true := decide_eq_true (by omega)
      have v0 : (j : Int) - 1 = (k : Int) := by omega
      have v1 : IntKind.i64.wrap ((j : Int) - 1) = (k : Int) := by rw [i64_w, v0]; exact w64_ (by omega) (by have := HLT.out; have := HH.out; omega)
      have p4 : (0 ≤ (k : Int)) = True := eq_true (by omega)
      have p5 : ((k : Int) < (h.length : Int)) = True := eq_true (by have := HLT.out; omega)
      have p6 : (k < h.length) = True := eq_true (by have := HLT.out; omega)
      have pvc : pv = (rd_T35 h (k : Int)).f1 := by rw [hpv]; unfold prvH; rw [if_neg (by omega), v0]
      have HPC := Aside0.mk pvc
      have HJ1 := Aside0.mk (show 0 ≤ (k : Int) ∧ (k : Int) < (h.length : Int) by have := HLT.out; omega)
      have m3b : decide (x1 ≤ pv) = true := decide_eq_true m3
      clear m3 hpv hpz pvc hj0 hk v0
      go_wp2_with (first
        | ((with_reducible refine gate_dst (N := 10) rfl ?_); refine box_event ?hg (N := 10) ?hd (cs := #[.int .i64 0, .int .i64 0, .int .i64 0]) (t := 35) ?hr ?_; (case hd => rfl); (case hg => rfl); (case hr => first | (go_simp; done) | (go_simp; rfl)); intro g10 hg wy hbox hb5; have hc0 : wy.cell? ⟨g10, 0, none⟩ = some (.int .i64 0) := blk_cell hbox 0; have hf0 := blk_frozen hbox 0; have hc1 : wy.cell? ⟨g10, 1, none⟩ = some (.int .i64 0) := blk_cell hbox 1; have hf1 := blk_frozen hbox 1; have hc2 : wy.cell? ⟨g10, 2, none⟩ = some (.int .i64 0) := blk_cell hbox 2; have hf2 := blk_frozen hbox 2; replace hbox := Aside0.mk hbox; replace hb5 := Aside0.mk hb5; replace hg := Aside0.mk hg)
        | ((with_reducible refine gate_store (t := 35) (p := 10) rfl ?_); refine store_event (t := 35) (p := 10) (v := .tmp 30) (w1 := (((wy.setCell ⟨g10, 0, none⟩ (.int .i64 x0)).setCell ⟨g10, 1, none⟩ (.int .i64 x1)).setCell ⟨g10, 2, none⟩ (.int .i64 x2))) ?hg ?ho ?hn ?hr ?_; (case ho => rfl); (case hg => rfl); (case hn => rfl); (case hr => first | (go_simp; done) | (go_simp; rfl)); intro wz hw6; clear hc0 hf0 hc1 hf1 hc2 hf2; have hbx := box3_ (x := .int .i64 x0) (y := .int .i64 x1) (z := .int .i64 x2) hb5.out hg.out hbox.out; rw [← hw6] at hbx; clear hw6 hb5 hg hbox; obtain ⟨hb, hk6⟩ := hbx; replace HM := Aside0.mk (HM.out.below hb); replace HB := Aside0.mk (below_step HB.out hb); have d0 : wz.cell? ⟨g10, 0, none⟩ = some (.int .i64 x0) := blk_cell hk6 0; have d1 : wz.cell? ⟨g10, 1, none⟩ = some (.int .i64 x1) := blk_cell hk6 1; have d2 : wz.cell? ⟨g10, 2, none⟩ = some (.int .i64 x2) := blk_cell hk6 2; clear h1 h2 h3; clear hb hk6)
        | (go_at_call 39; refine (HFI.out _ HB.out).mono ?_; rintro e' wz ⟨rfl, hb⟩; replace HM := Aside0.mk (HM.out.below hb); replace HB := Aside0.mk (below_step HB.out hb); replace d0 := pw_cell_below hb d0; replace d1 := pw_cell_below hb d1; replace d2 := pw_cell_below hb d2; clear hb)
        | ((with_reducible refine gate_dst (N := 11) rfl ?_); refine box_event ?hg (N := 11) ?hd (cs := #[.int .i64 0, .int .i64 0, .int .i64 0, .int .i64 0]) (t := 31) ?hr ?_; (case hd => rfl); (case hg => rfl); (case hr => first | (go_simp; done) | (go_simp; rfl)); intro g11 hg wy hbox hb5; have hc0 : wy.cell? ⟨g11, 0, none⟩ = some (.int .i64 0) := blk_cell hbox 0; have hf0 := blk_frozen hbox 0; have hc1 : wy.cell? ⟨g11, 1, none⟩ = some (.int .i64 0) := blk_cell hbox 1; have hf1 := blk_frozen hbox 1; have hc2 : wy.cell? ⟨g11, 2, none⟩ = some (.int .i64 0) := blk_cell hbox 2; have hf2 := blk_frozen hbox 2; have hc3 : wy.cell? ⟨g11, 3, none⟩ = some (.int .i64 0) := blk_cell hbox 3; have hf3 := blk_frozen hbox 3; replace hbox := Aside0.mk hbox; replace hb5 := Aside0.mk hb5; replace hg := Aside0.mk hg)
        | ((with_reducible refine gate_store (t := 31) (p := 11) rfl ?_); refine store_event (t := 31) (p := 11) (v := .tmp 36) (w1 := ((((wy.setCell ⟨g11, 0, none⟩ (.int .i64 b0)).setCell ⟨g11, 1, none⟩ (.int .i64 b1')).setCell ⟨g11, 2, none⟩ (.int .i64 b2')).setCell ⟨g11, 3, none⟩ (.int .i64 b3))) ?hg ?ho ?hn ?hr ?_; (case ho => rfl); (case hg => rfl); (case hn => rfl); (case hr => first | (go_simp; done) | (go_simp; rfl)); intro wz hw6; clear hc0 hf0 hc1 hf1 hc2 hf2 hc3 hf3; have hbx := box4_ (x := .int .i64 b0) (y := .int .i64 b1') (z := .int .i64 b2') (u := .int .i64 b3) hb5.out hg.out hbox.out; rw [← hw6] at hbx; clear hw6 hb5 hg hbox; obtain ⟨hb, hk6⟩ := hbx; replace HM := Aside0.mk (HM.out.below hb); replace HB := Aside0.mk (below_step HB.out hb); replace d0 := pw_cell_below hb d0; replace d1 := pw_cell_below hb d1; replace d2 := pw_cell_below hb d2; have e0 : wz.cell? ⟨g11, 0, none⟩ = some (.int .i64 b0) := blk_cell hk6 0; have e3 : wz.cell? ⟨g11, 3, none⟩ = some (.int .i64 b3) := blk_cell hk6 3; clear hb hk6)
        | (go_at_call 37; refine (HW1.out _).mono ?_; rintro e' wz ⟨rfl, hd⟩; have hb := hd.below; replace HM := Aside0.mk (HM.out.below hb); replace HB := Aside0.mk (below_step HB.out hb); replace d0 := pw_cell_below hb d0; replace d1 := pw_cell_below hb d1; replace d2 := pw_cell_below hb d2; replace e0 := pw_cell_below hb e0; replace e3 := pw_cell_below hb e3; clear hb hd HW1)
        | (go_at_call 37; refine (HW2.out _).mono ?_; rintro e' wz ⟨rfl, hd⟩; have hb := hd.below; replace HM := Aside0.mk (HM.out.below hb); replace HB := Aside0.mk (below_step HB.out hb); replace d0 := pw_cell_below hb d0; replace d1 := pw_cell_below hb d1; replace d2 := pw_cell_below hb d2; replace e0 := pw_cell_below hb e0; replace e3 := pw_cell_below hb e3; clear hb hd HW2))
      obtain ⟨ad2, e, q1, q2, q3⟩ := HAT.out wz HB.out (k : Int) HJ1.out.1 HJ1.out.2
      cases e
      rw [← HPC.out] at q2
      rw [Int.toNat_natCast] at q2
      clear q1 q3
      go_cut [50] (fun v50 wq => v50 = .bool true ∧ Aside0 (wq = wz.drew))
      case first =>
        go_region
        all_goals go_wp2
        all_goals go_meet
        all_goals exact ⟨rfl, ⟨rfl⟩⟩
      obtain ⟨rfl, HWD⟩ := hcut
      have hWD := HWD.out
      subst hWD
      replace HB := Aside0.mk (below_drew1 HB.out)
      replace HM := Aside0.mk (HM.out.below (below_drew1 (Below.refl _ _)))
      replace d0 : wz.drew.cell? _ = _ := d0
      replace d2 : wz.drew.cell? _ = _ := d2
      replace e0 : wz.drew.cell? _ = _ := e0
      replace e3 : wz.drew.cell? _ = _ := e3
      clear HWD d1
      go_wp2
      go_ret2
      exact ⟨rfl, HB.out⟩
    rw [if_neg m3] at hJ
    have m3b : decide (x1 ≤ pv) = false := decide_eq_false m3
    by_cases hj0 : 0 < j
    case pos =>
      obtain ⟨k, hk⟩ : ∃ k, j = k + 1 := ⟨j - 1, by omega⟩
      have z0 : decide (0 < j) = true := decide_eq_true hj0
      have z1 : decide (0 < (j : Int)) = true := decide_eq_true (by omega)
      have v0 : (j : Int) - 1 = (k : Int) := by omega
      have v1 : IntKind.i64.wrap ((j : Int) - 1) = (k : Int) := by rw [i64_w, v0]; exact w64_ (by omega) (by have := HLT.out; have := HH.out; omega)
      have p4 : (0 ≤ (k : Int)) = True := eq_true (by omega)
      have p5 : ((k : Int) < (h.length : Int)) = True := eq_true (by have := HLT.out; omega)
      have p6 : (k < h.length) = True := eq_true (by have := HLT.out; omega)
      have pvc : pv = (rd_T35 h (k : Int)).f1 := by rw [hpv]; unfold prvH; rw [if_neg (by omega), v0]
      have HPC := Aside0.mk pvc
      have HJ1 := Aside0.mk (show 0 ≤ (k : Int) ∧ (k : Int) < (h.length : Int) by have := HLT.out; omega)
      clear hpv hpz pvc hj0 hk v0
      cases hf : findB l x0 with
      | none =>
        rw [hf] at hJ
        simp only [Prod.mk.injEq] at hJ
        obtain ⟨rfl, rfl⟩ := hJ
        have hok2 := HFE.out
        unfold bond_find.f at hok2
        rw [if_pos (by have := HRB.out.1; omega), hf] at hok2
        have hok2 := Option.some.inj hok2
        simp only [Prod.mk.injEq] at hok2
        obtain ⟨-, -, -, -, rfl⟩ := hok2
        clear m3 hf
        go_wp2_with (first
          | ((with_reducible refine gate_dst (N := 10) rfl ?_); refine box_event ?hg (N := 10) ?hd (cs := #[.int .i64 0, .int .i64 0, .int .i64 0]) (t := 35) ?hr ?_; (case hd => rfl); (case hg => rfl); (case hr => first | (go_simp; done) | (go_simp; rfl)); intro g10 hg wy hbox hb5; have hc0 : wy.cell? ⟨g10, 0, none⟩ = some (.int .i64 0) := blk_cell hbox 0; have hf0 := blk_frozen hbox 0; have hc1 : wy.cell? ⟨g10, 1, none⟩ = some (.int .i64 0) := blk_cell hbox 1; have hf1 := blk_frozen hbox 1; have hc2 : wy.cell? ⟨g10, 2, none⟩ = some (.int .i64 0) := blk_cell hbox 2; have hf2 := blk_frozen hbox 2; replace hbox := Aside0.mk hbox; replace hb5 := Aside0.mk hb5; replace hg := Aside0.mk hg)
          | ((with_reducible refine gate_store (t := 35) (p := 10) rfl ?_); refine store_event (t := 35) (p := 10) (v := .tmp 30) (w1 := (((wy.setCell ⟨g10, 0, none⟩ (.int .i64 x0)).setCell ⟨g10, 1, none⟩ (.int .i64 x1)).setCell ⟨g10, 2, none⟩ (.int .i64 x2))) ?hg ?ho ?hn ?hr ?_; (case ho => rfl); (case hg => rfl); (case hn => rfl); (case hr => first | (go_simp; done) | (go_simp; rfl)); intro wz hw6; clear hc0 hf0 hc1 hf1 hc2 hf2; have hbx := box3_ (x := .int .i64 x0) (y := .int .i64 x1) (z := .int .i64 x2) hb5.out hg.out hbox.out; rw [← hw6] at hbx; clear hw6 hb5 hg hbox; obtain ⟨hb, hk6⟩ := hbx; replace HM := Aside0.mk (HM.out.below hb); replace HB := Aside0.mk (below_step HB.out hb); have d0 : wz.cell? ⟨g10, 0, none⟩ = some (.int .i64 x0) := blk_cell hk6 0; have d1 : wz.cell? ⟨g10, 1, none⟩ = some (.int .i64 x1) := blk_cell hk6 1; have d2 : wz.cell? ⟨g10, 2, none⟩ = some (.int .i64 x2) := blk_cell hk6 2; clear h1 h2 h3; clear hb hk6)
          | (go_at_call 39; refine (HFI.out _ HB.out).mono ?_; rintro e' wz ⟨rfl, hb⟩; replace HM := Aside0.mk (HM.out.below hb); replace HB := Aside0.mk (below_step HB.out hb); replace d0 := pw_cell_below hb d0; replace d1 := pw_cell_below hb d1; replace d2 := pw_cell_below hb d2; clear hb)
          | ((with_reducible refine gate_dst (N := 11) rfl ?_); refine box_event ?hg (N := 11) ?hd (cs := #[.int .i64 0, .int .i64 0, .int .i64 0, .int .i64 0]) (t := 31) ?hr ?_; (case hd => rfl); (case hg => rfl); (case hr => first | (go_simp; done) | (go_simp; rfl)); intro g11 hg wy hbox hb5; have hc0 : wy.cell? ⟨g11, 0, none⟩ = some (.int .i64 0) := blk_cell hbox 0; have hf0 := blk_frozen hbox 0; have hc1 : wy.cell? ⟨g11, 1, none⟩ = some (.int .i64 0) := blk_cell hbox 1; have hf1 := blk_frozen hbox 1; have hc2 : wy.cell? ⟨g11, 2, none⟩ = some (.int .i64 0) := blk_cell hbox 2; have hf2 := blk_frozen hbox 2; have hc3 : wy.cell? ⟨g11, 3, none⟩ = some (.int .i64 0) := blk_cell hbox 3; have hf3 := blk_frozen hbox 3; replace hbox := Aside0.mk hbox; replace hb5 := Aside0.mk hb5; replace hg := Aside0.mk hg)
          | ((with_reducible refine gate_store (t := 31) (p := 11) rfl ?_); refine store_event (t := 31) (p := 11) (v := .tmp 36) (w1 := ((((wy.setCell ⟨g11, 0, none⟩ (.int .i64 b0)).setCell ⟨g11, 1, none⟩ (.int .i64 b1')).setCell ⟨g11, 2, none⟩ (.int .i64 b2')).setCell ⟨g11, 3, none⟩ (.int .i64 b3))) ?hg ?ho ?hn ?hr ?_; (case ho => rfl); (case hg => rfl); (case hn => rfl); (case hr => first | (go_simp; done) | (go_simp; rfl)); intro wz hw6; clear hc0 hf0 hc1 hf1 hc2 hf2 hc3 hf3; have hbx := box4_ (x := .int .i64 b0) (y := .int .i64 b1') (z := .int .i64 b2') (u := .int .i64 b3) hb5.out hg.out hbox.out; rw [← hw6] at hbx; clear hw6 hb5 hg hbox; obtain ⟨hb, hk6⟩ := hbx; replace HM := Aside0.mk (HM.out.below hb); replace HB := Aside0.mk (below_step HB.out hb); replace d0 := pw_cell_below hb d0; replace d1 := pw_cell_below hb d1; replace d2 := pw_cell_below hb d2; have e0 : wz.cell? ⟨g11, 0, none⟩ = some (.int .i64 b0) := blk_cell hk6 0; have e3 : wz.cell? ⟨g11, 3, none⟩ = some (.int .i64 b3) := blk_cell hk6 3; clear hb hk6)
          | (go_at_call 37; refine (HW1.out _).mono ?_; rintro e' wz ⟨rfl, hd⟩; have hb := hd.below; replace HM := Aside0.mk (HM.out.below hb); replace HB := Aside0.mk (below_step HB.out hb); replace d0 := pw_cell_below hb d0; replace d1 := pw_cell_below hb d1; replace d2 := pw_cell_below hb d2; replace e0 := pw_cell_below hb e0; replace e3 := pw_cell_below hb e3; clear hb hd HW1)
          | (go_at_call 37; refine (HW2.out _).mono ?_; rintro e' wz ⟨rfl, hd⟩; have hb := hd.below; replace HM := Aside0.mk (HM.out.below hb); replace HB := Aside0.mk (below_step HB.out hb); replace d0 := pw_cell_below hb d0; replace d1 := pw_cell_below hb d1; replace d2 := pw_cell_below hb d2; replace e0 := pw_cell_below hb e0; replace e3 := pw_cell_below hb e3; clear hb hd HW2))
        obtain ⟨ad2, e, q1, q2, q3⟩ := HAT.out wz HB.out (k : Int) HJ1.out.1 HJ1.out.2
        cases e
        rw [← HPC.out] at q2
        rw [Int.toNat_natCast] at q2
        clear q1 q3
        go_cut [50] (fun v50 wq => v50 = .bool false ∧ Aside0 (wq = wz.drew))
        case first =>
          go_region
          all_goals go_wp2
          all_goals go_meet
          all_goals exact ⟨rfl, ⟨rfl⟩⟩
        obtain ⟨rfl, HWD⟩ := hcut
        have hWD := HWD.out
        subst hWD
        replace HB := Aside0.mk (below_drew1 HB.out)
        replace HM := Aside0.mk (HM.out.below (below_drew1 (Below.refl _ _)))
        replace d0 : wz.drew.cell? _ = _ := d0
        replace d2 : wz.drew.cell? _ = _ := d2
        replace e0 : wz.drew.cell? _ = _ := e0
        replace e3 : wz.drew.cell? _ = _ := e3
        clear HWD d1
        go_wp2
        go_ret2
        exact ⟨rfl, HB.out⟩
      | some b =>
        rw [hf] at hJ
        simp only at hJ
        have hok2 := HFE.out
        unfold bond_find.f at hok2
        rw [if_pos (by have := HRB.out.1; omega), hf] at hok2
        have hok2 := Option.some.inj hok2
        simp only [Prod.mk.injEq] at hok2
        obtain ⟨e0', e1', e2', e3', rfl⟩ := hok2
        have hid : b0 = x0 := by rw [← e0']; exact (findB_some hf).2
        rw [e3'] at hJ
        have hsum : sumH (List.take j h ++ [(⟨x0, x1, x2⟩ : S35)]) x0 = S b0 + x2 := by rw [sumH_append, hid, HJ.out.2.2.2.2 x0]; simp [sumH]
        rw [hsum] at hJ
        have hs0 : 0 ≤ S b0 ∧ S b0 ≤ 18014398509481984 := by
          rw [HJ.out.2.2.2.2 b0]
          have a1 := sumH_nonneg (fun x hx => (HJ.out.2.2.2.1 x hx).2.2.1) b0
          have a2 := sumH_le (M := 1125899906842624) (by decide) (fun x hx => (HJ.out.2.2.2.1 x hx).2.2.2) b0
          have a3 : ((List.take j h).length : Int) ≤ 16 := by rw [List.length_take]; have := HH.out; omega
          omega
        have hbr := HRB.out.2.1 b (findB_some hf).1
        unfold okB at hbr
        have hxr := HOK.out
        unfold okH at hxr
        simp only at hxr
        have WFB := Aside0.mk (wf_i64 (x := b0) (by omega) (by omega))
        have WFV := Aside0.mk (wf_i64 (x := S b0 + x2) (by omega) (by omega))
        have vs : IntKind.i64.wrap (S b0 + x2) = S b0 + x2 := by rw [i64_w]; exact w64_ (by omega) (by omega)
        have HS' := Aside0.mk (fun (id : Int) => show (if id = b0 then S b0 + x2 else S id) = sumH (h.take (j + 1)) id from by
          rw [HTK.out, sumH_append]
          by_cases e : id = b0
          · rw [if_pos e, e, HJ.out.2.2.2.2 b0]; simp [sumH, hid]
          · rw [if_neg e, HJ.out.2.2.2.2 id, show sumH [(⟨x0, x1, x2⟩ : S35)] id = 0 from by rw [sumH, if_neg (fun e2 => e (e2.symm.trans hid.symm))]; rfl, Int.add_zero])
        have HHID := Aside0.mk hid
        have HME := Aside0.mk (⟨hf, e3'⟩ : _ ∧ _)
        clear hs0 hbr hxr hsum hf e0' e1' e2' e3' m3 hid
        obtain ⟨s0, hs0⟩ : ∃ s0, s0 = S b0 := ⟨_, rfl⟩
        rw [← hs0] at WFV vs HS' hJ
        have HS0 := Aside0.mk hs0
        clear hs0
        by_cases m4 : b3 < s0 + x2
        case pos =>
          rw [if_pos m4] at hJ
          simp only [Prod.mk.injEq] at hJ
          obtain ⟨rfl, rfl⟩ := hJ
          have m4b : decide (b3 < s0 + x2) = true := decide_eq_true m4
          clear m4
          go_wp2_with (first
            | ((with_reducible refine gate_dst (N := 10) rfl ?_); refine box_event ?hg (N := 10) ?hd (cs := #[.int .i64 0, .int .i64 0, .int .i64 0]) (t := 35) ?hr ?_; (case hd => rfl); (case hg => rfl); (case hr => first | (go_simp; done) | (go_simp; rfl)); intro g10 hg wy hbox hb5; have hc0 : wy.cell? ⟨g10, 0, none⟩ = some (.int .i64 0) := blk_cell hbox 0; have hf0 := blk_frozen hbox 0; have hc1 : wy.cell? ⟨g10, 1, none⟩ = some (.int .i64 0) := blk_cell hbox 1; have hf1 := blk_frozen hbox 1; have hc2 : wy.cell? ⟨g10, 2, none⟩ = some (.int .i64 0) := blk_cell hbox 2; have hf2 := blk_frozen hbox 2; replace hbox := Aside0.mk hbox; replace hb5 := Aside0.mk hb5; replace hg := Aside0.mk hg)
            | ((with_reducible refine gate_store (t := 35) (p := 10) rfl ?_); refine store_event (t := 35) (p := 10) (v := .tmp 30) (w1 := (((wy.setCell ⟨g10, 0, none⟩ (.int .i64 x0)).setCell ⟨g10, 1, none⟩ (.int .i64 x1)).setCell ⟨g10, 2, none⟩ (.int .i64 x2))) ?hg ?ho ?hn ?hr ?_; (case ho => rfl); (case hg => rfl); (case hn => rfl); (case hr => first | (go_simp; done) | (go_simp; rfl)); intro wz hw6; clear hc0 hf0 hc1 hf1 hc2 hf2; have hbx := box3_ (x := .int .i64 x0) (y := .int .i64 x1) (z := .int .i64 x2) hb5.out hg.out hbox.out; rw [← hw6] at hbx; clear hw6 hb5 hg hbox; obtain ⟨hb, hk6⟩ := hbx; replace HM := Aside0.mk (HM.out.below hb); replace HB := Aside0.mk (below_step HB.out hb); have d0 : wz.cell? ⟨g10, 0, none⟩ = some (.int .i64 x0) := blk_cell hk6 0; have d1 : wz.cell? ⟨g10, 1, none⟩ = some (.int .i64 x1) := blk_cell hk6 1; have d2 : wz.cell? ⟨g10, 2, none⟩ = some (.int .i64 x2) := blk_cell hk6 2; clear h1 h2 h3; clear hb hk6)
            | (go_at_call 39; refine (HFI.out _ HB.out).mono ?_; rintro e' wz ⟨rfl, hb⟩; replace HM := Aside0.mk (HM.out.below hb); replace HB := Aside0.mk (below_step HB.out hb); replace d0 := pw_cell_below hb d0; replace d1 := pw_cell_below hb d1; replace d2 := pw_cell_below hb d2; clear hb)
            | ((with_reducible refine gate_dst (N := 11) rfl ?_); refine box_event ?hg (N := 11) ?hd (cs := #[.int .i64 0, .int .i64 0, .int .i64 0, .int .i64 0]) (t := 31) ?hr ?_; (case hd => rfl); (case hg => rfl); (case hr => first | (go_simp; done) | (go_simp; rfl)); intro g11 hg wy hbox hb5; have hc0 : wy.cell? ⟨g11, 0, none⟩ = some (.int .i64 0) := blk_cell hbox 0; have hf0 := blk_frozen hbox 0; have hc1 : wy.cell? ⟨g11, 1, none⟩ = some (.int .i64 0) := blk_cell hbox 1; have hf1 := blk_frozen hbox 1; have hc2 : wy.cell? ⟨g11, 2, none⟩ = some (.int .i64 0) := blk_cell hbox 2; have hf2 := blk_frozen hbox 2; have hc3 : wy.cell? ⟨g11, 3, none⟩ = some (.int .i64 0) := blk_cell hbox 3; have hf3 := blk_frozen hbox 3; replace hbox := Aside0.mk hbox; replace hb5 := Aside0.mk hb5; replace hg := Aside0.mk hg)
            | ((with_reducible refine gate_store (t := 31) (p := 11) rfl ?_); refine store_event (t := 31) (p := 11) (v := .tmp 36) (w1 := ((((wy.setCell ⟨g11, 0, none⟩ (.int .i64 b0)).setCell ⟨g11, 1, none⟩ (.int .i64 b1')).setCell ⟨g11, 2, none⟩ (.int .i64 b2')).setCell ⟨g11, 3, none⟩ (.int .i64 b3))) ?hg ?ho ?hn ?hr ?_; (case ho => rfl); (case hg => rfl); (case hn => rfl); (case hr => first | (go_simp; done) | (go_simp; rfl)); intro wz hw6; clear hc0 hf0 hc1 hf1 hc2 hf2 hc3 hf3; have hbx := box4_ (x := .int .i64 b0) (y := .int .i64 b1') (z := .int .i64 b2') (u := .int .i64 b3) hb5.out hg.out hbox.out; rw [← hw6] at hbx; clear hw6 hb5 hg hbox; obtain ⟨hb, hk6⟩ := hbx; replace HM := Aside0.mk (HM.out.below hb); replace HB := Aside0.mk (below_step HB.out hb); replace d0 := pw_cell_below hb d0; replace d1 := pw_cell_below hb d1; replace d2 := pw_cell_below hb d2; have e0 : wz.cell? ⟨g11, 0, none⟩ = some (.int .i64 b0) := blk_cell hk6 0; have e3 : wz.cell? ⟨g11, 3, none⟩ = some (.int .i64 b3) := blk_cell hk6 3; clear hb hk6)
            | (go_at_call 37; refine (HW1.out _).mono ?_; rintro e' wz ⟨rfl, hd⟩; have hb := hd.below; replace HM := Aside0.mk (HM.out.below hb); replace HB := Aside0.mk (below_step HB.out hb); replace d0 := pw_cell_below hb d0; replace d1 := pw_cell_below hb d1; replace d2 := pw_cell_below hb d2; replace e0 := pw_cell_below hb e0; replace e3 := pw_cell_below hb e3; clear hb hd HW1)
            | (go_at_call 37; refine (HW2.out _).mono ?_; rintro e' wz ⟨rfl, hd⟩; have hb := hd.below; replace HM := Aside0.mk (HM.out.below hb); replace HB := Aside0.mk (below_step HB.out hb); replace d0 := pw_cell_below hb d0; replace d1 := pw_cell_below hb d1; replace d2 := pw_cell_below hb d2; replace e0 := pw_cell_below hb e0; replace e3 := pw_cell_below hb e3; clear hb hd HW2))
          obtain ⟨ad2, e, q1, q2, q3⟩ := HAT.out wz HB.out (k : Int) HJ1.out.1 HJ1.out.2
          cases e
          rw [← HPC.out] at q2
          rw [Int.toNat_natCast] at q2
          clear q1 q3
          go_cut [50] (fun v50 wq => v50 = .bool false ∧ Aside0 (wq = wz.drew))
          case first =>
            go_region
            all_goals go_wp2
            all_goals go_meet
            all_goals exact ⟨rfl, ⟨rfl⟩⟩
          obtain ⟨rfl, HWD⟩ := hcut
          have hWD := HWD.out
          subst hWD
          replace HB := Aside0.mk (below_drew1 HB.out)
          replace HM := Aside0.mk (HM.out.below (below_drew1 (Below.refl _ _)))
          replace d0 : wz.drew.cell? _ = _ := d0
          replace d2 : wz.drew.cell? _ = _ := d2
          replace e0 : wz.drew.cell? _ = _ := e0
          replace e3 : wz.drew.cell? _ = _ := e3
          clear HWD d1
          have mb10 := Aside0.mk (show g10 ≠ mb from fun e => by subst e; exact map_not_cell HM.out d0)
          have mb11 := Aside0.mk (show g11 ≠ mb from fun e => by subst e; exact map_not_cell HM.out e0)
          have NEM := Aside0.mk (fun (g : Nat) (hn : g ≠ mb) => (show some g ≠ some mb from fun e => hn (Option.some.inj e)))
          have hlk := HM.out.lookup WFB.out
          rw [← HS0.out] at hlk
          go_wp2_with (first | (at_mapUpdate; refine wpList_mapUpdate_sum _ rfl _ _ _ rfl mb j S rfl HM.out (small_max (by have := HJ.out; have := HH.out; omega)) b0 (s0 + x2) WFB.out WFV.out rfl rfl ?_; intro w7 hM7 hg7; clear hlk; have hlk := hM7.lookup WFB.out; rw [if_pos rfl] at hlk; replace d0 := pw_cell_grown hg7 (NEM.out g10 mb10.out) d0; replace e0 := pw_cell_grown hg7 (NEM.out g11 mb11.out) e0; replace e3 := pw_cell_grown hg7 (NEM.out g11 mb11.out) e3; replace HB := Aside0.mk (HB.out.grown hg7 HB.out.size (fun k hk => by cases hk; exact HMB.out)); clear HM hg7; replace HM := Aside0.mk hM7; clear hM7))
          go_ret2
          exact ⟨rfl, HB.out⟩
        case neg =>
          rw [if_neg m4] at hJ
          have m4b : decide (b3 < s0 + x2) = false := decide_eq_false m4
          have HJ2 := Aside0.mk hJ
          clear m4 hJ
          go_wp2_with (first
            | ((with_reducible refine gate_dst (N := 10) rfl ?_); refine box_event ?hg (N := 10) ?hd (cs := #[.int .i64 0, .int .i64 0, .int .i64 0]) (t := 35) ?hr ?_; (case hd => rfl); (case hg => rfl); (case hr => first | (go_simp; done) | (go_simp; rfl)); intro g10 hg wy hbox hb5; have hc0 : wy.cell? ⟨g10, 0, none⟩ = some (.int .i64 0) := blk_cell hbox 0; have hf0 := blk_frozen hbox 0; have hc1 : wy.cell? ⟨g10, 1, none⟩ = some (.int .i64 0) := blk_cell hbox 1; have hf1 := blk_frozen hbox 1; have hc2 : wy.cell? ⟨g10, 2, none⟩ = some (.int .i64 0) := blk_cell hbox 2; have hf2 := blk_frozen hbox 2; replace hbox := Aside0.mk hbox; replace hb5 := Aside0.mk hb5; replace hg := Aside0.mk hg)
            | ((with_reducible refine gate_store (t := 35) (p := 10) rfl ?_); refine store_event (t := 35) (p := 10) (v := .tmp 30) (w1 := (((wy.setCell ⟨g10, 0, none⟩ (.int .i64 x0)).setCell ⟨g10, 1, none⟩ (.int .i64 x1)).setCell ⟨g10, 2, none⟩ (.int .i64 x2))) ?hg ?ho ?hn ?hr ?_; (case ho => rfl); (case hg => rfl); (case hn => rfl); (case hr => first | (go_simp; done) | (go_simp; rfl)); intro wz hw6; clear hc0 hf0 hc1 hf1 hc2 hf2; have hbx := box3_ (x := .int .i64 x0) (y := .int .i64 x1) (z := .int .i64 x2) hb5.out hg.out hbox.out; rw [← hw6] at hbx; clear hw6 hb5 hg hbox; obtain ⟨hb, hk6⟩ := hbx; replace HM := Aside0.mk (HM.out.below hb); replace HB := Aside0.mk (below_step HB.out hb); have d0 : wz.cell? ⟨g10, 0, none⟩ = some (.int .i64 x0) := blk_cell hk6 0; have d1 : wz.cell? ⟨g10, 1, none⟩ = some (.int .i64 x1) := blk_cell hk6 1; have d2 : wz.cell? ⟨g10, 2, none⟩ = some (.int .i64 x2) := blk_cell hk6 2; clear h1 h2 h3; clear hb hk6)
            | (go_at_call 39; refine (HFI.out _ HB.out).mono ?_; rintro e' wz ⟨rfl, hb⟩; replace HM := Aside0.mk (HM.out.below hb); replace HB := Aside0.mk (below_step HB.out hb); replace d0 := pw_cell_below hb d0; replace d1 := pw_cell_below hb d1; replace d2 := pw_cell_below hb d2; clear hb)
            | ((with_reducible refine gate_dst (N := 11) rfl ?_); refine box_event ?hg (N := 11) ?hd (cs := #[.int .i64 0, .int .i64 0, .int .i64 0, .int .i64 0]) (t := 31) ?hr ?_; (case hd => rfl); (case hg => rfl); (case hr => first | (go_simp; done) | (go_simp; rfl)); intro g11 hg wy hbox hb5; have hc0 : wy.cell? ⟨g11, 0, none⟩ = some (.int .i64 0) := blk_cell hbox 0; have hf0 := blk_frozen hbox 0; have hc1 : wy.cell? ⟨g11, 1, none⟩ = some (.int .i64 0) := blk_cell hbox 1; have hf1 := blk_frozen hbox 1; have hc2 : wy.cell? ⟨g11, 2, none⟩ = some (.int .i64 0) := blk_cell hbox 2; have hf2 := blk_frozen hbox 2; have hc3 : wy.cell? ⟨g11, 3, none⟩ = some (.int .i64 0) := blk_cell hbox 3; have hf3 := blk_frozen hbox 3; replace hbox := Aside0.mk hbox; replace hb5 := Aside0.mk hb5; replace hg := Aside0.mk hg)
            | ((with_reducible refine gate_store (t := 31) (p := 11) rfl ?_); refine store_event (t := 31) (p := 11) (v := .tmp 36) (w1 := ((((wy.setCell ⟨g11, 0, none⟩ (.int .i64 b0)).setCell ⟨g11, 1, none⟩ (.int .i64 b1')).setCell ⟨g11, 2, none⟩ (.int .i64 b2')).setCell ⟨g11, 3, none⟩ (.int .i64 b3))) ?hg ?ho ?hn ?hr ?_; (case ho => rfl); (case hg => rfl); (case hn => rfl); (case hr => first | (go_simp; done) | (go_simp; rfl)); intro wz hw6; clear hc0 hf0 hc1 hf1 hc2 hf2 hc3 hf3; have hbx := box4_ (x := .int .i64 b0) (y := .int .i64 b1') (z := .int .i64 b2') (u := .int .i64 b3) hb5.out hg.out hbox.out; rw [← hw6] at hbx; clear hw6 hb5 hg hbox; obtain ⟨hb, hk6⟩ := hbx; replace HM := Aside0.mk (HM.out.below hb); replace HB := Aside0.mk (below_step HB.out hb); replace d0 := pw_cell_below hb d0; replace d1 := pw_cell_below hb d1; replace d2 := pw_cell_below hb d2; have e0 : wz.cell? ⟨g11, 0, none⟩ = some (.int .i64 b0) := blk_cell hk6 0; have e3 : wz.cell? ⟨g11, 3, none⟩ = some (.int .i64 b3) := blk_cell hk6 3; clear hb hk6)
            | (go_at_call 37; refine (HW1.out _).mono ?_; rintro e' wz ⟨rfl, hd⟩; have hb := hd.below; replace HM := Aside0.mk (HM.out.below hb); replace HB := Aside0.mk (below_step HB.out hb); replace d0 := pw_cell_below hb d0; replace d1 := pw_cell_below hb d1; replace d2 := pw_cell_below hb d2; replace e0 := pw_cell_below hb e0; replace e3 := pw_cell_below hb e3; clear hb hd HW1)
            | (go_at_call 37; refine (HW2.out _).mono ?_; rintro e' wz ⟨rfl, hd⟩; have hb := hd.below; replace HM := Aside0.mk (HM.out.below hb); replace HB := Aside0.mk (below_step HB.out hb); replace d0 := pw_cell_below hb d0; replace d1 := pw_cell_below hb d1; replace d2 := pw_cell_below hb d2; replace e0 := pw_cell_below hb e0; replace e3 := pw_cell_below hb e3; clear hb hd HW2))
          obtain ⟨ad2, e, q1, q2, q3⟩ := HAT.out wz HB.out (k : Int) HJ1.out.1 HJ1.out.2
          cases e
          rw [← HPC.out] at q2
          rw [Int.toNat_natCast] at q2
          clear q1 q3
          go_cut [50] (fun v50 wq => v50 = .bool false ∧ Aside0 (wq = wz.drew))
          case first =>
            go_region
            all_goals go_wp2
            all_goals go_meet
            all_goals exact ⟨rfl, ⟨rfl⟩⟩
          obtain ⟨rfl, HWD⟩ := hcut
          have hWD := HWD.out
          subst hWD
          replace HB := Aside0.mk (below_drew1 HB.out)
          replace HM := Aside0.mk (HM.out.below (below_drew1 (Below.refl _ _)))
          replace d0 : wz.drew.cell? _ = _ := d0
          replace d2 : wz.drew.cell? _ = _ := d2
          replace e0 : wz.drew.cell? _ = _ := e0
          replace e3 : wz.drew.cell? _ = _ := e3
          clear HWD d1
          have mb10 := Aside0.mk (show g10 ≠ mb from fun e => by subst e; exact map_not_cell HM.out d0)
          have mb11 := Aside0.mk (show g11 ≠ mb from fun e => by subst e; exact map_not_cell HM.out e0)
          have NEM := Aside0.mk (fun (g : Nat) (hn : g ≠ mb) => (show some g ≠ some mb from fun e => hn (Option.some.inj e)))
          have hlk := HM.out.lookup WFB.out
          rw [← HS0.out] at hlk
          go_wp2_with (first | (at_mapUpdate; refine wpList_mapUpdate_sum _ rfl _ _ _ rfl mb j S rfl HM.out (small_max (by have := HJ.out; have := HH.out; omega)) b0 (s0 + x2) WFB.out WFV.out rfl rfl ?_; intro w7 hM7 hg7; clear hlk; have hlk := hM7.lookup WFB.out; rw [if_pos rfl] at hlk; replace d0 := pw_cell_grown hg7 (NEM.out g10 mb10.out) d0; replace e0 := pw_cell_grown hg7 (NEM.out g11 mb11.out) e0; replace e3 := pw_cell_grown hg7 (NEM.out g11 mb11.out) e3; replace HB := Aside0.mk (HB.out.grown hg7 HB.out.size (fun k hk => by cases hk; exact HMB.out)); clear HM hg7; replace HM := Aside0.mk hM7; clear hM7))
          go_roundg (h.length + 1 - (j + 1))
          case measure => have := HJ.out; have := HLT.out; omega
          case rel => exact ⟨j + 1, _, by first | rfl | (rw [HW.out.1]; rfl) | (rw [HW.out.2]; rfl), ⟨HLT.out, Nat.le_refl _, by rw [HTK.out, HPN.out]; exact HJ2.out, fun y hy => by
              rw [HTK.out] at hy
              rcases List.mem_append.1 hy with hy | hy
              · exact HJ.out.2.2.2.1 y hy
              · rw [List.mem_singleton] at hy; rw [hy]; exact HOK.out, HS'.out⟩, HM, HB⟩
    case neg =>
      have z0 : decide (0 < j) = false := decide_eq_false (by omega)
      have z1 : decide (0 < (j : Int)) = false := decide_eq_false (by omega)
      clear hpv hpz hj0
      cases hf : findB l x0 with
      | none =>
        rw [hf] at hJ
        simp only [Prod.mk.injEq] at hJ
        obtain ⟨rfl, rfl⟩ := hJ
        have hok2 := HFE.out
        unfold bond_find.f at hok2
        rw [if_pos (by have := HRB.out.1; omega), hf] at hok2
        have hok2 := Option.some.inj hok2
        simp only [Prod.mk.injEq] at hok2
        obtain ⟨-, -, -, -, rfl⟩ := hok2
        clear m3 hf
        go_wp2_with (first
          | ((with_reducible refine gate_dst (N := 10) rfl ?_); refine box_event ?hg (N := 10) ?hd (cs := #[.int .i64 0, .int .i64 0, .int .i64 0]) (t := 35) ?hr ?_; (case hd => rfl); (case hg => rfl); (case hr => first | (go_simp; done) | (go_simp; rfl)); intro g10 hg wy hbox hb5; have hc0 : wy.cell? ⟨g10, 0, none⟩ = some (.int .i64 0) := blk_cell hbox 0; have hf0 := blk_frozen hbox 0; have hc1 : wy.cell? ⟨g10, 1, none⟩ = some (.int .i64 0) := blk_cell hbox 1; have hf1 := blk_frozen hbox 1; have hc2 : wy.cell? ⟨g10, 2, none⟩ = some (.int .i64 0) := blk_cell hbox 2; have hf2 := blk_frozen hbox 2; replace hbox := Aside0.mk hbox; replace hb5 := Aside0.mk hb5; replace hg := Aside0.mk hg)
          | ((with_reducible refine gate_store (t := 35) (p := 10) rfl ?_); refine store_event (t := 35) (p := 10) (v := .tmp 30) (w1 := (((wy.setCell ⟨g10, 0, none⟩ (.int .i64 x0)).setCell ⟨g10, 1, none⟩ (.int .i64 x1)).setCell ⟨g10, 2, none⟩ (.int .i64 x2))) ?hg ?ho ?hn ?hr ?_; (case ho => rfl); (case hg => rfl); (case hn => rfl); (case hr => first | (go_simp; done) | (go_simp; rfl)); intro wz hw6; clear hc0 hf0 hc1 hf1 hc2 hf2; have hbx := box3_ (x := .int .i64 x0) (y := .int .i64 x1) (z := .int .i64 x2) hb5.out hg.out hbox.out; rw [← hw6] at hbx; clear hw6 hb5 hg hbox; obtain ⟨hb, hk6⟩ := hbx; replace HM := Aside0.mk (HM.out.below hb); replace HB := Aside0.mk (below_step HB.out hb); have d0 : wz.cell? ⟨g10, 0, none⟩ = some (.int .i64 x0) := blk_cell hk6 0; have d1 : wz.cell? ⟨g10, 1, none⟩ = some (.int .i64 x1) := blk_cell hk6 1; have d2 : wz.cell? ⟨g10, 2, none⟩ = some (.int .i64 x2) := blk_cell hk6 2; clear h1 h2 h3; clear hb hk6)
          | (go_at_call 39; refine (HFI.out _ HB.out).mono ?_; rintro e' wz ⟨rfl, hb⟩; replace HM := Aside0.mk (HM.out.below hb); replace HB := Aside0.mk (below_step HB.out hb); replace d0 := pw_cell_below hb d0; replace d1 := pw_cell_below hb d1; replace d2 := pw_cell_below hb d2; clear hb)
          | ((with_reducible refine gate_dst (N := 11) rfl ?_); refine box_event ?hg (N := 11) ?hd (cs := #[.int .i64 0, .int .i64 0, .int .i64 0, .int .i64 0]) (t := 31) ?hr ?_; (case hd => rfl); (case hg => rfl); (case hr => first | (go_simp; done) | (go_simp; rfl)); intro g11 hg wy hbox hb5; have hc0 : wy.cell? ⟨g11, 0, none⟩ = some (.int .i64 0) := blk_cell hbox 0; have hf0 := blk_frozen hbox 0; have hc1 : wy.cell? ⟨g11, 1, none⟩ = some (.int .i64 0) := blk_cell hbox 1; have hf1 := blk_frozen hbox 1; have hc2 : wy.cell? ⟨g11, 2, none⟩ = some (.int .i64 0) := blk_cell hbox 2; have hf2 := blk_frozen hbox 2; have hc3 : wy.cell? ⟨g11, 3, none⟩ = some (.int .i64 0) := blk_cell hbox 3; have hf3 := blk_frozen hbox 3; replace hbox := Aside0.mk hbox; replace hb5 := Aside0.mk hb5; replace hg := Aside0.mk hg)
          | ((with_reducible refine gate_store (t := 31) (p := 11) rfl ?_); refine store_event (t := 31) (p := 11) (v := .tmp 36) (w1 := ((((wy.setCell ⟨g11, 0, none⟩ (.int .i64 b0)).setCell ⟨g11, 1, none⟩ (.int .i64 b1')).setCell ⟨g11, 2, none⟩ (.int .i64 b2')).setCell ⟨g11, 3, none⟩ (.int .i64 b3))) ?hg ?ho ?hn ?hr ?_; (case ho => rfl); (case hg => rfl); (case hn => rfl); (case hr => first | (go_simp; done) | (go_simp; rfl)); intro wz hw6; clear hc0 hf0 hc1 hf1 hc2 hf2 hc3 hf3; have hbx := box4_ (x := .int .i64 b0) (y := .int .i64 b1') (z := .int .i64 b2') (u := .int .i64 b3) hb5.out hg.out hbox.out; rw [← hw6] at hbx; clear hw6 hb5 hg hbox; obtain ⟨hb, hk6⟩ := hbx; replace HM := Aside0.mk (HM.out.below hb); replace HB := Aside0.mk (below_step HB.out hb); replace d0 := pw_cell_below hb d0; replace d1 := pw_cell_below hb d1; replace d2 := pw_cell_below hb d2; have e0 : wz.cell? ⟨g11, 0, none⟩ = some (.int .i64 b0) := blk_cell hk6 0; have e3 : wz.cell? ⟨g11, 3, none⟩ = some (.int .i64 b3) := blk_cell hk6 3; clear hb hk6)
          | (go_at_call 37; refine (HW1.out _).mono ?_; rintro e' wz ⟨rfl, hd⟩; have hb := hd.below; replace HM := Aside0.mk (HM.out.below hb); replace HB := Aside0.mk (below_step HB.out hb); replace d0 := pw_cell_below hb d0; replace d1 := pw_cell_below hb d1; replace d2 := pw_cell_below hb d2; replace e0 := pw_cell_below hb e0; replace e3 := pw_cell_below hb e3; clear hb hd HW1)
          | (go_at_call 37; refine (HW2.out _).mono ?_; rintro e' wz ⟨rfl, hd⟩; have hb := hd.below; replace HM := Aside0.mk (HM.out.below hb); replace HB := Aside0.mk (below_step HB.out hb); replace d0 := pw_cell_below hb d0; replace d1 := pw_cell_below hb d1; replace d2 := pw_cell_below hb d2; replace e0 := pw_cell_below hb e0; replace e3 := pw_cell_below hb e3; clear hb hd HW2))
        go_cut [50] (fun v50 wq => v50 = .bool false ∧ Aside0 (wq = wz.drew))
        case first =>
          go_region
          all_goals go_wp2
          all_goals go_meet
          all_goals exact ⟨rfl, ⟨rfl⟩⟩
        obtain ⟨rfl, HWD⟩ := hcut
        have hWD := HWD.out
        subst hWD
        replace HB := Aside0.mk (below_drew1 HB.out)
        replace HM := Aside0.mk (HM.out.below (below_drew1 (Below.refl _ _)))
        replace d0 : wz.drew.cell? _ = _ := d0
        replace d2 : wz.drew.cell? _ = _ := d2
        replace e0 : wz.drew.cell? _ = _ := e0
        replace e3 : wz.drew.cell? _ = _ := e3
        clear HWD d1
        go_wp2
        go_ret2
        exact ⟨rfl, HB.out⟩
      | some b =>
        rw [hf] at hJ
        simp only at hJ
        have hok2 := HFE.out
        unfold bond_find.f at hok2
        rw [if_pos (by have := HRB.out.1; omega), hf] at hok2
        have hok2 := Option.some.inj hok2
        simp only [Prod.mk.injEq] at hok2
        obtain ⟨e0', e1', e2', e3', rfl⟩ := hok2
        have hid : b0 = x0 := by rw [← e0']; exact (findB_some hf).2
        rw [e3'] at hJ
        have hsum : sumH (List.take j h ++ [(⟨x0, x1, x2⟩ : S35)]) x0 = S b0 + x2 := by rw [sumH_append, hid, HJ.out.2.2.2.2 x0]; simp [sumH]
        rw [hsum] at hJ
        have hs0 : 0 ≤ S b0 ∧ S b0 ≤ 18014398509481984 := by
          rw [HJ.out.2.2.2.2 b0]
          have a1 := sumH_nonneg (fun x hx => (HJ.out.2.2.2.1 x hx).2.2.1) b0
          have a2 := sumH_le (M := 1125899906842624) (by decide) (fun x hx => (HJ.out.2.2.2.1 x hx).2.2.2) b0
          have a3 : ((List.take j h).length : Int) ≤ 16 := by rw [List.length_take]; have := HH.out; omega
          omega
        have hbr := HRB.out.2.1 b (findB_some hf).1
        unfold okB at hbr
        have hxr := HOK.out
        unfold okH at hxr
        simp only at hxr
        have WFB := Aside0.mk (wf_i64 (x := b0) (by omega) (by omega))
        have WFV := Aside0.mk (wf_i64 (x := S b0 + x2) (by omega) (by omega))
        have vs : IntKind.i64.wrap (S b0 + x2) = S b0 + x2 := by rw [i64_w]; exact w64_ (by omega) (by omega)
        have HS' := Aside0.mk (fun (id : Int) => show (if id = b0 then S b0 + x2 else S id) = sumH (h.take (j + 1)) id from by
          rw [HTK.out, sumH_append]
          by_cases e : id = b0
          · rw [if_pos e, e, HJ.out.2.2.2.2 b0]; simp [sumH, hid]
          · rw [if_neg e, HJ.out.2.2.2.2 id, show sumH [(⟨x0, x1, x2⟩ : S35)] id = 0 from by rw [sumH, if_neg (fun e2 => e (e2.symm.trans hid.symm))]; rfl, Int.add_zero])
        have HHID := Aside0.mk hid
        have HME := Aside0.mk (⟨hf, e3'⟩ : _ ∧ _)
        clear hs0 hbr hxr hsum hf e0' e1' e2' e3' m3 hid
        obtain ⟨s0, hs0⟩ : ∃ s0, s0 = S b0 := ⟨_, rfl⟩
        rw [← hs0] at WFV vs HS' hJ
        have HS0 := Aside0.mk hs0
        clear hs0
        by_cases m4 : b3 < s0 + x2
        case pos =>
          rw [if_pos m4] at hJ
          simp only [Prod.mk.injEq] at hJ
          obtain ⟨rfl, rfl⟩ := hJ
          have m4b : decide (b3 < s0 + x2) = true := decide_eq_true m4
          clear m4
          go_wp2_with (first
            | ((with_reducible refine gate_dst (N := 10) rfl ?_); refine box_event ?hg (N := 10) ?hd (cs := #[.int .i64 0, .int .i64 0, .int .i64 0]) (t := 35) ?hr ?_; (case hd => rfl); (case hg => rfl); (case hr => first | (go_simp; done) | (go_simp; rfl)); intro g10 hg wy hbox hb5; have hc0 : wy.cell? ⟨g10, 0, none⟩ = some (.int .i64 0) := blk_cell hbox 0; have hf0 := blk_frozen hbox 0; have hc1 : wy.cell? ⟨g10, 1, none⟩ = some (.int .i64 0) := blk_cell hbox 1; have hf1 := blk_frozen hbox 1; have hc2 : wy.cell? ⟨g10, 2, none⟩ = some (.int .i64 0) := blk_cell hbox 2; have hf2 := blk_frozen hbox 2; replace hbox := Aside0.mk hbox; replace hb5 := Aside0.mk hb5; replace hg := Aside0.mk hg)
            | ((with_reducible refine gate_store (t := 35) (p := 10) rfl ?_); refine store_event (t := 35) (p := 10) (v := .tmp 30) (w1 := (((wy.setCell ⟨g10, 0, none⟩ (.int .i64 x0)).setCell ⟨g10, 1, none⟩ (.int .i64 x1)).setCell ⟨g10, 2, none⟩ (.int .i64 x2))) ?hg ?ho ?hn ?hr ?_; (case ho => rfl); (case hg => rfl); (case hn => rfl); (case hr => first | (go_simp; done) | (go_simp; rfl)); intro wz hw6; clear hc0 hf0 hc1 hf1 hc2 hf2; have hbx := box3_ (x := .int .i64 x0) (y := .int .i64 x1) (z := .int .i64 x2) hb5.out hg.out hbox.out; rw [← hw6] at hbx; clear hw6 hb5 hg hbox; obtain ⟨hb, hk6⟩ := hbx; replace HM := Aside0.mk (HM.out.below hb); replace HB := Aside0.mk (below_step HB.out hb); have d0 : wz.cell? ⟨g10, 0, none⟩ = some (.int .i64 x0) := blk_cell hk6 0; have d1 : wz.cell? ⟨g10, 1, none⟩ = some (.int .i64 x1) := blk_cell hk6 1; have d2 : wz.cell? ⟨g10, 2, none⟩ = some (.int .i64 x2) := blk_cell hk6 2; clear h1 h2 h3; clear hb hk6)
            | (go_at_call 39; refine (HFI.out _ HB.out).mono ?_; rintro e' wz ⟨rfl, hb⟩; replace HM := Aside0.mk (HM.out.below hb); replace HB := Aside0.mk (below_step HB.out hb); replace d0 := pw_cell_below hb d0; replace d1 := pw_cell_below hb d1; replace d2 := pw_cell_below hb d2; clear hb)
            | ((with_reducible refine gate_dst (N := 11) rfl ?_); refine box_event ?hg (N := 11) ?hd (cs := #[.int .i64 0, .int .i64 0, .int .i64 0, .int .i64 0]) (t := 31) ?hr ?_; (case hd => rfl); (case hg => rfl); (case hr => first | (go_simp; done) | (go_simp; rfl)); intro g11 hg wy hbox hb5; have hc0 : wy.cell? ⟨g11, 0, none⟩ = some (.int .i64 0) := blk_cell hbox 0; have hf0 := blk_frozen hbox 0; have hc1 : wy.cell? ⟨g11, 1, none⟩ = some (.int .i64 0) := blk_cell hbox 1; have hf1 := blk_frozen hbox 1; have hc2 : wy.cell? ⟨g11, 2, none⟩ = some (.int .i64 0) := blk_cell hbox 2; have hf2 := blk_frozen hbox 2; have hc3 : wy.cell? ⟨g11, 3, none⟩ = some (.int .i64 0) := blk_cell hbox 3; have hf3 := blk_frozen hbox 3; replace hbox := Aside0.mk hbox; replace hb5 := Aside0.mk hb5; replace hg := Aside0.mk hg)
            | ((with_reducible refine gate_store (t := 31) (p := 11) rfl ?_); refine store_event (t := 31) (p := 11) (v := .tmp 36) (w1 := ((((wy.setCell ⟨g11, 0, none⟩ (.int .i64 b0)).setCell ⟨g11, 1, none⟩ (.int .i64 b1')).setCell ⟨g11, 2, none⟩ (.int .i64 b2')).setCell ⟨g11, 3, none⟩ (.int .i64 b3))) ?hg ?ho ?hn ?hr ?_; (case ho => rfl); (case hg => rfl); (case hn => rfl); (case hr => first | (go_simp; done) | (go_simp; rfl)); intro wz hw6; clear hc0 hf0 hc1 hf1 hc2 hf2 hc3 hf3; have hbx := box4_ (x := .int .i64 b0) (y := .int .i64 b1') (z := .int .i64 b2') (u := .int .i64 b3) hb5.out hg.out hbox.out; rw [← hw6] at hbx; clear hw6 hb5 hg hbox; obtain ⟨hb, hk6⟩ := hbx; replace HM := Aside0.mk (HM.out.below hb); replace HB := Aside0.mk (below_step HB.out hb); replace d0 := pw_cell_below hb d0; replace d1 := pw_cell_below hb d1; replace d2 := pw_cell_below hb d2; have e0 : wz.cell? ⟨g11, 0, none⟩ = some (.int .i64 b0) := blk_cell hk6 0; have e3 : wz.cell? ⟨g11, 3, none⟩ = some (.int .i64 b3) := blk_cell hk6 3; clear hb hk6)
            | (go_at_call 37; refine (HW1.out _).mono ?_; rintro e' wz ⟨rfl, hd⟩; have hb := hd.below; replace HM := Aside0.mk (HM.out.below hb); replace HB := Aside0.mk (below_step HB.out hb); replace d0 := pw_cell_below hb d0; replace d1 := pw_cell_below hb d1; replace d2 := pw_cell_below hb d2; replace e0 := pw_cell_below hb e0; replace e3 := pw_cell_below hb e3; clear hb hd HW1)
            | (go_at_call 37; refine (HW2.out _).mono ?_; rintro e' wz ⟨rfl, hd⟩; have hb := hd.below; replace HM := Aside0.mk (HM.out.below hb); replace HB := Aside0.mk (below_step HB.out hb); replace d0 := pw_cell_below hb d0; replace d1 := pw_cell_below hb d1; replace d2 := pw_cell_below hb d2; replace e0 := pw_cell_below hb e0; replace e3 := pw_cell_below hb e3; clear hb hd HW2))
          go_cut [50] (fun v50 wq => v50 = .bool false ∧ Aside0 (wq = wz.drew))
          case first =>
            go_region
            all_goals go_wp2
            all_goals go_meet
            all_goals exact ⟨rfl, ⟨rfl⟩⟩
          obtain ⟨rfl, HWD⟩ := hcut
          have hWD := HWD.out
          subst hWD
          replace HB := Aside0.mk (below_drew1 HB.out)
          replace HM := Aside0.mk (HM.out.below (below_drew1 (Below.refl _ _)))
          replace d0 : wz.drew.cell? _ = _ := d0
          replace d2 : wz.drew.cell? _ = _ := d2
          replace e0 : wz.drew.cell? _ = _ := e0
          replace e3 : wz.drew.cell? _ = _ := e3
          clear HWD d1
          have mb10 := Aside0.mk (show g10 ≠ mb from fun e => by subst e; exact map_not_cell HM.out d0)
          have mb11 := Aside0.mk (show g11 ≠ mb from fun e => by subst e; exact map_not_cell HM.out e0)
          have NEM := Aside0.mk (fun (g : Nat) (hn : g ≠ mb) => (show some g ≠ some mb from fun e => hn (Option.some.inj e)))
          have hlk := HM.out.lookup WFB.out
          rw [← HS0.out] at hlk
          go_wp2_with (first | (at_mapUpdate; refine wpList_mapUpdate_sum _ rfl _ _ _ rfl mb j S rfl HM.out (small_max (by have := HJ.out; have := HH.out; omega)) b0 (s0 + x2) WFB.out WFV.out rfl rfl ?_; intro w7 hM7 hg7; clear hlk; have hlk := hM7.lookup WFB.out; rw [if_pos rfl] at hlk; replace d0 := pw_cell_grown hg7 (NEM.out g10 mb10.out) d0; replace e0 := pw_cell_grown hg7 (NEM.out g11 mb11.out) e0; replace e3 := pw_cell_grown hg7 (NEM.out g11 mb11.out) e3; replace HB := Aside0.mk (HB.out.grown hg7 HB.out.size (fun k hk => by cases hk; exact HMB.out)); clear HM hg7; replace HM := Aside0.mk hM7; clear hM7))
          go_ret2
          exact ⟨rfl, HB.out⟩
        case neg =>
          rw [if_neg m4] at hJ
          have m4b : decide (b3 < s0 + x2) = false := decide_eq_false m4
          have HJ2 := Aside0.mk hJ
          clear m4 hJ
          go_wp2_with (first
            | ((with_reducible refine gate_dst (N := 10) rfl ?_); refine box_event ?hg (N := 10) ?hd (cs := #[.int .i64 0, .int .i64 0, .int .i64 0]) (t := 35) ?hr ?_; (case hd => rfl); (case hg => rfl); (case hr => first | (go_simp; done) | (go_simp; rfl)); intro g10 hg wy hbox hb5; have hc0 : wy.cell? ⟨g10, 0, none⟩ = some (.int .i64 0) := blk_cell hbox 0; have hf0 := blk_frozen hbox 0; have hc1 : wy.cell? ⟨g10, 1, none⟩ = some (.int .i64 0) := blk_cell hbox 1; have hf1 := blk_frozen hbox 1; have hc2 : wy.cell? ⟨g10, 2, none⟩ = some (.int .i64 0) := blk_cell hbox 2; have hf2 := blk_frozen hbox 2; replace hbox := Aside0.mk hbox; replace hb5 := Aside0.mk hb5; replace hg := Aside0.mk hg)
            | ((with_reducible refine gate_store (t := 35) (p := 10) rfl ?_); refine store_event (t := 35) (p := 10) (v := .tmp 30) (w1 := (((wy.setCell ⟨g10, 0, none⟩ (.int .i64 x0)).setCell ⟨g10, 1, none⟩ (.int .i64 x1)).setCell ⟨g10, 2, none⟩ (.int .i64 x2))) ?hg ?ho ?hn ?hr ?_; (case ho => rfl); (case hg => rfl); (case hn => rfl); (case hr => first | (go_simp; done) | (go_simp; rfl)); intro wz hw6; clear hc0 hf0 hc1 hf1 hc2 hf2; have hbx := box3_ (x := .int .i64 x0) (y := .int .i64 x1) (z := .int .i64 x2) hb5.out hg.out hbox.out; rw [← hw6] at hbx; clear hw6 hb5 hg hbox; obtain ⟨hb, hk6⟩ := hbx; replace HM := Aside0.mk (HM.out.below hb); replace HB := Aside0.mk (below_step HB.out hb); have d0 : wz.cell? ⟨g10, 0, none⟩ = some (.int .i64 x0) := blk_cell hk6 0; have d1 : wz.cell? ⟨g10, 1, none⟩ = some (.int .i64 x1) := blk_cell hk6 1; have d2 : wz.cell? ⟨g10, 2, none⟩ = some (.int .i64 x2) := blk_cell hk6 2; clear h1 h2 h3; clear hb hk6)
            | (go_at_call 39; refine (HFI.out _ HB.out).mono ?_; rintro e' wz ⟨rfl, hb⟩; replace HM := Aside0.mk (HM.out.below hb); replace HB := Aside0.mk (below_step HB.out hb); replace d0 := pw_cell_below hb d0; replace d1 := pw_cell_below hb d1; replace d2 := pw_cell_below hb d2; clear hb)
            | ((with_reducible refine gate_dst (N := 11) rfl ?_); refine box_event ?hg (N := 11) ?hd (cs := #[.int .i64 0, .int .i64 0, .int .i64 0, .int .i64 0]) (t := 31) ?hr ?_; (case hd => rfl); (case hg => rfl); (case hr => first | (go_simp; done) | (go_simp; rfl)); intro g11 hg wy hbox hb5; have hc0 : wy.cell? ⟨g11, 0, none⟩ = some (.int .i64 0) := blk_cell hbox 0; have hf0 := blk_frozen hbox 0; have hc1 : wy.cell? ⟨g11, 1, none⟩ = some (.int .i64 0) := blk_cell hbox 1; have hf1 := blk_frozen hbox 1; have hc2 : wy.cell? ⟨g11, 2, none⟩ = some (.int .i64 0) := blk_cell hbox 2; have hf2 := blk_frozen hbox 2; have hc3 : wy.cell? ⟨g11, 3, none⟩ = some (.int .i64 0) := blk_cell hbox 3; have hf3 := blk_frozen hbox 3; replace hbox := Aside0.mk hbox; replace hb5 := Aside0.mk hb5; replace hg := Aside0.mk hg)
            | ((with_reducible refine gate_store (t := 31) (p := 11) rfl ?_); refine store_event (t := 31) (p := 11) (v := .tmp 36) (w1 := ((((wy.setCell ⟨g11, 0, none⟩ (.int .i64 b0)).setCell ⟨g11, 1, none⟩ (.int .i64 b1')).setCell ⟨g11, 2, none⟩ (.int .i64 b2')).setCell ⟨g11, 3, none⟩ (.int .i64 b3))) ?hg ?ho ?hn ?hr ?_; (case ho => rfl); (case hg => rfl); (case hn => rfl); (case hr => first | (go_simp; done) | (go_simp; rfl)); intro wz hw6; clear hc0 hf0 hc1 hf1 hc2 hf2 hc3 hf3; have hbx := box4_ (x := .int .i64 b0) (y := .int .i64 b1') (z := .int .i64 b2') (u := .int .i64 b3) hb5.out hg.out hbox.out; rw [← hw6] at hbx; clear hw6 hb5 hg hbox; obtain ⟨hb, hk6⟩ := hbx; replace HM := Aside0.mk (HM.out.below hb); replace HB := Aside0.mk (below_step HB.out hb); replace d0 := pw_cell_below hb d0; replace d1 := pw_cell_below hb d1; replace d2 := pw_cell_below hb d2; have e0 : wz.cell? ⟨g11, 0, none⟩ = some (.int .i64 b0) := blk_cell hk6 0; have e3 : wz.cell? ⟨g11, 3, none⟩ = some (.int .i64 b3) := blk_cell hk6 3; clear hb hk6)
            | (go_at_call 37; refine (HW1.out _).mono ?_; rintro e' wz ⟨rfl, hd⟩; have hb := hd.below; replace HM := Aside0.mk (HM.out.below hb); replace HB := Aside0.mk (below_step HB.out hb); replace d0 := pw_cell_below hb d0; replace d1 := pw_cell_below hb d1; replace d2 := pw_cell_below hb d2; replace e0 := pw_cell_below hb e0; replace e3 := pw_cell_below hb e3; clear hb hd HW1)
            | (go_at_call 37; refine (HW2.out _).mono ?_; rintro e' wz ⟨rfl, hd⟩; have hb := hd.below; replace HM := Aside0.mk (HM.out.below hb); replace HB := Aside0.mk (below_step HB.out hb); replace d0 := pw_cell_below hb d0; replace d1 := pw_cell_below hb d1; replace d2 := pw_cell_below hb d2; replace e0 := pw_cell_below hb e0; replace e3 := pw_cell_below hb e3; clear hb hd HW2))
          go_cut [50] (fun v50 wq => v50 = .bool false ∧ Aside0 (wq = wz.drew))
          case first =>
            go_region
            all_goals go_wp2
            all_goals go_meet
            all_goals exact ⟨rfl, ⟨rfl⟩⟩
          obtain ⟨rfl, HWD⟩ := hcut
          have hWD := HWD.out
          subst hWD
          replace HB := Aside0.mk (below_drew1 HB.out)
          replace HM := Aside0.mk (HM.out.below (below_drew1 (Below.refl _ _)))
          replace d0 : wz.drew.cell? _ = _ := d0
          replace d2 : wz.drew.cell? _ = _ := d2
          replace e0 : wz.drew.cell? _ = _ := e0
          replace e3 : wz.drew.cell? _ = _ := e3
          clear HWD d1
          have mb10 := Aside0.mk (show g10 ≠ mb from fun e => by subst e; exact map_not_cell HM.out d0)
          have mb11 := Aside0.mk (show g11 ≠ mb from fun e => by subst e; exact map_not_cell HM.out e0)
          have NEM := Aside0.mk (fun (g : Nat) (hn : g ≠ mb) => (show some g ≠ some mb from fun e => hn (Option.some.inj e)))
          have hlk := HM.out.lookup WFB.out
          rw [← HS0.out] at hlk
          go_wp2_with (first | (at_mapUpdate; refine wpList_mapUpdate_sum _ rfl _ _ _ rfl mb j S rfl HM.out (small_max (by have := HJ.out; have := HH.out; omega)) b0 (s0 + x2) WFB.out WFV.out rfl rfl ?_; intro w7 hM7 hg7; clear hlk; have hlk := hM7.lookup WFB.out; rw [if_pos rfl] at hlk; replace d0 := pw_cell_grown hg7 (NEM.out g10 mb10.out) d0; replace e0 := pw_cell_grown hg7 (NEM.out g11 mb11.out) e0; replace e3 := pw_cell_grown hg7 (NEM.out g11 mb11.out) e3; replace HB := Aside0.mk (HB.out.grown hg7 HB.out.size (fun k hk => by cases hk; exact HMB.out)); clear HM hg7; replace HM := Aside0.mk hM7; clear hM7))
          go_roundg (h.length + 1 - (j + 1))
          case measure => have := HJ.out; have := HLT.out; omega
          case rel => exact ⟨j + 1, _, by first | rfl | (rw [HW.out.1]; rfl) | (rw [HW.out.2]; rfl), ⟨HLT.out, Nat.le_refl _, by rw [HTK.out, HPN.out]; exact HJ2.out, fun y hy => by
              rw [HTK.out] at hy
              rcases List.mem_append.1 hy with hy | hy
              · exact HJ.out.2.2.2.1 y hy
              · rw [List.mem_singleton] at hy; rw [hy]; exact HOK.out, HS'.out⟩, HM, HB⟩

end Go.Proofs.Ytdolabpkgienkaa.PF
