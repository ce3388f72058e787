/- column.balances: what it returns, and its walk. -/
import Derived.Test.YtodfjkdgfjkifaaPF0
import Derived.Test.YtodfjkdgfjkifaaPF1
import Derived.Carry
import Derived.Shelf.RegionOpenPlain
namespace Go.Proofs.Ytodfjkdgfjkifaa.PF
open Go.RowKit Go.Proofs.YtodfjkdgfjkifaaW.PrintWords Go.Proofs.YtodfjkdgfjkifaaW.PrintLast Go.Proofs.YtodfjkdgfjkifaaW.PrintMore
set_option linter.unusedVariables false
set_option linter.unusedSimpArgs false
/-- The balances behind one flow. -/
def addB (B : Nat → Int × Int) (f : S28) (q : Nat) : Int × Int :=
  ((B q).1 - (if (q : Int) = f.f0 then f.f2 else 0) + (if (q : Int) = f.f1 then f.f2 else 0), (B q).2 - (if (q : Int) = f.f0 then f.f3 else 0) + (if (q : Int) = f.f1 then f.f3 else 0))
def balL (l : List S28) : Nat → Int × Int := l.foldl addB (fun _ => (0, 0))
def updB (B : Nat → Int × Int) (k : Nat) (v : Int) (q : Nat) : Int × Int := if 2 * q = k then (v, (B q).2) else if 2 * q + 1 = k then ((B q).1, v) else B q
/-- The cells of an array of balances. -/
def cellB (B : Nat → Int × Int) (i : Nat) : Value := .int .i64 (if i % 2 = 0 then (B (i / 2)).1 else (B (i / 2)).2)
def arrB (B : Nat → Int × Int) : Array Value := ((List.range 34).map (cellB B)).toArray
theorem arrB_get (B : Nat → Int × Int) {i : Nat} (h : i < 34) : (arrB B)[i]? = some (cellB B i) := by
  unfold arrB
  simp [h]
theorem arrB_set (B : Nat → Int × Int) {k : Nat} (v : Int) : (arrB B).setIfInBounds k (.int .i64 v) = arrB (updB B k v) := by
  unfold arrB
  apply Array.ext'
  apply List.ext_getElem?
  intro i
  simp only [Array.toList_setIfInBounds, List.getElem?_set, List.length_map, List.length_range, List.getElem?_map]
  by_cases hi : k = i
  · subst hi
    by_cases hk : k < 34
    · simp only [hk, if_true, List.getElem?_range, Option.map_some]
      unfold cellB updB
      congr 2
      by_cases he : k % 2 = 0
      · rw [if_pos he, if_pos (by omega)]
      · rw [if_neg he, if_neg (by omega), if_pos (by omega)]
    · simp [hk]
  · rw [if_neg hi]
    by_cases hk : i < 34
    · simp only [hk, List.getElem?_range, Option.map_some]
      unfold cellB updB
      congr 2
      by_cases he : i % 2 = 0
      · simp only [he, if_true]
        split
        · omega
        · split <;> rfl
      · simp only [he, if_false]
        split
        · rfl
        · split
          · omega
          · rfl
    · simp [hk]
theorem arrB_size (B : Nat → Int × Int) : (arrB B).size = 34 := by unfold arrB; simp
theorem arrB_one (B : Nat → Int × Int) : (arrB B).all (·.oneCell') = true := by
  rw [Array.all_eq_true_iff_forall_mem]
  intro v hv
  unfold arrB at hv
  simp at hv
  obtain ⟨i, _, rfl⟩ := hv
  rfl
theorem below_setRow {w W : World} {g : Nat} (h : Below w.heap.size w W) (hg : w.heap.size ≤ g) (cs : Array Value) : Below w.heap.size w (W.setRow g cs) := by
  refine ⟨h.os, h.tape, h.output, by rw [size_setRow]; exact h.size, fun k hk => ?_⟩
  rw [setRow_other W g k cs (by omega)]
  exact h.block k hk
theorem arrB_zero : arrB (fun _ => (0, 0)) = #[.int .i64 0, .int .i64 0, .int .i64 0, .int .i64 0, .int .i64 0, .int .i64 0, .int .i64 0, .int .i64 0, .int .i64 0, .int .i64 0, .int .i64 0, .int .i64 0, .int .i64 0, .int .i64 0, .int .i64 0, .int .i64 0, .int .i64 0, .int .i64 0, .int .i64 0, .int .i64 0, .int .i64 0, .int .i64 0, .int .i64 0, .int .i64 0, .int .i64 0, .int .i64 0, .int .i64 0, .int .i64 0, .int .i64 0, .int .i64 0, .int .i64 0, .int .i64 0, .int .i64 0, .int .i64 0] := by rfl
theorem box4b_ {W W5 : World} {g t : Nat} {a b c d x y z u : Value} (hb : Below W.heap.size W W5) (hg : g = W.heap.size) (hbox : W5.heap[g]? = some (.cells #[a, b, c, d] t (0, 0))) :
    Below W.heap.size W ((((W5.setCell ⟨g, 0, none⟩ x).setCell ⟨g, 1, none⟩ y).setCell ⟨g, 2, none⟩ z).setCell ⟨g, 3, none⟩ u) ∧ ((((W5.setCell ⟨g, 0, none⟩ x).setCell ⟨g, 1, none⟩ y).setCell ⟨g, 2, none⟩ z).setCell ⟨g, 3, none⟩ u).heap[g]? = some (.cells #[x, y, z, u] t (0, 0)) :=
  ⟨below_set (below_set (below_set (below_set hb (Nat.le_of_eq hg.symm)) (Nat.le_of_eq hg.symm)) (Nat.le_of_eq hg.symm)) (Nat.le_of_eq hg.symm), blk_put (blk_put (blk_put (blk_put hbox 0 x rfl) 1 y rfl) 2 z rfl) 3 u rfl⟩
def BndB (B : Nat → Int × Int) (M : Int) : Prop := ∀ q, -M ≤ (B q).1 ∧ (B q).1 ≤ M ∧ -M ≤ (B q).2 ∧ (B q).2 ≤ M
theorem BndB.upd {B : Nat → Int × Int} {M M' v : Int} (h : BndB B M) (hM : M ≤ M') (k : Nat) (h0 : -M' ≤ v) (h1 : v ≤ M') : BndB (updB B k v) M' := by
  intro q
  have := h q
  unfold updB
  split
  · exact ⟨h0, h1, by omega, by omega⟩
  · split
    · exact ⟨by omega, by omega, h0, h1⟩
    · exact ⟨by omega, by omega, by omega, by omega⟩
def FlowOK (f : S28) : Prop := 0 ≤ f.f0 ∧ f.f0 ≤ 16 ∧ 0 ≤ f.f1 ∧ f.f1 ≤ 16 ∧ 0 ≤ f.f2 ∧ f.f2 ≤ 10737418240000 ∧ 0 ≤ f.f3 ∧ f.f3 ≤ 128849018880000
theorem balL_snoc (l : List S28) (f : S28) : balL (l ++ [f]) = addB (balL l) f := by
  unfold balL
  rw [List.foldl_append]
  rfl
theorem fold_bnd (l : List S28) (h : ∀ f ∈ l, FlowOK f) : ∀ (B : Nat → Int × Int) (M : Int), BndB B M → BndB (l.foldl addB B) (M + (l.length : Int) * 128849018880000) := by
  induction l with
  | nil => intro B M hB; simpa using hB
  | cons f l ih =>
    intro B M hB
    have hf := h f (by simp)
    unfold FlowOK at hf
    have h1 : BndB (addB B f) (M + 128849018880000) := by
      intro q
      have := hB q
      unfold addB
      simp only
      split <;> split <;> omega
    have := ih (fun x hx => h x (by simp [hx])) (addB B f) _ h1
    rw [List.foldl_cons, List.length_cons]
    intro q
    have := this q
    omega
theorem balL_bnd (l : List S28) (h : ∀ f ∈ l, FlowOK f) : BndB (balL l) ((l.length : Int) * 128849018880000) := by
  have := fold_bnd l h (fun _ => (0, 0)) 0 (fun q => by simp)
  intro q
  have := this q
  unfold balL
  omega
theorem updB_same0 (B : Nat → Int × Int) (k : Nat) (v : Int) : updB B (k * 2) v k = (v, (B k).2) := by unfold updB; rw [if_pos (by omega)]
theorem updB_same1 (B : Nat → Int × Int) (k : Nat) (v : Int) : updB B (k * 2 + 1) v k = ((B k).1, v) := by unfold updB; rw [if_neg (by omega), if_pos (by omega)]
theorem updB_ne0 {B : Nat → Int × Int} {k q : Nat} (v : Int) (h : q ≠ k) : updB B (k * 2) v q = B q := by unfold updB; rw [if_neg (by omega), if_neg (by omega)]
theorem updB_ne1 {B : Nat → Int × Int} {k q : Nat} (v : Int) (h : q ≠ k) : updB B (k * 2 + 1) v q = B q := by unfold updB; rw [if_neg (by omega), if_neg (by omega)]
theorem addB_upd {B B1 B2 B3 B4 : Nat → Int × Int} {f : S28} (h0 : 0 ≤ f.f0) (h1 : 0 ≤ f.f1)
    (q1 : B1 = updB B (f.f0.toNat * 2) ((B f.f0.toNat).1 - f.f2)) (q2 : B2 = updB B1 (f.f0.toNat * 2 + 1) ((B1 f.f0.toNat).2 - f.f3))
    (q3 : B3 = updB B2 (f.f1.toNat * 2) ((B2 f.f1.toNat).1 + f.f2)) (q4 : B4 = updB B3 (f.f1.toNat * 2 + 1) ((B3 f.f1.toNat).2 + f.f3)) : B4 = addB B f := by
  subst q4
  subst q3
  subst q2
  subst q1
  funext q
  obtain ⟨a, ha⟩ : ∃ a : Nat, f.f0 = a := ⟨f.f0.toNat, by omega⟩
  obtain ⟨b, hb⟩ : ∃ b : Nat, f.f1 = b := ⟨f.f1.toNat, by omega⟩
  unfold addB
  rw [ha, hb, Int.toNat_natCast, Int.toNat_natCast]
  by_cases e3 : b = a
  · subst e3
    by_cases e1 : q = b
    · subst e1
      simp only [updB_same0, updB_same1, if_true]
    · simp only [updB_ne0 _ e1, updB_ne1 _ e1]
      rw [if_neg (by omega), if_neg (by omega)]
      simp
  · by_cases e1 : q = a
    · subst e1
      have e4 : q ≠ b := fun h => e3 h.symm
      simp only [updB_ne0 _ e4, updB_ne1 _ e4, updB_same0, updB_same1, if_true]
      rw [if_neg (by omega), if_neg (by omega)]
      simp
    · by_cases e2 : q = b
      · subst e2
        simp only [updB_same0, updB_same1, updB_ne0 _ e3, updB_ne1 _ e3, if_true]
        rw [if_neg (by omega), if_neg (by omega)]
        simp
      · simp only [updB_ne0 _ e1, updB_ne1 _ e1, updB_ne0 _ e2, updB_ne1 _ e2]
        rw [if_neg (by omega), if_neg (by omega), if_neg (by omega), if_neg (by omega)]
        simp
set_option maxHeartbeats 8000000 in
set_option maxRecDepth 100000 in
theorem column_balances.known (p : Int) (A : Option Addr) (c : Nat) (l : List S28) (w : World) (hr : Kd.C k28 w A l.length l) (hc : l.length ≤ c) (hl : l.length ≤ 64)
    (hf : ∀ f ∈ l, FlowOK f) :
    Calls Try.prog 34 #[.agg #[.int .i64 p, .slice A l.length c]] w fun e w' => e = .returned (.agg (arrB (balL l))) ∧ Below w.heap.size w w' := by
  have hu1 := Try.underlying24
  have hu2 := Try.underlying28
  have hu3 := Try.underlying53
  have HR := Aside0.mk hr
  have HF := Aside0.mk hf
  have HL := Aside0.mk hl
  clear hr hc hf hl
  go_enter Try.func34, Try.ntmps34
  go_wp2_with (first | ((with_reducible refine gate_dst (N := 1) rfl ?_); refine box_event ?hg (N := 1) ?hd (cs := #[.int .i64 p, .slice A l.length c]) (t := 24) ?hr ?_; (case hd => rfl); (case hg => rfl); (case hr => first | (go_simp; done) | (go_simp; rfl)); intro gb hg w3 hbox hb; have c1 : w3.cell? ⟨gb, 1, none⟩ = some (.slice A l.length c) := blk_cell hbox 1; have BK := Aside0.mk hbox; have HB := Aside0.mk hb; have HG := Aside0.mk hg; clear hbox hb hg) | ((with_reducible refine gate_dst (N := 2) rfl ?_); refine box_event ?hg (N := 2) ?hd (cs := #[.int .i64 0, .int .i64 0, .int .i64 0, .int .i64 0, .int .i64 0, .int .i64 0, .int .i64 0, .int .i64 0, .int .i64 0, .int .i64 0, .int .i64 0, .int .i64 0, .int .i64 0, .int .i64 0, .int .i64 0, .int .i64 0, .int .i64 0, .int .i64 0, .int .i64 0, .int .i64 0, .int .i64 0, .int .i64 0, .int .i64 0, .int .i64 0, .int .i64 0, .int .i64 0, .int .i64 0, .int .i64 0, .int .i64 0, .int .i64 0, .int .i64 0, .int .i64 0, .int .i64 0, .int .i64 0]) (t := 54) ?hr ?_; (case hd => rfl); (case hg => rfl); (case hr => first | (go_simp; done) | (go_simp; rfl)); intro g2 hg w4 hbox hb; replace c1 := pw_cell_below hb c1; have HB4 := Aside0.mk (below_step HB.out hb); have H2 := Aside0.mk hbox; have HG2 := Aside0.mk (show w.heap.size ≤ g2 by rw [hg]; exact HB.out.size); clear HB; have HB := HB4; clear HB4 hbox hb hg) | ((with_reducible refine gate_dst (N := 3) rfl ?_); refine box_event ?hg (N := 3) ?hd (cs := #[.int .i64 0, .int .i64 0, .int .i64 0, .int .i64 0, .int .i64 0, .int .i64 0, .int .i64 0, .int .i64 0, .int .i64 0, .int .i64 0, .int .i64 0, .int .i64 0, .int .i64 0, .int .i64 0, .int .i64 0, .int .i64 0, .int .i64 0, .int .i64 0, .int .i64 0, .int .i64 0, .int .i64 0, .int .i64 0, .int .i64 0, .int .i64 0, .int .i64 0, .int .i64 0, .int .i64 0, .int .i64 0, .int .i64 0, .int .i64 0, .int .i64 0, .int .i64 0, .int .i64 0, .int .i64 0]) (t := 54) ?hr ?_; (case hd => rfl); (case hg => rfl); (case hr => first | (go_simp; done) | (go_simp; rfl)); intro g3 hg w5 hbox hb; replace c1 := pw_cell_below hb c1; have HB5 := Aside0.mk (below_step HB.out hb); have H2lt := blk_lt H2.out; replace H2 := Aside0.mk (blk_below H2.out hb); have H3 := Aside0.mk hbox; have HG3 := Aside0.mk (show g2 < g3 by rw [hg]; exact H2lt); clear H2lt; clear HB; have HB := HB5; clear HB5 hbox hb hg))
  rw [← arrB_zero] at H2 H3
  go_loopg [9] (l.length + 1) (fun g s9 wr => ∃ j : Int, s9 = .int .i64 j ∧ Aside0 (0 ≤ j ∧ j ≤ l.length ∧ l.length + 1 - j.toNat ≤ g) ∧ Aside0 (wr.heap[g3]? = some (.cells (arrB (balL (l.take j.toNat))) 54 (0, 0))) ∧ Aside0 (wr.heap[g2]? = some (.cells (arrB fun _ => (0, 0)) 54 (0, 0))) ∧ Aside0 (Below w.heap.size w wr))
  case atStart => exact ⟨0, rfl, ⟨by omega, by omega, Nat.le_refl _⟩, H3, H2, HB⟩
  case round =>
    clear H2 H3 HB c1
    obtain ⟨j, rfl, HJ, H3, H2, HB⟩ := hrel
    have hj0 := HJ.out.1
    by_cases hlt : j < (l.length : Int)
    case neg =>
      have hltb : decide (j < (l.length : Int)) = false := decide_eq_false hlt
      have ht : List.take j.toNat l = l := List.take_of_length_le (by have := HJ.out; omega)
      rw [ht] at H3
      have i54 : (Try.prog.info? 54).map (·.size) = some 34 := by kernel_rfl
      clear ht hlt hj0
      go_wp2_with (first
        | (refine wpList_load_row rfl 54 (.tmp 3) rfl g3 rfl 54 (arrB (balL l)) (0, 0) _ H3.out Try.underlying54 rfl (by rw [i54, arrB_size]) ?_)
        | (refine wpList_store_row rfl 54 (.tmp 2) (.tmp 54) rfl g2 (arrB (balL l)) rfl rfl 54 (arrB fun _ => (0, 0)) H2.out (by rw [i54, arrB_size]) (by rw [arrB_size, arrB_size]) (arrB_one _) ?_))
      refine bodyPost_ret (results_cell_row rfl _ _ g2 54 (arrB (balL l)) (0, 0) _ rfl (setRow_heap _ g2 _ _ _ _ H2.out) Try.underlying54 rfl (by rw [i54, arrB_size])) rfl ?_
      exact ⟨rfl, below_setRow HB.out HG2.out _⟩
    have hltb : decide (j < (l.length : Int)) = true := decide_eq_true hlt
    have hlt' : j.toNat < l.length := by omega
    have hjn : ((j.toNat : Nat) : Int) = j := by omega
    obtain ⟨ad, e, h1, h2, h3, h4⟩ := at_T28 HR.out j hj0 hlt
    cases e
    replace h1 := pw_cell_below HB.out h1
    replace h2 := pw_cell_below HB.out h2
    replace h3 := pw_cell_below HB.out h3
    replace h4 := pw_cell_below HB.out h4
    have hy := HF.out (rd_T28 l j) (by unfold rd_T28; rw [List.getD_eq_getElem?_getD, List.getElem?_eq_getElem hlt']; exact List.getElem_mem hlt')
    have hsn : balL (List.take (j.toNat + 1) l) = addB (balL (List.take j.toNat l)) (rd_T28 l j) := by
      rw [← balL_snoc, List.take_succ_eq_append_getElem hlt']
      unfold rd_T28
      rw [List.getD_eq_getElem?_getD, List.getElem?_eq_getElem hlt']
      rfl
    generalize (rd_T28 l j) = y at *
    obtain ⟨y0, y1, y2, y3⟩ := y
    simp only at h1 h2 h3 h4 hy
    have HY := Aside0.mk hy
    have HSN := Aside0.mk hsn
    clear hsn
    unfold FlowOK at hy
    simp only at hy
    have hw' : wrap64 (j + 1) = j + 1 := w64_ (by omega) (by have := HL.out; omega)
    have hw : IntKind.i64.wrap (j + 1) = j + 1 := by rw [i64_w]; exact hw'
    have p1 : (0 ≤ j) = True := eq_true hj0
    have p2 : (j < (l.length : Int)) = True := eq_true hlt
    have p3 : (0 ≤ y0) = True := eq_true hy.1
    have p4 : (y0 < 17) = True := eq_true (by omega)
    have p5 : (0 ≤ y1) = True := eq_true hy.2.2.1
    have p6 : (y1 < 17) = True := eq_true (by omega)
    have HJ0 := Aside0.mk hj0
    have HLT := Aside0.mk hlt
    clear hj0 hlt hjn hlt' hy
    go_wp2_with (first | ((with_reducible refine gate_dst (N := 5) rfl ?_); refine box_event ?hg (N := 5) ?hd (cs := #[.int .i64 0, .int .i64 0, .int .i64 0, .int .i64 0]) (t := 28) ?hr ?_; (case hd => rfl); (case hg => rfl); (case hr => first | (go_simp; done) | (go_simp; rfl)); intro g5 hg w5 hbox hb5; have hc0 : w5.cell? ⟨g5, 0, none⟩ = some (.int .i64 0) := blk_cell hbox 0; have hf0 := blk_frozen hbox 0; have hc1 : w5.cell? ⟨g5, 1, none⟩ = some (.int .i64 0) := blk_cell hbox 1; have hf1 := blk_frozen hbox 1; have hc2 : w5.cell? ⟨g5, 2, none⟩ = some (.int .i64 0) := blk_cell hbox 2; have hf2 := blk_frozen hbox 2; have hc3 : w5.cell? ⟨g5, 3, none⟩ = some (.int .i64 0) := blk_cell hbox 3; have hf3 := blk_frozen hbox 3; replace hbox := Aside0.mk hbox; replace hb5 := Aside0.mk hb5; replace hg := Aside0.mk hg) | ((with_reducible refine gate_store (t := 28) (p := 5) rfl ?_); refine store_event (t := 28) (p := 5) (v := .tmp 12) (w1 := ((((w5.setCell ⟨g5, 0, none⟩ (.int .i64 y0)).setCell ⟨g5, 1, none⟩ (.int .i64 y1)).setCell ⟨g5, 2, none⟩ (.int .i64 y2)).setCell ⟨g5, 3, none⟩ (.int .i64 y3))) ?hg ?ho ?hn ?hr ?_; (case ho => rfl); (case hg => rfl); (case hn => rfl); (case hr => first | (go_simp; done) | (go_simp; rfl)); intro w6 hw6; clear hc0 hf0 hc1 hf1 hc2 hf2 hc3 hf3 h1 h2 h3 h4; have hbx := box4b_ (x := .int .i64 y0) (y := .int .i64 y1) (z := .int .i64 y2) (u := .int .i64 y3) hb5.out hg.out hbox.out; rw [← hw6] at hbx; clear hw6 hb5 hbox; obtain ⟨hb6, hk6⟩ := hbx; have d0 : w6.cell? ⟨g5, 0, none⟩ = some (.int .i64 y0) := blk_cell hk6 0; have d1 : w6.cell? ⟨g5, 1, none⟩ = some (.int .i64 y1) := blk_cell hk6 1; have d2 : w6.cell? ⟨g5, 2, none⟩ = some (.int .i64 y2) := blk_cell hk6 2; have d3 : w6.cell? ⟨g5, 3, none⟩ = some (.int .i64 y3) := blk_cell hk6 3; have HG5 := Aside0.mk (show g3 < g5 by rw [hg.out]; exact blk_lt H3.out); clear hg; have K5 := Aside0.mk hk6; replace H3 := Aside0.mk (blk_below H3.out hb6); replace H2 := Aside0.mk (blk_below H2.out hb6); replace HB := Aside0.mk (below_step HB.out hb6); clear hb6 hk6))
    have hBb0 := balL_bnd (List.take j.toNat l) (fun f hf => HF.out f (List.mem_of_mem_take hf))
    replace hBb0 : BndB (balL (List.take j.toNat l)) 8246337208320000 := fun q => by
      have := hBb0 q
      have := HL.out
      have : ((List.take j.toNat l).length : Int) ≤ 64 := by rw [List.length_take]; omega
      have : ((List.take j.toNat l).length : Int) * 128849018880000 ≤ 8246337208320000 := by omega
      omega
    obtain ⟨B0, hB0⟩ : ∃ B0, B0 = balL (List.take j.toNat l) := ⟨_, rfl⟩
    rw [← hB0] at hBb0 H3
    have HBE0 := Aside0.mk hB0
    clear hB0
    have q0 := hBb0 y0.toNat
    have w0 : IntKind.i64.wrap ((B0 y0.toNat).1 - y2) = (B0 y0.toNat).1 - y2 := by rw [i64_w]; exact w64_ (by have := HY.out; unfold FlowOK at this; simp only at this; omega) (by have := HY.out; unfold FlowOK at this; simp only at this; omega)
    have hBb1 := hBb0.upd (M' := 8375186227200000) (by omega) (y0.toNat * 2) (v := (B0 y0.toNat).1 - y2) (by have := HY.out; unfold FlowOK at this; simp only at this; omega) (by have := HY.out; unfold FlowOK at this; simp only at this; omega)
    have e0 : w6.cell? ⟨g3, y0.toNat * 2, none⟩ = some (.int .i64 (B0 y0.toNat).1) := by
      rw [blk_cell H3.out, arrB_get _ (by have := HY.out; unfold FlowOK at this; simp only at this; omega)]
      unfold cellB
      rw [if_pos (by omega), show (y0.toNat * 2) / 2 = y0.toNat by omega]
    have ef0 : w6.frozen? ⟨g3, y0.toNat * 2, none⟩ = false := blk_frozen H3.out _
    clear q0
    obtain ⟨v0, hv0⟩ : ∃ v0, v0 = (B0 y0.toNat).1 := ⟨_, rfl⟩
    rw [← hv0] at w0 e0
    have HV0 := Aside0.mk hv0
    clear hv0
    refine pw_still_tail 10 (by kernel_rfl) (by kernel_rfl) ?_
    simp only [List.take_succ_cons, List.take_zero, List.drop_succ_cons, List.drop_zero]
    replace HB := Aside0.mk (pw_below_drewN HB.out 1)
    replace d0 := pw_cell_drewN d0 1
    replace d1 := pw_cell_drewN d1 1
    replace d2 := pw_cell_drewN d2 1
    replace d3 := pw_cell_drewN d3 1
    replace e0 := pw_cell_drewN e0 1
    replace ef0 : (w6.drewN 1).frozen? ⟨g3, y0.toNat * 2, none⟩ = false := ef0
    replace H3 := Aside0.mk (blk_drewN H3.out 1)
    replace H2 := Aside0.mk (blk_drewN H2.out 1)
    replace K5 := Aside0.mk (blk_drewN K5.out 1)
    generalize w6.drewN 1 = w7 at *
    repeat still_step
    refine wpStill_nil ?_
    go_wp2_with fail
    obtain ⟨w8_0, hw8⟩ : ∃ w8, w8 = w7.setCell ⟨g3, y0.toNat * 2, none⟩ (.int .i64 (v0 - y2)) := ⟨_, rfl⟩
    rw [← hw8]
    rw [HV0.out] at hw8
    clear e0 ef0 d0 d1 d2 d3 w0
    replace HB := Aside0.mk (show Below w.heap.size w w8_0 by rw [hw8]; exact below_set HB.out (by have := HG2.out; have := HG3.out; omega))
    replace H3 := Aside0.mk (show w8_0.heap[g3]? = some (.cells (arrB (updB B0 (y0.toNat * 2) ((B0 y0.toNat).1 - y2))) 54 (0, 0)) by rw [hw8, blk_set H3.out, arrB_set])
    replace H2 := Aside0.mk (show w8_0.heap[g2]? = some (.cells (arrB fun _ => (0, 0)) 54 (0, 0)) by rw [hw8]; exact blk_far H2.out (by show g2 ≠ g3; have := HG3.out; omega) _)
    replace K5 := Aside0.mk (show w8_0.heap[g5]? = some (.cells #[.int .i64 y0, .int .i64 y1, .int .i64 y2, .int .i64 y3] 28 (0, 0)) by rw [hw8]; exact blk_far K5.out (by show g5 ≠ g3; have := HG5.out; omega) _)
    clear hw8 w7
    have d0 : w8_0.cell? ⟨g5, 0, none⟩ = some (.int .i64 y0) := blk_cell K5.out 0
    have d1 : w8_0.cell? ⟨g5, 1, none⟩ = some (.int .i64 y1) := blk_cell K5.out 1
    have d2 : w8_0.cell? ⟨g5, 2, none⟩ = some (.int .i64 y2) := blk_cell K5.out 2
    have d3 : w8_0.cell? ⟨g5, 3, none⟩ = some (.int .i64 y3) := blk_cell K5.out 3
    clear HV0
    obtain ⟨B1, hB1⟩ : ∃ B1, B1 = updB B0 (y0.toNat * 2) ((B0 y0.toNat).1 - y2) := ⟨_, rfl⟩
    rw [← hB1] at hBb1 H3
    have HBE1 := Aside0.mk hB1
    clear hB1 hBb0
    have q1 := hBb1 y0.toNat
    have w1 : IntKind.i64.wrap ((B1 y0.toNat).2 - y3) = (B1 y0.toNat).2 - y3 := by rw [i64_w]; exact w64_ (by have := HY.out; unfold FlowOK at this; simp only at this; omega) (by have := HY.out; unfold FlowOK at this; simp only at this; omega)
    have hBb2 := hBb1.upd (M' := 8504035246080000) (by omega) (y0.toNat * 2 + 1) (v := (B1 y0.toNat).2 - y3) (by have := HY.out; unfold FlowOK at this; simp only at this; omega) (by have := HY.out; unfold FlowOK at this; simp only at this; omega)
    have e1 : w8_0.cell? ⟨g3, y0.toNat * 2 + 1, none⟩ = some (.int .i64 (B1 y0.toNat).2) := by
      rw [blk_cell H3.out, arrB_get _ (by have := HY.out; unfold FlowOK at this; simp only at this; omega)]
      unfold cellB
      rw [if_neg (by omega), show (y0.toNat * 2 + 1) / 2 = y0.toNat by omega]
    have ef1 : w8_0.frozen? ⟨g3, y0.toNat * 2 + 1, none⟩ = false := blk_frozen H3.out _
    clear q1
    obtain ⟨v1, hv1⟩ : ∃ v1, v1 = (B1 y0.toNat).2 := ⟨_, rfl⟩
    rw [← hv1] at w1 e1
    have HV1 := Aside0.mk hv1
    clear hv1
    refine pw_still_tail 10 (by kernel_rfl) (by kernel_rfl) ?_
    simp only [List.take_succ_cons, List.take_zero, List.drop_succ_cons, List.drop_zero]
    replace HB := Aside0.mk (pw_below_drewN HB.out 1)
    replace d0 := pw_cell_drewN d0 1
    replace d1 := pw_cell_drewN d1 1
    replace d2 := pw_cell_drewN d2 1
    replace d3 := pw_cell_drewN d3 1
    replace e1 := pw_cell_drewN e1 1
    replace ef1 : (w8_0.drewN 1).frozen? ⟨g3, y0.toNat * 2 + 1, none⟩ = false := ef1
    replace H3 := Aside0.mk (blk_drewN H3.out 1)
    replace H2 := Aside0.mk (blk_drewN H2.out 1)
    replace K5 := Aside0.mk (blk_drewN K5.out 1)
    generalize w8_0.drewN 1 = w7 at *
    repeat still_step
    refine wpStill_nil ?_
    go_wp2_with fail
    obtain ⟨w8_1, hw8⟩ : ∃ w8, w8 = w7.setCell ⟨g3, y0.toNat * 2 + 1, none⟩ (.int .i64 (v1 - y3)) := ⟨_, rfl⟩
    rw [← hw8]
    rw [HV1.out] at hw8
    clear e1 ef1 d0 d1 d2 d3 w1
    replace HB := Aside0.mk (show Below w.heap.size w w8_1 by rw [hw8]; exact below_set HB.out (by have := HG2.out; have := HG3.out; omega))
    replace H3 := Aside0.mk (show w8_1.heap[g3]? = some (.cells (arrB (updB B1 (y0.toNat * 2 + 1) ((B1 y0.toNat).2 - y3))) 54 (0, 0)) by rw [hw8, blk_set H3.out, arrB_set])
    replace H2 := Aside0.mk (show w8_1.heap[g2]? = some (.cells (arrB fun _ => (0, 0)) 54 (0, 0)) by rw [hw8]; exact blk_far H2.out (by show g2 ≠ g3; have := HG3.out; omega) _)
    replace K5 := Aside0.mk (show w8_1.heap[g5]? = some (.cells #[.int .i64 y0, .int .i64 y1, .int .i64 y2, .int .i64 y3] 28 (0, 0)) by rw [hw8]; exact blk_far K5.out (by show g5 ≠ g3; have := HG5.out; omega) _)
    clear hw8 w7
    have d0 : w8_1.cell? ⟨g5, 0, none⟩ = some (.int .i64 y0) := blk_cell K5.out 0
    have d1 : w8_1.cell? ⟨g5, 1, none⟩ = some (.int .i64 y1) := blk_cell K5.out 1
    have d2 : w8_1.cell? ⟨g5, 2, none⟩ = some (.int .i64 y2) := blk_cell K5.out 2
    have d3 : w8_1.cell? ⟨g5, 3, none⟩ = some (.int .i64 y3) := blk_cell K5.out 3
    clear HV1
    obtain ⟨B2, hB2⟩ : ∃ B2, B2 = updB B1 (y0.toNat * 2 + 1) ((B1 y0.toNat).2 - y3) := ⟨_, rfl⟩
    rw [← hB2] at hBb2 H3
    have HBE2 := Aside0.mk hB2
    clear hB2 hBb1
    have q2 := hBb2 y1.toNat
    have w2 : IntKind.i64.wrap ((B2 y1.toNat).1 + y2) = (B2 y1.toNat).1 + y2 := by rw [i64_w]; exact w64_ (by have := HY.out; unfold FlowOK at this; simp only at this; omega) (by have := HY.out; unfold FlowOK at this; simp only at this; omega)
    have hBb3 := hBb2.upd (M' := 8632884264960000) (by omega) (y1.toNat * 2) (v := (B2 y1.toNat).1 + y2) (by have := HY.out; unfold FlowOK at this; simp only at this; omega) (by have := HY.out; unfold FlowOK at this; simp only at this; omega)
    have e2 : w8_1.cell? ⟨g3, y1.toNat * 2, none⟩ = some (.int .i64 (B2 y1.toNat).1) := by
      rw [blk_cell H3.out, arrB_get _ (by have := HY.out; unfold FlowOK at this; simp only at this; omega)]
      unfold cellB
      rw [if_pos (by omega), show (y1.toNat * 2) / 2 = y1.toNat by omega]
    have ef2 : w8_1.frozen? ⟨g3, y1.toNat * 2, none⟩ = false := blk_frozen H3.out _
    clear q2
    obtain ⟨v2, hv2⟩ : ∃ v2, v2 = (B2 y1.toNat).1 := ⟨_, rfl⟩
    rw [← hv2] at w2 e2
    have HV2 := Aside0.mk hv2
    clear hv2
    refine pw_still_tail 10 (by kernel_rfl) (by kernel_rfl) ?_
    simp only [List.take_succ_cons, List.take_zero, List.drop_succ_cons, List.drop_zero]
    replace HB := Aside0.mk (pw_below_drewN HB.out 1)
    replace d0 := pw_cell_drewN d0 1
    replace d1 := pw_cell_drewN d1 1
    replace d2 := pw_cell_drewN d2 1
    replace d3 := pw_cell_drewN d3 1
    replace e2 := pw_cell_drewN e2 1
    replace ef2 : (w8_1.drewN 1).frozen? ⟨g3, y1.toNat * 2, none⟩ = false := ef2
    replace H3 := Aside0.mk (blk_drewN H3.out 1)
    replace H2 := Aside0.mk (blk_drewN H2.out 1)
    replace K5 := Aside0.mk (blk_drewN K5.out 1)
    generalize w8_1.drewN 1 = w7 at *
    repeat still_step
    refine wpStill_nil ?_
    go_wp2_with fail
    obtain ⟨w8_2, hw8⟩ : ∃ w8, w8 = w7.setCell ⟨g3, y1.toNat * 2, none⟩ (.int .i64 (v2 + y2)) := ⟨_, rfl⟩
    rw [← hw8]
    rw [HV2.out] at hw8
    clear e2 ef2 d0 d1 d2 d3 w2
    replace HB := Aside0.mk (show Below w.heap.size w w8_2 by rw [hw8]; exact below_set HB.out (by have := HG2.out; have := HG3.out; omega))
    replace H3 := Aside0.mk (show w8_2.heap[g3]? = some (.cells (arrB (updB B2 (y1.toNat * 2) ((B2 y1.toNat).1 + y2))) 54 (0, 0)) by rw [hw8, blk_set H3.out, arrB_set])
    replace H2 := Aside0.mk (show w8_2.heap[g2]? = some (.cells (arrB fun _ => (0, 0)) 54 (0, 0)) by rw [hw8]; exact blk_far H2.out (by show g2 ≠ g3; have := HG3.out; omega) _)
    replace K5 := Aside0.mk (show w8_2.heap[g5]? = some (.cells #[.int .i64 y0, .int .i64 y1, .int .i64 y2, .int .i64 y3] 28 (0, 0)) by rw [hw8]; exact blk_far K5.out (by show g5 ≠ g3; have := HG5.out; omega) _)
    clear hw8 w7
    have d0 : w8_2.cell? ⟨g5, 0, none⟩ = some (.int .i64 y0) := blk_cell K5.out 0
    have d1 : w8_2.cell? ⟨g5, 1, none⟩ = some (.int .i64 y1) := blk_cell K5.out 1
    have d2 : w8_2.cell? ⟨g5, 2, none⟩ = some (.int .i64 y2) := blk_cell K5.out 2
    have d3 : w8_2.cell? ⟨g5, 3, none⟩ = some (.int .i64 y3) := blk_cell K5.out 3
    clear HV2
    obtain ⟨B3, hB3⟩ : ∃ B3, B3 = updB B2 (y1.toNat * 2) ((B2 y1.toNat).1 + y2) := ⟨_, rfl⟩
    rw [← hB3] at hBb3 H3
    have HBE3 := Aside0.mk hB3
    clear hB3 hBb2
    have q3 := hBb3 y1.toNat
    have w3 : IntKind.i64.wrap ((B3 y1.toNat).2 + y3) = (B3 y1.toNat).2 + y3 := by rw [i64_w]; exact w64_ (by have := HY.out; unfold FlowOK at this; simp only at this; omega) (by have := HY.out; unfold FlowOK at this; simp only at this; omega)
    have hBb4 := hBb3.upd (M' := 8761733283840000) (by omega) (y1.toNat * 2 + 1) (v := (B3 y1.toNat).2 + y3) (by have := HY.out; unfold FlowOK at this; simp only at this; omega) (by have := HY.out; unfold FlowOK at this; simp only at this; omega)
    have e3 : w8_2.cell? ⟨g3, y1.toNat * 2 + 1, none⟩ = some (.int .i64 (B3 y1.toNat).2) := by
      rw [blk_cell H3.out, arrB_get _ (by have := HY.out; unfold FlowOK at this; simp only at this; omega)]
      unfold cellB
      rw [if_neg (by omega), show (y1.toNat * 2 + 1) / 2 = y1.toNat by omega]
    have ef3 : w8_2.frozen? ⟨g3, y1.toNat * 2 + 1, none⟩ = false := blk_frozen H3.out _
    clear q3
    obtain ⟨v3, hv3⟩ : ∃ v3, v3 = (B3 y1.toNat).2 := ⟨_, rfl⟩
    rw [← hv3] at w3 e3
    have HV3 := Aside0.mk hv3
    clear hv3
    refine pw_still_tail 10 (by kernel_rfl) (by kernel_rfl) ?_
    simp only [List.take_succ_cons, List.take_zero, List.drop_succ_cons, List.drop_zero]
    replace HB := Aside0.mk (pw_below_drewN HB.out 1)
    replace d0 := pw_cell_drewN d0 1
    replace d1 := pw_cell_drewN d1 1
    replace d2 := pw_cell_drewN d2 1
    replace d3 := pw_cell_drewN d3 1
    replace e3 := pw_cell_drewN e3 1
    replace ef3 : (w8_2.drewN 1).frozen? ⟨g3, y1.toNat * 2 + 1, none⟩ = false := ef3
    replace H3 := Aside0.mk (blk_drewN H3.out 1)
    replace H2 := Aside0.mk (blk_drewN H2.out 1)
    replace K5 := Aside0.mk (blk_drewN K5.out 1)
    generalize w8_2.drewN 1 = w7 at *
    repeat still_step
    refine wpStill_nil ?_
    go_wp2_with fail
    obtain ⟨w8_3, hw8⟩ : ∃ w8, w8 = w7.setCell ⟨g3, y1.toNat * 2 + 1, none⟩ (.int .i64 (v3 + y3)) := ⟨_, rfl⟩
    rw [← hw8]
    rw [HV3.out] at hw8
    clear e3 ef3 d0 d1 d2 d3 w3
    replace HB := Aside0.mk (show Below w.heap.size w w8_3 by rw [hw8]; exact below_set HB.out (by have := HG2.out; have := HG3.out; omega))
    replace H3 := Aside0.mk (show w8_3.heap[g3]? = some (.cells (arrB (updB B3 (y1.toNat * 2 + 1) ((B3 y1.toNat).2 + y3))) 54 (0, 0)) by rw [hw8, blk_set H3.out, arrB_set])
    replace H2 := Aside0.mk (show w8_3.heap[g2]? = some (.cells (arrB fun _ => (0, 0)) 54 (0, 0)) by rw [hw8]; exact blk_far H2.out (by show g2 ≠ g3; have := HG3.out; omega) _)
    replace K5 := Aside0.mk (show w8_3.heap[g5]? = some (.cells #[.int .i64 y0, .int .i64 y1, .int .i64 y2, .int .i64 y3] 28 (0, 0)) by rw [hw8]; exact blk_far K5.out (by show g5 ≠ g3; have := HG5.out; omega) _)
    clear hw8 w7
    have d0 : w8_3.cell? ⟨g5, 0, none⟩ = some (.int .i64 y0) := blk_cell K5.out 0
    have d1 : w8_3.cell? ⟨g5, 1, none⟩ = some (.int .i64 y1) := blk_cell K5.out 1
    have d2 : w8_3.cell? ⟨g5, 2, none⟩ = some (.int .i64 y2) := blk_cell K5.out 2
    have d3 : w8_3.cell? ⟨g5, 3, none⟩ = some (.int .i64 y3) := blk_cell K5.out 3
    clear HV3
    obtain ⟨B4, hB4⟩ : ∃ B4, B4 = updB B3 (y1.toNat * 2 + 1) ((B3 y1.toNat).2 + y3) := ⟨_, rfl⟩
    rw [← hB4] at hBb4 H3
    have HBE4 := Aside0.mk hB4
    clear hB4 hBb3
    go_roundg (l.length + 1 - (j + 1).toNat)
    case measure => have := HJ.out; have := HLT.out; omega
    case rel =>
      have e : balL (List.take (j + 1).toNat l) = B4 := by
        rw [show (j + 1).toNat = j.toNat + 1 by have := HJ0.out; omega, HSN.out, ← HBE0.out]
        exact (addB_upd (f := ⟨y0, y1, y2, y3⟩) HY.out.1 HY.out.2.2.1 HBE1.out HBE2.out HBE3.out HBE4.out).symm
      exact ⟨j + 1, by first | rfl | rw [hw'] | rw [hw], ⟨by have := HJ0.out; omega, by have := HLT.out; omega, Nat.le_refl _⟩, ⟨by rw [e]; exact H3.out⟩, H2, HB⟩

end Go.Proofs.Ytodfjkdgfjkifaa.PF
