/- column.Check: what it returns, and its walk. -/
import Derived.Test.YtodfjkdgfjkifaaMMap36
import Derived.Test.YtodfjkdgfjkifaaPF0
import Derived.Test.YtodfjkdgfjkifaaPF1
import Derived.Maps.Own
import Derived.Maps.OwnOps
import Derived.Maps.Views
import Derived.Maps.Keyed
import Derived.Carry
namespace Go.Proofs.Ytodfjkdgfjkifaa.PF
open Go.RowKit Go.Proofs.YtodfjkdgfjkifaaW.PrintWords Go.Proofs.YtodfjkdgfjkifaaW.PrintLast Go.Proofs.YtodfjkdgfjkifaaW.PrintMore
set_option linter.unusedVariables false
set_option linter.unusedSimpArgs false
open Go.Maps (Keyed IsMap)
/-- The fault of one flow. -/
def ckv (p : Int) (f : S28) (sn : Bool) : Int :=
  if f.f0 < 0 ∨ p < f.f0 ∨ f.f1 < 0 ∨ p < f.f1 ∨ f.f2 < 0 ∨ 10737418240000 < f.f2 ∨ f.f3 < 0 ∨ 128849018880000 < f.f3 then 2
  else if f.f0 = f.f1 ∨ (0 < f.f2 ∧ f.f3 = 0) then 10 else if sn = true then 6 else 0
def ckR (p : Int) : List S28 → Int → List (Int × Int) → Int × Int
  | [], _, _ => (-1, 0)
  | f :: r, i, S => if ckv p f (decide ((f.f0, f.f1) ∈ S)) ≠ 0 then (i, ckv p f (decide ((f.f0, f.f1) ∈ S))) else ckR p r (i + 1) ((f.f0, f.f1) :: S)
def chk36 (p : Int) (l : List S28) : Int × Int := if p < 1 ∨ 16 < p then (-1, 2) else if 64 < l.length then (-1, 8) else ckR p l 0 []
theorem wf_i64 {x : Int} (h0 : -9223372036854775808 ≤ x) (h1 : x ≤ 9223372036854775807) : (Lit.int .i64 x).wf = true := by
  simp only [Lit.wf, Bool.and_eq_true, decide_eq_true_eq]
  exact ⟨h0, h1⟩
theorem small_max {n : Nat} (h : n ≤ 1000) : n < maxLen := Nat.lt_of_le_of_lt h (of_decide_eq_true (by kernel_rfl))
theorem SeenM.heap {w w' : World} {b n : Nat} {S : List (Int × Int)} (h : SeenM w b n S) (hh : w'.heap[b]? = w.heap[b]?) : SeenM w' b n S := by
  obtain ⟨D, h1, ⟨es, clock, hb, h2⟩, h3⟩ := h
  exact ⟨D, h1, ⟨es, clock, hh.trans hb, h2⟩, h3⟩
theorem SeenM.lt {w : World} {b n : Nat} {S : List (Int × Int)} (h : SeenM w b n S) : b < w.heap.size := by
  obtain ⟨D, h1, h2, h3⟩ := h
  exact h2.lt
theorem SeenM.below {w w' : World} {b n : Nat} {S : List (Int × Int)} (h : SeenM w b n S) (hb : Below w.heap.size w w') : SeenM w' b n S := h.heap (hb.block b h.lt)
theorem wpList_mapUpdate_seen (w : World) {ops : Array Oper} {rest : List Oper} {o : Oper} {a : Act} {Q : Exit → Act → World → Prop}
    (hg : o.guard = none) (m x v : Operand) (hop : o.op = Op.mapUpdate 66 m x v) (b n : Nat) (S : List (Int × Int)) (hm : a.eval m = .map (some b)) (h : SeenM w b n S) (hn : n < maxLen)
    (y0 y1 : Int) (h0 : (Lit.int .i64 y0).wf = true) (h1 : (Lit.int .i64 y1).wf = true) (hx : a.eval x = endsV y0 y1) (hv : a.eval v = .bool true)
    (hK : ∀ w', SeenM w' b (n + 1) ((y0, y1) :: S) → w.grownBy w' (some b) → wpList Try.prog ops Q rest (a.put o.dst undef) w') :
    wpList Try.prog ops Q (o :: rest) a w := by
  refine wpList_plain hg fun K' hK' => ?_
  obtain ⟨w', hrun, r1, r2⟩ := h.update hn h0 h1
  unfold Oper.wp
  simp [execOp, hop, hm, hx, hv, hrun, Result.andThen]
  exact hK' _ _ (hK w' r1 r2)
theorem box4_ {W W5 : World} {g t : Nat} {a b c d x y z u : Value} (hb : Below W.heap.size W W5) (hg : g = W.heap.size) (hbox : W5.heap[g]? = some (.cells #[a, b, c, d] t (0, 0))) :
    Below W.heap.size W ((((W5.setCell ⟨g, 0, none⟩ x).setCell ⟨g, 1, none⟩ y).setCell ⟨g, 2, none⟩ z).setCell ⟨g, 3, none⟩ u) ∧ ((((W5.setCell ⟨g, 0, none⟩ x).setCell ⟨g, 1, none⟩ y).setCell ⟨g, 2, none⟩ z).setCell ⟨g, 3, none⟩ u).heap[g]? = some (.cells #[x, y, z, u] t (0, 0)) :=
  ⟨below_set (below_set (below_set (below_set hb (Nat.le_of_eq hg.symm)) (Nat.le_of_eq hg.symm)) (Nat.le_of_eq hg.symm)) (Nat.le_of_eq hg.symm), blk_put (blk_put (blk_put (blk_put hbox 0 x rfl) 1 y rfl) 2 z rfl) 3 u rfl⟩
theorem drop_rd {l : List S28} {j : Nat} (h : j < l.length) : l.drop j = rd_T28 l (j : Int) :: l.drop (j + 1) := by
  rw [List.drop_eq_getElem_cons h]
  unfold rd_T28
  rw [Int.toNat_natCast, List.getD_eq_getElem?_getD, List.getElem?_eq_getElem h]
  rfl
set_option maxHeartbeats 8000000 in
set_option maxRecDepth 100000 in
theorem column_Check.known (p : Int) (A : Option Addr) (c : Nat) (l : List S28) (w : World) (hr : Kd.C k28 w A l.length l) (hc : l.length ≤ c) {r : Int × Int} (h : chk36 p l = r) :
    Calls Try.prog 18 #[.agg #[.int .i64 p, .slice A l.length c]] w fun e w' => e = .returned (.tuple #[.int .i64 r.1, .int .i64 r.2]) ∧ Below w.heap.size w w' := by
  have hu1 := Try.underlying24
  have hu2 := Try.underlying28
  have HR := Aside0.mk hr
  clear hr hc
  unfold chk36 at h
  by_cases q1 : p < 1
  · rw [if_pos (.inl q1)] at h
    subst h
    have b1 : decide (p < 1) = true := decide_eq_true q1
    clear q1
    go_enter Try.func18, Try.ntmps18
    go_wp2_with ((with_reducible refine gate_dst (N := 1) rfl ?_); refine box_event ?hg (N := 1) ?hd (cs := #[.int .i64 p, .slice A l.length c]) (t := 24) ?hr ?_; (case hd => rfl); (case hg => rfl); (case hr => first | (go_simp; done) | (go_simp; rfl)); intro gb hg w3 hbox hb; have c0 : w3.cell? ⟨gb, 0, none⟩ = some (.int .i64 p) := blk_cell hbox 0; have c1 : w3.cell? ⟨gb, 1, none⟩ = some (.slice A l.length c) := blk_cell hbox 1; have f0 := blk_frozen hbox 0; have f1 := blk_frozen hbox 1; have c0' := pw_cell_alloc (.map #[] 0) c0; have c1' := pw_cell_alloc (.map #[] 0) c1; have f0' := blk_frozen (blk_alloc hbox (.map #[] 0)) 0; have f1' := blk_frozen (blk_alloc hbox (.map #[] 0)) 1; have BK := Aside0.mk hbox; have HB := Aside0.mk hb; have HG := Aside0.mk hg; clear hbox hb hg)
    go_wp2
    go_ret2
    exact ⟨rfl, HB.out⟩
  by_cases q2 : 16 < p
  · rw [if_pos (.inr q2)] at h
    subst h
    have b1 : decide (p < 1) = false := decide_eq_false q1
    have b2 : decide (16 < p) = true := decide_eq_true q2
    clear q1 q2
    go_enter Try.func18, Try.ntmps18
    go_wp2_with ((with_reducible refine gate_dst (N := 1) rfl ?_); refine box_event ?hg (N := 1) ?hd (cs := #[.int .i64 p, .slice A l.length c]) (t := 24) ?hr ?_; (case hd => rfl); (case hg => rfl); (case hr => first | (go_simp; done) | (go_simp; rfl)); intro gb hg w3 hbox hb; have c0 : w3.cell? ⟨gb, 0, none⟩ = some (.int .i64 p) := blk_cell hbox 0; have c1 : w3.cell? ⟨gb, 1, none⟩ = some (.slice A l.length c) := blk_cell hbox 1; have f0 := blk_frozen hbox 0; have f1 := blk_frozen hbox 1; have c0' := pw_cell_alloc (.map #[] 0) c0; have c1' := pw_cell_alloc (.map #[] 0) c1; have f0' := blk_frozen (blk_alloc hbox (.map #[] 0)) 0; have f1' := blk_frozen (blk_alloc hbox (.map #[] 0)) 1; have BK := Aside0.mk hbox; have HB := Aside0.mk hb; have HG := Aside0.mk hg; clear hbox hb hg)
    go_wp2
    go_ret2
    exact ⟨rfl, HB.out⟩
  rw [if_neg (by omega)] at h
  have b1 : decide (p < 1) = false := decide_eq_false q1
  have b2 : decide (16 < p) = false := decide_eq_false q2
  by_cases q3 : 64 < l.length
  · rw [if_pos q3] at h
    subst h
    have b3 : decide (64 < (l.length : Int)) = true := decide_eq_true (by omega)
    have b4 : decide (64 < l.length) = true := decide_eq_true q3
    clear q1 q2 q3
    go_enter Try.func18, Try.ntmps18
    go_wp2_with ((with_reducible refine gate_dst (N := 1) rfl ?_); refine box_event ?hg (N := 1) ?hd (cs := #[.int .i64 p, .slice A l.length c]) (t := 24) ?hr ?_; (case hd => rfl); (case hg => rfl); (case hr => first | (go_simp; done) | (go_simp; rfl)); intro gb hg w3 hbox hb; have c0 : w3.cell? ⟨gb, 0, none⟩ = some (.int .i64 p) := blk_cell hbox 0; have c1 : w3.cell? ⟨gb, 1, none⟩ = some (.slice A l.length c) := blk_cell hbox 1; have f0 := blk_frozen hbox 0; have f1 := blk_frozen hbox 1; have c0' := pw_cell_alloc (.map #[] 0) c0; have c1' := pw_cell_alloc (.map #[] 0) c1; have f0' := blk_frozen (blk_alloc hbox (.map #[] 0)) 0; have f1' := blk_frozen (blk_alloc hbox (.map #[] 0)) 1; have BK := Aside0.mk hbox; have HB := Aside0.mk hb; have HG := Aside0.mk hg; clear hbox hb hg)
    go_wp2
    go_ret2
    exact ⟨rfl, HB.out⟩
  rw [if_neg q3] at h
  have b3 : decide (64 < (l.length : Int)) = false := decide_eq_false (by omega)
  have b4 : decide (64 < l.length) = false := decide_eq_false q3
  have HP := Aside0.mk (show 1 ≤ p ∧ p ≤ 16 ∧ l.length ≤ 64 by omega)
  have HH := Aside0.mk h
  clear q1 q2 q3 h
  have hmm := @run_makeMap Try.prog
  go_enter Try.func18, Try.ntmps18
  go_wp2_with ((with_reducible refine gate_dst (N := 1) rfl ?_); refine box_event ?hg (N := 1) ?hd (cs := #[.int .i64 p, .slice A l.length c]) (t := 24) ?hr ?_; (case hd => rfl); (case hg => rfl); (case hr => first | (go_simp; done) | (go_simp; rfl)); intro gb hg w3 hbox hb; have c0 : w3.cell? ⟨gb, 0, none⟩ = some (.int .i64 p) := blk_cell hbox 0; have c1 : w3.cell? ⟨gb, 1, none⟩ = some (.slice A l.length c) := blk_cell hbox 1; have f0 := blk_frozen hbox 0; have f1 := blk_frozen hbox 1; have c0' := pw_cell_alloc (.map #[] 0) c0; have c1' := pw_cell_alloc (.map #[] 0) c1; have f0' := blk_frozen (blk_alloc hbox (.map #[] 0)) 0; have f1' := blk_frozen (blk_alloc hbox (.map #[] 0)) 1; have BK := Aside0.mk hbox; have HB := Aside0.mk hb; have HG := Aside0.mk hg; clear hbox hb hg)
  go_wp2
  have hM0 : SeenM (w3.alloc (.map #[] 0)) w3.heap.size 0 [] := SeenM.made w3
  have HB3 := Aside0.mk (below_alloc HB.out (.map #[] 0))
  have BK3 := Aside0.mk (blk_alloc BK.out (.map #[] 0))
  obtain ⟨mb, hmb⟩ : ∃ mb, mb = w3.heap.size := ⟨_, rfl⟩
  have HMB := Aside0.mk (show w.heap.size ≤ mb by rw [hmb]; exact HB.out.size)
  have HG2 := Aside0.mk (show gb < mb by rw [hmb]; exact blk_lt BK.out)
  rw [← hmb] at hM0
  have HM0 := Aside0.mk hM0
  generalize hw4 : w3.alloc (.map #[] 0) = w4 at *
  rw [← hmb]
  clear hw4 hmb hM0 hmm c0 c1 f0 f1 c0' c1' f0' f1' BK HB
  go_loopg [25] (l.length + 1) (fun g s25 wr => ∃ (j : Int) (S : List (Int × Int)), s25 = .int .i64 j ∧ Aside0 (0 ≤ j ∧ j ≤ l.length ∧ l.length + 1 - j.toNat ≤ g ∧ ckR p (l.drop j.toNat) j S = r) ∧ Aside0 (SeenM wr mb j.toNat S) ∧ Aside0 (Below w.heap.size w wr) ∧ Aside0 (wr.heap[gb]? = some (.cells #[.int .i64 p, .slice A l.length c] 24 (0, 0))))
  case atStart => exact ⟨0, [], by rfl, ⟨by omega, by omega, Nat.le_refl _, HH.out⟩, HM0, HB3, BK3⟩
  case round =>
    obtain ⟨j, S, rfl, HJ, HM, HB, BK⟩ := hrel
    clear HM0 HB3 BK3 HH
    have c0 : wr.cell? ⟨gb, 0, none⟩ = some (.int .i64 p) := blk_cell BK.out 0
    have c1 : wr.cell? ⟨gb, 1, none⟩ = some (.slice A l.length c) := blk_cell BK.out 1
    have f0 := blk_frozen BK.out 0
    have f1 := blk_frozen BK.out 1
    have hj0 := HJ.out.1
    by_cases hlt : j < (l.length : Int)
    case neg =>
      have hltb : decide (j < (l.length : Int)) = false := decide_eq_false hlt
      have he : ckR p (l.drop j.toNat) j S = (-1, 0) := by rw [List.drop_of_length_le (by omega)]; rfl
      have hre : r = (-1, 0) := by rw [← HJ.out.2.2.2, he]
      subst hre
      clear he hlt hj0
      go_wp2
      go_ret2
      exact ⟨rfl, HB.out⟩
    have hltb : decide (j < (l.length : Int)) = true := decide_eq_true hlt
    have hlt' : j.toNat < l.length := by omega
    have hjn : ((j.toNat : Nat) : Int) = j := by omega
    obtain ⟨ad, e, h1, h2, h3, h4⟩ := at_T28 HR.out j hj0 hlt
    cases e
    replace h1 := pw_cell_below HB.out h1
    replace h2 := pw_cell_below HB.out h2
    replace h3 := pw_cell_below HB.out h3
    replace h4 := pw_cell_below HB.out h4
    have hJ := HJ.out.2.2.2
    rw [drop_rd hlt', hjn] at hJ
    unfold ckR at hJ
    generalize (rd_T28 l j) = y at *
    obtain ⟨y0, y1, y2, y3⟩ := y
    simp only at h1 h2 h3 h4 hJ
    have hw' : wrap64 (j + 1) = j + 1 := w64_ (by omega) (by have := HP.out; omega)
    have hw : IntKind.i64.wrap (j + 1) = j + 1 := by rw [i64_w]; exact hw'
    have p1 : (0 ≤ j) = True := eq_true hj0
    have p2 : (j < (l.length : Int)) = True := eq_true hlt
    have HJ0 := Aside0.mk hj0
    have HLT := Aside0.mk hlt
    clear hj0 hlt hjn hlt' f0 f1
    by_cases a1 : y0 < 0
    case pos =>
      have a1b : decide (y0 < 0) = true := decide_eq_true a1
      have hcv : ckv p ⟨y0, y1, y2, y3⟩ (decide ((y0, y1) ∈ S)) = 2 := by unfold ckv; rw [if_pos (show y0 < 0 ∨ p < y0 ∨ y1 < 0 ∨ p < y1 ∨ y2 < 0 ∨ 10737418240000 < y2 ∨ y3 < 0 ∨ 128849018880000 < y3 by omega)]
      rw [hcv, if_pos (by decide)] at hJ
      subst hJ
      clear hcv
      clear a1
      go_wp2_with (first | ((with_reducible refine gate_dst (N := 6) rfl ?_); refine box_event ?hg (N := 6) ?hd (cs := #[.int .i64 0, .int .i64 0, .int .i64 0, .int .i64 0]) (t := 28) ?hr ?_; (case hd => rfl); (case hg => rfl); (case hr => first | (go_simp; done) | (go_simp; rfl)); intro g2 hg w5 hbox hb5; have hc0 : w5.cell? ⟨g2, 0, none⟩ = some (.int .i64 0) := blk_cell hbox 0; have hf0 := blk_frozen hbox 0; have hc1 : w5.cell? ⟨g2, 1, none⟩ = some (.int .i64 0) := blk_cell hbox 1; have hf1 := blk_frozen hbox 1; have hc2 : w5.cell? ⟨g2, 2, none⟩ = some (.int .i64 0) := blk_cell hbox 2; have hf2 := blk_frozen hbox 2; have hc3 : w5.cell? ⟨g2, 3, none⟩ = some (.int .i64 0) := blk_cell hbox 3; have hf3 := blk_frozen hbox 3; replace hbox := Aside0.mk hbox; replace hb5 := Aside0.mk hb5; replace hg := Aside0.mk hg) | ((with_reducible refine gate_store (t := 28) (p := 6) rfl ?_); refine store_event (t := 28) (p := 6) (v := .tmp 29) (w1 := ((((w5.setCell ⟨g2, 0, none⟩ (.int .i64 y0)).setCell ⟨g2, 1, none⟩ (.int .i64 y1)).setCell ⟨g2, 2, none⟩ (.int .i64 y2)).setCell ⟨g2, 3, none⟩ (.int .i64 y3))) ?hg ?ho ?hn ?hr ?_; (case ho => rfl); (case hg => rfl); (case hn => rfl); (case hr => first | (go_simp; done) | (go_simp; rfl)); intro w6 hw6; clear hc0 hf0 hc1 hf1 hc2 hf2 hc3 hf3 h1 h2 h3 h4; have hbx := box4_ (x := .int .i64 y0) (y := .int .i64 y1) (z := .int .i64 y2) (u := .int .i64 y3) hb5.out hg.out hbox.out; rw [← hw6] at hbx; clear hw6 hb5 hg hbox; obtain ⟨hb6, hk6⟩ := hbx; replace c0 := pw_cell_below hb6 c0; replace c1 := pw_cell_below hb6 c1; have d0 : w6.cell? ⟨g2, 0, none⟩ = some (.int .i64 y0) := blk_cell hk6 0; have d1 : w6.cell? ⟨g2, 1, none⟩ = some (.int .i64 y1) := blk_cell hk6 1; have d2 : w6.cell? ⟨g2, 2, none⟩ = some (.int .i64 y2) := blk_cell hk6 2; have d3 : w6.cell? ⟨g2, 3, none⟩ = some (.int .i64 y3) := blk_cell hk6 3; replace BK := Aside0.mk (blk_below BK.out hb6); replace HM := Aside0.mk (HM.out.below hb6); replace HB := Aside0.mk (below_step HB.out hb6); clear hb6 hk6))
      go_ret2
      exact ⟨rfl, HB.out⟩
    have a1b : decide (y0 < 0) = false := decide_eq_false a1
    by_cases a2 : p < y0
    case pos =>
      have a2b : decide (p < y0) = true := decide_eq_true a2
      have hcv : ckv p ⟨y0, y1, y2, y3⟩ (decide ((y0, y1) ∈ S)) = 2 := by unfold ckv; rw [if_pos (show y0 < 0 ∨ p < y0 ∨ y1 < 0 ∨ p < y1 ∨ y2 < 0 ∨ 10737418240000 < y2 ∨ y3 < 0 ∨ 128849018880000 < y3 by omega)]
      rw [hcv, if_pos (by decide)] at hJ
      subst hJ
      clear hcv
      clear a1 a2
      go_wp2_with (first | ((with_reducible refine gate_dst (N := 6) rfl ?_); refine box_event ?hg (N := 6) ?hd (cs := #[.int .i64 0, .int .i64 0, .int .i64 0, .int .i64 0]) (t := 28) ?hr ?_; (case hd => rfl); (case hg => rfl); (case hr => first | (go_simp; done) | (go_simp; rfl)); intro g2 hg w5 hbox hb5; have hc0 : w5.cell? ⟨g2, 0, none⟩ = some (.int .i64 0) := blk_cell hbox 0; have hf0 := blk_frozen hbox 0; have hc1 : w5.cell? ⟨g2, 1, none⟩ = some (.int .i64 0) := blk_cell hbox 1; have hf1 := blk_frozen hbox 1; have hc2 : w5.cell? ⟨g2, 2, none⟩ = some (.int .i64 0) := blk_cell hbox 2; have hf2 := blk_frozen hbox 2; have hc3 : w5.cell? ⟨g2, 3, none⟩ = some (.int .i64 0) := blk_cell hbox 3; have hf3 := blk_frozen hbox 3; replace hbox := Aside0.mk hbox; replace hb5 := Aside0.mk hb5; replace hg := Aside0.mk hg) | ((with_reducible refine gate_store (t := 28) (p := 6) rfl ?_); refine store_event (t := 28) (p := 6) (v := .tmp 29) (w1 := ((((w5.setCell ⟨g2, 0, none⟩ (.int .i64 y0)).setCell ⟨g2, 1, none⟩ (.int .i64 y1)).setCell ⟨g2, 2, none⟩ (.int .i64 y2)).setCell ⟨g2, 3, none⟩ (.int .i64 y3))) ?hg ?ho ?hn ?hr ?_; (case ho => rfl); (case hg => rfl); (case hn => rfl); (case hr => first | (go_simp; done) | (go_simp; rfl)); intro w6 hw6; clear hc0 hf0 hc1 hf1 hc2 hf2 hc3 hf3 h1 h2 h3 h4; have hbx := box4_ (x := .int .i64 y0) (y := .int .i64 y1) (z := .int .i64 y2) (u := .int .i64 y3) hb5.out hg.out hbox.out; rw [← hw6] at hbx; clear hw6 hb5 hg hbox; obtain ⟨hb6, hk6⟩ := hbx; replace c0 := pw_cell_below hb6 c0; replace c1 := pw_cell_below hb6 c1; have d0 : w6.cell? ⟨g2, 0, none⟩ = some (.int .i64 y0) := blk_cell hk6 0; have d1 : w6.cell? ⟨g2, 1, none⟩ = some (.int .i64 y1) := blk_cell hk6 1; have d2 : w6.cell? ⟨g2, 2, none⟩ = some (.int .i64 y2) := blk_cell hk6 2; have d3 : w6.cell? ⟨g2, 3, none⟩ = some (.int .i64 y3) := blk_cell hk6 3; replace BK := Aside0.mk (blk_below BK.out hb6); replace HM := Aside0.mk (HM.out.below hb6); replace HB := Aside0.mk (below_step HB.out hb6); clear hb6 hk6))
      go_ret2
      exact ⟨rfl, HB.out⟩
    have a2b : decide (p < y0) = false := decide_eq_false a2
    by_cases a3 : y1 < 0
    case pos =>
      have a3b : decide (y1 < 0) = true := decide_eq_true a3
      have hcv : ckv p ⟨y0, y1, y2, y3⟩ (decide ((y0, y1) ∈ S)) = 2 := by unfold ckv; rw [if_pos (show y0 < 0 ∨ p < y0 ∨ y1 < 0 ∨ p < y1 ∨ y2 < 0 ∨ 10737418240000 < y2 ∨ y3 < 0 ∨ 128849018880000 < y3 by omega)]
      rw [hcv, if_pos (by decide)] at hJ
      subst hJ
      clear hcv
      clear a1 a2 a3
      go_wp2_with (first | ((with_reducible refine gate_dst (N := 6) rfl ?_); refine box_event ?hg (N := 6) ?hd (cs := #[.int .i64 0, .int .i64 0, .int .i64 0, .int .i64 0]) (t := 28) ?hr ?_; (case hd => rfl); (case hg => rfl); (case hr => first | (go_simp; done) | (go_simp; rfl)); intro g2 hg w5 hbox hb5; have hc0 : w5.cell? ⟨g2, 0, none⟩ = some (.int .i64 0) := blk_cell hbox 0; have hf0 := blk_frozen hbox 0; have hc1 : w5.cell? ⟨g2, 1, none⟩ = some (.int .i64 0) := blk_cell hbox 1; have hf1 := blk_frozen hbox 1; have hc2 : w5.cell? ⟨g2, 2, none⟩ = some (.int .i64 0) := blk_cell hbox 2; have hf2 := blk_frozen hbox 2; have hc3 : w5.cell? ⟨g2, 3, none⟩ = some (.int .i64 0) := blk_cell hbox 3; have hf3 := blk_frozen hbox 3; replace hbox := Aside0.mk hbox; replace hb5 := Aside0.mk hb5; replace hg := Aside0.mk hg) | ((with_reducible refine gate_store (t := 28) (p := 6) rfl ?_); refine store_event (t := 28) (p := 6) (v := .tmp 29) (w1 := ((((w5.setCell ⟨g2, 0, none⟩ (.int .i64 y0)).setCell ⟨g2, 1, none⟩ (.int .i64 y1)).setCell ⟨g2, 2, none⟩ (.int .i64 y2)).setCell ⟨g2, 3, none⟩ (.int .i64 y3))) ?hg ?ho ?hn ?hr ?_; (case ho => rfl); (case hg => rfl); (case hn => rfl); (case hr => first | (go_simp; done) | (go_simp; rfl)); intro w6 hw6; clear hc0 hf0 hc1 hf1 hc2 hf2 hc3 hf3 h1 h2 h3 h4; have hbx := box4_ (x := .int .i64 y0) (y := .int .i64 y1) (z := .int .i64 y2) (u := .int .i64 y3) hb5.out hg.out hbox.out; rw [← hw6] at hbx; clear hw6 hb5 hg hbox; obtain ⟨hb6, hk6⟩ := hbx; replace c0 := pw_cell_below hb6 c0; replace c1 := pw_cell_below hb6 c1; have d0 : w6.cell? ⟨g2, 0, none⟩ = some (.int .i64 y0) := blk_cell hk6 0; have d1 : w6.cell? ⟨g2, 1, none⟩ = some (.int .i64 y1) := blk_cell hk6 1; have d2 : w6.cell? ⟨g2, 2, none⟩ = some (.int .i64 y2) := blk_cell hk6 2; have d3 : w6.cell? ⟨g2, 3, none⟩ = some (.int .i64 y3) := blk_cell hk6 3; replace BK := Aside0.mk (blk_below BK.out hb6); replace HM := Aside0.mk (HM.out.below hb6); replace HB := Aside0.mk (below_step HB.out hb6); clear hb6 hk6))
      go_ret2
      exact ⟨rfl, HB.out⟩
    have a3b : decide (y1 < 0) = false := decide_eq_false a3
    by_cases a4 : p < y1
    case pos =>
      have a4b : decide (p < y1) = true := decide_eq_true a4
      have hcv : ckv p ⟨y0, y1, y2, y3⟩ (decide ((y0, y1) ∈ S)) = 2 := by unfold ckv; rw [if_pos (show y0 < 0 ∨ p < y0 ∨ y1 < 0 ∨ p < y1 ∨ y2 < 0 ∨ 10737418240000 < y2 ∨ y3 < 0 ∨ 128849018880000 < y3 by omega)]
      rw [hcv, if_pos (by decide)] at hJ
      subst hJ
      clear hcv
      clear a1 a2 a3 a4
      go_wp2_with (first | ((with_reducible refine gate_dst (N := 6) rfl ?_); refine box_event ?hg (N := 6) ?hd (cs := #[.int .i64 0, .int .i64 0, .int .i64 0, .int .i64 0]) (t := 28) ?hr ?_; (case hd => rfl); (case hg => rfl); (case hr => first | (go_simp; done) | (go_simp; rfl)); intro g2 hg w5 hbox hb5; have hc0 : w5.cell? ⟨g2, 0, none⟩ = some (.int .i64 0) := blk_cell hbox 0; have hf0 := blk_frozen hbox 0; have hc1 : w5.cell? ⟨g2, 1, none⟩ = some (.int .i64 0) := blk_cell hbox 1; have hf1 := blk_frozen hbox 1; have hc2 : w5.cell? ⟨g2, 2, none⟩ = some (.int .i64 0) := blk_cell hbox 2; have hf2 := blk_frozen hbox 2; have hc3 : w5.cell? ⟨g2, 3, none⟩ = some (.int .i64 0) := blk_cell hbox 3; have hf3 := blk_frozen hbox 3; replace hbox := Aside0.mk hbox; replace hb5 := Aside0.mk hb5; replace hg := Aside0.mk hg) | ((with_reducible refine gate_store (t := 28) (p := 6) rfl ?_); refine store_event (t := 28) (p := 6) (v := .tmp 29) (w1 := ((((w5.setCell ⟨g2, 0, none⟩ (.int .i64 y0)).setCell ⟨g2, 1, none⟩ (.int .i64 y1)).setCell ⟨g2, 2, none⟩ (.int .i64 y2)).setCell ⟨g2, 3, none⟩ (.int .i64 y3))) ?hg ?ho ?hn ?hr ?_; (case ho => rfl); (case hg => rfl); (case hn => rfl); (case hr => first | (go_simp; done) | (go_simp; rfl)); intro w6 hw6; clear hc0 hf0 hc1 hf1 hc2 hf2 hc3 hf3 h1 h2 h3 h4; have hbx := box4_ (x := .int .i64 y0) (y := .int .i64 y1) (z := .int .i64 y2) (u := .int .i64 y3) hb5.out hg.out hbox.out; rw [← hw6] at hbx; clear hw6 hb5 hg hbox; obtain ⟨hb6, hk6⟩ := hbx; replace c0 := pw_cell_below hb6 c0; replace c1 := pw_cell_below hb6 c1; have d0 : w6.cell? ⟨g2, 0, none⟩ = some (.int .i64 y0) := blk_cell hk6 0; have d1 : w6.cell? ⟨g2, 1, none⟩ = some (.int .i64 y1) := blk_cell hk6 1; have d2 : w6.cell? ⟨g2, 2, none⟩ = some (.int .i64 y2) := blk_cell hk6 2; have d3 : w6.cell? ⟨g2, 3, none⟩ = some (.int .i64 y3) := blk_cell hk6 3; replace BK := Aside0.mk (blk_below BK.out hb6); replace HM := Aside0.mk (HM.out.below hb6); replace HB := Aside0.mk (below_step HB.out hb6); clear hb6 hk6))
      go_ret2
      exact ⟨rfl, HB.out⟩
    have a4b : decide (p < y1) = false := decide_eq_false a4
    by_cases a5 : y2 < 0
    case pos =>
      have a5b : decide (y2 < 0) = true := decide_eq_true a5
      have hcv : ckv p ⟨y0, y1, y2, y3⟩ (decide ((y0, y1) ∈ S)) = 2 := by unfold ckv; rw [if_pos (show y0 < 0 ∨ p < y0 ∨ y1 < 0 ∨ p < y1 ∨ y2 < 0 ∨ 10737418240000 < y2 ∨ y3 < 0 ∨ 128849018880000 < y3 by omega)]
      rw [hcv, if_pos (by decide)] at hJ
      subst hJ
      clear hcv
      clear a1 a2 a3 a4 a5
      go_wp2_with (first | ((with_reducible refine gate_dst (N := 6) rfl ?_); refine box_event ?hg (N := 6) ?hd (cs := #[.int .i64 0, .int .i64 0, .int .i64 0, .int .i64 0]) (t := 28) ?hr ?_; (case hd => rfl); (case hg => rfl); (case hr => first | (go_simp; done) | (go_simp; rfl)); intro g2 hg w5 hbox hb5; have hc0 : w5.cell? ⟨g2, 0, none⟩ = some (.int .i64 0) := blk_cell hbox 0; have hf0 := blk_frozen hbox 0; have hc1 : w5.cell? ⟨g2, 1, none⟩ = some (.int .i64 0) := blk_cell hbox 1; have hf1 := blk_frozen hbox 1; have hc2 : w5.cell? ⟨g2, 2, none⟩ = some (.int .i64 0) := blk_cell hbox 2; have hf2 := blk_frozen hbox 2; have hc3 : w5.cell? ⟨g2, 3, none⟩ = some (.int .i64 0) := blk_cell hbox 3; have hf3 := blk_frozen hbox 3; replace hbox := Aside0.mk hbox; replace hb5 := Aside0.mk hb5; replace hg := Aside0.mk hg) | ((with_reducible refine gate_store (t := 28) (p := 6) rfl ?_); refine store_event (t := 28) (p := 6) (v := .tmp 29) (w1 := ((((w5.setCell ⟨g2, 0, none⟩ (.int .i64 y0)).setCell ⟨g2, 1, none⟩ (.int .i64 y1)).setCell ⟨g2, 2, none⟩ (.int .i64 y2)).setCell ⟨g2, 3, none⟩ (.int .i64 y3))) ?hg ?ho ?hn ?hr ?_; (case ho => rfl); (case hg => rfl); (case hn => rfl); (case hr => first | (go_simp; done) | (go_simp; rfl)); intro w6 hw6; clear hc0 hf0 hc1 hf1 hc2 hf2 hc3 hf3 h1 h2 h3 h4; have hbx := box4_ (x := .int .i64 y0) (y := .int .i64 y1) (z := .int .i64 y2) (u := .int .i64 y3) hb5.out hg.out hbox.out; rw [← hw6] at hbx; clear hw6 hb5 hg hbox; obtain ⟨hb6, hk6⟩ := hbx; replace c0 := pw_cell_below hb6 c0; replace c1 := pw_cell_below hb6 c1; have d0 : w6.cell? ⟨g2, 0, none⟩ = some (.int .i64 y0) := blk_cell hk6 0; have d1 : w6.cell? ⟨g2, 1, none⟩ = some (.int .i64 y1) := blk_cell hk6 1; have d2 : w6.cell? ⟨g2, 2, none⟩ = some (.int .i64 y2) := blk_cell hk6 2; have d3 : w6.cell? ⟨g2, 3, none⟩ = some (.int .i64 y3) := blk_cell hk6 3; replace BK := Aside0.mk (blk_below BK.out hb6); replace HM := Aside0.mk (HM.out.below hb6); replace HB := Aside0.mk (below_step HB.out hb6); clear hb6 hk6))
      go_ret2
      exact ⟨rfl, HB.out⟩
    have a5b : decide (y2 < 0) = false := decide_eq_false a5
    by_cases a6 : 10737418240000 < y2
    case pos =>
      have a6b : decide (10737418240000 < y2) = true := decide_eq_true a6
      have hcv : ckv p ⟨y0, y1, y2, y3⟩ (decide ((y0, y1) ∈ S)) = 2 := by unfold ckv; rw [if_pos (show y0 < 0 ∨ p < y0 ∨ y1 < 0 ∨ p < y1 ∨ y2 < 0 ∨ 10737418240000 < y2 ∨ y3 < 0 ∨ 128849018880000 < y3 by omega)]
      rw [hcv, if_pos (by decide)] at hJ
      subst hJ
      clear hcv
      clear a1 a2 a3 a4 a5 a6
      go_wp2_with (first | ((with_reducible refine gate_dst (N := 6) rfl ?_); refine box_event ?hg (N := 6) ?hd (cs := #[.int .i64 0, .int .i64 0, .int .i64 0, .int .i64 0]) (t := 28) ?hr ?_; (case hd => rfl); (case hg => rfl); (case hr => first | (go_simp; done) | (go_simp; rfl)); intro g2 hg w5 hbox hb5; have hc0 : w5.cell? ⟨g2, 0, none⟩ = some (.int .i64 0) := blk_cell hbox 0; have hf0 := blk_frozen hbox 0; have hc1 : w5.cell? ⟨g2, 1, none⟩ = some (.int .i64 0) := blk_cell hbox 1; have hf1 := blk_frozen hbox 1; have hc2 : w5.cell? ⟨g2, 2, none⟩ = some (.int .i64 0) := blk_cell hbox 2; have hf2 := blk_frozen hbox 2; have hc3 : w5.cell? ⟨g2, 3, none⟩ = some (.int .i64 0) := blk_cell hbox 3; have hf3 := blk_frozen hbox 3; replace hbox := Aside0.mk hbox; replace hb5 := Aside0.mk hb5; replace hg := Aside0.mk hg) | ((with_reducible refine gate_store (t := 28) (p := 6) rfl ?_); refine store_event (t := 28) (p := 6) (v := .tmp 29) (w1 := ((((w5.setCell ⟨g2, 0, none⟩ (.int .i64 y0)).setCell ⟨g2, 1, none⟩ (.int .i64 y1)).setCell ⟨g2, 2, none⟩ (.int .i64 y2)).setCell ⟨g2, 3, none⟩ (.int .i64 y3))) ?hg ?ho ?hn ?hr ?_; (case ho => rfl); (case hg => rfl); (case hn => rfl); (case hr => first | (go_simp; done) | (go_simp; rfl)); intro w6 hw6; clear hc0 hf0 hc1 hf1 hc2 hf2 hc3 hf3 h1 h2 h3 h4; have hbx := box4_ (x := .int .i64 y0) (y := .int .i64 y1) (z := .int .i64 y2) (u := .int .i64 y3) hb5.out hg.out hbox.out; rw [← hw6] at hbx; clear hw6 hb5 hg hbox; obtain ⟨hb6, hk6⟩ := hbx; replace c0 := pw_cell_below hb6 c0; replace c1 := pw_cell_below hb6 c1; have d0 : w6.cell? ⟨g2, 0, none⟩ = some (.int .i64 y0) := blk_cell hk6 0; have d1 : w6.cell? ⟨g2, 1, none⟩ = some (.int .i64 y1) := blk_cell hk6 1; have d2 : w6.cell? ⟨g2, 2, none⟩ = some (.int .i64 y2) := blk_cell hk6 2; have d3 : w6.cell? ⟨g2, 3, none⟩ = some (.int .i64 y3) := blk_cell hk6 3; replace BK := Aside0.mk (blk_below BK.out hb6); replace HM := Aside0.mk (HM.out.below hb6); replace HB := Aside0.mk (below_step HB.out hb6); clear hb6 hk6))
      go_ret2
      exact ⟨rfl, HB.out⟩
    have a6b : decide (10737418240000 < y2) = false := decide_eq_false a6
    by_cases a7 : y3 < 0
    case pos =>
      have a7b : decide (y3 < 0) = true := decide_eq_true a7
      have hcv : ckv p ⟨y0, y1, y2, y3⟩ (decide ((y0, y1) ∈ S)) = 2 := by unfold ckv; rw [if_pos (show y0 < 0 ∨ p < y0 ∨ y1 < 0 ∨ p < y1 ∨ y2 < 0 ∨ 10737418240000 < y2 ∨ y3 < 0 ∨ 128849018880000 < y3 by omega)]
      rw [hcv, if_pos (by decide)] at hJ
      subst hJ
      clear hcv
      clear a1 a2 a3 a4 a5 a6 a7
      go_wp2_with (first | ((with_reducible refine gate_dst (N := 6) rfl ?_); refine box_event ?hg (N := 6) ?hd (cs := #[.int .i64 0, .int .i64 0, .int .i64 0, .int .i64 0]) (t := 28) ?hr ?_; (case hd => rfl); (case hg => rfl); (case hr => first | (go_simp; done) | (go_simp; rfl)); intro g2 hg w5 hbox hb5; have hc0 : w5.cell? ⟨g2, 0, none⟩ = some (.int .i64 0) := blk_cell hbox 0; have hf0 := blk_frozen hbox 0; have hc1 : w5.cell? ⟨g2, 1, none⟩ = some (.int .i64 0) := blk_cell hbox 1; have hf1 := blk_frozen hbox 1; have hc2 : w5.cell? ⟨g2, 2, none⟩ = some (.int .i64 0) := blk_cell hbox 2; have hf2 := blk_frozen hbox 2; have hc3 : w5.cell? ⟨g2, 3, none⟩ = some (.int .i64 0) := blk_cell hbox 3; have hf3 := blk_frozen hbox 3; replace hbox := Aside0.mk hbox; replace hb5 := Aside0.mk hb5; replace hg := Aside0.mk hg) | ((with_reducible refine gate_store (t := 28) (p := 6) rfl ?_); refine store_event (t := 28) (p := 6) (v := .tmp 29) (w1 := ((((w5.setCell ⟨g2, 0, none⟩ (.int .i64 y0)).setCell ⟨g2, 1, none⟩ (.int .i64 y1)).setCell ⟨g2, 2, none⟩ (.int .i64 y2)).setCell ⟨g2, 3, none⟩ (.int .i64 y3))) ?hg ?ho ?hn ?hr ?_; (case ho => rfl); (case hg => rfl); (case hn => rfl); (case hr => first | (go_simp; done) | (go_simp; rfl)); intro w6 hw6; clear hc0 hf0 hc1 hf1 hc2 hf2 hc3 hf3 h1 h2 h3 h4; have hbx := box4_ (x := .int .i64 y0) (y := .int .i64 y1) (z := .int .i64 y2) (u := .int .i64 y3) hb5.out hg.out hbox.out; rw [← hw6] at hbx; clear hw6 hb5 hg hbox; obtain ⟨hb6, hk6⟩ := hbx; replace c0 := pw_cell_below hb6 c0; replace c1 := pw_cell_below hb6 c1; have d0 : w6.cell? ⟨g2, 0, none⟩ = some (.int .i64 y0) := blk_cell hk6 0; have d1 : w6.cell? ⟨g2, 1, none⟩ = some (.int .i64 y1) := blk_cell hk6 1; have d2 : w6.cell? ⟨g2, 2, none⟩ = some (.int .i64 y2) := blk_cell hk6 2; have d3 : w6.cell? ⟨g2, 3, none⟩ = some (.int .i64 y3) := blk_cell hk6 3; replace BK := Aside0.mk (blk_below BK.out hb6); replace HM := Aside0.mk (HM.out.below hb6); replace HB := Aside0.mk (below_step HB.out hb6); clear hb6 hk6))
      go_ret2
      exact ⟨rfl, HB.out⟩
    have a7b : decide (y3 < 0) = false := decide_eq_false a7
    by_cases a8 : 128849018880000 < y3
    case pos =>
      have a8b : decide (128849018880000 < y3) = true := decide_eq_true a8
      have hcv : ckv p ⟨y0, y1, y2, y3⟩ (decide ((y0, y1) ∈ S)) = 2 := by unfold ckv; rw [if_pos (show y0 < 0 ∨ p < y0 ∨ y1 < 0 ∨ p < y1 ∨ y2 < 0 ∨ 10737418240000 < y2 ∨ y3 < 0 ∨ 128849018880000 < y3 by omega)]
      rw [hcv, if_pos (by decide)] at hJ
      subst hJ
      clear hcv
      clear a1 a2 a3 a4 a5 a6 a7 a8
      go_wp2_with (first | ((with_reducible refine gate_dst (N := 6) rfl ?_); refine box_event ?hg (N := 6) ?hd (cs := #[.int .i64 0, .int .i64 0, .int .i64 0, .int .i64 0]) (t := 28) ?hr ?_; (case hd => rfl); (case hg => rfl); (case hr => first | (go_simp; done) | (go_simp; rfl)); intro g2 hg w5 hbox hb5; have hc0 : w5.cell? ⟨g2, 0, none⟩ = some (.int .i64 0) := blk_cell hbox 0; have hf0 := blk_frozen hbox 0; have hc1 : w5.cell? ⟨g2, 1, none⟩ = some (.int .i64 0) := blk_cell hbox 1; have hf1 := blk_frozen hbox 1; have hc2 : w5.cell? ⟨g2, 2, none⟩ = some (.int .i64 0) := blk_cell hbox 2; have hf2 := blk_frozen hbox 2; have hc3 : w5.cell? ⟨g2, 3, none⟩ = some (.int .i64 0) := blk_cell hbox 3; have hf3 := blk_frozen hbox 3; replace hbox := Aside0.mk hbox; replace hb5 := Aside0.mk hb5; replace hg := Aside0.mk hg) | ((with_reducible refine gate_store (t := 28) (p := 6) rfl ?_); refine store_event (t := 28) (p := 6) (v := .tmp 29) (w1 := ((((w5.setCell ⟨g2, 0, none⟩ (.int .i64 y0)).setCell ⟨g2, 1, none⟩ (.int .i64 y1)).setCell ⟨g2, 2, none⟩ (.int .i64 y2)).setCell ⟨g2, 3, none⟩ (.int .i64 y3))) ?hg ?ho ?hn ?hr ?_; (case ho => rfl); (case hg => rfl); (case hn => rfl); (case hr => first | (go_simp; done) | (go_simp; rfl)); intro w6 hw6; clear hc0 hf0 hc1 hf1 hc2 hf2 hc3 hf3 h1 h2 h3 h4; have hbx := box4_ (x := .int .i64 y0) (y := .int .i64 y1) (z := .int .i64 y2) (u := .int .i64 y3) hb5.out hg.out hbox.out; rw [← hw6] at hbx; clear hw6 hb5 hg hbox; obtain ⟨hb6, hk6⟩ := hbx; replace c0 := pw_cell_below hb6 c0; replace c1 := pw_cell_below hb6 c1; have d0 : w6.cell? ⟨g2, 0, none⟩ = some (.int .i64 y0) := blk_cell hk6 0; have d1 : w6.cell? ⟨g2, 1, none⟩ = some (.int .i64 y1) := blk_cell hk6 1; have d2 : w6.cell? ⟨g2, 2, none⟩ = some (.int .i64 y2) := blk_cell hk6 2; have d3 : w6.cell? ⟨g2, 3, none⟩ = some (.int .i64 y3) := blk_cell hk6 3; replace BK := Aside0.mk (blk_below BK.out hb6); replace HM := Aside0.mk (HM.out.below hb6); replace HB := Aside0.mk (below_step HB.out hb6); clear hb6 hk6))
      go_ret2
      exact ⟨rfl, HB.out⟩
    have a8b : decide (128849018880000 < y3) = false := decide_eq_false a8
    have WF0 := Aside0.mk (wf_i64 (x := y0) (by omega) (by have := HP.out; omega))
    have WF1 := Aside0.mk (wf_i64 (x := y1) (by omega) (by have := HP.out; omega))
    by_cases m1 : y0 = y1
    case pos =>
      have m1b : (y0 == y1) = true := beq_iff_eq.mpr m1
      have hcv : ckv p ⟨y0, y1, y2, y3⟩ (decide ((y0, y1) ∈ S)) = 10 := by unfold ckv; rw [if_neg (show ¬ (y0 < 0 ∨ p < y0 ∨ y1 < 0 ∨ p < y1 ∨ y2 < 0 ∨ 10737418240000 < y2 ∨ y3 < 0 ∨ 128849018880000 < y3) by omega), if_pos (show y0 = y1 ∨ (0 < y2 ∧ y3 = 0) by omega)]
      rw [hcv, if_pos (by decide)] at hJ
      subst hJ
      clear hcv
      clear m1 a1 a2 a3 a4 a5 a6 a7 a8
      go_wp2_with (first | ((with_reducible refine gate_dst (N := 6) rfl ?_); refine box_event ?hg (N := 6) ?hd (cs := #[.int .i64 0, .int .i64 0, .int .i64 0, .int .i64 0]) (t := 28) ?hr ?_; (case hd => rfl); (case hg => rfl); (case hr => first | (go_simp; done) | (go_simp; rfl)); intro g2 hg w5 hbox hb5; have hc0 : w5.cell? ⟨g2, 0, none⟩ = some (.int .i64 0) := blk_cell hbox 0; have hf0 := blk_frozen hbox 0; have hc1 : w5.cell? ⟨g2, 1, none⟩ = some (.int .i64 0) := blk_cell hbox 1; have hf1 := blk_frozen hbox 1; have hc2 : w5.cell? ⟨g2, 2, none⟩ = some (.int .i64 0) := blk_cell hbox 2; have hf2 := blk_frozen hbox 2; have hc3 : w5.cell? ⟨g2, 3, none⟩ = some (.int .i64 0) := blk_cell hbox 3; have hf3 := blk_frozen hbox 3; replace hbox := Aside0.mk hbox; replace hb5 := Aside0.mk hb5; replace hg := Aside0.mk hg) | ((with_reducible refine gate_store (t := 28) (p := 6) rfl ?_); refine store_event (t := 28) (p := 6) (v := .tmp 29) (w1 := ((((w5.setCell ⟨g2, 0, none⟩ (.int .i64 y0)).setCell ⟨g2, 1, none⟩ (.int .i64 y1)).setCell ⟨g2, 2, none⟩ (.int .i64 y2)).setCell ⟨g2, 3, none⟩ (.int .i64 y3))) ?hg ?ho ?hn ?hr ?_; (case ho => rfl); (case hg => rfl); (case hn => rfl); (case hr => first | (go_simp; done) | (go_simp; rfl)); intro w6 hw6; clear hc0 hf0 hc1 hf1 hc2 hf2 hc3 hf3 h1 h2 h3 h4; have hbx := box4_ (x := .int .i64 y0) (y := .int .i64 y1) (z := .int .i64 y2) (u := .int .i64 y3) hb5.out hg.out hbox.out; rw [← hw6] at hbx; clear hw6 hb5 hg hbox; obtain ⟨hb6, hk6⟩ := hbx; replace c0 := pw_cell_below hb6 c0; replace c1 := pw_cell_below hb6 c1; have d0 : w6.cell? ⟨g2, 0, none⟩ = some (.int .i64 y0) := blk_cell hk6 0; have d1 : w6.cell? ⟨g2, 1, none⟩ = some (.int .i64 y1) := blk_cell hk6 1; have d2 : w6.cell? ⟨g2, 2, none⟩ = some (.int .i64 y2) := blk_cell hk6 2; have d3 : w6.cell? ⟨g2, 3, none⟩ = some (.int .i64 y3) := blk_cell hk6 3; replace BK := Aside0.mk (blk_below BK.out hb6); replace HM := Aside0.mk (HM.out.below hb6); replace HB := Aside0.mk (below_step HB.out hb6); clear hb6 hk6))
      go_ret2
      exact ⟨rfl, HB.out⟩
    have m1b : (y0 == y1) = false := beq_eq_false_iff_ne.mpr m1
    by_cases m2 : 0 < y2
    case neg =>
      have m2b : decide (0 < y2) = false := decide_eq_false m2
      cases hsn : decide ((y0, y1) ∈ S)
      case true =>
        have hcv : ckv p ⟨y0, y1, y2, y3⟩ (decide ((y0, y1) ∈ S)) = 6 := by rw [hsn]; unfold ckv; rw [if_neg (show ¬ (y0 < 0 ∨ p < y0 ∨ y1 < 0 ∨ p < y1 ∨ y2 < 0 ∨ 10737418240000 < y2 ∨ y3 < 0 ∨ 128849018880000 < y3) by omega), if_neg (show ¬ (y0 = y1 ∨ (0 < y2 ∧ y3 = 0)) by omega), if_pos rfl]
        rw [hcv, if_pos (by decide)] at hJ
        subst hJ
        clear hcv
        clear m1 m2 a1 a2 a3 a4 a5 a6 a7 a8
        go_wp2_with (first | ((with_reducible refine gate_dst (N := 6) rfl ?_); refine box_event ?hg (N := 6) ?hd (cs := #[.int .i64 0, .int .i64 0, .int .i64 0, .int .i64 0]) (t := 28) ?hr ?_; (case hd => rfl); (case hg => rfl); (case hr => first | (go_simp; done) | (go_simp; rfl)); intro g2 hg w5 hbox hb5; have hc0 : w5.cell? ⟨g2, 0, none⟩ = some (.int .i64 0) := blk_cell hbox 0; have hf0 := blk_frozen hbox 0; have hc1 : w5.cell? ⟨g2, 1, none⟩ = some (.int .i64 0) := blk_cell hbox 1; have hf1 := blk_frozen hbox 1; have hc2 : w5.cell? ⟨g2, 2, none⟩ = some (.int .i64 0) := blk_cell hbox 2; have hf2 := blk_frozen hbox 2; have hc3 : w5.cell? ⟨g2, 3, none⟩ = some (.int .i64 0) := blk_cell hbox 3; have hf3 := blk_frozen hbox 3; replace hbox := Aside0.mk hbox; replace hb5 := Aside0.mk hb5; replace hg := Aside0.mk hg) | ((with_reducible refine gate_store (t := 28) (p := 6) rfl ?_); refine store_event (t := 28) (p := 6) (v := .tmp 29) (w1 := ((((w5.setCell ⟨g2, 0, none⟩ (.int .i64 y0)).setCell ⟨g2, 1, none⟩ (.int .i64 y1)).setCell ⟨g2, 2, none⟩ (.int .i64 y2)).setCell ⟨g2, 3, none⟩ (.int .i64 y3))) ?hg ?ho ?hn ?hr ?_; (case ho => rfl); (case hg => rfl); (case hn => rfl); (case hr => first | (go_simp; done) | (go_simp; rfl)); intro w6 hw6; clear hc0 hf0 hc1 hf1 hc2 hf2 hc3 hf3 h1 h2 h3 h4; have hbx := box4_ (x := .int .i64 y0) (y := .int .i64 y1) (z := .int .i64 y2) (u := .int .i64 y3) hb5.out hg.out hbox.out; rw [← hw6] at hbx; clear hw6 hb5 hg hbox; obtain ⟨hb6, hk6⟩ := hbx; replace c0 := pw_cell_below hb6 c0; replace c1 := pw_cell_below hb6 c1; have d0 : w6.cell? ⟨g2, 0, none⟩ = some (.int .i64 y0) := blk_cell hk6 0; have d1 : w6.cell? ⟨g2, 1, none⟩ = some (.int .i64 y1) := blk_cell hk6 1; have d2 : w6.cell? ⟨g2, 2, none⟩ = some (.int .i64 y2) := blk_cell hk6 2; have d3 : w6.cell? ⟨g2, 3, none⟩ = some (.int .i64 y3) := blk_cell hk6 3; replace BK := Aside0.mk (blk_below BK.out hb6); replace HM := Aside0.mk (HM.out.below hb6); replace HB := Aside0.mk (below_step HB.out hb6); clear hb6 hk6; have hlk := HM.out.lookup WF0.out WF1.out; unfold endsV at hlk; rw [hsn] at hlk))
        go_ret2
        exact ⟨rfl, HB.out⟩
      case false =>
        have hcv : ckv p ⟨y0, y1, y2, y3⟩ (decide ((y0, y1) ∈ S)) = 0 := by rw [hsn]; unfold ckv; rw [if_neg (show ¬ (y0 < 0 ∨ p < y0 ∨ y1 < 0 ∨ p < y1 ∨ y2 < 0 ∨ 10737418240000 < y2 ∨ y3 < 0 ∨ 128849018880000 < y3) by omega), if_neg (show ¬ (y0 = y1 ∨ (0 < y2 ∧ y3 = 0)) by omega), if_neg (by decide)]
        rw [hcv, if_neg (by decide)] at hJ
        have HJ2 := Aside0.mk hJ
        clear hJ hcv
        clear m1 m2 a1 a2 a3 a4 a5 a6 a7 a8
        go_wp2_with (first | ((with_reducible refine gate_dst (N := 6) rfl ?_); refine box_event ?hg (N := 6) ?hd (cs := #[.int .i64 0, .int .i64 0, .int .i64 0, .int .i64 0]) (t := 28) ?hr ?_; (case hd => rfl); (case hg => rfl); (case hr => first | (go_simp; done) | (go_simp; rfl)); intro g2 hg w5 hbox hb5; have hc0 : w5.cell? ⟨g2, 0, none⟩ = some (.int .i64 0) := blk_cell hbox 0; have hf0 := blk_frozen hbox 0; have hc1 : w5.cell? ⟨g2, 1, none⟩ = some (.int .i64 0) := blk_cell hbox 1; have hf1 := blk_frozen hbox 1; have hc2 : w5.cell? ⟨g2, 2, none⟩ = some (.int .i64 0) := blk_cell hbox 2; have hf2 := blk_frozen hbox 2; have hc3 : w5.cell? ⟨g2, 3, none⟩ = some (.int .i64 0) := blk_cell hbox 3; have hf3 := blk_frozen hbox 3; replace hbox := Aside0.mk hbox; replace hb5 := Aside0.mk hb5; replace hg := Aside0.mk hg) | ((with_reducible refine gate_store (t := 28) (p := 6) rfl ?_); refine store_event (t := 28) (p := 6) (v := .tmp 29) (w1 := ((((w5.setCell ⟨g2, 0, none⟩ (.int .i64 y0)).setCell ⟨g2, 1, none⟩ (.int .i64 y1)).setCell ⟨g2, 2, none⟩ (.int .i64 y2)).setCell ⟨g2, 3, none⟩ (.int .i64 y3))) ?hg ?ho ?hn ?hr ?_; (case ho => rfl); (case hg => rfl); (case hn => rfl); (case hr => first | (go_simp; done) | (go_simp; rfl)); intro w6 hw6; clear hc0 hf0 hc1 hf1 hc2 hf2 hc3 hf3 h1 h2 h3 h4; have hbx := box4_ (x := .int .i64 y0) (y := .int .i64 y1) (z := .int .i64 y2) (u := .int .i64 y3) hb5.out hg.out hbox.out; rw [← hw6] at hbx; clear hw6 hb5 hg hbox; obtain ⟨hb6, hk6⟩ := hbx; replace c0 := pw_cell_below hb6 c0; replace c1 := pw_cell_below hb6 c1; have d0 : w6.cell? ⟨g2, 0, none⟩ = some (.int .i64 y0) := blk_cell hk6 0; have d1 : w6.cell? ⟨g2, 1, none⟩ = some (.int .i64 y1) := blk_cell hk6 1; have d2 : w6.cell? ⟨g2, 2, none⟩ = some (.int .i64 y2) := blk_cell hk6 2; have d3 : w6.cell? ⟨g2, 3, none⟩ = some (.int .i64 y3) := blk_cell hk6 3; replace BK := Aside0.mk (blk_below BK.out hb6); replace HM := Aside0.mk (HM.out.below hb6); replace HB := Aside0.mk (below_step HB.out hb6); clear hb6 hk6; have hlk := HM.out.lookup WF0.out WF1.out; unfold endsV at hlk; rw [hsn] at hlk) | (at_mapUpdate; refine wpList_mapUpdate_seen _ rfl _ _ _ rfl mb j.toNat S rfl HM.out (small_max (by have := HJ0.out; have := HLT.out; have := HP.out; omega)) y0 y1 WF0.out WF1.out rfl rfl ?_; intro w7 hM7 hg7; clear hlk d0 d1 d2 d3 c0 c1; replace BK := Aside0.mk (blk_grown BK.out hg7 (by have := HG2.out; simp; omega)); replace HB := Aside0.mk (HB.out.grown hg7 HB.out.size (fun k hk => by cases hk; exact HMB.out)); clear HM hg7; replace HM := Aside0.mk hM7; clear hM7))
        go_roundg (l.length + 1 - (j + 1).toNat)
        case measure => have := HJ.out; have := HLT.out; omega
        case rel => exact ⟨j + 1, (y0, y1) :: S, by first | rfl | rw [hw'] | rw [hw], ⟨by have := HJ0.out; omega, by have := HLT.out; omega, Nat.le_refl _, by rw [show (j + 1).toNat = j.toNat + 1 by have := HJ0.out; omega]; exact HJ2.out⟩, ⟨by rw [show (j + 1).toNat = j.toNat + 1 by have := HJ0.out; omega]; exact HM.out⟩, HB, BK⟩
    have m2b : decide (0 < y2) = true := decide_eq_true m2
    by_cases m3 : y3 = 0
    case pos =>
      have m3b : (y3 == 0) = true := beq_iff_eq.mpr m3
      have hcv : ckv p ⟨y0, y1, y2, y3⟩ (decide ((y0, y1) ∈ S)) = 10 := by unfold ckv; rw [if_neg (show ¬ (y0 < 0 ∨ p < y0 ∨ y1 < 0 ∨ p < y1 ∨ y2 < 0 ∨ 10737418240000 < y2 ∨ y3 < 0 ∨ 128849018880000 < y3) by omega), if_pos (show y0 = y1 ∨ (0 < y2 ∧ y3 = 0) by omega)]
      rw [hcv, if_pos (by decide)] at hJ
      subst hJ
      clear hcv
      clear m1 m2 m3 a1 a2 a3 a4 a5 a6 a7 a8
      go_wp2_with (first | ((with_reducible refine gate_dst (N := 6) rfl ?_); refine box_event ?hg (N := 6) ?hd (cs := #[.int .i64 0, .int .i64 0, .int .i64 0, .int .i64 0]) (t := 28) ?hr ?_; (case hd => rfl); (case hg => rfl); (case hr => first | (go_simp; done) | (go_simp; rfl)); intro g2 hg w5 hbox hb5; have hc0 : w5.cell? ⟨g2, 0, none⟩ = some (.int .i64 0) := blk_cell hbox 0; have hf0 := blk_frozen hbox 0; have hc1 : w5.cell? ⟨g2, 1, none⟩ = some (.int .i64 0) := blk_cell hbox 1; have hf1 := blk_frozen hbox 1; have hc2 : w5.cell? ⟨g2, 2, none⟩ = some (.int .i64 0) := blk_cell hbox 2; have hf2 := blk_frozen hbox 2; have hc3 : w5.cell? ⟨g2, 3, none⟩ = some (.int .i64 0) := blk_cell hbox 3; have hf3 := blk_frozen hbox 3; replace hbox := Aside0.mk hbox; replace hb5 := Aside0.mk hb5; replace hg := Aside0.mk hg) | ((with_reducible refine gate_store (t := 28) (p := 6) rfl ?_); refine store_event (t := 28) (p := 6) (v := .tmp 29) (w1 := ((((w5.setCell ⟨g2, 0, none⟩ (.int .i64 y0)).setCell ⟨g2, 1, none⟩ (.int .i64 y1)).setCell ⟨g2, 2, none⟩ (.int .i64 y2)).setCell ⟨g2, 3, none⟩ (.int .i64 y3))) ?hg ?ho ?hn ?hr ?_; (case ho => rfl); (case hg => rfl); (case hn => rfl); (case hr => first | (go_simp; done) | (go_simp; rfl)); intro w6 hw6; clear hc0 hf0 hc1 hf1 hc2 hf2 hc3 hf3 h1 h2 h3 h4; have hbx := box4_ (x := .int .i64 y0) (y := .int .i64 y1) (z := .int .i64 y2) (u := .int .i64 y3) hb5.out hg.out hbox.out; rw [← hw6] at hbx; clear hw6 hb5 hg hbox; obtain ⟨hb6, hk6⟩ := hbx; replace c0 := pw_cell_below hb6 c0; replace c1 := pw_cell_below hb6 c1; have d0 : w6.cell? ⟨g2, 0, none⟩ = some (.int .i64 y0) := blk_cell hk6 0; have d1 : w6.cell? ⟨g2, 1, none⟩ = some (.int .i64 y1) := blk_cell hk6 1; have d2 : w6.cell? ⟨g2, 2, none⟩ = some (.int .i64 y2) := blk_cell hk6 2; have d3 : w6.cell? ⟨g2, 3, none⟩ = some (.int .i64 y3) := blk_cell hk6 3; replace BK := Aside0.mk (blk_below BK.out hb6); replace HM := Aside0.mk (HM.out.below hb6); replace HB := Aside0.mk (below_step HB.out hb6); clear hb6 hk6))
      go_ret2
      exact ⟨rfl, HB.out⟩
    have m3b : (y3 == 0) = false := beq_eq_false_iff_ne.mpr m3
    cases hsn : decide ((y0, y1) ∈ S)
    case true =>
      have hcv : ckv p ⟨y0, y1, y2, y3⟩ (decide ((y0, y1) ∈ S)) = 6 := by rw [hsn]; unfold ckv; rw [if_neg (show ¬ (y0 < 0 ∨ p < y0 ∨ y1 < 0 ∨ p < y1 ∨ y2 < 0 ∨ 10737418240000 < y2 ∨ y3 < 0 ∨ 128849018880000 < y3) by omega), if_neg (show ¬ (y0 = y1 ∨ (0 < y2 ∧ y3 = 0)) by omega), if_pos rfl]
      rw [hcv, if_pos (by decide)] at hJ
      subst hJ
      clear hcv
      clear m1 m2 m3 a1 a2 a3 a4 a5 a6 a7 a8
      go_wp2_with (first | ((with_reducible refine gate_dst (N := 6) rfl ?_); refine box_event ?hg (N := 6) ?hd (cs := #[.int .i64 0, .int .i64 0, .int .i64 0, .int .i64 0]) (t := 28) ?hr ?_; (case hd => rfl); (case hg => rfl); (case hr => first | (go_simp; done) | (go_simp; rfl)); intro g2 hg w5 hbox hb5; have hc0 : w5.cell? ⟨g2, 0, none⟩ = some (.int .i64 0) := blk_cell hbox 0; have hf0 := blk_frozen hbox 0; have hc1 : w5.cell? ⟨g2, 1, none⟩ = some (.int .i64 0) := blk_cell hbox 1; have hf1 := blk_frozen hbox 1; have hc2 : w5.cell? ⟨g2, 2, none⟩ = some (.int .i64 0) := blk_cell hbox 2; have hf2 := blk_frozen hbox 2; have hc3 : w5.cell? ⟨g2, 3, none⟩ = some (.int .i64 0) := blk_cell hbox 3; have hf3 := blk_frozen hbox 3; replace hbox := Aside0.mk hbox; replace hb5 := Aside0.mk hb5; replace hg := Aside0.mk hg) | ((with_reducible refine gate_store (t := 28) (p := 6) rfl ?_); refine store_event (t := 28) (p := 6) (v := .tmp 29) (w1 := ((((w5.setCell ⟨g2, 0, none⟩ (.int .i64 y0)).setCell ⟨g2, 1, none⟩ (.int .i64 y1)).setCell ⟨g2, 2, none⟩ (.int .i64 y2)).setCell ⟨g2, 3, none⟩ (.int .i64 y3))) ?hg ?ho ?hn ?hr ?_; (case ho => rfl); (case hg => rfl); (case hn => rfl); (case hr => first | (go_simp; done) | (go_simp; rfl)); intro w6 hw6; clear hc0 hf0 hc1 hf1 hc2 hf2 hc3 hf3 h1 h2 h3 h4; have hbx := box4_ (x := .int .i64 y0) (y := .int .i64 y1) (z := .int .i64 y2) (u := .int .i64 y3) hb5.out hg.out hbox.out; rw [← hw6] at hbx; clear hw6 hb5 hg hbox; obtain ⟨hb6, hk6⟩ := hbx; replace c0 := pw_cell_below hb6 c0; replace c1 := pw_cell_below hb6 c1; have d0 : w6.cell? ⟨g2, 0, none⟩ = some (.int .i64 y0) := blk_cell hk6 0; have d1 : w6.cell? ⟨g2, 1, none⟩ = some (.int .i64 y1) := blk_cell hk6 1; have d2 : w6.cell? ⟨g2, 2, none⟩ = some (.int .i64 y2) := blk_cell hk6 2; have d3 : w6.cell? ⟨g2, 3, none⟩ = some (.int .i64 y3) := blk_cell hk6 3; replace BK := Aside0.mk (blk_below BK.out hb6); replace HM := Aside0.mk (HM.out.below hb6); replace HB := Aside0.mk (below_step HB.out hb6); clear hb6 hk6; have hlk := HM.out.lookup WF0.out WF1.out; unfold endsV at hlk; rw [hsn] at hlk))
      go_ret2
      exact ⟨rfl, HB.out⟩
    case false =>
      have hcv : ckv p ⟨y0, y1, y2, y3⟩ (decide ((y0, y1) ∈ S)) = 0 := by rw [hsn]; unfold ckv; rw [if_neg (show ¬ (y0 < 0 ∨ p < y0 ∨ y1 < 0 ∨ p < y1 ∨ y2 < 0 ∨ 10737418240000 < y2 ∨ y3 < 0 ∨ 128849018880000 < y3) by omega), if_neg (show ¬ (y0 = y1 ∨ (0 < y2 ∧ y3 = 0)) by omega), if_neg (by decide)]
      rw [hcv, if_neg (by decide)] at hJ
      have HJ2 := Aside0.mk hJ
      clear hJ hcv
      clear m1 m2 m3 a1 a2 a3 a4 a5 a6 a7 a8
      go_wp2_with (first | ((with_reducible refine gate_dst (N := 6) rfl ?_); refine box_event ?hg (N := 6) ?hd (cs := #[.int .i64 0, .int .i64 0, .int .i64 0, .int .i64 0]) (t := 28) ?hr ?_; (case hd => rfl); (case hg => rfl); (case hr => first | (go_simp; done) | (go_simp; rfl)); intro g2 hg w5 hbox hb5; have hc0 : w5.cell? ⟨g2, 0, none⟩ = some (.int .i64 0) := blk_cell hbox 0; have hf0 := blk_frozen hbox 0; have hc1 : w5.cell? ⟨g2, 1, none⟩ = some (.int .i64 0) := blk_cell hbox 1; have hf1 := blk_frozen hbox 1; have hc2 : w5.cell? ⟨g2, 2, none⟩ = some (.int .i64 0) := blk_cell hbox 2; have hf2 := blk_frozen hbox 2; have hc3 : w5.cell? ⟨g2, 3, none⟩ = some (.int .i64 0) := blk_cell hbox 3; have hf3 := blk_frozen hbox 3; replace hbox := Aside0.mk hbox; replace hb5 := Aside0.mk hb5; replace hg := Aside0.mk hg) | ((with_reducible refine gate_store (t := 28) (p := 6) rfl ?_); refine store_event (t := 28) (p := 6) (v := .tmp 29) (w1 := ((((w5.setCell ⟨g2, 0, none⟩ (.int .i64 y0)).setCell ⟨g2, 1, none⟩ (.int .i64 y1)).setCell ⟨g2, 2, none⟩ (.int .i64 y2)).setCell ⟨g2, 3, none⟩ (.int .i64 y3))) ?hg ?ho ?hn ?hr ?_; (case ho => rfl); (case hg => rfl); (case hn => rfl); (case hr => first | (go_simp; done) | (go_simp; rfl)); intro w6 hw6; clear hc0 hf0 hc1 hf1 hc2 hf2 hc3 hf3 h1 h2 h3 h4; have hbx := box4_ (x := .int .i64 y0) (y := .int .i64 y1) (z := .int .i64 y2) (u := .int .i64 y3) hb5.out hg.out hbox.out; rw [← hw6] at hbx; clear hw6 hb5 hg hbox; obtain ⟨hb6, hk6⟩ := hbx; replace c0 := pw_cell_below hb6 c0; replace c1 := pw_cell_below hb6 c1; have d0 : w6.cell? ⟨g2, 0, none⟩ = some (.int .i64 y0) := blk_cell hk6 0; have d1 : w6.cell? ⟨g2, 1, none⟩ = some (.int .i64 y1) := blk_cell hk6 1; have d2 : w6.cell? ⟨g2, 2, none⟩ = some (.int .i64 y2) := blk_cell hk6 2; have d3 : w6.cell? ⟨g2, 3, none⟩ = some (.int .i64 y3) := blk_cell hk6 3; replace BK := Aside0.mk (blk_below BK.out hb6); replace HM := Aside0.mk (HM.out.below hb6); replace HB := Aside0.mk (below_step HB.out hb6); clear hb6 hk6; have hlk := HM.out.lookup WF0.out WF1.out; unfold endsV at hlk; rw [hsn] at hlk) | (at_mapUpdate; refine wpList_mapUpdate_seen _ rfl _ _ _ rfl mb j.toNat S rfl HM.out (small_max (by have := HJ0.out; have := HLT.out; have := HP.out; omega)) y0 y1 WF0.out WF1.out rfl rfl ?_; intro w7 hM7 hg7; clear hlk d0 d1 d2 d3 c0 c1; replace BK := Aside0.mk (blk_grown BK.out hg7 (by have := HG2.out; simp; omega)); replace HB := Aside0.mk (HB.out.grown hg7 HB.out.size (fun k hk => by cases hk; exact HMB.out)); clear HM hg7; replace HM := Aside0.mk hM7; clear hM7))
      go_roundg (l.length + 1 - (j + 1).toNat)
      case measure => have := HJ.out; have := HLT.out; omega
      case rel => exact ⟨j + 1, (y0, y1) :: S, by first | rfl | rw [hw'] | rw [hw], ⟨by have := HJ0.out; omega, by have := HLT.out; omega, Nat.le_refl _, by rw [show (j + 1).toNat = j.toNat + 1 by have := HJ0.out; omega]; exact HJ2.out⟩, ⟨by rw [show (j + 1).toNat = j.toNat + 1 by have := HJ0.out; omega]; exact HM.out⟩, HB, BK⟩

end Go.Proofs.Ytodfjkdgfjkifaa.PF
