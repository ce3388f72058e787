-- Written by a program of this session (wip/pr.py) out of Lean's print of the translation; Lean checks it.
import Derived.Test.YtdggkgkbjgigmaaPF0
import Derived.Test.YtdggkgkbjgigmaaPF1
import Derived.Test.YtdggkgkbjgigmaaPF5
import Derived.Test.YtdggkgkbjgigmaaPF6
namespace Go.Proofs.Ytdggkgkbjgigmaa.PF
open Go.RowKit Go.Proofs.YtdggkgkbjgigmaaW.PrintWords Go.Proofs.YtdggkgkbjgigmaaW.PrintLast Go.Proofs.YtdggkgkbjgigmaaW.PrintMore
attribute [local go_sem] max2_int min2_int max_two min_two max_three min_three max_four min_four   -- for this text's walks alone
set_option linter.unusedVariables false
set_option linter.unusedSimpArgs false

/-! ### reduce_planned: function 41 -/
def reduce_planned.l0 : Nat → List Int → Int → Int → Option (Int)
 | 0, _, _, _ => none
 | k + 1, x2, x34, x35 => if x35 < x34 then (if 0 ≤ x35 then (if x35 < (x2.length : Int) then (if 0 ≤ (wrap64 (x35 + 1)) then (if (wrap64 (x35 + 1)) < (x2.length : Int) then (if (rd x2 x35) ≤ (rd x2 (wrap64 (x35 + 1))) then (some 5) else (reduce_planned.l0 k x2 x34 (wrap64 (x35 + 1)))) else (none)) else (none)) else (none)) else (none)) else (some 0)
def reduce_planned.f (k : Nat) (l0 : List (S50)) (a1_0 : Int) (a1_1 : Int) (l2 : List Int) (a3 : Int) : Option (Int) := (reduce_ready.f l0 a1_0 a1_1 l2).bind fun t283 => (if t283 = 1 then (some t283) else (if (l2.length : Int) > 8 then (some 8) else (if a3 = (l2.length : Int) then (if t283 = 0 then (reduce_planned.l0 k l2 (wrap64 ((l2.length : Int) - 1)) 0) else (some t283)) else (some 10))))
theorem reduce_planned.mono_l : ∀ k, (∀ y0 y1 y2, LeO (reduce_planned.l0 k y0 y1 y2) (reduce_planned.l0 (k + 1) y0 y1 y2))
 | 0 => fun _ _ _ r h => by simp [reduce_planned.l0] at h
 | k + 1 => by
  have ih0 := reduce_planned.mono_l k
  ·intro y0 y1 y2
   unfold reduce_planned.l0
   repeat' first
   | (with_reducible exact ih0 _ _ _)
   | (with_reducible exact LeO.refl _)
   | (with_reducible exact LeO.none _)
   | (with_reducible refine LeO.ite ?_ ?_)
   | (with_reducible refine LeO.bind ?_ (fun _ => ?_))
   | exact ih0 _ _ _
   | exact LeO.none _
   | refine LeO.ite ?_ ?_
   | refine LeO.bind ?_ (fun _ => ?_)
theorem reduce_planned.mono : ∀ a0 a1 a2 a3 a4 k, LeO (reduce_planned.f k a0 a1 a2 a3 a4) (reduce_planned.f (k + 1) a0 a1 a2 a3 a4) := by
 intro a0 a1 a2 a3 a4 k
 have ih0 := reduce_planned.mono_l k
 unfold reduce_planned.f
 repeat' first
   | (with_reducible exact ih0 _ _ _)
   | (with_reducible exact LeO.refl _)
   | (with_reducible exact LeO.none _)
   | (with_reducible refine LeO.ite ?_ ?_)
   | (with_reducible refine LeO.bind ?_ (fun _ => ?_))
   | exact ih0 _ _ _
   | exact LeO.none _
   | refine LeO.ite ?_ ?_
   | refine LeO.bind ?_ (fun _ => ?_)
set_option maxHeartbeats 8000000 in
set_option maxRecDepth 100000 in
theorem reduce_planned.calls (k : Nat) (A0 : Option Addr) (c0 : Nat) (l0 : List (S50)) (a1_0 : Int) (a1_1 : Int) (A2 : Option Addr) (c2 : Nat) (l2 : List Int) (a3 : Int) (r : Int) (w : World) (hr0 : Kd.C k50 w A0 l0.length l0) (hc0 : l0.length ≤ c0) (hr2 : Kd.C (Kd.int .i64) w A2 l2.length l2) (hc2 : l2.length ≤ c2) (h : reduce_planned.f k l0 a1_0 a1_1 l2 a3 = some r) :
  Calls Try.prog 41 #[.slice A0 l0.length c0, .agg #[.int .i64 a1_0, .int .i64 a1_1], .slice A2 l2.length c2, .int .i64 a3] w fun e w' => e = .returned (.int .i64 r) ∧ Below w.heap.size w w' := by
 have hu24 := Try.underlying24
 have HR0 := Aside0.mk hr0
 have HC0 := Aside0.mk hc0
 clear hr0 hc0
 have HR2 := Aside0.mk hr2
 have HC2 := Aside0.mk hc2
 clear hr2 hc2
 have HB := Aside0.mk (Below.refl w.heap.size w)
 have H : ((reduce_ready.f l0 a1_0 a1_1 l2).bind fun t283 => (if t283 = 1 then (some t283) else (if (l2.length : Int) > 8 then (some 8) else (if a3 = (l2.length : Int) then (if t283 = 0 then (reduce_planned.l0 k l2 (wrap64 ((l2.length : Int) - 1)) 0) else (some t283)) else (some 10))))) = some r := h
 clear h
 replace H := Option.bind_eq_some_iff.mp H
 obtain ⟨t283, A50, H⟩ := H
 replace H : (if t283 = 1 then (some t283) else (if (l2.length : Int) > 8 then (some 8) else (if a3 = (l2.length : Int) then (if t283 = 0 then (reduce_planned.l0 k l2 (wrap64 ((l2.length : Int) - 1)) 0) else (some t283)) else (some 10)))) = some r := H
 have A5 := Aside0.mk A50
 clear A50
 by_cases c6 : t283 = 1
 ·rw [if_pos c6] at H
  have c6b0 : (t283 == 1) = true := beq_iff_eq.mpr c6
  have c6b1 : (t283 != 1) = false := bne_eq_false_iff_eq.mpr c6
  clear c6
  obtain rfl := Option.some.inj H
  go_enter Try.func41, Try.ntmps41
  go_wp2_with (first | ((with_reducible refine gate_dst (N := 5) rfl ?_); refine box_event ?hg (N := 5) ?hd (cs := #[.int .i64 a1_0, .int .i64 a1_1]) (t := 24) ?hr ?_; (case hd => rfl); (case hg => rfl); (case hr => first | (go_simp; done) | (go_simp; rfl)); intro gb282 hg w7 hbox hb; have n0_ := Aside0.mk (below_step (by repeat (first | (with_reducible first | exact HB.out | apply below_alloc | apply pw_below_drewN | apply below_drew1) | exact HB.out)) hb); have n1_ := Aside0.mk (hbox); have n2_ := Aside0.mk ((by rw [hg]; exact (below_size (by repeat (first | (with_reducible first | exact HB.out | apply below_alloc | apply pw_below_drewN | apply below_drew1) | exact HB.out))) : w.heap.size ≤ gb282)); have n3_ := Aside0.mk ((by rw [hg]; exact (below_size (by repeat (first | (with_reducible first | exact HB.out | apply below_alloc | apply pw_below_drewN | apply below_drew1) | exact HB.out))) : w.heap.size ≤ gb282)); clear HB; have HB := n0_; have BK282 := n1_; have GW282 := n2_; have GE282 := n3_; clear n0_ n1_ n2_ n3_; clear hb hbox hg; have hcz8_0 : w7.cell? ⟨gb282, 0, none⟩ = some (.int .i64 a1_0) := (blk_cell BK282.out 0).trans rfl; have hcz8_1 : w7.cell? ⟨gb282, 1, none⟩ = some (.int .i64 a1_1) := (blk_cell BK282.out 1).trans rfl; have hfz8_0 := blk_frozen BK282.out 0; have hfz8_1 := blk_frozen BK282.out 1) | (go_at_call 27; (with_reducible refine (reduce_ready.calls _ _ l0 a1_0 a1_1 _ _ l2 t283 _ ?side1 ?side2 ?side3 ?side4 A5.out).mono ?_); (case side1 => repeat (first | exact (Kd.C_below HR0.out HB.out) | (with_reducible refine Kd.C_alloc ?_ _) | (with_reducible refine Kd.C_drewN ?_ _) | (with_reducible refine Kd.C_drew ?_))); (case side2 => exact HC0.out); (case side3 => repeat (first | exact (Kd.C_below HR2.out HB.out) | (with_reducible refine Kd.C_alloc ?_ _) | (with_reducible refine Kd.C_drewN ?_ _) | (with_reducible refine Kd.C_drew ?_))); (case side4 => exact HC2.out); rintro e w9 ⟨rfl, hb⟩; have n0_ := Aside0.mk (blk_below (g := gb282) (o := .cells #[.int .i64 a1_0, .int .i64 a1_1] 24 (0, 0)) (by (with_reducible repeat (first | refine blk_drewN ?_ _ | refine blk_drew ?_ | refine blk_alloc ?_ _)); exact BK282.out) hb); have n1_ := Aside0.mk (below_step (by repeat (first | (with_reducible first | exact HB.out | apply below_alloc | apply pw_below_drewN | apply below_drew1 | refine below_set ?_ GE282.out) | exact HB.out)) hb); clear BK282; clear HB; have BK282 := n0_; have HB := n1_; clear n0_ n1_; (try clear hb); (try clear hb2); (try clear hk); (try clear hi)))
  repeat (go_quiet (first | ((with_reducible refine gate_dst (N := 5) rfl ?_); refine box_event ?hg (N := 5) ?hd (cs := #[.int .i64 a1_0, .int .i64 a1_1]) (t := 24) ?hr ?_; (case hd => rfl); (case hg => rfl); (case hr => first | (go_simp; done) | (go_simp; rfl)); intro gb282 hg w7 hbox hb; have n0_ := Aside0.mk (below_step (by repeat (first | (with_reducible first | exact HB.out | apply below_alloc | apply pw_below_drewN | apply below_drew1) | exact HB.out)) hb); have n1_ := Aside0.mk (hbox); have n2_ := Aside0.mk ((by rw [hg]; exact (below_size (by repeat (first | (with_reducible first | exact HB.out | apply below_alloc | apply pw_below_drewN | apply below_drew1) | exact HB.out))) : w.heap.size ≤ gb282)); have n3_ := Aside0.mk ((by rw [hg]; exact (below_size (by repeat (first | (with_reducible first | exact HB.out | apply below_alloc | apply pw_below_drewN | apply below_drew1) | exact HB.out))) : w.heap.size ≤ gb282)); clear HB; have HB := n0_; have BK282 := n1_; have GW282 := n2_; have GE282 := n3_; clear n0_ n1_ n2_ n3_; clear hb hbox hg; have hcz8_0 : w7.cell? ⟨gb282, 0, none⟩ = some (.int .i64 a1_0) := (blk_cell BK282.out 0).trans rfl; have hcz8_1 : w7.cell? ⟨gb282, 1, none⟩ = some (.int .i64 a1_1) := (blk_cell BK282.out 1).trans rfl; have hfz8_0 := blk_frozen BK282.out 0; have hfz8_1 := blk_frozen BK282.out 1) | (go_at_call 27; (with_reducible refine (reduce_ready.calls _ _ l0 a1_0 a1_1 _ _ l2 t283 _ ?side1 ?side2 ?side3 ?side4 A5.out).mono ?_); (case side1 => repeat (first | exact (Kd.C_below HR0.out HB.out) | (with_reducible refine Kd.C_alloc ?_ _) | (with_reducible refine Kd.C_drewN ?_ _) | (with_reducible refine Kd.C_drew ?_))); (case side2 => exact HC0.out); (case side3 => repeat (first | exact (Kd.C_below HR2.out HB.out) | (with_reducible refine Kd.C_alloc ?_ _) | (with_reducible refine Kd.C_drewN ?_ _) | (with_reducible refine Kd.C_drew ?_))); (case side4 => exact HC2.out); rintro e w9 ⟨rfl, hb⟩; have n0_ := Aside0.mk (blk_below (g := gb282) (o := .cells #[.int .i64 a1_0, .int .i64 a1_1] 24 (0, 0)) (by (with_reducible repeat (first | refine blk_drewN ?_ _ | refine blk_drew ?_ | refine blk_alloc ?_ _)); exact BK282.out) hb); have n1_ := Aside0.mk (below_step (by repeat (first | (with_reducible first | exact HB.out | apply below_alloc | apply pw_below_drewN | apply below_drew1 | refine below_set ?_ GE282.out) | exact HB.out)) hb); clear BK282; clear HB; have BK282 := n0_; have HB := n1_; clear n0_ n1_; (try clear hb); (try clear hb2); (try clear hk); (try clear hi))); try go_wp2_with (first | ((with_reducible refine gate_dst (N := 5) rfl ?_); refine box_event ?hg (N := 5) ?hd (cs := #[.int .i64 a1_0, .int .i64 a1_1]) (t := 24) ?hr ?_; (case hd => rfl); (case hg => rfl); (case hr => first | (go_simp; done) | (go_simp; rfl)); intro gb282 hg w7 hbox hb; have n0_ := Aside0.mk (below_step (by repeat (first | (with_reducible first | exact HB.out | apply below_alloc | apply pw_below_drewN | apply below_drew1) | exact HB.out)) hb); have n1_ := Aside0.mk (hbox); have n2_ := Aside0.mk ((by rw [hg]; exact (below_size (by repeat (first | (with_reducible first | exact HB.out | apply below_alloc | apply pw_below_drewN | apply below_drew1) | exact HB.out))) : w.heap.size ≤ gb282)); have n3_ := Aside0.mk ((by rw [hg]; exact (below_size (by repeat (first | (with_reducible first | exact HB.out | apply below_alloc | apply pw_below_drewN | apply below_drew1) | exact HB.out))) : w.heap.size ≤ gb282)); clear HB; have HB := n0_; have BK282 := n1_; have GW282 := n2_; have GE282 := n3_; clear n0_ n1_ n2_ n3_; clear hb hbox hg; have hcz8_0 : w7.cell? ⟨gb282, 0, none⟩ = some (.int .i64 a1_0) := (blk_cell BK282.out 0).trans rfl; have hcz8_1 : w7.cell? ⟨gb282, 1, none⟩ = some (.int .i64 a1_1) := (blk_cell BK282.out 1).trans rfl; have hfz8_0 := blk_frozen BK282.out 0; have hfz8_1 := blk_frozen BK282.out 1) | (go_at_call 27; (with_reducible refine (reduce_ready.calls _ _ l0 a1_0 a1_1 _ _ l2 t283 _ ?side1 ?side2 ?side3 ?side4 A5.out).mono ?_); (case side1 => repeat (first | exact (Kd.C_below HR0.out HB.out) | (with_reducible refine Kd.C_alloc ?_ _) | (with_reducible refine Kd.C_drewN ?_ _) | (with_reducible refine Kd.C_drew ?_))); (case side2 => exact HC0.out); (case side3 => repeat (first | exact (Kd.C_below HR2.out HB.out) | (with_reducible refine Kd.C_alloc ?_ _) | (with_reducible refine Kd.C_drewN ?_ _) | (with_reducible refine Kd.C_drew ?_))); (case side4 => exact HC2.out); rintro e w9 ⟨rfl, hb⟩; have n0_ := Aside0.mk (blk_below (g := gb282) (o := .cells #[.int .i64 a1_0, .int .i64 a1_1] 24 (0, 0)) (by (with_reducible repeat (first | refine blk_drewN ?_ _ | refine blk_drew ?_ | refine blk_alloc ?_ _)); exact BK282.out) hb); have n1_ := Aside0.mk (below_step (by repeat (first | (with_reducible first | exact HB.out | apply below_alloc | apply pw_below_drewN | apply below_drew1 | refine below_set ?_ GE282.out) | exact HB.out)) hb); clear BK282; clear HB; have BK282 := n0_; have HB := n1_; clear n0_ n1_; (try clear hb); (try clear hb2); (try clear hk); (try clear hi))))
  go_ret
  exact ⟨by first | rfl | (simp [errW_none, errW_some] <;> rfl) | (simp [*, errW_none, errW_some] <;> rfl), by repeat (first | (with_reducible first | exact HB.out | apply below_alloc | apply pw_below_drewN | apply below_drew1 | refine below_set ?_ GE282.out) | exact HB.out)⟩
 ·rw [if_neg c6] at H
  have c6b0 : (t283 == 1) = false := beq_eq_false_iff_ne.mpr c6
  have c6b1 : (t283 != 1) = true := bne_iff_ne.mpr c6
  by_cases c10 : (l2.length : Int) > 8
  ·rw [if_pos c10] at H
   have c10b0 : decide (8 < (l2.length : Int)) = true := decide_eq_true c10
   have c10b1 : decide (8 < l2.length) = true := decide_eq_true (by omega)
   clear c10
   obtain rfl := Option.some.inj H
   go_enter Try.func41, Try.ntmps41
   go_wp2_with (first | ((with_reducible refine gate_dst (N := 5) rfl ?_); refine box_event ?hg (N := 5) ?hd (cs := #[.int .i64 a1_0, .int .i64 a1_1]) (t := 24) ?hr ?_; (case hd => rfl); (case hg => rfl); (case hr => first | (go_simp; done) | (go_simp; rfl)); intro gb282 hg w11 hbox hb; have n0_ := Aside0.mk (below_step (by repeat (first | (with_reducible first | exact HB.out | apply below_alloc | apply pw_below_drewN | apply below_drew1) | exact HB.out)) hb); have n1_ := Aside0.mk (hbox); have n2_ := Aside0.mk ((by rw [hg]; exact (below_size (by repeat (first | (with_reducible first | exact HB.out | apply below_alloc | apply pw_below_drewN | apply below_drew1) | exact HB.out))) : w.heap.size ≤ gb282)); have n3_ := Aside0.mk ((by rw [hg]; exact (below_size (by repeat (first | (with_reducible first | exact HB.out | apply below_alloc | apply pw_below_drewN | apply below_drew1) | exact HB.out))) : w.heap.size ≤ gb282)); clear HB; have HB := n0_; have BK282 := n1_; have GW282 := n2_; have GE282 := n3_; clear n0_ n1_ n2_ n3_; clear hb hbox hg; have hcz12_0 : w11.cell? ⟨gb282, 0, none⟩ = some (.int .i64 a1_0) := (blk_cell BK282.out 0).trans rfl; have hcz12_1 : w11.cell? ⟨gb282, 1, none⟩ = some (.int .i64 a1_1) := (blk_cell BK282.out 1).trans rfl; have hfz12_0 := blk_frozen BK282.out 0; have hfz12_1 := blk_frozen BK282.out 1) | (go_at_call 27; (with_reducible refine (reduce_ready.calls _ _ l0 a1_0 a1_1 _ _ l2 t283 _ ?side1 ?side2 ?side3 ?side4 A5.out).mono ?_); (case side1 => repeat (first | exact (Kd.C_below HR0.out HB.out) | (with_reducible refine Kd.C_alloc ?_ _) | (with_reducible refine Kd.C_drewN ?_ _) | (with_reducible refine Kd.C_drew ?_))); (case side2 => exact HC0.out); (case side3 => repeat (first | exact (Kd.C_below HR2.out HB.out) | (with_reducible refine Kd.C_alloc ?_ _) | (with_reducible refine Kd.C_drewN ?_ _) | (with_reducible refine Kd.C_drew ?_))); (case side4 => exact HC2.out); rintro e w13 ⟨rfl, hb⟩; have n0_ := Aside0.mk (blk_below (g := gb282) (o := .cells #[.int .i64 a1_0, .int .i64 a1_1] 24 (0, 0)) (by (with_reducible repeat (first | refine blk_drewN ?_ _ | refine blk_drew ?_ | refine blk_alloc ?_ _)); exact BK282.out) hb); have n1_ := Aside0.mk (below_step (by repeat (first | (with_reducible first | exact HB.out | apply below_alloc | apply pw_below_drewN | apply below_drew1 | refine below_set ?_ GE282.out) | exact HB.out)) hb); clear BK282; clear HB; have BK282 := n0_; have HB := n1_; clear n0_ n1_; (try clear hb); (try clear hb2); (try clear hk); (try clear hi)))
   repeat (go_quiet (first | ((with_reducible refine gate_dst (N := 5) rfl ?_); refine box_event ?hg (N := 5) ?hd (cs := #[.int .i64 a1_0, .int .i64 a1_1]) (t := 24) ?hr ?_; (case hd => rfl); (case hg => rfl); (case hr => first | (go_simp; done) | (go_simp; rfl)); intro gb282 hg w11 hbox hb; have n0_ := Aside0.mk (below_step (by repeat (first | (with_reducible first | exact HB.out | apply below_alloc | apply pw_below_drewN | apply below_drew1) | exact HB.out)) hb); have n1_ := Aside0.mk (hbox); have n2_ := Aside0.mk ((by rw [hg]; exact (below_size (by repeat (first | (with_reducible first | exact HB.out | apply below_alloc | apply pw_below_drewN | apply below_drew1) | exact HB.out))) : w.heap.size ≤ gb282)); have n3_ := Aside0.mk ((by rw [hg]; exact (below_size (by repeat (first | (with_reducible first | exact HB.out | apply below_alloc | apply pw_below_drewN | apply below_drew1) | exact HB.out))) : w.heap.size ≤ gb282)); clear HB; have HB := n0_; have BK282 := n1_; have GW282 := n2_; have GE282 := n3_; clear n0_ n1_ n2_ n3_; clear hb hbox hg; have hcz12_0 : w11.cell? ⟨gb282, 0, none⟩ = some (.int .i64 a1_0) := (blk_cell BK282.out 0).trans rfl; have hcz12_1 : w11.cell? ⟨gb282, 1, none⟩ = some (.int .i64 a1_1) := (blk_cell BK282.out 1).trans rfl; have hfz12_0 := blk_frozen BK282.out 0; have hfz12_1 := blk_frozen BK282.out 1) | (go_at_call 27; (with_reducible refine (reduce_ready.calls _ _ l0 a1_0 a1_1 _ _ l2 t283 _ ?side1 ?side2 ?side3 ?side4 A5.out).mono ?_); (case side1 => repeat (first | exact (Kd.C_below HR0.out HB.out) | (with_reducible refine Kd.C_alloc ?_ _) | (with_reducible refine Kd.C_drewN ?_ _) | (with_reducible refine Kd.C_drew ?_))); (case side2 => exact HC0.out); (case side3 => repeat (first | exact (Kd.C_below HR2.out HB.out) | (with_reducible refine Kd.C_alloc ?_ _) | (with_reducible refine Kd.C_drewN ?_ _) | (with_reducible refine Kd.C_drew ?_))); (case side4 => exact HC2.out); rintro e w13 ⟨rfl, hb⟩; have n0_ := Aside0.mk (blk_below (g := gb282) (o := .cells #[.int .i64 a1_0, .int .i64 a1_1] 24 (0, 0)) (by (with_reducible repeat (first | refine blk_drewN ?_ _ | refine blk_drew ?_ | refine blk_alloc ?_ _)); exact BK282.out) hb); have n1_ := Aside0.mk (below_step (by repeat (first | (with_reducible first | exact HB.out | apply below_alloc | apply pw_below_drewN | apply below_drew1 | refine below_set ?_ GE282.out) | exact HB.out)) hb); clear BK282; clear HB; have BK282 := n0_; have HB := n1_; clear n0_ n1_; (try clear hb); (try clear hb2); (try clear hk); (try clear hi))); try go_wp2_with (first | ((with_reducible refine gate_dst (N := 5) rfl ?_); refine box_event ?hg (N := 5) ?hd (cs := #[.int .i64 a1_0, .int .i64 a1_1]) (t := 24) ?hr ?_; (case hd => rfl); (case hg => rfl); (case hr => first | (go_simp; done) | (go_simp; rfl)); intro gb282 hg w11 hbox hb; have n0_ := Aside0.mk (below_step (by repeat (first | (with_reducible first | exact HB.out | apply below_alloc | apply pw_below_drewN | apply below_drew1) | exact HB.out)) hb); have n1_ := Aside0.mk (hbox); have n2_ := Aside0.mk ((by rw [hg]; exact (below_size (by repeat (first | (with_reducible first | exact HB.out | apply below_alloc | apply pw_below_drewN | apply below_drew1) | exact HB.out))) : w.heap.size ≤ gb282)); have n3_ := Aside0.mk ((by rw [hg]; exact (below_size (by repeat (first | (with_reducible first | exact HB.out | apply below_alloc | apply pw_below_drewN | apply below_drew1) | exact HB.out))) : w.heap.size ≤ gb282)); clear HB; have HB := n0_; have BK282 := n1_; have GW282 := n2_; have GE282 := n3_; clear n0_ n1_ n2_ n3_; clear hb hbox hg; have hcz12_0 : w11.cell? ⟨gb282, 0, none⟩ = some (.int .i64 a1_0) := (blk_cell BK282.out 0).trans rfl; have hcz12_1 : w11.cell? ⟨gb282, 1, none⟩ = some (.int .i64 a1_1) := (blk_cell BK282.out 1).trans rfl; have hfz12_0 := blk_frozen BK282.out 0; have hfz12_1 := blk_frozen BK282.out 1) | (go_at_call 27; (with_reducible refine (reduce_ready.calls _ _ l0 a1_0 a1_1 _ _ l2 t283 _ ?side1 ?side2 ?side3 ?side4 A5.out).mono ?_); (case side1 => repeat (first | exact (Kd.C_below HR0.out HB.out) | (with_reducible refine Kd.C_alloc ?_ _) | (with_reducible refine Kd.C_drewN ?_ _) | (with_reducible refine Kd.C_drew ?_))); (case side2 => exact HC0.out); (case side3 => repeat (first | exact (Kd.C_below HR2.out HB.out) | (with_reducible refine Kd.C_alloc ?_ _) | (with_reducible refine Kd.C_drewN ?_ _) | (with_reducible refine Kd.C_drew ?_))); (case side4 => exact HC2.out); rintro e w13 ⟨rfl, hb⟩; have n0_ := Aside0.mk (blk_below (g := gb282) (o := .cells #[.int .i64 a1_0, .int .i64 a1_1] 24 (0, 0)) (by (with_reducible repeat (first | refine blk_drewN ?_ _ | refine blk_drew ?_ | refine blk_alloc ?_ _)); exact BK282.out) hb); have n1_ := Aside0.mk (below_step (by repeat (first | (with_reducible first | exact HB.out | apply below_alloc | apply pw_below_drewN | apply below_drew1 | refine below_set ?_ GE282.out) | exact HB.out)) hb); clear BK282; clear HB; have BK282 := n0_; have HB := n1_; clear n0_ n1_; (try clear hb); (try clear hb2); (try clear hk); (try clear hi))))
   go_ret
   exact ⟨by first | rfl | (simp [errW_none, errW_some] <;> rfl) | (simp [*, errW_none, errW_some] <;> rfl), by repeat (first | (with_reducible first | exact HB.out | apply below_alloc | apply pw_below_drewN | apply below_drew1 | refine below_set ?_ GE282.out) | exact HB.out)⟩
  ·rw [if_neg c10] at H
   have c10b0 : decide (8 < (l2.length : Int)) = false := decide_eq_false c10
   have c10b1 : decide (8 < l2.length) = false := decide_eq_false (by omega)
   clear c10
   by_cases c14 : a3 = (l2.length : Int)
   ·rw [if_pos c14] at H
    have c14b0 : (a3 == (l2.length : Int)) = true := beq_iff_eq.mpr c14
    have c14b1 : (a3 != (l2.length : Int)) = false := bne_eq_false_iff_eq.mpr c14
    clear c14
    by_cases c15 : t283 = 0
    ·rw [if_pos c15] at H
     have c15b0 : (t283 == 0) = true := beq_iff_eq.mpr c15
     have c15b1 : (t283 != 0) = false := bne_eq_false_iff_eq.mpr c15
     clear c15
     have H' := Aside0.mk H
     clear H
     go_enter Try.func41, Try.ntmps41
     go_wp2_with (first | ((with_reducible refine gate_dst (N := 5) rfl ?_); refine box_event ?hg (N := 5) ?hd (cs := #[.int .i64 a1_0, .int .i64 a1_1]) (t := 24) ?hr ?_; (case hd => rfl); (case hg => rfl); (case hr => first | (go_simp; done) | (go_simp; rfl)); intro gb282 hg w16 hbox hb; have n0_ := Aside0.mk (below_step (by repeat (first | (with_reducible first | exact HB.out | apply below_alloc | apply pw_below_drewN | apply below_drew1) | exact HB.out)) hb); have n1_ := Aside0.mk (hbox); have n2_ := Aside0.mk ((by rw [hg]; exact (below_size (by repeat (first | (with_reducible first | exact HB.out | apply below_alloc | apply pw_below_drewN | apply below_drew1) | exact HB.out))) : w.heap.size ≤ gb282)); have n3_ := Aside0.mk ((by rw [hg]; exact (below_size (by repeat (first | (with_reducible first | exact HB.out | apply below_alloc | apply pw_below_drewN | apply below_drew1) | exact HB.out))) : w.heap.size ≤ gb282)); clear HB; have HB := n0_; have BK282 := n1_; have GW282 := n2_; have GE282 := n3_; clear n0_ n1_ n2_ n3_; clear hb hbox hg; have hcz17_0 : w16.cell? ⟨gb282, 0, none⟩ = some (.int .i64 a1_0) := (blk_cell BK282.out 0).trans rfl; have hcz17_1 : w16.cell? ⟨gb282, 1, none⟩ = some (.int .i64 a1_1) := (blk_cell BK282.out 1).trans rfl; have hfz17_0 := blk_frozen BK282.out 0; have hfz17_1 := blk_frozen BK282.out 1) | (go_at_call 27; (with_reducible refine (reduce_ready.calls _ _ l0 a1_0 a1_1 _ _ l2 t283 _ ?side1 ?side2 ?side3 ?side4 A5.out).mono ?_); (case side1 => repeat (first | exact (Kd.C_below HR0.out HB.out) | (with_reducible refine Kd.C_alloc ?_ _) | (with_reducible refine Kd.C_drewN ?_ _) | (with_reducible refine Kd.C_drew ?_))); (case side2 => exact HC0.out); (case side3 => repeat (first | exact (Kd.C_below HR2.out HB.out) | (with_reducible refine Kd.C_alloc ?_ _) | (with_reducible refine Kd.C_drewN ?_ _) | (with_reducible refine Kd.C_drew ?_))); (case side4 => exact HC2.out); rintro e w18 ⟨rfl, hb⟩; have n0_ := Aside0.mk (blk_below (g := gb282) (o := .cells #[.int .i64 a1_0, .int .i64 a1_1] 24 (0, 0)) (by (with_reducible repeat (first | refine blk_drewN ?_ _ | refine blk_drew ?_ | refine blk_alloc ?_ _)); exact BK282.out) hb); have n1_ := Aside0.mk (below_step (by repeat (first | (with_reducible first | exact HB.out | apply below_alloc | apply pw_below_drewN | apply below_drew1 | refine below_set ?_ GE282.out) | exact HB.out)) hb); clear BK282; clear HB; have BK282 := n0_; have HB := n1_; clear n0_ n1_; (try clear hb); (try clear hb2); (try clear hk); (try clear hi)))
     repeat (go_quiet (first | ((with_reducible refine gate_dst (N := 5) rfl ?_); refine box_event ?hg (N := 5) ?hd (cs := #[.int .i64 a1_0, .int .i64 a1_1]) (t := 24) ?hr ?_; (case hd => rfl); (case hg => rfl); (case hr => first | (go_simp; done) | (go_simp; rfl)); intro gb282 hg w16 hbox hb; have n0_ := Aside0.mk (below_step (by repeat (first | (with_reducible first | exact HB.out | apply below_alloc | apply pw_below_drewN | apply below_drew1) | exact HB.out)) hb); have n1_ := Aside0.mk (hbox); have n2_ := Aside0.mk ((by rw [hg]; exact (below_size (by repeat (first | (with_reducible first | exact HB.out | apply below_alloc | apply pw_below_drewN | apply below_drew1) | exact HB.out))) : w.heap.size ≤ gb282)); have n3_ := Aside0.mk ((by rw [hg]; exact (below_size (by repeat (first | (with_reducible first | exact HB.out | apply below_alloc | apply pw_below_drewN | apply below_drew1) | exact HB.out))) : w.heap.size ≤ gb282)); clear HB; have HB := n0_; have BK282 := n1_; have GW282 := n2_; have GE282 := n3_; clear n0_ n1_ n2_ n3_; clear hb hbox hg; have hcz17_0 : w16.cell? ⟨gb282, 0, none⟩ = some (.int .i64 a1_0) := (blk_cell BK282.out 0).trans rfl; have hcz17_1 : w16.cell? ⟨gb282, 1, none⟩ = some (.int .i64 a1_1) := (blk_cell BK282.out 1).trans rfl; have hfz17_0 := blk_frozen BK282.out 0; have hfz17_1 := blk_frozen BK282.out 1) | (go_at_call 27; (with_reducible refine (reduce_ready.calls _ _ l0 a1_0 a1_1 _ _ l2 t283 _ ?side1 ?side2 ?side3 ?side4 A5.out).mono ?_); (case side1 => repeat (first | exact (Kd.C_below HR0.out HB.out) | (with_reducible refine Kd.C_alloc ?_ _) | (with_reducible refine Kd.C_drewN ?_ _) | (with_reducible refine Kd.C_drew ?_))); (case side2 => exact HC0.out); (case side3 => repeat (first | exact (Kd.C_below HR2.out HB.out) | (with_reducible refine Kd.C_alloc ?_ _) | (with_reducible refine Kd.C_drewN ?_ _) | (with_reducible refine Kd.C_drew ?_))); (case side4 => exact HC2.out); rintro e w18 ⟨rfl, hb⟩; have n0_ := Aside0.mk (blk_below (g := gb282) (o := .cells #[.int .i64 a1_0, .int .i64 a1_1] 24 (0, 0)) (by (with_reducible repeat (first | refine blk_drewN ?_ _ | refine blk_drew ?_ | refine blk_alloc ?_ _)); exact BK282.out) hb); have n1_ := Aside0.mk (below_step (by repeat (first | (with_reducible first | exact HB.out | apply below_alloc | apply pw_below_drewN | apply below_drew1 | refine below_set ?_ GE282.out) | exact HB.out)) hb); clear BK282; clear HB; have BK282 := n0_; have HB := n1_; clear n0_ n1_; (try clear hb); (try clear hb2); (try clear hk); (try clear hi))); try go_wp2_with (first | ((with_reducible refine gate_dst (N := 5) rfl ?_); refine box_event ?hg (N := 5) ?hd (cs := #[.int .i64 a1_0, .int .i64 a1_1]) (t := 24) ?hr ?_; (case hd => rfl); (case hg => rfl); (case hr => first | (go_simp; done) | (go_simp; rfl)); intro gb282 hg w16 hbox hb; have n0_ := Aside0.mk (below_step (by repeat (first | (with_reducible first | exact HB.out | apply below_alloc | apply pw_below_drewN | apply below_drew1) | exact HB.out)) hb); have n1_ := Aside0.mk (hbox); have n2_ := Aside0.mk ((by rw [hg]; exact (below_size (by repeat (first | (with_reducible first | exact HB.out | apply below_alloc | apply pw_below_drewN | apply below_drew1) | exact HB.out))) : w.heap.size ≤ gb282)); have n3_ := Aside0.mk ((by rw [hg]; exact (below_size (by repeat (first | (with_reducible first | exact HB.out | apply below_alloc | apply pw_below_drewN | apply below_drew1) | exact HB.out))) : w.heap.size ≤ gb282)); clear HB; have HB := n0_; have BK282 := n1_; have GW282 := n2_; have GE282 := n3_; clear n0_ n1_ n2_ n3_; clear hb hbox hg; have hcz17_0 : w16.cell? ⟨gb282, 0, none⟩ = some (.int .i64 a1_0) := (blk_cell BK282.out 0).trans rfl; have hcz17_1 : w16.cell? ⟨gb282, 1, none⟩ = some (.int .i64 a1_1) := (blk_cell BK282.out 1).trans rfl; have hfz17_0 := blk_frozen BK282.out 0; have hfz17_1 := blk_frozen BK282.out 1) | (go_at_call 27; (with_reducible refine (reduce_ready.calls _ _ l0 a1_0 a1_1 _ _ l2 t283 _ ?side1 ?side2 ?side3 ?side4 A5.out).mono ?_); (case side1 => repeat (first | exact (Kd.C_below HR0.out HB.out) | (with_reducible refine Kd.C_alloc ?_ _) | (with_reducible refine Kd.C_drewN ?_ _) | (with_reducible refine Kd.C_drew ?_))); (case side2 => exact HC0.out); (case side3 => repeat (first | exact (Kd.C_below HR2.out HB.out) | (with_reducible refine Kd.C_alloc ?_ _) | (with_reducible refine Kd.C_drewN ?_ _) | (with_reducible refine Kd.C_drew ?_))); (case side4 => exact HC2.out); rintro e w18 ⟨rfl, hb⟩; have n0_ := Aside0.mk (blk_below (g := gb282) (o := .cells #[.int .i64 a1_0, .int .i64 a1_1] 24 (0, 0)) (by (with_reducible repeat (first | refine blk_drewN ?_ _ | refine blk_drew ?_ | refine blk_alloc ?_ _)); exact BK282.out) hb); have n1_ := Aside0.mk (below_step (by repeat (first | (with_reducible first | exact HB.out | apply below_alloc | apply pw_below_drewN | apply below_drew1 | refine below_set ?_ GE282.out) | exact HB.out)) hb); clear BK282; clear HB; have BK282 := n0_; have HB := n1_; clear n0_ n1_; (try clear hb); (try clear hb2); (try clear hk); (try clear hi))))
     go_loopg [35] k (fun kq v35 w' => ∃ (x35_1 : Int), v35 = .int .i64 x35_1 ∧ Aside0 (reduce_planned.l0 kq l2 (wrap64 ((l2.length : Int) - 1)) x35_1 = some r) ∧ Aside0 (kq ≤ k) ∧ Aside0 (w'.heap[gb282]? = some (.cells #[.int .i64 a1_0, .int .i64 a1_1] 24 (0, 0))) ∧ Aside0 (Below w.heap.size w w'))
     case atStart => exact ⟨(0), (by first | rfl | (simp; done) | (simp [*]; done)), H', ⟨Nat.le_refl _⟩, ⟨by (with_reducible repeat (first | refine blk_drewN ?_ _ | refine blk_drew ?_ | refine blk_alloc ?_ _)); exact BK282.out⟩, ⟨by repeat (first | (with_reducible first | exact HB.out | apply below_alloc | apply pw_below_drewN | apply below_drew1 | refine below_set ?_ GE282.out) | exact HB.out)⟩⟩
     case round =>
      clear H'
      try clear c1
      try clear c2
      try clear p2
      try clear c4
      try clear c6
      try clear c6b0
      try clear c6b1
      try clear p6
      try clear c10
      try clear c10b0
      try clear c10b1
      try clear c14
      try clear c14b0
      try clear c14b1
      try clear c15
      try clear c15b0
      try clear c15b1
      try clear hcz12_0
      try clear hcz12_1
      try clear hcz17_0
      try clear hcz17_1
      try clear hcz8_0
      try clear hcz8_1
      try clear hfz12_0
      try clear hfz12_1
      try clear hfz17_0
      try clear hfz17_1
      try clear hfz8_0
      try clear hfz8_1
      obtain ⟨x35_1, rfl, HA, HK1, BK282, HB⟩ := hrel
      cases gk with
      | zero => exact absurd HA.out (by simp [reduce_planned.l0])
      | succ k1 =>
       have H := HA.out
       clear HA
       simp only [reduce_planned.l0] at H
       by_cases c19 : x35_1 < (wrap64 ((l2.length : Int) - 1))
       ·rw [if_pos c19] at H
        have c19b0 : decide (x35_1 < (wrap64 ((l2.length : Int) - 1))) = true := decide_eq_true c19
        clear c19
        by_cases c20 : 0 ≤ x35_1
        ·rw [if_pos c20] at H
         have c20b0 : decide (0 ≤ x35_1) = true := decide_eq_true c20
         clear c20
         by_cases c21 : x35_1 < (l2.length : Int)
         ·rw [if_pos c21] at H
          have c21b0 : decide (x35_1 < (l2.length : Int)) = true := decide_eq_true c21
          clear c21
          obtain ⟨ji22, hji22⟩ : ∃ j_ : Int, (wrap64 (x35_1 + 1)) = j_ := ⟨_, rfl⟩
          replace H : (if 0 ≤ (ji22) then (if (ji22) < (l2.length : Int) then (if (rd l2 x35_1) ≤ (rd l2 (ji22)) then (some 5) else (reduce_planned.l0 k1 l2 (wrap64 ((l2.length : Int) - 1)) ji22)) else (none)) else (none)) = some r := by first | (rw [hji22] at H; exact H) | (simp only [hji22] at H ⊢; exact H)
          have hji22w : (IntKind.i64.wrap (x35_1 + 1)) = ji22 := (i64_w _).trans hji22
          by_cases c23 : 0 ≤ (ji22)
          ·rw [if_pos c23] at H
           have c23b0 : decide (0 ≤ (ji22)) = true := decide_eq_true c23
           clear c23
           by_cases c24 : (ji22) < (l2.length : Int)
           ·rw [if_pos c24] at H
            have c24b0 : decide ((ji22) < (l2.length : Int)) = true := decide_eq_true c24
            clear c24
            by_cases c25 : (rd l2 x35_1) ≤ (rd l2 (ji22))
            ·rw [if_pos c25] at H
             have c25b0 : decide ((rd l2 x35_1) ≤ (rd l2 (ji22))) = true := decide_eq_true c25
             clear c25
             obtain rfl := Option.some.inj H
             have p284 : 0 ≤ (x35_1 : Int) := of_decide_eq_true (by first | (with_reducible assumption) | assumption)
             have q284 : x35_1 < (l2.length : Int) := of_decide_eq_true (by first | (with_reducible assumption) | assumption)
             obtain ⟨ad284, e284, hx284_0⟩ := Kd.at_int HR2.out x35_1 p284 q284
             cases e284
             replace hx284_0 := (HB.out.cell (World.block_lt_of_cell? w _ hx284_0)).trans hx284_0
             replace p284 := eq_true p284
             replace q284 := eq_true q284
             have p285 : 0 ≤ ((ji22) : Int) := of_decide_eq_true (by first | (with_reducible assumption) | assumption)
             have q285 : (ji22) < (l2.length : Int) := of_decide_eq_true (by first | (with_reducible assumption) | assumption)
             obtain ⟨ad285, e285, hx285_0⟩ := Kd.at_int HR2.out (ji22) p285 q285
             obtain rfl : ad284 = ad285 := (by injection e285)
             replace hx285_0 := (HB.out.cell (World.block_lt_of_cell? w _ hx285_0)).trans hx285_0
             replace p285 := eq_true p285
             replace q285 := eq_true q285
             go_wp2
             repeat (go_quiet (fail); try go_wp2)
             go_ret
             exact ⟨by first | rfl | (simp [errW_none, errW_some] <;> rfl) | (simp only [← hji22]; first | rfl | (simp [errW_none, errW_some] <;> rfl)) | (simp [*, errW_none, errW_some] <;> rfl), by repeat (first | (with_reducible first | exact HB.out | apply below_alloc | apply pw_below_drewN | apply below_drew1 | refine below_set ?_ GE282.out) | exact HB.out)⟩
            ·rw [if_neg c25] at H
             have c25b0 : decide ((rd l2 x35_1) ≤ (rd l2 (ji22))) = false := decide_eq_false c25
             clear c25
             have H' := Aside0.mk H
             clear H
             have p284 : 0 ≤ (x35_1 : Int) := of_decide_eq_true (by first | (with_reducible assumption) | assumption)
             have q284 : x35_1 < (l2.length : Int) := of_decide_eq_true (by first | (with_reducible assumption) | assumption)
             obtain ⟨ad284, e284, hx284_0⟩ := Kd.at_int HR2.out x35_1 p284 q284
             cases e284
             replace hx284_0 := (HB.out.cell (World.block_lt_of_cell? w _ hx284_0)).trans hx284_0
             replace p284 := eq_true p284
             replace q284 := eq_true q284
             have p285 : 0 ≤ ((ji22) : Int) := of_decide_eq_true (by first | (with_reducible assumption) | assumption)
             have q285 : (ji22) < (l2.length : Int) := of_decide_eq_true (by first | (with_reducible assumption) | assumption)
             obtain ⟨ad285, e285, hx285_0⟩ := Kd.at_int HR2.out (ji22) p285 q285
             obtain rfl : ad284 = ad285 := (by injection e285)
             replace hx285_0 := (HB.out.cell (World.block_lt_of_cell? w _ hx285_0)).trans hx285_0
             replace p285 := eq_true p285
             replace q285 := eq_true q285
             go_wp2
             repeat (go_quiet (fail); try go_wp2)
             go_roundg k1
             case measure => have := HK1.out; omega
             case rel => exact ⟨(ji22), (by first | rfl | (simp; done) | (simp only [← hji22] <;> (first | rfl | simp)) | (simp [*]; done)), H', ⟨by have := HK1.out; omega⟩, ⟨by (with_reducible repeat (first | refine blk_drewN ?_ _ | refine blk_drew ?_ | refine blk_alloc ?_ _)); exact BK282.out⟩, ⟨by repeat (first | (with_reducible first | exact HB.out | apply below_alloc | apply pw_below_drewN | apply below_drew1 | refine below_set ?_ GE282.out) | exact HB.out)⟩⟩
           ·rw [if_neg c24] at H
            exact absurd H (by simp)
          ·rw [if_neg c23] at H
           exact absurd H (by simp)
         ·rw [if_neg c21] at H
          exact absurd H (by simp)
        ·rw [if_neg c20] at H
         exact absurd H (by simp)
       ·rw [if_neg c19] at H
        have c19b0 : decide (x35_1 < (wrap64 ((l2.length : Int) - 1))) = false := decide_eq_false c19
        clear c19
        obtain rfl := Option.some.inj H
        go_wp2
        repeat (go_quiet (fail); try go_wp2)
        go_ret
        exact ⟨by first | rfl | (simp [errW_none, errW_some] <;> rfl) | (simp [*, errW_none, errW_some] <;> rfl), by repeat (first | (with_reducible first | exact HB.out | apply below_alloc | apply pw_below_drewN | apply below_drew1 | refine below_set ?_ GE282.out) | exact HB.out)⟩
    ·rw [if_neg c15] at H
     have c15b0 : (t283 == 0) = false := beq_eq_false_iff_ne.mpr c15
     have c15b1 : (t283 != 0) = true := bne_iff_ne.mpr c15
     obtain rfl := Option.some.inj H
     go_enter Try.func41, Try.ntmps41
     go_wp2_with (first | ((with_reducible refine gate_dst (N := 5) rfl ?_); refine box_event ?hg (N := 5) ?hd (cs := #[.int .i64 a1_0, .int .i64 a1_1]) (t := 24) ?hr ?_; (case hd => rfl); (case hg => rfl); (case hr => first | (go_simp; done) | (go_simp; rfl)); intro gb282 hg w26 hbox hb; have n0_ := Aside0.mk (below_step (by repeat (first | (with_reducible first | exact HB.out | apply below_alloc | apply pw_below_drewN | apply below_drew1) | exact HB.out)) hb); have n1_ := Aside0.mk (hbox); have n2_ := Aside0.mk ((by rw [hg]; exact (below_size (by repeat (first | (with_reducible first | exact HB.out | apply below_alloc | apply pw_below_drewN | apply below_drew1) | exact HB.out))) : w.heap.size ≤ gb282)); have n3_ := Aside0.mk ((by rw [hg]; exact (below_size (by repeat (first | (with_reducible first | exact HB.out | apply below_alloc | apply pw_below_drewN | apply below_drew1) | exact HB.out))) : w.heap.size ≤ gb282)); clear HB; have HB := n0_; have BK282 := n1_; have GW282 := n2_; have GE282 := n3_; clear n0_ n1_ n2_ n3_; clear hb hbox hg; have hcz27_0 : w26.cell? ⟨gb282, 0, none⟩ = some (.int .i64 a1_0) := (blk_cell BK282.out 0).trans rfl; have hcz27_1 : w26.cell? ⟨gb282, 1, none⟩ = some (.int .i64 a1_1) := (blk_cell BK282.out 1).trans rfl; have hfz27_0 := blk_frozen BK282.out 0; have hfz27_1 := blk_frozen BK282.out 1) | (go_at_call 27; (with_reducible refine (reduce_ready.calls _ _ l0 a1_0 a1_1 _ _ l2 t283 _ ?side1 ?side2 ?side3 ?side4 A5.out).mono ?_); (case side1 => repeat (first | exact (Kd.C_below HR0.out HB.out) | (with_reducible refine Kd.C_alloc ?_ _) | (with_reducible refine Kd.C_drewN ?_ _) | (with_reducible refine Kd.C_drew ?_))); (case side2 => exact HC0.out); (case side3 => repeat (first | exact (Kd.C_below HR2.out HB.out) | (with_reducible refine Kd.C_alloc ?_ _) | (with_reducible refine Kd.C_drewN ?_ _) | (with_reducible refine Kd.C_drew ?_))); (case side4 => exact HC2.out); rintro e w28 ⟨rfl, hb⟩; have n0_ := Aside0.mk (blk_below (g := gb282) (o := .cells #[.int .i64 a1_0, .int .i64 a1_1] 24 (0, 0)) (by (with_reducible repeat (first | refine blk_drewN ?_ _ | refine blk_drew ?_ | refine blk_alloc ?_ _)); exact BK282.out) hb); have n1_ := Aside0.mk (below_step (by repeat (first | (with_reducible first | exact HB.out | apply below_alloc | apply pw_below_drewN | apply below_drew1 | refine below_set ?_ GE282.out) | exact HB.out)) hb); clear BK282; clear HB; have BK282 := n0_; have HB := n1_; clear n0_ n1_; (try clear hb); (try clear hb2); (try clear hk); (try clear hi)))
     repeat (go_quiet (first | ((with_reducible refine gate_dst (N := 5) rfl ?_); refine box_event ?hg (N := 5) ?hd (cs := #[.int .i64 a1_0, .int .i64 a1_1]) (t := 24) ?hr ?_; (case hd => rfl); (case hg => rfl); (case hr => first | (go_simp; done) | (go_simp; rfl)); intro gb282 hg w26 hbox hb; have n0_ := Aside0.mk (below_step (by repeat (first | (with_reducible first | exact HB.out | apply below_alloc | apply pw_below_drewN | apply below_drew1) | exact HB.out)) hb); have n1_ := Aside0.mk (hbox); have n2_ := Aside0.mk ((by rw [hg]; exact (below_size (by repeat (first | (with_reducible first | exact HB.out | apply below_alloc | apply pw_below_drewN | apply below_drew1) | exact HB.out))) : w.heap.size ≤ gb282)); have n3_ := Aside0.mk ((by rw [hg]; exact (below_size (by repeat (first | (with_reducible first | exact HB.out | apply below_alloc | apply pw_below_drewN | apply below_drew1) | exact HB.out))) : w.heap.size ≤ gb282)); clear HB; have HB := n0_; have BK282 := n1_; have GW282 := n2_; have GE282 := n3_; clear n0_ n1_ n2_ n3_; clear hb hbox hg; have hcz27_0 : w26.cell? ⟨gb282, 0, none⟩ = some (.int .i64 a1_0) := (blk_cell BK282.out 0).trans rfl; have hcz27_1 : w26.cell? ⟨gb282, 1, none⟩ = some (.int .i64 a1_1) := (blk_cell BK282.out 1).trans rfl; have hfz27_0 := blk_frozen BK282.out 0; have hfz27_1 := blk_frozen BK282.out 1) | (go_at_call 27; (with_reducible refine (reduce_ready.calls _ _ l0 a1_0 a1_1 _ _ l2 t283 _ ?side1 ?side2 ?side3 ?side4 A5.out).mono ?_); (case side1 => repeat (first | exact (Kd.C_below HR0.out HB.out) | (with_reducible refine Kd.C_alloc ?_ _) | (with_reducible refine Kd.C_drewN ?_ _) | (with_reducible refine Kd.C_drew ?_))); (case side2 => exact HC0.out); (case side3 => repeat (first | exact (Kd.C_below HR2.out HB.out) | (with_reducible refine Kd.C_alloc ?_ _) | (with_reducible refine Kd.C_drewN ?_ _) | (with_reducible refine Kd.C_drew ?_))); (case side4 => exact HC2.out); rintro e w28 ⟨rfl, hb⟩; have n0_ := Aside0.mk (blk_below (g := gb282) (o := .cells #[.int .i64 a1_0, .int .i64 a1_1] 24 (0, 0)) (by (with_reducible repeat (first | refine blk_drewN ?_ _ | refine blk_drew ?_ | refine blk_alloc ?_ _)); exact BK282.out) hb); have n1_ := Aside0.mk (below_step (by repeat (first | (with_reducible first | exact HB.out | apply below_alloc | apply pw_below_drewN | apply below_drew1 | refine below_set ?_ GE282.out) | exact HB.out)) hb); clear BK282; clear HB; have BK282 := n0_; have HB := n1_; clear n0_ n1_; (try clear hb); (try clear hb2); (try clear hk); (try clear hi))); try go_wp2_with (first | ((with_reducible refine gate_dst (N := 5) rfl ?_); refine box_event ?hg (N := 5) ?hd (cs := #[.int .i64 a1_0, .int .i64 a1_1]) (t := 24) ?hr ?_; (case hd => rfl); (case hg => rfl); (case hr => first | (go_simp; done) | (go_simp; rfl)); intro gb282 hg w26 hbox hb; have n0_ := Aside0.mk (below_step (by repeat (first | (with_reducible first | exact HB.out | apply below_alloc | apply pw_below_drewN | apply below_drew1) | exact HB.out)) hb); have n1_ := Aside0.mk (hbox); have n2_ := Aside0.mk ((by rw [hg]; exact (below_size (by repeat (first | (with_reducible first | exact HB.out | apply below_alloc | apply pw_below_drewN | apply below_drew1) | exact HB.out))) : w.heap.size ≤ gb282)); have n3_ := Aside0.mk ((by rw [hg]; exact (below_size (by repeat (first | (with_reducible first | exact HB.out | apply below_alloc | apply pw_below_drewN | apply below_drew1) | exact HB.out))) : w.heap.size ≤ gb282)); clear HB; have HB := n0_; have BK282 := n1_; have GW282 := n2_; have GE282 := n3_; clear n0_ n1_ n2_ n3_; clear hb hbox hg; have hcz27_0 : w26.cell? ⟨gb282, 0, none⟩ = some (.int .i64 a1_0) := (blk_cell BK282.out 0).trans rfl; have hcz27_1 : w26.cell? ⟨gb282, 1, none⟩ = some (.int .i64 a1_1) := (blk_cell BK282.out 1).trans rfl; have hfz27_0 := blk_frozen BK282.out 0; have hfz27_1 := blk_frozen BK282.out 1) | (go_at_call 27; (with_reducible refine (reduce_ready.calls _ _ l0 a1_0 a1_1 _ _ l2 t283 _ ?side1 ?side2 ?side3 ?side4 A5.out).mono ?_); (case side1 => repeat (first | exact (Kd.C_below HR0.out HB.out) | (with_reducible refine Kd.C_alloc ?_ _) | (with_reducible refine Kd.C_drewN ?_ _) | (with_reducible refine Kd.C_drew ?_))); (case side2 => exact HC0.out); (case side3 => repeat (first | exact (Kd.C_below HR2.out HB.out) | (with_reducible refine Kd.C_alloc ?_ _) | (with_reducible refine Kd.C_drewN ?_ _) | (with_reducible refine Kd.C_drew ?_))); (case side4 => exact HC2.out); rintro e w28 ⟨rfl, hb⟩; have n0_ := Aside0.mk (blk_below (g := gb282) (o := .cells #[.int .i64 a1_0, .int .i64 a1_1] 24 (0, 0)) (by (with_reducible repeat (first | refine blk_drewN ?_ _ | refine blk_drew ?_ | refine blk_alloc ?_ _)); exact BK282.out) hb); have n1_ := Aside0.mk (below_step (by repeat (first | (with_reducible first | exact HB.out | apply below_alloc | apply pw_below_drewN | apply below_drew1 | refine below_set ?_ GE282.out) | exact HB.out)) hb); clear BK282; clear HB; have BK282 := n0_; have HB := n1_; clear n0_ n1_; (try clear hb); (try clear hb2); (try clear hk); (try clear hi))))
     go_ret
     exact ⟨by first | rfl | (simp [errW_none, errW_some] <;> rfl) | (simp [*, errW_none, errW_some] <;> rfl), by repeat (first | (with_reducible first | exact HB.out | apply below_alloc | apply pw_below_drewN | apply below_drew1 | refine below_set ?_ GE282.out) | exact HB.out)⟩
   ·rw [if_neg c14] at H
    have c14b0 : (a3 == (l2.length : Int)) = false := beq_eq_false_iff_ne.mpr c14
    have c14b1 : (a3 != (l2.length : Int)) = true := bne_iff_ne.mpr c14
    obtain rfl := Option.some.inj H
    go_enter Try.func41, Try.ntmps41
    go_wp2_with (first | ((with_reducible refine gate_dst (N := 5) rfl ?_); refine box_event ?hg (N := 5) ?hd (cs := #[.int .i64 a1_0, .int .i64 a1_1]) (t := 24) ?hr ?_; (case hd => rfl); (case hg => rfl); (case hr => first | (go_simp; done) | (go_simp; rfl)); intro gb282 hg w29 hbox hb; have n0_ := Aside0.mk (below_step (by repeat (first | (with_reducible first | exact HB.out | apply below_alloc | apply pw_below_drewN | apply below_drew1) | exact HB.out)) hb); have n1_ := Aside0.mk (hbox); have n2_ := Aside0.mk ((by rw [hg]; exact (below_size (by repeat (first | (with_reducible first | exact HB.out | apply below_alloc | apply pw_below_drewN | apply below_drew1) | exact HB.out))) : w.heap.size ≤ gb282)); have n3_ := Aside0.mk ((by rw [hg]; exact (below_size (by repeat (first | (with_reducible first | exact HB.out | apply below_alloc | apply pw_below_drewN | apply below_drew1) | exact HB.out))) : w.heap.size ≤ gb282)); clear HB; have HB := n0_; have BK282 := n1_; have GW282 := n2_; have GE282 := n3_; clear n0_ n1_ n2_ n3_; clear hb hbox hg; have hcz30_0 : w29.cell? ⟨gb282, 0, none⟩ = some (.int .i64 a1_0) := (blk_cell BK282.out 0).trans rfl; have hcz30_1 : w29.cell? ⟨gb282, 1, none⟩ = some (.int .i64 a1_1) := (blk_cell BK282.out 1).trans rfl; have hfz30_0 := blk_frozen BK282.out 0; have hfz30_1 := blk_frozen BK282.out 1) | (go_at_call 27; (with_reducible refine (reduce_ready.calls _ _ l0 a1_0 a1_1 _ _ l2 t283 _ ?side1 ?side2 ?side3 ?side4 A5.out).mono ?_); (case side1 => repeat (first | exact (Kd.C_below HR0.out HB.out) | (with_reducible refine Kd.C_alloc ?_ _) | (with_reducible refine Kd.C_drewN ?_ _) | (with_reducible refine Kd.C_drew ?_))); (case side2 => exact HC0.out); (case side3 => repeat (first | exact (Kd.C_below HR2.out HB.out) | (with_reducible refine Kd.C_alloc ?_ _) | (with_reducible refine Kd.C_drewN ?_ _) | (with_reducible refine Kd.C_drew ?_))); (case side4 => exact HC2.out); rintro e w31 ⟨rfl, hb⟩; have n0_ := Aside0.mk (blk_below (g := gb282) (o := .cells #[.int .i64 a1_0, .int .i64 a1_1] 24 (0, 0)) (by (with_reducible repeat (first | refine blk_drewN ?_ _ | refine blk_drew ?_ | refine blk_alloc ?_ _)); exact BK282.out) hb); have n1_ := Aside0.mk (below_step (by repeat (first | (with_reducible first | exact HB.out | apply below_alloc | apply pw_below_drewN | apply below_drew1 | refine below_set ?_ GE282.out) | exact HB.out)) hb); clear BK282; clear HB; have BK282 := n0_; have HB := n1_; clear n0_ n1_; (try clear hb); (try clear hb2); (try clear hk); (try clear hi)))
    repeat (go_quiet (first | ((with_reducible refine gate_dst (N := 5) rfl ?_); refine box_event ?hg (N := 5) ?hd (cs := #[.int .i64 a1_0, .int .i64 a1_1]) (t := 24) ?hr ?_; (case hd => rfl); (case hg => rfl); (case hr => first | (go_simp; done) | (go_simp; rfl)); intro gb282 hg w29 hbox hb; have n0_ := Aside0.mk (below_step (by repeat (first | (with_reducible first | exact HB.out | apply below_alloc | apply pw_below_drewN | apply below_drew1) | exact HB.out)) hb); have n1_ := Aside0.mk (hbox); have n2_ := Aside0.mk ((by rw [hg]; exact (below_size (by repeat (first | (with_reducible first | exact HB.out | apply below_alloc | apply pw_below_drewN | apply below_drew1) | exact HB.out))) : w.heap.size ≤ gb282)); have n3_ := Aside0.mk ((by rw [hg]; exact (below_size (by repeat (first | (with_reducible first | exact HB.out | apply below_alloc | apply pw_below_drewN | apply below_drew1) | exact HB.out))) : w.heap.size ≤ gb282)); clear HB; have HB := n0_; have BK282 := n1_; have GW282 := n2_; have GE282 := n3_; clear n0_ n1_ n2_ n3_; clear hb hbox hg; have hcz30_0 : w29.cell? ⟨gb282, 0, none⟩ = some (.int .i64 a1_0) := (blk_cell BK282.out 0).trans rfl; have hcz30_1 : w29.cell? ⟨gb282, 1, none⟩ = some (.int .i64 a1_1) := (blk_cell BK282.out 1).trans rfl; have hfz30_0 := blk_frozen BK282.out 0; have hfz30_1 := blk_frozen BK282.out 1) | (go_at_call 27; (with_reducible refine (reduce_ready.calls _ _ l0 a1_0 a1_1 _ _ l2 t283 _ ?side1 ?side2 ?side3 ?side4 A5.out).mono ?_); (case side1 => repeat (first | exact (Kd.C_below HR0.out HB.out) | (with_reducible refine Kd.C_alloc ?_ _) | (with_reducible refine Kd.C_drewN ?_ _) | (with_reducible refine Kd.C_drew ?_))); (case side2 => exact HC0.out); (case side3 => repeat (first | exact (Kd.C_below HR2.out HB.out) | (with_reducible refine Kd.C_alloc ?_ _) | (with_reducible refine Kd.C_drewN ?_ _) | (with_reducible refine Kd.C_drew ?_))); (case side4 => exact HC2.out); rintro e w31 ⟨rfl, hb⟩; have n0_ := Aside0.mk (blk_below (g := gb282) (o := .cells #[.int .i64 a1_0, .int .i64 a1_1] 24 (0, 0)) (by (with_reducible repeat (first | refine blk_drewN ?_ _ | refine blk_drew ?_ | refine blk_alloc ?_ _)); exact BK282.out) hb); have n1_ := Aside0.mk (below_step (by repeat (first | (with_reducible first | exact HB.out | apply below_alloc | apply pw_below_drewN | apply below_drew1 | refine below_set ?_ GE282.out) | exact HB.out)) hb); clear BK282; clear HB; have BK282 := n0_; have HB := n1_; clear n0_ n1_; (try clear hb); (try clear hb2); (try clear hk); (try clear hi))); try go_wp2_with (first | ((with_reducible refine gate_dst (N := 5) rfl ?_); refine box_event ?hg (N := 5) ?hd (cs := #[.int .i64 a1_0, .int .i64 a1_1]) (t := 24) ?hr ?_; (case hd => rfl); (case hg => rfl); (case hr => first | (go_simp; done) | (go_simp; rfl)); intro gb282 hg w29 hbox hb; have n0_ := Aside0.mk (below_step (by repeat (first | (with_reducible first | exact HB.out | apply below_alloc | apply pw_below_drewN | apply below_drew1) | exact HB.out)) hb); have n1_ := Aside0.mk (hbox); have n2_ := Aside0.mk ((by rw [hg]; exact (below_size (by repeat (first | (with_reducible first | exact HB.out | apply below_alloc | apply pw_below_drewN | apply below_drew1) | exact HB.out))) : w.heap.size ≤ gb282)); have n3_ := Aside0.mk ((by rw [hg]; exact (below_size (by repeat (first | (with_reducible first | exact HB.out | apply below_alloc | apply pw_below_drewN | apply below_drew1) | exact HB.out))) : w.heap.size ≤ gb282)); clear HB; have HB := n0_; have BK282 := n1_; have GW282 := n2_; have GE282 := n3_; clear n0_ n1_ n2_ n3_; clear hb hbox hg; have hcz30_0 : w29.cell? ⟨gb282, 0, none⟩ = some (.int .i64 a1_0) := (blk_cell BK282.out 0).trans rfl; have hcz30_1 : w29.cell? ⟨gb282, 1, none⟩ = some (.int .i64 a1_1) := (blk_cell BK282.out 1).trans rfl; have hfz30_0 := blk_frozen BK282.out 0; have hfz30_1 := blk_frozen BK282.out 1) | (go_at_call 27; (with_reducible refine (reduce_ready.calls _ _ l0 a1_0 a1_1 _ _ l2 t283 _ ?side1 ?side2 ?side3 ?side4 A5.out).mono ?_); (case side1 => repeat (first | exact (Kd.C_below HR0.out HB.out) | (with_reducible refine Kd.C_alloc ?_ _) | (with_reducible refine Kd.C_drewN ?_ _) | (with_reducible refine Kd.C_drew ?_))); (case side2 => exact HC0.out); (case side3 => repeat (first | exact (Kd.C_below HR2.out HB.out) | (with_reducible refine Kd.C_alloc ?_ _) | (with_reducible refine Kd.C_drewN ?_ _) | (with_reducible refine Kd.C_drew ?_))); (case side4 => exact HC2.out); rintro e w31 ⟨rfl, hb⟩; have n0_ := Aside0.mk (blk_below (g := gb282) (o := .cells #[.int .i64 a1_0, .int .i64 a1_1] 24 (0, 0)) (by (with_reducible repeat (first | refine blk_drewN ?_ _ | refine blk_drew ?_ | refine blk_alloc ?_ _)); exact BK282.out) hb); have n1_ := Aside0.mk (below_step (by repeat (first | (with_reducible first | exact HB.out | apply below_alloc | apply pw_below_drewN | apply below_drew1 | refine below_set ?_ GE282.out) | exact HB.out)) hb); clear BK282; clear HB; have BK282 := n0_; have HB := n1_; clear n0_ n1_; (try clear hb); (try clear hb2); (try clear hk); (try clear hi))))
    go_ret
    exact ⟨by first | rfl | (simp [errW_none, errW_some] <;> rfl) | (simp [*, errW_none, errW_some] <;> rfl), by repeat (first | (with_reducible first | exact HB.out | apply below_alloc | apply pw_below_drewN | apply below_drew1 | refine below_set ?_ GE282.out) | exact HB.out)⟩
-- MAKING
/-! The error of targets, plainly. -/
def ordL : List Int → Bool
  | [] => true
  | [_] => true
  | x :: y :: r => decide (y < x) && ordL (y :: r)
def plnE (l : List S50) (a m : Int) (ts : List Int) (n : Int) : Int :=
  if lchk l a m ≠ 0 then 1 else if 8 < ts.length then 8 else if n ≠ (ts.length : Int) then 10 else if 0 ≤ idxP (farT ts) ts.length 0 then 2 else if ordL ts = true then 0 else 5
theorem rdI {ts : List Int} {j : Nat} (hj : j < ts.length) : rd ts (j : Int) = ts[j] := by
  unfold rd
  rw [Int.toNat_natCast, List.getD_eq_getElem?_getD, List.getElem?_eq_getElem hj]
  rfl
theorem planned_go (ts : List Int) (hl : ts.length ≤ 8) : ∀ d i : Nat, i + d + 1 = ts.length → ∀ k, d < k → reduce_planned.l0 k ts ((ts.length : Int) - 1) (i : Int) = some (if ordL (ts.drop i) = true then 0 else 5) := by
  intro d
  induction d with
  | zero =>
    intro i hi k hk
    obtain ⟨k, rfl⟩ : ∃ j, k = j + 1 := ⟨k - 1, by omega⟩
    simp only [reduce_planned.l0]
    rw [if_neg (by omega), List.drop_eq_getElem_cons (by omega), List.drop_eq_nil_of_le (by omega)]
    rfl
  | succ d ih =>
    intro i hi k hk
    obtain ⟨k, rfl⟩ : ∃ j, k = j + 1 := ⟨k - 1, by omega⟩
    have w1 : wrap64 ((i : Int) + 1) = ((i + 1 : Nat) : Int) := by rw [w64_ (by omega) (by omega)]; rfl
    have h1 : i < ts.length := by omega
    have h2 : i + 1 < ts.length := by omega
    simp only [reduce_planned.l0]
    rw [if_pos (by omega), if_pos (by omega), if_pos (by omega), w1, if_pos (by omega), if_pos (by omega), rdI h1, rdI h2]
    have hih := ih (i + 1) (by omega) k (by omega)
    rw [List.drop_eq_getElem_cons h1]
    rw [List.drop_eq_getElem_cons h2] at hih ⊢
    have he : ∀ x y r, ordL (x :: y :: r) = (decide (y < x) && ordL (y :: r)) := fun _ _ _ => rfl
    rw [he]
    by_cases c : ts[i] ≤ ts[i + 1]
    · rw [if_pos c, decide_eq_false (by omega), Bool.false_and, if_neg (by decide)]
    · rw [if_neg c, decide_eq_true (by omega), Bool.true_and]
      exact hih
theorem reduce_planned.plain (l : List S50) (a m : Int) (ts : List Int) (n : Int) (hz : ts.length < 4611686018427387904) : reduce_planned.f 9 l a m ts n = some (plnE l a m ts n) := by
  unfold reduce_planned.f reduce_ready.f plnE
  rw [if_neg (by omega)]
  by_cases c0 : lchk l a m = 0
  case neg => rw [if_pos c0, if_pos c0, Option.bind_some, if_pos rfl]
  rw [if_neg (not_not_intro c0), if_neg (not_not_intro c0)]
  by_cases c3 : 0 ≤ idxP (farT ts) ts.length 0
  · rw [if_pos c3, if_pos c3, Option.bind_some, if_neg (by decide)]
    by_cases c1 : 8 < ts.length
    · rw [if_pos (by omega), if_pos c1]
    rw [if_neg (by omega), if_neg c1]
    by_cases c2 : n = (ts.length : Int)
    · rw [if_pos c2, if_neg (not_not_intro c2), if_neg (by decide)]
    · rw [if_neg c2, if_pos c2]
  · rw [if_neg c3, if_neg c3, Option.bind_some, if_neg (by decide)]
    by_cases c1 : 8 < ts.length
    · rw [if_pos (by omega), if_pos c1]
    rw [if_neg (by omega), if_neg c1]
    by_cases c2 : n = (ts.length : Int)
    case neg => rw [if_neg c2, if_pos c2]
    rw [if_pos c2, if_neg (not_not_intro c2), if_pos rfl, w64_ (by omega) (by omega)]
    by_cases c4 : ts.length = 0
    · have e : ts = [] := List.length_eq_zero_iff.1 c4
      subst e
      rfl
    · have := planned_go ts (by omega) (ts.length - 1) 0 (by omega) 9 (by omega)
      rw [List.drop_zero] at this
      exact this
def reduce_planned_s.f (l0 : List S50) (a1_0 a1_1 : Int) (l2 : List Int) (a3 : Int) : Option Int := if l2.length < 4611686018427387904 then some (plnE l0 a1_0 a1_1 l2 a3) else none
theorem reduce_planned_s.calls (A0 : Option Addr) (c0 : Nat) (l0 : List S50) (a1_0 a1_1 : Int) (A2 : Option Addr) (c2 : Nat) (l2 : List Int) (a3 : Int) (r : Int) (w : World) (hr0 : Kd.C k50 w A0 l0.length l0) (hc0 : l0.length ≤ c0) (hr2 : Kd.C (Kd.int .i64) w A2 l2.length l2) (hc2 : l2.length ≤ c2) (h : reduce_planned_s.f l0 a1_0 a1_1 l2 a3 = some r) :
    Calls Try.prog 41 #[.slice A0 l0.length c0, .agg #[.int .i64 a1_0, .int .i64 a1_1], .slice A2 l2.length c2, .int .i64 a3] w fun e w' => e = .returned (.int .i64 r) ∧ Below w.heap.size w w' := by
  unfold reduce_planned_s.f at h
  by_cases hz : l2.length < 4611686018427387904
  · rw [if_pos hz] at h
    exact reduce_planned.calls 9 A0 c0 l0 a1_0 a1_1 A2 c2 l2 a3 r w hr0 hc0 hr2 hc2 ((reduce_planned.plain l0 a1_0 a1_1 l2 a3 hz).trans h)
  · rw [if_neg hz] at h
    cases h

/-! ### reduce_steps: function 42 -/
-- HELPER
-- behind 28 29 34
/-- Whatever turns nothing but cells (and lays new blocks). -/
def CellsOnly (X Y : World) : Prop := ∃ row, X.grownBy Y row ∧ ∀ r, row = some r → ∃ o : Obj, X.heap[r]? = some o ∧ o.isCells = true
theorem cellsOnly_book {X Y : World} (h : CellsOnly X Y) {k : Nat} {o : Obj} (hk : X.heap[k]? = some o) (ho : o.isCells = false) : Y.heap[k]? = some o := by
  obtain ⟨row, hg, hr⟩ := h
  refine (hg.block k (Array.getElem?_eq_some_iff.1 hk).1 fun e => ?_).trans hk
  obtain ⟨o', h1, h2⟩ := hr k e.symm
  rw [hk] at h1
  cases h1
  rw [ho] at h2
  cases h2
/-- What lies from B on and is no cells: a word that survives whatever writes cells. -/
def BookWord (Bk : Bool → World → Prop) : Prop := ∀ b X Y, Bk b X → CellsOnly X Y → Bk b Y
def leaves {α : Type} (R : List α → World → Prop) (c : Code) (xs : List α) (W : World) : Prop := c = .ret ∧ R xs W
/-- The iterator's contract at one invariant. -/
def IterAt {α : Type} (F : Fence) (n : Nat) (P : Program) (gf : Nat) (lb : Array Value) (encs : α → Array Value) (S Sp : List α → Prop) (N : Nat) (Kp : World → World → Prop) (St : World → Prop) (I R : List α → World → Prop) : Prop :=
  ∀ (l : Nat) (Bk : Bool → World → Prop) (W : World), BookWord Bk → I [] W → St W → Bk true W →
    (∀ pre x W1, I pre W1 → Bk true W1 → pre.length < N → YieldAt F (n - 1) P l (encs x) W1 fun e W' => (e = .returned (.bool true) ∧ I (pre ++ [x]) W' ∧ Bk true W' ∧ Kp W1 W') ∨ (e = .returned (.bool false) ∧ R (pre ++ [x]) W' ∧ Bk false W')) →
    CallsIn F n P gf (#[.func (.yield l) #[] #[]] ++ lb) W fun e W' => (∃ v, e = .returned v) ∧ ((∃ xs, S xs ∧ I xs W' ∧ Bk true W') ∨ (∃ pre, Sp pre ∧ R pre W' ∧ Bk false W'))
theorem range_at {F : Fence} {n : Nat} {P : Program} {α : Type} {g : Operand} {ps : Array Tmp} {assign body : Code} {Q : Exit → Act → World → Prop} {a : Act} {w : World}
    (hro : F.round = none) (h1 : 1 ≤ n) {gf : Nat} {lb : Array Value} (hg : a.eval g = .func (.func gf) #[] lb) (hFg : F.fn gf) (eg : ∀ args w, (callFunc gf args).run P w = .ok (.enter gf args) w)
    (encs : α → Array Value) (S Sp : List α → Prop) (N : Nat) (Kp : World → World → Prop) (St : World → Prop) (I R : List α → World → Prop) (Ax : α → Act → World → Prop) (hit : IterAt F (n - 1) P gf lb encs S Sp N Kp St I R)
    (hKt : ∀ {A B C : World}, Kp A B → Kp B C → Kp A C) (hKb : ∀ (W : World) (l : Nat) (o o' : Obj), w.heap.size ≤ l → W.heap[l]? = some o → o.isCells = false → Kp W (W.putObj l o')) (hps : ∀ x, (encs x).size = ps.size)
    (hI : OwnFrom w.heap.size I) (hR : OwnFrom w.heap.size R) (hAx : ∀ x a', OwnFrom w.heap.size (fun (_ : Unit) W => Ax x a' W)) (h0 : I [] w) (hSt : ∀ o o', St ((w.alloc o).alloc o'))
    (hassign : ∀ (l : Nat) (pre : List α) (x : α) (W : World) (K : Act → World → Prop), I pre W → (∀ a' W', KeepsFrom w.heap.size W W' → Kp W W' → I pre W' → Ax x a' W' → K a' W') →
      assign.wpIn (F.inRound l) (n - 1 - 1) P (Exit.then K (fun _ _ _ => False)) { tmps := (ps.zip (encs x)).foldl (fun t (p, v) => t.setIfInBounds p v) a.tmps, defers := [] } W)
    (hbody : ∀ (l : Nat) (pre : List α) (x : α) (a' : Act) (W : World), I pre W → Ax x a' W → pre.length < N → body.wpIn (F.inRound l) (n - 1 - 1) P (ownPostG w.heap.size Kp I (leaves R) (pre ++ [x]) W) a' W)
    (hdone : ∀ (xs : List α) (W : World), S xs → I xs W → W.heap[w.heap.size]? = some (.deferred (some [])) → Q .normal { a with defers := { target := .collected w.heap.size, args := #[] } :: a.defers } W)
    (hstop : ∀ (pre : List α) (W : World), Sp pre → R pre W → W.heap[w.heap.size]? = some (.deferred (some [])) → Code.ret.wpIn F n P Q { a with defers := { target := .collected w.heap.size, args := #[] } :: a.defers } W) :
    (Code.rangeFunc g ps assign body).wpIn F n P Q a w := by
  refine wpIn_rangeFunc fun fn hfn => ?_
  rw [hro]
  obtain ⟨lp, hlp⟩ : ∃ lp : LoopState → Option Code → Loop, lp = fun st pe => { state := st, pending := pe, fn, tmps := a.tmps, params := ps, assign, body, defers := w.heap.size } := ⟨_, rfl⟩
  obtain ⟨L, hL⟩ : ∃ L, L = w.heap.size + 1 := ⟨_, rfl⟩
  obtain ⟨W1, hW1⟩ : ∃ W1, W1 = (w.alloc (.deferred (some []))).alloc (.loop (lp .ready none)) := ⟨_, rfl⟩
  obtain ⟨Bk, hBk⟩ : ∃ Bk : Bool → World → Prop, Bk = fun b W => W.heap[L]? = some (.loop (if b = true then lp .ready none else lp .done (some .ret))) ∧ W.heap[w.heap.size]? = some (.deferred (some [])) := ⟨_, rfl⟩
  have hbook : BookWord Bk := fun b X Y h hc => by
    rw [hBk] at h ⊢
    exact ⟨cellsOnly_book hc h.1 rfl, cellsOnly_book hc h.2 rfl⟩
  have hI1 : I [] W1 := by rw [hW1]; exact hI.alloc _ (hI.alloc _ h0)
  have hB1 : Bk true W1 := by
    rw [hBk, hW1, hL]
    refine ⟨?_, (Below.heap_alloc _ _ _ (by simp)).trans (World.alloc_heap_new w _)⟩
    have := World.alloc_heap_new (w.alloc (.deferred (some []))) (.loop (lp .ready none))
    rwa [World.size_alloc] at this
  refine ⟨L, [{ target := .collected w.heap.size, args := #[] }], W1, { target := .fn (.func gf) lb, args := #[.func (.yield L) #[] #[]] }, W1, gf, #[.func (.yield L) #[] #[]] ++ lb, W1, ?_, ?_, ?_, ?_, fun _ => h1, ?_⟩
  · rw [hW1, hlp, hL]
    exact run_enterLoop_outer _ _ _ _ _
  · simp only [resolve, hg]
    simp [go_sem]
  · intro f' hf'
    simp [Target.leads] at hf'
    subst hf'
    exact hFg
  · simp [invoke, go_sem, eg]
  refine (hit L Bk W1 hbook hI1 (by rw [hW1]; exact hSt _ _) hB1 ?_).mono ?_
  · intro pre x W hi hb hlen
    rw [hBk] at hb
    obtain ⟨hl, hd⟩ := hb
    simp only [if_true] at hl
    have hy := run_yield (P := P) (args := encs x) hl (by rw [hlp]; exact hps x)
    rw [hlp] at hy
    refine ⟨fn, _, assign, body, hy, roundIn_of_wpIn hfn (hassign _ pre x W _ hi fun a' W' hk hkp hi' hax => ?_)⟩
    have hl' := hk.same _ _ (by omega) hl rfl
    have hd' := hk.same _ _ (Nat.le_refl _) hd rfl
    have hlt : L < W'.heap.size := (Array.getElem?_eq_some_iff.1 hl').1
    refine ⟨_, run_beginRound hl' (by rw [hlp]), ?_⟩
    obtain ⟨W2, hW2⟩ : ∃ W2, W2 = W'.putObj L (.loop { lp .ready none with state := .busy }) := ⟨_, rfl⟩
    rw [← hW2]
    have g1 : W2.heap[L]? = some (.loop { lp .ready none with state := .busy }) := by rw [hW2]; exact World.putObj_heap_same hlt
    have g2 : W2.heap[w.heap.size]? = some (.deferred (some [])) := by rw [hW2]; exact (World.putObj_heap_other (by omega)).trans hd'
    have g3 : I pre W2 := by rw [hW2]; exact hI.putObj _ hi' (by omega) hl' rfl
    have g5 : Kp W' W2 := by rw [hW2]; exact hKb _ _ _ _ (by omega) hl' rfl
    have g4 : Ax x a' W2 := by rw [hW2]; exact (hAx x a').putObj (s := ()) _ hax (by omega) hl' rfl
    have fin : ∀ (jump : Option Code) (W3 : World), KeepsFrom w.heap.size W2 W3 →
        W3.heap[L]? = some (.loop { lp .ready none with state := .busy }) ∧ ∃ W4, (Instr.endRound L jump).run P W3 = .ok (.bool jump.isNone) W4 ∧ W4 = W3.putObj L (.loop (lp (if jump.isNone then .ready else .done) jump)) ∧
        W4.heap[L]? = some (.loop (lp (if jump.isNone then .ready else .done) jump)) ∧ W4.heap[w.heap.size]? = some (.deferred (some [])) := fun jump W3 hk3 => by
      have q1 := hk3.same _ _ (by omega) g1 rfl
      have q2 := hk3.same _ _ (Nat.le_refl _) g2 rfl
      have q3 := run_endRound (P := P) jump q1
      refine ⟨q1, _, q3, ?_, ?_, (World.putObj_heap_other (by omega)).trans q2⟩
      · rw [hlp]
      · rw [World.putObj_heap_same (Array.getElem?_eq_some_iff.1 q1).1, hlp]
    refine wpIn_mono (hbody _ pre x a' W2 g3 g4 hlen) ?_
    rintro e a3 W3 hp
    cases e with
    | normal =>
      obtain ⟨hk3, hkp3, hi3⟩ := hp
      obtain ⟨q1, W4, q2, q3, q4, q5⟩ := fin none W3 hk3
      refine ⟨_, W4, q2, .inl ⟨rfl, ?_, ?_, ?_⟩⟩
      · rw [q3]; exact hI.putObj _ hi3 (by omega) q1 rfl
      · rw [hBk]; exact ⟨q4, q5⟩
      · rw [q3]; exact hKt hkp (hKt g5 (hKt hkp3 (hKb _ _ _ _ (by omega) q1 rfl)))
    | ret =>
      obtain ⟨hk3, hl3⟩ := hp
      obtain ⟨q1, W4, q2, q3, q4, q5⟩ := fin (some .ret) W3 hk3
      refine ⟨_, W4, q2, .inr ⟨rfl, ?_, ?_⟩⟩
      · rw [q3]; exact hR.putObj _ hl3.2 (by omega) q1 rfl
      · rw [hBk]; exact ⟨q4, q5⟩
    | exit id => obtain ⟨-, h, -⟩ := hp; cases h
    | goto t => obtain ⟨-, h, -⟩ := hp; cases h
    | panic ch => exact hp.elim
    | outgrown => exact hp.elim
  · rintro e W2 ⟨⟨v, rfl⟩, (⟨xs, hS, hi, hb⟩ | ⟨pre, hsp, hi, hb⟩)⟩
    · rw [hBk] at hb
      obtain ⟨hl, hd⟩ := hb
      simp only [if_true] at hl
      have q := run_endLoop (P := P) hl (by rw [hlp]; simp)
      rw [hlp] at q
      exact ⟨none, _, q, hdone xs _ hS (hI.putObj _ hi (by omega) hl rfl) ((World.putObj_heap_other (by omega)).trans hd)⟩
    · rw [hBk] at hb
      obtain ⟨hl, hd⟩ := hb
      simp only [Bool.false_eq_true, if_false] at hl
      have q := run_endLoop (P := P) hl (by rw [hlp]; simp)
      rw [hlp] at q
      exact ⟨some .ret, _, q, hstop pre _ hsp (hR.putObj _ hi (by omega) hl rfl) ((World.putObj_heap_other (by omega)).trans hd)⟩

/-! ### reduce.steps: what it yields -/
/-- The masses of water for targets one after the other, each with the mass behind it; the last one is -1 (and false is told) if there is too much. -/
def runS (l : List S50) (a : Int) : Int → List Int → List (Int × Int) × Bool
  | _, [] => ([], true)
  | m, t :: r => if 128849018880000 - m < leastS l a m t then ([(-1, m)], false) else ((leastS l a m t, m + leastS l a m t) :: (runS l a (m + leastS l a m t) r).1, (runS l a (m + leastS l a m t) r).2)
theorem runS_nonneg {l : List S50} {a : Int} (ts : List Int) : ∀ m, LiqOK l a m → (runS l a m ts).2 = true → ∀ x ∈ (runS l a m ts).1, 0 ≤ x.1 := by
  induction ts with
  | nil => intro m _ _ x hx; simp [runS] at hx
  | cons t r ih =>
    intro m h hb x hx
    have hl := h.least t
    simp only [runS] at hb hx
    by_cases c : 128849018880000 - m < leastS l a m t
    · rw [if_pos c] at hb; cases hb
    · rw [if_neg c] at hb hx
      rcases List.mem_cons.1 hx with rfl | hx
      · exact hl.1
      · exact ih _ (h.wet (by omega) (by omega)) hb x hx
def encS (a : Int) (x : Int × Int) : Array Value := #[.int .i64 x.1, .agg #[.int .i64 a, .int .i64 x.2]]
/-- The box of the liquid. -/
def LiqB (B : Nat) (a : Int) (m : Int) (W : World) : Prop := W.heap[B + 1]? = some (.cells #[.int .i64 a, .int .i64 m] 24 (0, 0))
def EnvS (w0 : World) (B : Nat) (A1 A2 : Option Addr) (c1 c2 : Nat) (t : List S50) (ts : List Int) (W : World) : Prop :=
  Below w0.heap.size w0 W ∧ W.heap[B]? = some (.cells #[.slice A1 t.length c1] 22 (0, 0)) ∧ W.heap[B + 2]? = some (.cells #[.slice A2 ts.length c2] 41 (0, 0))
def KpS (w0 : World) (B : Nat) (A1 A2 : Option Addr) (c1 c2 : Nat) (t : List S50) (ts : List Int) (a : Int) (X Y : World) : Prop :=
  (EnvS w0 B A1 A2 c1 c2 t ts X → EnvS w0 B A1 A2 c1 c2 t ts Y) ∧ ∀ m, LiqB B a m X → LiqB B a m Y
theorem grown_setCell (W : World) (p : Addr) (v : Value) : W.grownBy (W.setCell p v) (some p.block) :=
  ⟨by simp [World.setCell], by simp [World.setCell], by simp [World.setCell], by simp, fun k _ hk => Below.heap_setCell W p v k (fun e => hk (by rw [e]))⟩
theorem cellsOnly_below {X Y : World} (h : Below X.heap.size X Y) : CellsOnly X Y := ⟨none, grown_of_below h none, fun r e => by cases e⟩
theorem cellsOnly_set {X : World} {g t : Nat} {cs : Array Value} (h : X.heap[g]? = some (.cells cs t (0, 0))) (i : Nat) (v : Value) : CellsOnly X (X.setCell ⟨g, i, none⟩ v) :=
  ⟨some g, grown_setCell X ⟨g, i, none⟩ v, fun r e => by cases e; exact ⟨_, h, rfl⟩⟩
theorem LiqB.below {B : Nat} {a m : Int} {X Y : World} (h : LiqB B a m X) (hb : Below X.heap.size X Y) : LiqB B a m Y := blk_below h hb
theorem EnvS.below {w0 : World} {B : Nat} {A1 A2 : Option Addr} {c1 c2 : Nat} {t : List S50} {ts : List Int} {X Y : World} (h : EnvS w0 B A1 A2 c1 c2 t ts X) (hb : Below X.heap.size X Y) : EnvS w0 B A1 A2 c1 c2 t ts Y :=
  ⟨below_step h.1 hb, blk_below h.2.1 hb, blk_below h.2.2 hb⟩
attribute [local go_sem] Oper.semAt_some
set_option maxHeartbeats 4000000 in
set_option maxRecDepth 100000 in
theorem steps.iter (n : Nat) (w0 : World) (B : Nat) (A1 A2 : Option Addr) (c1 c2 : Nat) (t : List S50) (ts : List Int) (a m0 : Int) (hB : w0.heap.size ≤ B) (hok : LiqOK t a m0) (hts : ts.length ≤ 8)
    (h1 : Kd.C k50 w0 A1 t.length t) (hc1 : t.length ≤ c1) (h2 : Kd.C (Kd.int .i64) w0 A2 ts.length ts) (hc2 : ts.length ≤ c2)
    (I R : List (Int × Int) → World → Prop) (hI : ∀ pre W, I pre W → ∀ x ∈ pre, 0 ≤ x.1) (hE : ∀ pre W, I pre W → EnvS w0 B A1 A2 c1 c2 t ts W)
    (hIb : ∀ pre X Y, I pre X → Below X.heap.size X Y → I pre Y) (hIl : ∀ pre X m v, I pre X → LiqB B a m X → I pre ((X.setCell ⟨B + 1, 0, none⟩ (.int .i64 a)).setCell ⟨B + 1, 1, none⟩ (.int .i64 v))) (St : World → Prop) (hL0 : ∀ W, St W → LiqB B a m0 W) :
    IterAt Fence.wide n Try.prog 54 #[.pointer (some ⟨B + 2, 0, none⟩), .pointer (some ⟨B, 0, none⟩), .pointer (some ⟨B + 1, 0, none⟩)] (encS a) (fun xs => runS t a m0 ts = (xs, true)) (fun pre => pre <+: (runS t a m0 ts).1) ts.length
      (KpS w0 B A1 A2 c1 c2 t ts a) St I R := by
  intro lp Bk W hbook hI0 hS0 hB0 hY
  have HY := Aside0.mk hY
  have HBK := Aside0.mk hbook
  have HII := Aside0.mk hI
  have HIE := Aside0.mk hE
  have HIB := Aside0.mk hIb
  have HIL := Aside0.mk hIl
  have HLS := Aside0.mk (fun (m x : Int) (hm : LiqOK t a m) (W' : World) (hb : Below w0.heap.size w0 W') => reduce_least.calls A1 c1 t a m x (leastS t a m x) W' (Kd.C_below h1 hb) hc1 (by unfold reduce_least.f; rw [if_pos ((lchk_iff t a m).2 hm)]))
  have HRM := Aside0.mk (fun (m : Int) (hm : LiqOK t a m) (W' : World) => reduce_room.calls a m (128849018880000 - m) W' (by unfold reduce_room.f; have := hm.m0; have := hm.m1; rw [w64_ (by omega) (by omega)]))
  have HWT := Aside0.mk (fun (m k : Int) (hm : LiqOK t a m) (hk : 0 ≤ k) (hk2 : m + k ≤ 128849018880000) (W' : World) => reduce_watered.calls a m k a (m + k) W' (watered_plain a m k hm.a0 hm.a1 hm.m0 hk hk2 (fun e => hm.none_ e)))
  have HAT := Aside0.mk (fun (W' : World) (hb : Below w0.heap.size w0 W') => pw_rd_at (Kd.C_below h2 hb))
  have HTS := Aside0.mk hts
  have HC2 := Aside0.mk hc2
  have HI0 := Aside0.mk (⟨hI0, hL0 _ hS0, hB0, hE _ _ hI0⟩ : _ ∧ _ ∧ _ ∧ _)
  have hu := Try.underlying24
  clear hY hbook hI hE hIb hIl h1 h2 hc1 hts hI0 hL0 hB0 hS0
  have e2 : W.cell? ⟨B + 2, 0, none⟩ = some (.slice A2 ts.length c2) := blk_cell HI0.out.2.2.2.2.2 0
  refine callsIn_of_wp Try.func54 rfl trivial ?_ rfl
  simp only [Try.ntmps54, List.size_toArray, List.length_cons, List.length_nil, Nat.reduceAdd, Nat.reduceSub, Array.replicate_succ, Array.replicate_zero, List.push_toArray, List.append_toArray, List.nil_append, List.cons_append]
  gi_wp2
  gi_loopg [10] (ts.length + 1) (fun g s10 wr => ∃ (j : Nat) (m : Int) (pre : List (Int × Int)), s10 = .int .i64 (j : Int) ∧ Aside0 (j ≤ ts.length ∧ ts.length + 1 - j ≤ g ∧ LiqOK t a m ∧ pre.length = j ∧ runS t a m0 ts = (pre ++ (runS t a m (ts.drop j)).1, (runS t a m (ts.drop j)).2)) ∧ Aside0 (I pre wr ∧ LiqB B a m wr ∧ Bk true wr ∧ EnvS w0 B A1 A2 c1 c2 t ts wr))
  case atStart => exact ⟨0, m0, [], by rfl, ⟨by omega, by omega, hok, rfl, by rw [List.drop_zero, List.nil_append]⟩, HI0⟩
  case round =>
    clear e2 HI0
    obtain ⟨j, m, pre, rfl, HJ, HN⟩ := hrel
    by_cases hlt : j < ts.length
    case neg =>
      have hltb : decide (j < ts.length) = false := decide_eq_false hlt
      have hltc : decide ((j : Int) < (ts.length : Int)) = false := decide_eq_false (by omega)
      have hr := HJ.out.2.2.2.2
      rw [List.drop_eq_nil_of_le (by omega)] at hr
      simp only [runS, List.append_nil] at hr
      have HR := Aside0.mk hr
      clear hlt hr
      gi_wp2
      go_end0
      exact ⟨⟨_, rfl⟩, .inl ⟨pre, HR.out, HN.out.1, HN.out.2.2.1⟩⟩
    have hltb : decide (j < ts.length) = true := decide_eq_true hlt
    have hltc : decide ((j : Int) < (ts.length : Int)) = true := decide_eq_true (by omega)
    have p1 : (0 ≤ (j : Int)) = True := eq_true (by omega)
    have p2 : ((j : Int) < (ts.length : Int)) = True := eq_true (by omega)
    have p3 : (j < ts.length) = True := eq_true hlt
    obtain ⟨ad, e, t1⟩ := HAT.out wr HN.out.2.2.2.1 (j : Int) (by omega) (by omega)
    cases e
    rw [Int.toNat_natCast] at t1
    have hdr : ts.drop j = rd ts (j : Int) :: ts.drop (j + 1) := by
      rw [List.drop_eq_getElem_cons hlt]
      unfold rd
      rw [Int.toNat_natCast, List.getD_eq_getElem?_getD, List.getElem?_eq_getElem hlt]
      rfl
    have hrun := HJ.out.2.2.2.2
    rw [hdr] at hrun
    generalize rd ts (j : Int) = x at *
    have hm := HJ.out.2.2.1
    have hle := hm.least x
    have hmm0 := hm.m0
    have hmm1 := hm.m1
    simp only [runS] at hrun
    have hw' : wrap64 ((j : Int) + 1) = (j : Int) + 1 := w64_ (by omega) (by have := HTS.out; omega)
    have hw : IntKind.i64.wrap ((j : Int) + 1) = (j : Int) + 1 := by rw [i64_w]; exact hw'
    have HLX := Aside0.mk (HLS.out m x hm)
    have HRX := Aside0.mk (HRM.out m hm)
    obtain ⟨n1, hn1⟩ : ∃ n1, leastS t a m x = n1 := ⟨_, rfl⟩
    rw [hn1] at HLX hrun hle
    have HLT := Aside0.mk hlt
    have HW := Aside0.mk (⟨hw, hw'⟩ : _ ∧ _)
    clear hlt hw hw' hdr hn1
    have e1 : wr.cell? ⟨B, 0, none⟩ = some (.slice A1 t.length c1) := blk_cell HN.out.2.2.2.2.1 0
    have q0 : wr.cell? ⟨B + 1, 0, none⟩ = some (.int .i64 a) := blk_cell HN.out.2.1 0
    have q1 : wr.cell? ⟨B + 1, 1, none⟩ = some (.int .i64 m) := blk_cell HN.out.2.1 1
    by_cases c : 128849018880000 - m < n1
    case pos =>
      have b1 : decide (128849018880000 - m < n1) = true := decide_eq_true c
      rw [if_pos c] at hrun
      have HRUN := Aside0.mk hrun
      clear c hrun hle hmm0 hmm1 hm
      gi_wp2_with fail
      refine ⟨trivial, fun h => (by cases h), (callsIn_wide.2 (HLX.out _ HN.out.2.2.2.1)).mono ?_⟩
      rintro e w1 ⟨rfl, hb⟩
      replace HN := Aside0.mk (⟨HIB.out _ _ _ HN.out.1 hb, HN.out.2.1.below hb, HBK.out _ _ _ HN.out.2.2.1 (cellsOnly_below hb), HN.out.2.2.2.below hb⟩ : _ ∧ _ ∧ _ ∧ _)
      replace e1 := pw_cell_below hb e1
      replace q0 := pw_cell_below hb q0
      replace q1 := pw_cell_below hb q1
      clear hb t1
      gi_wp2_with fail
      refine ⟨trivial, fun h => (by cases h), (callsIn_wide.2 (HRX.out _)).mono ?_⟩
      rintro e w2 ⟨rfl, hb⟩
      replace HN := Aside0.mk (⟨HIB.out _ _ _ HN.out.1 hb, HN.out.2.1.below hb, HBK.out _ _ _ HN.out.2.2.1 (cellsOnly_below hb), HN.out.2.2.2.below hb⟩ : _ ∧ _ ∧ _ ∧ _)
      replace e1 := pw_cell_below hb e1
      replace q0 := pw_cell_below hb q0
      replace q1 := pw_cell_below hb q1
      clear hb
      obtain ⟨fn, tmps, assign, body, hy, hR⟩ := HY.out pre (-1, m) w2 HN.out.1 HN.out.2.2.1 (by rw [HJ.out.2.2.2.1]; exact HLT.out)
      unfold encS at hy
      have HR := Aside0.mk hR
      clear hR
      gi_wp2_with fail
      refine ⟨fun h => (by cases h), ?_⟩
      refine HR.out.mono ?_
      rintro e w3 h3
      obtain ⟨b, rfl, h6⟩ : ∃ b : Bool, e = .returned (.bool b) ∧ ((∃ xs, runS t a m0 ts = (xs, true) ∧ I xs w3 ∧ Bk true w3) ∨ ∃ ys, ys <+: (runS t a m0 ts).1 ∧ R ys w3 ∧ Bk false w3) := by
        rcases h3 with ⟨rfl, h4, _⟩ | ⟨rfl, h4, h5⟩
        · exact absurd (HII.out _ _ h4 (-1, m) (by simp)) (by simp)
        · exact ⟨false, rfl, .inr ⟨_, by rw [HRUN.out]; exact List.prefix_refl _, h4, h5⟩⟩
      have H3 := Aside0.mk h6
      clear h6 h3 hy
      gi_wp2
      refine bodyPost_ret (results_none rfl _ _ _) rfl ?_
      exact ⟨⟨_, rfl⟩, H3.out⟩
    case neg =>
      have b1 : decide (128849018880000 - m < n1) = false := decide_eq_false c
      rw [if_neg c] at hrun
      have HRUN := Aside0.mk hrun
      have HWX := Aside0.mk (HWT.out m n1 hm hle.1 (by omega))
      have HOK2 := Aside0.mk (hm.wet (show m ≤ m + n1 by omega) (by omega))
      clear c hrun hle hmm0 hmm1 hm
      gi_wp2_with fail
      refine ⟨trivial, fun h => (by cases h), (callsIn_wide.2 (HLX.out _ HN.out.2.2.2.1)).mono ?_⟩
      rintro e w1 ⟨rfl, hb⟩
      replace HN := Aside0.mk (⟨HIB.out _ _ _ HN.out.1 hb, HN.out.2.1.below hb, HBK.out _ _ _ HN.out.2.2.1 (cellsOnly_below hb), HN.out.2.2.2.below hb⟩ : _ ∧ _ ∧ _ ∧ _)
      replace e1 := pw_cell_below hb e1
      replace q0 := pw_cell_below hb q0
      replace q1 := pw_cell_below hb q1
      clear hb t1
      gi_wp2_with fail
      refine ⟨trivial, fun h => (by cases h), (callsIn_wide.2 (HRX.out _)).mono ?_⟩
      rintro e w2 ⟨rfl, hb⟩
      replace HN := Aside0.mk (⟨HIB.out _ _ _ HN.out.1 hb, HN.out.2.1.below hb, HBK.out _ _ _ HN.out.2.2.1 (cellsOnly_below hb), HN.out.2.2.2.below hb⟩ : _ ∧ _ ∧ _ ∧ _)
      replace e1 := pw_cell_below hb e1
      replace q0 := pw_cell_below hb q0
      replace q1 := pw_cell_below hb q1
      clear hb
      gi_wp2_with fail
      refine ⟨trivial, fun h => (by cases h), (callsIn_wide.2 (HWX.out _)).mono ?_⟩
      rintro e w3 ⟨rfl, hb⟩
      replace HN := Aside0.mk (⟨HIB.out _ _ _ HN.out.1 hb, HN.out.2.1.below hb, HBK.out _ _ _ HN.out.2.2.1 (cellsOnly_below hb), HN.out.2.2.2.below hb⟩ : _ ∧ _ ∧ _ ∧ _)
      replace e1 := pw_cell_below hb e1
      replace q0 := pw_cell_below hb q0
      replace q1 := pw_cell_below hb q1
      have f0 := blk_frozen HN.out.2.1 0
      have f1 := blk_frozen HN.out.2.1 1
      clear hb
      obtain ⟨w4, hw4⟩ : ∃ w4, w4 = (w3.setCell ⟨B + 1, 0, none⟩ (.int .i64 a)).setCell ⟨B + 1, 1, none⟩ (.int .i64 (m + n1)) := ⟨_, rfl⟩
      have u0 : (w3.setCell ⟨B + 1, 0, none⟩ (.int .i64 a)).heap[B + 1]? = some (.cells #[.int .i64 a, .int .i64 m] 24 (0, 0)) := blk_put HN.out.2.1 0 _ rfl
      have u1 : LiqB B a (m + n1) w4 := by rw [hw4]; exact blk_put u0 1 _ rfl
      have u2 : I pre w4 := by rw [hw4]; exact HIL.out _ _ _ _ HN.out.1 HN.out.2.1
      have u3 : Bk true w4 := by rw [hw4]; exact HBK.out _ _ _ (HBK.out _ _ _ HN.out.2.2.1 (cellsOnly_set HN.out.2.1 0 _)) (cellsOnly_set u0 1 _)
      have u4 := HIE.out _ _ u2
      obtain ⟨fn, tmps, assign, body, hy, hR⟩ := HY.out pre (n1, m + n1) w4 u2 u3 (by rw [HJ.out.2.2.2.1]; exact HLT.out)
      unfold encS at hy
      have HR := Aside0.mk hR
      have HU := Aside0.mk (⟨u1, u4⟩ : _ ∧ _)
      have q0' : w4.cell? ⟨B + 1, 0, none⟩ = some (.int .i64 a) := blk_cell u1 0
      have q1' : w4.cell? ⟨B + 1, 1, none⟩ = some (.int .i64 (m + n1)) := blk_cell u1 1
      clear hR u0 u1 u2 u3 u4
      gi_upto_region 7 with fail
      rw [← hw4]
      clear hw4 q0 q1 f0 f1 e1
      gi_wp2_with fail
      refine ⟨fun h => (by cases h), ?_⟩
      refine HR.out.mono ?_
      rintro e w5 h3
      obtain ⟨b, rfl, h6⟩ : ∃ b : Bool, e = .returned (.bool b) ∧ (if b = true then I (pre ++ [(n1, m + n1)]) w5 ∧ Bk true w5 ∧ KpS w0 B A1 (some ad) c1 c2 t ts a w4 w5 else R (pre ++ [(n1, m + n1)]) w5 ∧ Bk false w5) := by
        rcases h3 with ⟨rfl, h4⟩ | ⟨rfl, h4⟩
        · exact ⟨true, rfl, by rw [if_pos rfl]; exact h4⟩
        · exact ⟨false, rfl, by rw [if_neg (by decide)]; exact h4⟩
      have H3 := Aside0.mk h6
      clear h6 h3 hy
      cases b
      · have h4 := H3.out
        rw [if_neg (by decide)] at h4
        have H4 := Aside0.mk h4
        clear h4 H3
        gi_wp2
        refine bodyPost_ret (results_none rfl _ _ _) rfl ?_
        exact ⟨⟨_, rfl⟩, .inr ⟨_, by rw [HRUN.out]; exact ⟨(runS t a (m + n1) (ts.drop (j + 1))).1, by simp⟩, H4.out.1, H4.out.2⟩⟩
      · have h4 := H3.out
        rw [if_pos rfl] at h4
        have H4 := Aside0.mk (⟨h4.1, h4.2.2.2 _ HU.out.1, h4.2.1, h4.2.2.1 HU.out.2⟩ : _ ∧ _ ∧ _ ∧ _)
        clear h4 H3
        gi_wp2
        gi_roundg (ts.length + 1 - (j + 1))
        case measure => have := HJ.out; have := HLT.out; omega
        case rel => exact ⟨j + 1, m + n1, pre ++ [(n1, m + n1)], by first | rfl | (rw [HW.out.1]; rfl) | (rw [HW.out.2]; rfl), ⟨HLT.out, Nat.le_refl _, HOK2.out, by rw [List.length_append, HJ.out.2.2.2.1]; rfl, by rw [HRUN.out]; simp⟩, H4⟩
set_option maxHeartbeats 1000000 in
set_option maxRecDepth 100000 in
theorem steps.known (A1 A2 : Option Addr) (c1 c2 n1 n2 : Nat) (a m : Int) (w : World) :
    Calls Try.prog 42 #[.slice A1 n1 c1, .agg #[.int .i64 a, .int .i64 m], .slice A2 n2 c2] w fun e w' => e = .returned (.func (.func 54) #[] #[.pointer (some ⟨w.heap.size + 2, 0, none⟩), .pointer (some ⟨w.heap.size, 0, none⟩), .pointer (some ⟨w.heap.size + 1, 0, none⟩)]) ∧
      w' = ((w.alloc (.cells #[.slice A1 n1 c1] 22)).alloc (.cells #[.int .i64 a, .int .i64 m] 24)).alloc (.cells #[.slice A2 n2 c2] 41) := by
  have hu := Try.underlying24
  go_enter Try.func42, Try.ntmps42
  go_wp2
  go_ret
  exact ⟨rfl, rfl⟩

end Go.Proofs.Ytdggkgkbjgigmaa.PF
