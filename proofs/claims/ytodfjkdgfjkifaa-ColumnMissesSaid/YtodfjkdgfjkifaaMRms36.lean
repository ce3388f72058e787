/- The walk through the reference's Missing (out of the print, cut behind its making of a column). -/
import Derived.Test.YtodfjkdgfjkifaaMEv
import Derived.Test.YtodfjkdgfjkifaaMRmd36
import Derived.Test.YtodfjkdgfjkifaaPF0
import Derived.Test.YtodfjkdgfjkifaaPF5
namespace Go.Proofs.Ytodfjkdgfjkifaa.PF
open Go.RowKit Go.Proofs.YtodfjkdgfjkifaaW.PrintWords Go.Proofs.YtodfjkdgfjkifaaW.PrintLast Go.Proofs.YtodfjkdgfjkifaaW.PrintMore
set_option linter.unusedVariables false
set_option linter.unusedSimpArgs false
set_option maxHeartbeats 8000000 in
set_option maxRecDepth 100000 in
theorem spileref36_Missing.calls (k : Nat) (p : Int) (A : Option Addr) (c : Nat) (l : List (S28)) (r1 : Int) (r2 : Int) (r3 : Int) (r4 : Int) (r5 : Int) (w : World) (hr0_1 : Kd.C k28 w A l.length l) (hc0_1 : l.length ≤ c) (h : spileref36_Missing.f k p l = some (r1, r2, r3, r4, r5)) :
  Calls Try.prog 14 #[.agg #[.int .i64 p, .slice A l.length c]] w fun e w' => e = .returned (.tuple #[.agg #[.int .i64 r1, .int .i64 r2, .int .i64 r3, .int .i64 r4], .int .i64 r5]) ∧ Below w.heap.size w w' := by
 have hu24 := Try.underlying24
 have hu28 := Try.underlying28
 have HR0_1 := Aside0.mk hr0_1
 have HC0_1 := Aside0.mk hc0_1
 clear hr0_1 hc0_1
 have HB := Aside0.mk (Below.refl w.heap.size w)
 have H : ((spileref36_right.f k p l).bind fun t152 => (if t152 = true then ((spileref36_open.f k p l).bind fun t153 => (if (t153.length : Int) = 0 then (some (0, 0, 0, 0, 9)) else (if 0 < (t153.length : Int) then ((spileref36_balance.f k p l (rd t153 0)).bind fun bt157 => (if (t153.length : Int) > 1 then (if 1 < (t153.length : Int) then (spileref36_Missing.j0 k t153 bt157.1 bt157.2 p l (rd t153 0) (rd t153 1) bt157.1 bt157.2) else (none)) else (spileref36_Missing.j0 k t153 bt157.1 bt157.2 p l (rd t153 0) 0 bt157.1 bt157.2))) else (none)))) else (some (0, 0, 0, 0, 1)))) = some (r1, r2, r3, r4, r5) := h
 clear h
 replace H := Option.bind_eq_some_iff.mp H
 obtain ⟨t152, A20, H⟩ := H
 replace H : (if t152 = true then ((spileref36_open.f k p l).bind fun t153 => (if (t153.length : Int) = 0 then (some (0, 0, 0, 0, 9)) else (if 0 < (t153.length : Int) then ((spileref36_balance.f k p l (rd t153 0)).bind fun bt157 => (if (t153.length : Int) > 1 then (if 1 < (t153.length : Int) then (spileref36_Missing.j0 k t153 bt157.1 bt157.2 p l (rd t153 0) (rd t153 1) bt157.1 bt157.2) else (none)) else (spileref36_Missing.j0 k t153 bt157.1 bt157.2 p l (rd t153 0) 0 bt157.1 bt157.2))) else (none)))) else (some (0, 0, 0, 0, 1))) = some (r1, r2, r3, r4, r5) := H
 have A2 := Aside0.mk A20
 clear A20
 by_cases c3 : t152 = true
 ·subst c3
  have H1 : ((spileref36_open.f k p l).bind fun t153 => (if (t153.length : Int) = 0 then (some (0, 0, 0, 0, 9)) else (if 0 < (t153.length : Int) then ((spileref36_balance.f k p l (rd t153 0)).bind fun bt157 => (if (t153.length : Int) > 1 then (if 1 < (t153.length : Int) then (spileref36_Missing.j0 k t153 bt157.1 bt157.2 p l (rd t153 0) (rd t153 1) bt157.1 bt157.2) else (none)) else (spileref36_Missing.j0 k t153 bt157.1 bt157.2 p l (rd t153 0) 0 bt157.1 bt157.2))) else (none)))) = some (r1, r2, r3, r4, r5) := by rw [if_pos rfl] at H; exact H
  clear H
  have H := H1
  clear H1
  replace H := Option.bind_eq_some_iff.mp H
  obtain ⟨t153, A40, H⟩ := H
  replace H : (if (t153.length : Int) = 0 then (some (0, 0, 0, 0, 9)) else (if 0 < (t153.length : Int) then ((spileref36_balance.f k p l (rd t153 0)).bind fun bt157 => (if (t153.length : Int) > 1 then (if 1 < (t153.length : Int) then (spileref36_Missing.j0 k t153 bt157.1 bt157.2 p l (rd t153 0) (rd t153 1) bt157.1 bt157.2) else (none)) else (spileref36_Missing.j0 k t153 bt157.1 bt157.2 p l (rd t153 0) 0 bt157.1 bt157.2))) else (none))) = some (r1, r2, r3, r4, r5) := H
  have A4 := Aside0.mk A40
  clear A40
  by_cases c5 : (t153.length : Int) = 0
  ·rw [if_pos c5] at H
   have c5b0 : ((t153.length : Int) == 0) = true := beq_iff_eq.mpr c5
   have c5b1 : ((t153.length : Int) != 0) = false := bne_eq_false_iff_eq.mpr c5
   clear c5
   simp only [Option.some.injEq, Prod.mk.injEq] at H
   obtain ⟨rfl, rfl, rfl, rfl, rfl⟩ := H
   go_enter Try.func14, Try.ntmps14
   go_wp2_with (first | ((with_reducible refine gate_dst (N := 1) rfl ?_); refine box_event ?hg (N := 1) ?hd (cs := #[.int .i64 p, .slice A l.length c]) (t := 24) ?hr ?_; (case hd => rfl); (case hg => rfl); (case hr => first | (go_simp; done) | (go_simp; rfl)); intro gb150 hg w6 hbox hb; have n0_ := Aside0.mk (below_step (by repeat (first | (with_reducible first | exact HB.out | apply below_alloc | apply pw_below_drewN | apply below_drew1) | exact HB.out)) hb); have n1_ := Aside0.mk (hbox); have n2_ := Aside0.mk ((by rw [hg]; exact (below_size (by repeat (first | (with_reducible first | exact HB.out | apply below_alloc | apply pw_below_drewN | apply below_drew1) | exact HB.out))) : w.heap.size ≤ gb150)); have n3_ := Aside0.mk ((by rw [hg]; exact (below_size (by repeat (first | (with_reducible first | exact HB.out | apply below_alloc | apply pw_below_drewN | apply below_drew1) | exact HB.out))) : w.heap.size ≤ gb150)); clear HB; have HB := n0_; have BK150 := n1_; have GW150 := n2_; have GE150 := n3_; clear n0_ n1_ n2_ n3_; clear hb hbox hg) | ((with_reducible refine gate_dst (N := 2) rfl ?_); refine box_event ?hg (N := 2) ?hd (cs := #[.int .i64 0, .int .i64 0, .int .i64 0, .int .i64 0]) (t := 28) ?hr ?_; (case hd => rfl); (case hg => rfl); (case hr => first | (go_simp; done) | (go_simp; rfl)); intro gb151 hg w7 hbox hb; have n0_ := Aside0.mk (blk_below (g := gb150) (o := .cells #[.int .i64 p, .slice A l.length c] 24 (0, 0)) (by (with_reducible repeat (first | refine blk_drewN ?_ _ | refine blk_drew ?_ | refine blk_alloc ?_ _)); exact BK150.out) hb); have n1_ := Aside0.mk (below_step (by repeat (first | (with_reducible first | exact HB.out | apply below_alloc | apply pw_below_drewN | apply below_drew1 | refine below_set ?_ GE150.out) | exact HB.out)) hb); have n2_ := Aside0.mk (hbox); have n3_ := Aside0.mk ((by rw [hg]; exact (below_size (by repeat (first | (with_reducible first | exact HB.out | apply below_alloc | apply pw_below_drewN | apply below_drew1 | refine below_set ?_ GE150.out) | exact HB.out))) : w.heap.size ≤ gb151)); have n4_ := Aside0.mk ((by rw [hg]; exact (below_size (by repeat (first | (with_reducible first | exact HB.out | apply below_alloc | apply pw_below_drewN | apply below_drew1 | refine below_set ?_ GE150.out) | exact HB.out))) : w.heap.size ≤ gb151)); have n5_ := Aside0.mk ((by rw [hg]; exact Nat.ne_of_lt (blk_lt (g := gb150) (o := .cells #[.int .i64 p, .slice A l.length c] 24 (0, 0)) (by (with_reducible repeat (first | refine blk_drewN ?_ _ | refine blk_drew ?_ | refine blk_alloc ?_ _)); exact BK150.out)) : gb150 ≠ gb151)); have n6_ := Aside0.mk ((by rw [hg]; exact Nat.ne_of_gt (blk_lt (g := gb150) (o := .cells #[.int .i64 p, .slice A l.length c] 24 (0, 0)) (by (with_reducible repeat (first | refine blk_drewN ?_ _ | refine blk_drew ?_ | refine blk_alloc ?_ _)); exact BK150.out)) : gb151 ≠ gb150)); clear BK150; clear HB; have BK150 := n0_; have HB := n1_; have BK151 := n2_; have GW151 := n3_; have GE151 := n4_; have NB150_151 := n5_; have NB151_150 := n6_; clear n0_ n1_ n2_ n3_ n4_ n5_ n6_; clear hb hbox hg; have hnb8 := NB150_151.out; have hnc8 := NB151_150.out; have hcz9_0 : w7.cell? ⟨gb150, 0, none⟩ = some (.int .i64 p) := (blk_cell BK150.out 0).trans rfl; have hcz9_1 : w7.cell? ⟨gb150, 1, none⟩ = some (.slice A l.length c) := (blk_cell BK150.out 1).trans rfl; have hfz9_0 := blk_frozen BK150.out 0; have hfz9_1 := blk_frozen BK150.out 1) | ((with_reducible refine gate_callee (f := 36) rfl ?_); refine goesL_ (some 10) rfl rfl Try.func36 (by kernel_rfl) rfl #[.agg #[.int .i64 p, .slice A l.length c]] rfl (by (try simp only [List.map_toArray, List.map_cons, List.map_nil]); first | done | rfl | (simp only [List.length_drop, List.length_take]; rfl)) ?_; (with_reducible refine (spileref36_right.calls k p _ _ l true _ ?side1 ?side2 A2.out).mono ?_); (case side1 => repeat (first | exact (Kd.C_below HR0_1.out HB.out) | (with_reducible refine Kd.C_alloc ?_ _) | (with_reducible refine Kd.C_drewN ?_ _) | (with_reducible refine Kd.C_drew ?_))); (case side2 => exact HC0_1.out); rintro e w10 ⟨rfl, hb⟩; refine ⟨_, rfl, ?_⟩; have n0_ := Aside0.mk (blk_below (g := gb150) (o := .cells #[.int .i64 p, .slice A l.length c] 24 (0, 0)) (by (with_reducible repeat (first | refine blk_drewN ?_ _ | refine blk_drew ?_ | refine blk_alloc ?_ _)); exact BK150.out) hb); have n1_ := Aside0.mk (blk_below (g := gb151) (o := .cells #[.int .i64 0, .int .i64 0, .int .i64 0, .int .i64 0] 28 (0, 0)) (by (with_reducible repeat (first | refine blk_drewN ?_ _ | refine blk_drew ?_ | refine blk_alloc ?_ _)); exact BK151.out) hb); have n2_ := Aside0.mk (below_step (by repeat (first | (with_reducible first | exact HB.out | apply below_alloc | apply pw_below_drewN | apply below_drew1 | refine below_set ?_ GE150.out | refine below_set ?_ GE151.out) | exact HB.out)) hb); clear BK150; clear BK151; clear HB; have BK150 := n0_; have BK151 := n1_; have HB := n2_; clear n0_ n1_ n2_; (try clear hb); (try clear hb2); (try clear hk); (try clear hi); have hcz11_0 : w10.cell? ⟨gb150, 0, none⟩ = some (.int .i64 p) := (blk_cell BK150.out 0).trans rfl; have hcz11_1 : w10.cell? ⟨gb150, 1, none⟩ = some (.slice A l.length c) := (blk_cell BK150.out 1).trans rfl; have hfz11_0 := blk_frozen BK150.out 0; have hfz11_1 := blk_frozen BK150.out 1) | ((with_reducible refine gate_callee (f := 37) rfl ?_); refine goesL_ (some 14) rfl rfl Try.func37 (by kernel_rfl) rfl #[.agg #[.int .i64 p, .slice A l.length c]] rfl (by (try simp only [List.map_toArray, List.map_cons, List.map_nil]); first | done | rfl | (simp only [List.length_drop, List.length_take]; rfl)) ?_; (with_reducible refine (spileref36_open.calls k p _ _ l t153 _ ?side1 ?side2 A4.out).mono ?_); (case side1 => repeat (first | exact (Kd.C_below HR0_1.out HB.out) | (with_reducible refine Kd.C_alloc ?_ _) | (with_reducible refine Kd.C_drewN ?_ _) | (with_reducible refine Kd.C_drew ?_))); (case side2 => exact HC0_1.out); rintro e w12 ⟨v154, rfl, ho0, hb⟩; refine ⟨_, rfl, ?_⟩; have n0_ := Aside0.mk (Kd.R_lower ho0 (below_size (by repeat (first | (with_reducible first | exact HB.out | apply below_alloc | apply pw_below_drewN | apply below_drew1 | refine below_set ?_ GE150.out | refine below_set ?_ GE151.out) | exact HB.out)))); have n1_ := Aside0.mk (blk_below (g := gb150) (o := .cells #[.int .i64 p, .slice A l.length c] 24 (0, 0)) (by (with_reducible repeat (first | refine blk_drewN ?_ _ | refine blk_drew ?_ | refine blk_alloc ?_ _)); exact BK150.out) hb); have n2_ := Aside0.mk (blk_below (g := gb151) (o := .cells #[.int .i64 0, .int .i64 0, .int .i64 0, .int .i64 0] 28 (0, 0)) (by (with_reducible repeat (first | refine blk_drewN ?_ _ | refine blk_drew ?_ | refine blk_alloc ?_ _)); exact BK151.out) hb); have n3_ := Aside0.mk (below_step (by repeat (first | (with_reducible first | exact HB.out | apply below_alloc | apply pw_below_drewN | apply below_drew1 | refine below_set ?_ GE150.out | refine below_set ?_ GE151.out) | exact HB.out)) hb); clear BK150; clear BK151; clear HB; have HO155 := n0_; have BK150 := n1_; have BK151 := n2_; have HB := n3_; clear n0_ n1_ n2_ n3_; (try clear hb); (try clear hb2); (try clear hk); (try clear hi); (try clear ho0); obtain ⟨Ao13, co13, eo13⟩ := Kd.R_slice HO155.out; subst eo13; have hcz14_0 : w12.cell? ⟨gb151, 0, none⟩ = some (.int .i64 0) := (blk_cell BK151.out 0).trans rfl; have hcz14_1 : w12.cell? ⟨gb151, 1, none⟩ = some (.int .i64 0) := (blk_cell BK151.out 1).trans rfl; have hcz14_2 : w12.cell? ⟨gb151, 2, none⟩ = some (.int .i64 0) := (blk_cell BK151.out 2).trans rfl; have hcz14_3 : w12.cell? ⟨gb151, 3, none⟩ = some (.int .i64 0) := (blk_cell BK151.out 3).trans rfl; have hfz14_0 := blk_frozen BK151.out 0; have hfz14_1 := blk_frozen BK151.out 1; have hfz14_2 := blk_frozen BK151.out 2; have hfz14_3 := blk_frozen BK151.out 3))
   refine bodyPost_ret (results_ct rfl _ _ gb151 28 #[.int .i64 0, .int .i64 0, .int .i64 0, .int .i64 0] (0, 0) _ rfl (by (with_reducible repeat (first | refine blk_drewN ?_ _ | refine blk_drew ?_ | refine blk_alloc ?_ _)); refine blk_put (cs := #[.int .i64 0, .int .i64 0, .int .i64 0, .int .i64 0]) ?_ 3 _ rfl; (with_reducible repeat (first | refine blk_drewN ?_ _ | refine blk_drew ?_ | refine blk_alloc ?_ _)); refine blk_put (cs := #[.int .i64 0, .int .i64 0, .int .i64 0, .int .i64 0]) ?_ 2 _ rfl; (with_reducible repeat (first | refine blk_drewN ?_ _ | refine blk_drew ?_ | refine blk_alloc ?_ _)); refine blk_put (cs := #[.int .i64 0, .int .i64 0, .int .i64 0, .int .i64 0]) ?_ 1 _ rfl; (with_reducible repeat (first | refine blk_drewN ?_ _ | refine blk_drew ?_ | refine blk_alloc ?_ _)); refine blk_put (cs := #[.int .i64 0, .int .i64 0, .int .i64 0, .int .i64 0]) ?_ 0 _ rfl; (with_reducible repeat (first | refine blk_drewN ?_ _ | refine blk_drew ?_ | refine blk_alloc ?_ _)); exact BK151.out) Try.underlying28 rfl (by kernel_rfl)) rfl ?_
   exact ⟨by first | rfl | (simp [errW_none, errW_some] <;> rfl) | (simp [*, errW_none, errW_some] <;> rfl), by repeat (first | (with_reducible first | exact HB.out | apply below_alloc | apply pw_below_drewN | apply below_drew1 | refine below_set ?_ GE150.out | refine below_set ?_ GE151.out) | exact HB.out)⟩
  ·rw [if_neg c5] at H
   have c5b0 : ((t153.length : Int) == 0) = false := beq_eq_false_iff_ne.mpr c5
   have c5b1 : ((t153.length : Int) != 0) = true := bne_iff_ne.mpr c5
   have c5b2 : ¬ (t153 = []) := fun h_ => c5 (by rw [h_]; rfl)
   by_cases c15 : 0 < (t153.length : Int)
   ·rw [if_pos c15] at H
    have c15b0 : decide (0 < (t153.length : Int)) = true := decide_eq_true c15
    have c15b1 : decide (0 < t153.length) = true := decide_eq_true (by omega)
    clear c15
    replace H := Option.bind_eq_some_iff.mp H
    obtain ⟨⟨t157, t158⟩, A160, H⟩ := H
    replace H : (if (t153.length : Int) > 1 then (if 1 < (t153.length : Int) then (spileref36_Missing.j0 k t153 t157 t158 p l (rd t153 0) (rd t153 1) t157 t158) else (none)) else (spileref36_Missing.j0 k t153 t157 t158 p l (rd t153 0) 0 t157 t158)) = some (r1, r2, r3, r4, r5) := H
    have A16 := Aside0.mk A160
    clear A160
    have HC17 := Aside0.mk H
    clear H
    go_enter Try.func14, Try.ntmps14
    try go_wp2_with (first | ((with_reducible refine gate_dst (N := 1) rfl ?_); refine box_event ?hg (N := 1) ?hd (cs := #[.int .i64 p, .slice A l.length c]) (t := 24) ?hr ?_; (case hd => rfl); (case hg => rfl); (case hr => first | (go_simp; done) | (go_simp; rfl)); intro gb150 hg w18 hbox hb; have n0_ := Aside0.mk (below_step (by repeat (first | (with_reducible first | exact HB.out | apply below_alloc | apply pw_below_drewN | apply below_drew1) | exact HB.out)) hb); have n1_ := Aside0.mk (hbox); have n2_ := Aside0.mk ((by rw [hg]; exact (below_size (by repeat (first | (with_reducible first | exact HB.out | apply below_alloc | apply pw_below_drewN | apply below_drew1) | exact HB.out))) : w.heap.size ≤ gb150)); have n3_ := Aside0.mk ((by rw [hg]; exact (below_size (by repeat (first | (with_reducible first | exact HB.out | apply below_alloc | apply pw_below_drewN | apply below_drew1) | exact HB.out))) : w.heap.size ≤ gb150)); clear HB; have HB := n0_; have BK150 := n1_; have GW150 := n2_; have GE150 := n3_; clear n0_ n1_ n2_ n3_; clear hb hbox hg) | ((with_reducible refine gate_dst (N := 2) rfl ?_); refine box_event ?hg (N := 2) ?hd (cs := #[.int .i64 0, .int .i64 0, .int .i64 0, .int .i64 0]) (t := 28) ?hr ?_; (case hd => rfl); (case hg => rfl); (case hr => first | (go_simp; done) | (go_simp; rfl)); intro gb151 hg w19 hbox hb; have n0_ := Aside0.mk (blk_below (g := gb150) (o := .cells #[.int .i64 p, .slice A l.length c] 24 (0, 0)) (by (with_reducible repeat (first | refine blk_drewN ?_ _ | refine blk_drew ?_ | refine blk_alloc ?_ _)); exact BK150.out) hb); have n1_ := Aside0.mk (below_step (by repeat (first | (with_reducible first | exact HB.out | apply below_alloc | apply pw_below_drewN | apply below_drew1 | refine below_set ?_ GE150.out) | exact HB.out)) hb); have n2_ := Aside0.mk (hbox); have n3_ := Aside0.mk ((by rw [hg]; exact (below_size (by repeat (first | (with_reducible first | exact HB.out | apply below_alloc | apply pw_below_drewN | apply below_drew1 | refine below_set ?_ GE150.out) | exact HB.out))) : w.heap.size ≤ gb151)); have n4_ := Aside0.mk ((by rw [hg]; exact (below_size (by repeat (first | (with_reducible first | exact HB.out | apply below_alloc | apply pw_below_drewN | apply below_drew1 | refine below_set ?_ GE150.out) | exact HB.out))) : w.heap.size ≤ gb151)); have n5_ := Aside0.mk ((by rw [hg]; exact Nat.ne_of_lt (blk_lt (g := gb150) (o := .cells #[.int .i64 p, .slice A l.length c] 24 (0, 0)) (by (with_reducible repeat (first | refine blk_drewN ?_ _ | refine blk_drew ?_ | refine blk_alloc ?_ _)); exact BK150.out)) : gb150 ≠ gb151)); have n6_ := Aside0.mk ((by rw [hg]; exact Nat.ne_of_gt (blk_lt (g := gb150) (o := .cells #[.int .i64 p, .slice A l.length c] 24 (0, 0)) (by (with_reducible repeat (first | refine blk_drewN ?_ _ | refine blk_drew ?_ | refine blk_alloc ?_ _)); exact BK150.out)) : gb151 ≠ gb150)); clear BK150; clear HB; have BK150 := n0_; have HB := n1_; have BK151 := n2_; have GW151 := n3_; have GE151 := n4_; have NB150_151 := n5_; have NB151_150 := n6_; clear n0_ n1_ n2_ n3_ n4_ n5_ n6_; clear hb hbox hg; have hnb20 := NB150_151.out; have hnc20 := NB151_150.out; have hcz21_0 : w19.cell? ⟨gb150, 0, none⟩ = some (.int .i64 p) := (blk_cell BK150.out 0).trans rfl; have hcz21_1 : w19.cell? ⟨gb150, 1, none⟩ = some (.slice A l.length c) := (blk_cell BK150.out 1).trans rfl; have hfz21_0 := blk_frozen BK150.out 0; have hfz21_1 := blk_frozen BK150.out 1) | ((with_reducible refine gate_callee (f := 36) rfl ?_); refine goesL_ (some 10) rfl rfl Try.func36 (by kernel_rfl) rfl #[.agg #[.int .i64 p, .slice A l.length c]] rfl (by (try simp only [List.map_toArray, List.map_cons, List.map_nil]); first | done | rfl | (simp only [List.length_drop, List.length_take]; rfl)) ?_; (with_reducible refine (spileref36_right.calls k p _ _ l true _ ?side1 ?side2 A2.out).mono ?_); (case side1 => repeat (first | exact (Kd.C_below HR0_1.out HB.out) | (with_reducible refine Kd.C_alloc ?_ _) | (with_reducible refine Kd.C_drewN ?_ _) | (with_reducible refine Kd.C_drew ?_))); (case side2 => exact HC0_1.out); rintro e w22 ⟨rfl, hb⟩; refine ⟨_, rfl, ?_⟩; have n0_ := Aside0.mk (blk_below (g := gb150) (o := .cells #[.int .i64 p, .slice A l.length c] 24 (0, 0)) (by (with_reducible repeat (first | refine blk_drewN ?_ _ | refine blk_drew ?_ | refine blk_alloc ?_ _)); exact BK150.out) hb); have n1_ := Aside0.mk (blk_below (g := gb151) (o := .cells #[.int .i64 0, .int .i64 0, .int .i64 0, .int .i64 0] 28 (0, 0)) (by (with_reducible repeat (first | refine blk_drewN ?_ _ | refine blk_drew ?_ | refine blk_alloc ?_ _)); exact BK151.out) hb); have n2_ := Aside0.mk (below_step (by repeat (first | (with_reducible first | exact HB.out | apply below_alloc | apply pw_below_drewN | apply below_drew1 | refine below_set ?_ GE150.out | refine below_set ?_ GE151.out) | exact HB.out)) hb); clear BK150; clear BK151; clear HB; have BK150 := n0_; have BK151 := n1_; have HB := n2_; clear n0_ n1_ n2_; (try clear hb); (try clear hb2); (try clear hk); (try clear hi); have hcz23_0 : w22.cell? ⟨gb150, 0, none⟩ = some (.int .i64 p) := (blk_cell BK150.out 0).trans rfl; have hcz23_1 : w22.cell? ⟨gb150, 1, none⟩ = some (.slice A l.length c) := (blk_cell BK150.out 1).trans rfl; have hfz23_0 := blk_frozen BK150.out 0; have hfz23_1 := blk_frozen BK150.out 1) | ((with_reducible refine gate_callee (f := 37) rfl ?_); refine goesL_ (some 14) rfl rfl Try.func37 (by kernel_rfl) rfl #[.agg #[.int .i64 p, .slice A l.length c]] rfl (by (try simp only [List.map_toArray, List.map_cons, List.map_nil]); first | done | rfl | (simp only [List.length_drop, List.length_take]; rfl)) ?_; (with_reducible refine (spileref36_open.calls k p _ _ l t153 _ ?side1 ?side2 A4.out).mono ?_); (case side1 => repeat (first | exact (Kd.C_below HR0_1.out HB.out) | (with_reducible refine Kd.C_alloc ?_ _) | (with_reducible refine Kd.C_drewN ?_ _) | (with_reducible refine Kd.C_drew ?_))); (case side2 => exact HC0_1.out); rintro e w24 ⟨v154, rfl, ho0, hb⟩; refine ⟨_, rfl, ?_⟩; have n0_ := Aside0.mk (Kd.R_lower ho0 (below_size (by repeat (first | (with_reducible first | exact HB.out | apply below_alloc | apply pw_below_drewN | apply below_drew1 | refine below_set ?_ GE150.out | refine below_set ?_ GE151.out) | exact HB.out)))); have n1_ := Aside0.mk (blk_below (g := gb150) (o := .cells #[.int .i64 p, .slice A l.length c] 24 (0, 0)) (by (with_reducible repeat (first | refine blk_drewN ?_ _ | refine blk_drew ?_ | refine blk_alloc ?_ _)); exact BK150.out) hb); have n2_ := Aside0.mk (blk_below (g := gb151) (o := .cells #[.int .i64 0, .int .i64 0, .int .i64 0, .int .i64 0] 28 (0, 0)) (by (with_reducible repeat (first | refine blk_drewN ?_ _ | refine blk_drew ?_ | refine blk_alloc ?_ _)); exact BK151.out) hb); have n3_ := Aside0.mk (below_step (by repeat (first | (with_reducible first | exact HB.out | apply below_alloc | apply pw_below_drewN | apply below_drew1 | refine below_set ?_ GE150.out | refine below_set ?_ GE151.out) | exact HB.out)) hb); clear BK150; clear BK151; clear HB; have HO155 := n0_; have BK150 := n1_; have BK151 := n2_; have HB := n3_; clear n0_ n1_ n2_ n3_; (try clear hb); (try clear hb2); (try clear hk); (try clear hi); (try clear ho0); obtain ⟨Ao25, co25, eo25⟩ := Kd.R_slice HO155.out; subst eo25))
    have n0_ := Aside0.mk (Kd.R_drew HO155.out)
    have n1_ := Aside0.mk (blk_drew BK150.out)
    have n2_ := Aside0.mk (blk_drew BK151.out)
    have n3_ := Aside0.mk (below_drew1 HB.out)
    clear HO155
    clear BK150
    clear BK151
    clear HB
    have HO155 := n0_
    have BK150 := n1_
    have BK151 := n2_
    have HB := n3_
    clear n0_ n1_ n2_ n3_
    have p156 : 0 ≤ (0 : Int) := (by omega)
    have q156 : 0 < (t153.length : Int) := of_decide_eq_true (by first | (with_reducible assumption) | assumption)
    obtain ⟨ad156, e156, hx156_0⟩ := Kd.at_int (Kd.R_reads' HO155.out).2.2 0 p156 q156
    cases e156
    have qi156 : (0 < t153.length) = True := eq_true (by omega)
    (try rw [show ((0 : Int)).toNat = 0 from rfl] at hx156_0)
    (try rw [Addr.add_zero'] at hx156_0)
    replace p156 := eq_true p156
    replace q156 := eq_true q156
    refine start_ (n := 10) (S := fun w' => w'.cell? ⟨gb150, 0, none⟩ = some (.int .i64 p) ∧ w'.cell? ⟨gb150, 1, none⟩ = some (.slice A l.length c) ∧ w'.cell? ad156 = some (.int .i64 (rd t153 0))) (ds := []) #[false, false, false, false, false, false, false, false, false, false] (by kernel_rfl) rfl rfl ⟨(blk_cell BK150.out 0).trans rfl, (blk_cell BK150.out 1).trans rfl, hx156_0⟩ (fun hHeld => ?_); refine with_tabW spileref36_Missing.tab6 spileref36_Missing.bits6 (fun HT_ HW_ => ?_)
    generalize w24.drew = w26 at HO155 BK150 BK151 HB hx156_0 hHeld ⊢
    refine pure_ (i := 1) (N := some 21) (v := ?_) (a' := ?_) #[false, true, false, false, false, false, false, false, false, false] rfl rfl (any_of HT_.out (by kernel_rfl)) (fun _ _ _ h => h) (Or.inl ⟨by rfl, ?_⟩) ?_ ?_
    rotate_left
    ·intro w'
     go_simp
     with_reducible rfl
    rotate_left
    ·simp only [Act.put, List.setIfInBounds_toArray, List.set_cons_zero, List.set_cons_succ, i64_w, i32_w]
     rfl
    refine pure_ (i := 2) (N := some 22) (v := ?_) (a' := ?_) #[false, true, true, false, false, false, false, false, false, false] rfl rfl (any_of HT_.out (by kernel_rfl)) (fun _ _ _ h => h) (Or.inl ⟨by rfl, ?_⟩) ?_ ?_
    rotate_left
    ·intro w'
     go_simp
     with_reducible rfl
    rotate_left
    ·simp only [Act.put, List.setIfInBounds_toArray, List.set_cons_zero, List.set_cons_succ, i64_w, i32_w]
     rfl
    refine take_ (i := 0) (N := some 20) (v := ?_) (a' := ?_) #[true, true, true, false, false, false, false, false, false, false] rfl rfl (take_ofW HT_.out HW_.out (by kernel_rfl)) (fun _ _ _ h => h) (Or.inl ⟨by rfl, ?_⟩) hHeld ?_ ?_
    rotate_left
    ·rintro w' ⟨s0, s1, s2⟩
     go_simp
     with_reducible rfl
    rotate_left
    ·simp only [Act.put, List.setIfInBounds_toArray, List.set_cons_zero, List.set_cons_succ, i64_w, i32_w]
     rfl
    refine take_ (i := 3) (N := some 23) (v := ?_) (a' := ?_) #[true, true, true, true, false, false, false, false, false, false] rfl rfl (take_ofW HT_.out HW_.out (by kernel_rfl)) (fun _ _ _ h => h) (Or.inl ⟨by rfl, ?_⟩) hHeld ?_ ?_
    rotate_left
    ·rintro w' ⟨s0, s1, s2⟩
     go_simp
     with_reducible rfl
    rotate_left
    ·simp only [Act.put, List.setIfInBounds_toArray, List.set_cons_zero, List.set_cons_succ, i64_w, i32_w]
     rfl
    refine one_ (i := 4) (N := some 24) #[true, true, true, true, true, false, false, false, false, false] rfl rfl (one_of HT_.out (by kernel_rfl)) (by decide) (fun K hK => ?_)
    refine goes_ Try.func38 (by kernel_rfl) rfl #[.agg #[.int .i64 p, .slice A l.length c], .int .i64 (rd t153 0)] (by rfl) rfl rfl (by (try simp only [List.map_toArray, List.map_cons, List.map_nil]); first | done | rfl | (simp only [List.length_drop, List.length_take]; rfl)) ?_
    with_reducible refine (spileref36_balance.calls k p _ _ l (rd t153 0) t157 t158 _ ?side1 ?side2 A16.out).mono ?_
    (case side1 => repeat (first | exact (Kd.C_below HR0_1.out HB.out) | (with_reducible refine Kd.C_alloc ?_ _) | (with_reducible refine Kd.C_drewN ?_ _) | (with_reducible refine Kd.C_drew ?_)))
    (case side2 => exact HC0_1.out)
    rintro e w27 ⟨rfl, hb⟩
    have HS2_ := (hb.cell (World.block_lt_of_cell? _ _ (hHeld.2.2))).trans (hHeld.2.2)
    refine ⟨_, rfl, ?_⟩
    have n0_ := Aside0.mk (Kd.R_below (by (with_reducible repeat (first | apply Kd.R_alloc | apply Kd.R_drewN | apply Kd.R_drew)); exact HO155.out) hb)
    have n1_ := Aside0.mk (blk_below (g := gb150) (o := .cells #[.int .i64 p, .slice A l.length c] 24 (0, 0)) (by (with_reducible repeat (first | refine blk_drewN ?_ _ | refine blk_drew ?_ | refine blk_alloc ?_ _)); exact BK150.out) hb)
    have n2_ := Aside0.mk (blk_below (g := gb151) (o := .cells #[.int .i64 0, .int .i64 0, .int .i64 0, .int .i64 0] 28 (0, 0)) (by (with_reducible repeat (first | refine blk_drewN ?_ _ | refine blk_drew ?_ | refine blk_alloc ?_ _)); exact BK151.out) hb)
    have n3_ := Aside0.mk (below_step (by repeat (first | (with_reducible first | exact HB.out | apply below_alloc | apply pw_below_drewN | apply below_drew1 | refine below_set ?_ GE150.out | refine below_set ?_ GE151.out) | exact HB.out)) hb)
    clear HO155
    clear BK150
    clear BK151
    clear HB
    have HO155 := n0_
    have BK150 := n1_
    have BK151 := n2_
    have HB := n3_
    clear n0_ n1_ n2_ n3_
    (try clear hb)
    (try clear hb2)
    (try clear hk)
    (try clear hi)
    refine hK.out _ _ ⟨(blk_cell BK150.out 0).trans rfl, (blk_cell BK150.out 1).trans rfl, HS2_⟩ (fun hHeld => ?_)
    clear hK K
    refine norm_ (a' := ?_) ?_ ?_
    rotate_left
    ·show Act.put _ (some 24) _ = _
     simp only [Act.put, List.setIfInBounds_toArray, List.set_cons_zero, List.set_cons_succ, i64_w, i32_w]
     rfl
    refine pure_ (i := 5) (N := some 19) (v := ?_) (a' := ?_) #[true, true, true, true, true, true, false, false, false, false] rfl rfl (any_of HT_.out (by kernel_rfl)) (fun _ _ _ h => h) (Or.inl ⟨by rfl, ?_⟩) ?_ ?_
    rotate_left
    ·intro w'
     go_simp
     with_reducible rfl
    rotate_left
    ·simp only [Act.put, List.setIfInBounds_toArray, List.set_cons_zero, List.set_cons_succ, i64_w, i32_w]
     rfl
    refine pure_ (i := 6) (N := some 25) (v := ?_) (a' := ?_) #[true, true, true, true, true, true, true, false, false, false] rfl rfl (any_of HT_.out (by kernel_rfl)) (fun _ _ _ h => h) (Or.inl ⟨by rfl, ?_⟩) ?_ ?_
    rotate_left
    ·intro w'
     go_simp
     with_reducible rfl
    rotate_left
    ·simp only [Act.put, List.setIfInBounds_toArray, List.set_cons_zero, List.set_cons_succ, i64_w, i32_w]
     rfl
    refine pure_ (i := 7) (N := some 26) (v := ?_) (a' := ?_) #[true, true, true, true, true, true, true, true, false, false] rfl rfl (any_of HT_.out (by kernel_rfl)) (fun _ _ _ h => h) (Or.inl ⟨by rfl, ?_⟩) ?_ ?_
    rotate_left
    ·intro w'
     go_simp
     with_reducible rfl
    rotate_left
    ·simp only [Act.put, List.setIfInBounds_toArray, List.set_cons_zero, List.set_cons_succ, i64_w, i32_w]
     rfl
    refine pure_ (i := 8) (N := some 5) (v := ?_) (a' := ?_) #[true, true, true, true, true, true, true, true, true, false] rfl rfl (any_of HT_.out (by kernel_rfl)) (fun _ _ _ h => h) (Or.inl ⟨by rfl, ?_⟩) ?_ ?_
    rotate_left
    ·intro w'
     go_simp
     with_reducible rfl
    rotate_left
    ·simp only [Act.put, List.setIfInBounds_toArray, List.set_cons_zero, List.set_cons_succ, i64_w, i32_w]
     rfl
    refine pure_ (i := 9) (N := some 6) (v := ?_) (a' := ?_) #[true, true, true, true, true, true, true, true, true, true] rfl rfl (any_of HT_.out (by kernel_rfl)) (fun _ _ _ h => h) (Or.inl ⟨by rfl, ?_⟩) ?_ ?_
    rotate_left
    ·intro w'
     go_simp
     with_reducible rfl
    rotate_left
    ·simp only [Act.put, List.setIfInBounds_toArray, List.set_cons_zero, List.set_cons_succ, i64_w, i32_w]
     rfl
    refine done_ (done_of HT_.out (by kernel_rfl)) ?_
    have p159 : 0 ≤ (0 : Int) := (by omega)
    have q159 : 0 < (t153.length : Int) := of_decide_eq_true (by first | (with_reducible assumption) | assumption)
    obtain ⟨ad159, e159, hx159_0⟩ := Kd.at_int (Kd.R_reads' HO155.out).2.2 0 p159 q159
    obtain rfl : ad156 = ad159 := (by injection e159)
    have qi159 : (0 < t153.length) = True := eq_true (by omega)
    (try rw [show ((0 : Int)).toNat = 0 from rfl] at hx159_0)
    (try rw [Addr.add_zero'] at hx159_0)
    replace p159 := eq_true p159
    replace q159 := eq_true q159
    go_upto_if 35 with (first | ((with_reducible refine gate_dst (N := 7) rfl ?_); refine box_event ?hg (N := 7) ?hd (cs := #[.int .i64 0, .int .i64 0, .int .i64 0, .int .i64 0]) (t := 28) ?hr ?_; (case hd => rfl); (case hg => rfl); (case hr => first | (go_simp; done) | (go_simp; rfl)); intro gb160 hg w28 hbox hb; have n0_ := Aside0.mk (Kd.R_below (by (with_reducible repeat (first | apply Kd.R_alloc | apply Kd.R_drewN | apply Kd.R_drew)); exact HO155.out) hb); have n1_ := Aside0.mk (blk_below (g := gb150) (o := .cells #[.int .i64 p, .slice A l.length c] 24 (0, 0)) (by (with_reducible repeat (first | refine blk_drewN ?_ _ | refine blk_drew ?_ | refine blk_alloc ?_ _)); exact BK150.out) hb); have n2_ := Aside0.mk (blk_below (g := gb151) (o := .cells #[.int .i64 0, .int .i64 0, .int .i64 0, .int .i64 0] 28 (0, 0)) (by (with_reducible repeat (first | refine blk_drewN ?_ _ | refine blk_drew ?_ | refine blk_alloc ?_ _)); exact BK151.out) hb); have n3_ := Aside0.mk (below_step (by repeat (first | (with_reducible first | exact HB.out | apply below_alloc | apply pw_below_drewN | apply below_drew1 | refine below_set ?_ GE150.out | refine below_set ?_ GE151.out) | exact HB.out)) hb); have n4_ := Aside0.mk (hbox); have n5_ := Aside0.mk ((by rw [hg]; exact (below_size (by repeat (first | (with_reducible first | exact HB.out | apply below_alloc | apply pw_below_drewN | apply below_drew1 | refine below_set ?_ GE150.out | refine below_set ?_ GE151.out) | exact HB.out))) : w.heap.size ≤ gb160)); have n6_ := Aside0.mk ((by rw [hg]; exact (below_size (by repeat (first | (with_reducible first | exact HB.out | apply below_alloc | apply pw_below_drewN | apply below_drew1 | refine below_set ?_ GE150.out | refine below_set ?_ GE151.out) | exact HB.out))) : w.heap.size ≤ gb160)); have n7_ := Aside0.mk ((by rw [hg]; exact Nat.ne_of_lt (blk_lt (g := gb150) (o := .cells #[.int .i64 p, .slice A l.length c] 24 (0, 0)) (by (with_reducible repeat (first | refine blk_drewN ?_ _ | refine blk_drew ?_ | refine blk_alloc ?_ _)); exact BK150.out)) : gb150 ≠ gb160)); have n8_ := Aside0.mk ((by rw [hg]; exact Nat.ne_of_gt (blk_lt (g := gb150) (o := .cells #[.int .i64 p, .slice A l.length c] 24 (0, 0)) (by (with_reducible repeat (first | refine blk_drewN ?_ _ | refine blk_drew ?_ | refine blk_alloc ?_ _)); exact BK150.out)) : gb160 ≠ gb150)); have n9_ := Aside0.mk ((by rw [hg]; exact Nat.ne_of_lt (blk_lt (g := gb151) (o := .cells #[.int .i64 0, .int .i64 0, .int .i64 0, .int .i64 0] 28 (0, 0)) (by (with_reducible repeat (first | refine blk_drewN ?_ _ | refine blk_drew ?_ | refine blk_alloc ?_ _)); exact BK151.out)) : gb151 ≠ gb160)); have n10_ := Aside0.mk ((by rw [hg]; exact Nat.ne_of_gt (blk_lt (g := gb151) (o := .cells #[.int .i64 0, .int .i64 0, .int .i64 0, .int .i64 0] 28 (0, 0)) (by (with_reducible repeat (first | refine blk_drewN ?_ _ | refine blk_drew ?_ | refine blk_alloc ?_ _)); exact BK151.out)) : gb160 ≠ gb151)); clear HO155; clear BK150; clear BK151; clear HB; have HO155 := n0_; have BK150 := n1_; have BK151 := n2_; have HB := n3_; have BK160 := n4_; have GW160 := n5_; have GE160 := n6_; have NB150_160 := n7_; have NB160_150 := n8_; have NB151_160 := n9_; have NB160_151 := n10_; clear n0_ n1_ n2_ n3_ n4_ n5_ n6_ n7_ n8_ n9_ n10_; clear hb hbox hg; have hnb29 := NB160_150.out; have hnc29 := NB150_160.out; have hnb30 := NB160_151.out; have hnc30 := NB151_160.out; have hcz31_0 : w28.cell? ⟨gb160, 0, none⟩ = some (.int .i64 0) := (blk_cell BK160.out 0).trans rfl; have hcz31_1 : w28.cell? ⟨gb160, 1, none⟩ = some (.int .i64 0) := (blk_cell BK160.out 1).trans rfl; have hcz31_2 : w28.cell? ⟨gb160, 2, none⟩ = some (.int .i64 0) := (blk_cell BK160.out 2).trans rfl; have hcz31_3 : w28.cell? ⟨gb160, 3, none⟩ = some (.int .i64 0) := (blk_cell BK160.out 3).trans rfl; have hfz31_0 := blk_frozen BK160.out 0; have hfz31_1 := blk_frozen BK160.out 1; have hfz31_2 := blk_frozen BK160.out 2; have hfz31_3 := blk_frozen BK160.out 3))
    (try simp only [Act.put, List.setIfInBounds_toArray, List.set_cons_zero, List.set_cons_succ])
    go_cut [] (fun wc => ∃ (kq : Nat) (x161001_16 : Int), Aside0 (spileref36_Missing.j0 kq t153 t157 t158 p l (rd t153 0) x161001_16 t157 t158 = some (r1, r2, r3, r4, r5)) ∧ Aside0 (kq ≤ k) ∧ Aside0 (Kd.R (Kd.int .i64) 3 wc w.heap.size (fun _ => True) (.slice (some ad156) t153.length co25) t153) ∧ Aside0 (wc.heap[gb150]? = some (.cells #[.int .i64 p, (.slice A l.length c)] 24 (0, 0))) ∧ Aside0 (wc.heap[gb151]? = some (.cells #[.int .i64 0, .int .i64 0, .int .i64 0, .int .i64 0] 28 (0, 0))) ∧ Aside0 (wc.heap[gb160]? = some (.cells #[.int .i64 (rd t153 0), .int .i64 x161001_16, .int .i64 t157, .int .i64 t158] 28 (0, 0))) ∧ Aside0 (Below w.heap.size w wc))
    case first =>
     have H := HC17.out
     clear HC17
     by_cases c32 : (t153.length : Int) > 1
     ·rw [if_pos c32] at H
      have c32b0 : decide (1 < (t153.length : Int)) = true := decide_eq_true c32
      have c32b1 : decide (1 < t153.length) = true := decide_eq_true (by omega)
      clear c32
      (first | rw [c32b0] | (simp only [i64_w, i32_w]; rw [c32b0]) | skip)
      by_cases c33 : 1 < (t153.length : Int)
      ·rw [if_pos c33] at H
       have c33b0 : decide (1 < (t153.length : Int)) = true := decide_eq_true c33
       have c33b1 : decide (1 < t153.length) = true := decide_eq_true (by omega)
       clear c33
       have H' := Aside0.mk H
       clear H
       have p161 : 0 ≤ (1 : Int) := (by omega)
       have q161 : 1 < (t153.length : Int) := of_decide_eq_true (by first | (with_reducible assumption) | assumption)
       obtain ⟨ad161, e161, hx161_0⟩ := Kd.at_int (Kd.R_reads' HO155.out).2.2 1 p161 q161
       obtain rfl : ad156 = ad161 := (by injection e161)
       (try simp only [show (1 : Int).toNat = 1 from rfl, Nat.reduceMul, Nat.reduceEqDiff, Go.Addr.add, ↓reduceIte] at hx161_0)
       have qi161 : (1 < t153.length) = True := eq_true (by omega)
       (try rw [show ((1 : Int)).toNat = 1 from rfl] at hx161_0)
       have hn161_0 : ad156.block ≠ gb160 := Kd.own_blk (Kd.R_ne HO155.out BK160.out (by decide))
       have hn161_1 : ad156.block ≠ gb160 := Kd.own_blk (Kd.R_ne HO155.out BK160.out (by decide))
       have hn161_2 : ad156.block ≠ gb160 := Kd.own_blk (Kd.R_ne HO155.out BK160.out (by decide))
       have hn161_3 : ad156.block ≠ gb160 := Kd.own_blk (Kd.R_ne HO155.out BK160.out (by decide))
       replace hx161_0 := (cell_far (p := ⟨gb160, 0, none⟩) (by first | (rw [add_block]; exact hn161_0) | (show (Addr.add _ _).block ≠ _; rw [add_block]; exact hn161_0) | exact hn161_0) (.int .i64 (rd t153 0))).trans hx161_0
       replace hx161_0 := (cell_far (p := ⟨gb160, 1, none⟩) (by first | (rw [add_block]; exact hn161_1) | (show (Addr.add _ _).block ≠ _; rw [add_block]; exact hn161_1) | exact hn161_1) (.int .i64 0)).trans hx161_0
       replace hx161_0 := (cell_far (p := ⟨gb160, 2, none⟩) (by first | (rw [add_block]; exact hn161_2) | (show (Addr.add _ _).block ≠ _; rw [add_block]; exact hn161_2) | exact hn161_2) (.int .i64 t157)).trans hx161_0
       replace hx161_0 := (cell_far (p := ⟨gb160, 3, none⟩) (by first | (rw [add_block]; exact hn161_3) | (show (Addr.add _ _).block ≠ _; rw [add_block]; exact hn161_3) | exact hn161_3) (.int .i64 t158)).trans hx161_0
       clear hn161_0
       clear hn161_1
       clear hn161_2
       clear hn161_3
       replace p161 := eq_true p161
       replace q161 := eq_true q161
       have hnb34 := NB160_150.out
       have hnc34 := NB150_160.out
       have hnb35 := NB160_151.out
       have hnc35 := NB151_160.out
       have hcz36_0 : w28.cell? ⟨gb160, 0, none⟩ = some (.int .i64 0) := (blk_cell BK160.out 0).trans rfl
       have hcz36_1 : w28.cell? ⟨gb160, 1, none⟩ = some (.int .i64 0) := (blk_cell BK160.out 1).trans rfl
       have hcz36_2 : w28.cell? ⟨gb160, 2, none⟩ = some (.int .i64 0) := (blk_cell BK160.out 2).trans rfl
       have hcz36_3 : w28.cell? ⟨gb160, 3, none⟩ = some (.int .i64 0) := (blk_cell BK160.out 3).trans rfl
       have hfz36_0 := blk_frozen BK160.out 0
       have hfz36_1 := blk_frozen BK160.out 1
       have hfz36_2 := blk_frozen BK160.out 2
       have hfz36_3 := blk_frozen BK160.out 3
       go_wp2
       go_meet
       case rel => exact ⟨_, (rd t153 1), H', ⟨by first | omega | exact Nat.le_refl _⟩, ⟨by (with_reducible repeat (first | apply Kd.R_alloc | apply Kd.R_drewN | apply Kd.R_drew)); exact Kd.R_mono (Kd.R_far (p := ⟨gb160, 1, none⟩) (Kd.R_far (p := ⟨gb160, 3, none⟩) (Kd.R_far (p := ⟨gb160, 2, none⟩) (Kd.R_far (p := ⟨gb160, 1, none⟩) (Kd.R_far (p := ⟨gb160, 0, none⟩) (Kd.R_types HO155.out BK160.out (by decide)) (fun _ hk => hk.2) (.int .i64 (rd t153 0))) (fun _ hk => hk.2) (.int .i64 0)) (fun _ hk => hk.2) (.int .i64 t157)) (fun _ hk => hk.2) (.int .i64 t158)) (fun _ hk => hk.2) (.int .i64 (rd t153 1))) (fun _ hk => trivial)⟩, ⟨by (with_reducible repeat (first | refine blk_drewN ?_ _ | refine blk_drew ?_ | refine blk_alloc ?_ _)); refine blk_far ?_ NB150_160.out _; (with_reducible repeat (first | refine blk_drewN ?_ _ | refine blk_drew ?_ | refine blk_alloc ?_ _)); refine blk_far ?_ NB150_160.out _; (with_reducible repeat (first | refine blk_drewN ?_ _ | refine blk_drew ?_ | refine blk_alloc ?_ _)); refine blk_far ?_ NB150_160.out _; (with_reducible repeat (first | refine blk_drewN ?_ _ | refine blk_drew ?_ | refine blk_alloc ?_ _)); refine blk_far ?_ NB150_160.out _; (with_reducible repeat (first | refine blk_drewN ?_ _ | refine blk_drew ?_ | refine blk_alloc ?_ _)); refine blk_far ?_ NB150_160.out _; (with_reducible repeat (first | refine blk_drewN ?_ _ | refine blk_drew ?_ | refine blk_alloc ?_ _)); exact BK150.out⟩, ⟨by (with_reducible repeat (first | refine blk_drewN ?_ _ | refine blk_drew ?_ | refine blk_alloc ?_ _)); refine blk_far ?_ NB151_160.out _; (with_reducible repeat (first | refine blk_drewN ?_ _ | refine blk_drew ?_ | refine blk_alloc ?_ _)); refine blk_far ?_ NB151_160.out _; (with_reducible repeat (first | refine blk_drewN ?_ _ | refine blk_drew ?_ | refine blk_alloc ?_ _)); refine blk_far ?_ NB151_160.out _; (with_reducible repeat (first | refine blk_drewN ?_ _ | refine blk_drew ?_ | refine blk_alloc ?_ _)); refine blk_far ?_ NB151_160.out _; (with_reducible repeat (first | refine blk_drewN ?_ _ | refine blk_drew ?_ | refine blk_alloc ?_ _)); refine blk_far ?_ NB151_160.out _; (with_reducible repeat (first | refine blk_drewN ?_ _ | refine blk_drew ?_ | refine blk_alloc ?_ _)); exact BK151.out⟩, ⟨by (with_reducible repeat (first | refine blk_drewN ?_ _ | refine blk_drew ?_ | refine blk_alloc ?_ _)); refine blk_put (cs := #[.int .i64 (rd t153 0), .int .i64 0, .int .i64 t157, .int .i64 t158]) ?_ 1 _ rfl; (with_reducible repeat (first | refine blk_drewN ?_ _ | refine blk_drew ?_ | refine blk_alloc ?_ _)); refine blk_put (cs := #[.int .i64 (rd t153 0), .int .i64 0, .int .i64 t157, .int .i64 0]) ?_ 3 _ rfl; (with_reducible repeat (first | refine blk_drewN ?_ _ | refine blk_drew ?_ | refine blk_alloc ?_ _)); refine blk_put (cs := #[.int .i64 (rd t153 0), .int .i64 0, .int .i64 0, .int .i64 0]) ?_ 2 _ rfl; (with_reducible repeat (first | refine blk_drewN ?_ _ | refine blk_drew ?_ | refine blk_alloc ?_ _)); refine blk_put (cs := #[.int .i64 (rd t153 0), .int .i64 0, .int .i64 0, .int .i64 0]) ?_ 1 _ rfl; (with_reducible repeat (first | refine blk_drewN ?_ _ | refine blk_drew ?_ | refine blk_alloc ?_ _)); refine blk_put (cs := #[.int .i64 0, .int .i64 0, .int .i64 0, .int .i64 0]) ?_ 0 _ rfl; (with_reducible repeat (first | refine blk_drewN ?_ _ | refine blk_drew ?_ | refine blk_alloc ?_ _)); exact BK160.out⟩, ⟨by repeat (first | (with_reducible first | exact HB.out | apply below_alloc | apply pw_below_drewN | apply below_drew1 | refine below_set ?_ GE150.out | refine below_set ?_ GE151.out | refine below_set ?_ GE160.out) | exact HB.out)⟩⟩
      ·rw [if_neg c33] at H
       exact absurd H (by simp)
     ·rw [if_neg c32] at H
      have c32b0 : decide (1 < (t153.length : Int)) = false := decide_eq_false c32
      have c32b1 : decide (1 < t153.length) = false := decide_eq_false (by omega)
      clear c32
      (first | rw [c32b0] | (simp only [i64_w, i32_w]; rw [c32b0]) | skip)
      have H' := Aside0.mk H
      clear H
      go_wp2
      go_meet
      case rel => exact ⟨_, (0), H', ⟨by first | omega | exact Nat.le_refl _⟩, ⟨by (with_reducible repeat (first | apply Kd.R_alloc | apply Kd.R_drewN | apply Kd.R_drew)); exact Kd.R_mono (Kd.R_far (p := ⟨gb160, 3, none⟩) (Kd.R_far (p := ⟨gb160, 2, none⟩) (Kd.R_far (p := ⟨gb160, 1, none⟩) (Kd.R_far (p := ⟨gb160, 0, none⟩) (Kd.R_types HO155.out BK160.out (by decide)) (fun _ hk => hk.2) (.int .i64 (rd t153 0))) (fun _ hk => hk.2) (.int .i64 0)) (fun _ hk => hk.2) (.int .i64 t157)) (fun _ hk => hk.2) (.int .i64 t158)) (fun _ hk => trivial)⟩, ⟨by (with_reducible repeat (first | refine blk_drewN ?_ _ | refine blk_drew ?_ | refine blk_alloc ?_ _)); refine blk_far ?_ NB150_160.out _; (with_reducible repeat (first | refine blk_drewN ?_ _ | refine blk_drew ?_ | refine blk_alloc ?_ _)); refine blk_far ?_ NB150_160.out _; (with_reducible repeat (first | refine blk_drewN ?_ _ | refine blk_drew ?_ | refine blk_alloc ?_ _)); refine blk_far ?_ NB150_160.out _; (with_reducible repeat (first | refine blk_drewN ?_ _ | refine blk_drew ?_ | refine blk_alloc ?_ _)); refine blk_far ?_ NB150_160.out _; (with_reducible repeat (first | refine blk_drewN ?_ _ | refine blk_drew ?_ | refine blk_alloc ?_ _)); exact BK150.out⟩, ⟨by (with_reducible repeat (first | refine blk_drewN ?_ _ | refine blk_drew ?_ | refine blk_alloc ?_ _)); refine blk_far ?_ NB151_160.out _; (with_reducible repeat (first | refine blk_drewN ?_ _ | refine blk_drew ?_ | refine blk_alloc ?_ _)); refine blk_far ?_ NB151_160.out _; (with_reducible repeat (first | refine blk_drewN ?_ _ | refine blk_drew ?_ | refine blk_alloc ?_ _)); refine blk_far ?_ NB151_160.out _; (with_reducible repeat (first | refine blk_drewN ?_ _ | refine blk_drew ?_ | refine blk_alloc ?_ _)); refine blk_far ?_ NB151_160.out _; (with_reducible repeat (first | refine blk_drewN ?_ _ | refine blk_drew ?_ | refine blk_alloc ?_ _)); exact BK151.out⟩, ⟨by (with_reducible repeat (first | refine blk_drewN ?_ _ | refine blk_drew ?_ | refine blk_alloc ?_ _)); refine blk_put (cs := #[.int .i64 (rd t153 0), .int .i64 0, .int .i64 t157, .int .i64 0]) ?_ 3 _ rfl; (with_reducible repeat (first | refine blk_drewN ?_ _ | refine blk_drew ?_ | refine blk_alloc ?_ _)); refine blk_put (cs := #[.int .i64 (rd t153 0), .int .i64 0, .int .i64 0, .int .i64 0]) ?_ 2 _ rfl; (with_reducible repeat (first | refine blk_drewN ?_ _ | refine blk_drew ?_ | refine blk_alloc ?_ _)); refine blk_put (cs := #[.int .i64 (rd t153 0), .int .i64 0, .int .i64 0, .int .i64 0]) ?_ 1 _ rfl; (with_reducible repeat (first | refine blk_drewN ?_ _ | refine blk_drew ?_ | refine blk_alloc ?_ _)); refine blk_put (cs := #[.int .i64 0, .int .i64 0, .int .i64 0, .int .i64 0]) ?_ 0 _ rfl; (with_reducible repeat (first | refine blk_drewN ?_ _ | refine blk_drew ?_ | refine blk_alloc ?_ _)); exact BK160.out⟩, ⟨by repeat (first | (with_reducible first | exact HB.out | apply below_alloc | apply pw_below_drewN | apply below_drew1 | refine below_set ?_ GE150.out | refine below_set ?_ GE151.out | refine below_set ?_ GE160.out) | exact HB.out)⟩⟩
    case rest =>
     clear HC17
     try clear c1
     try clear p1
     try clear q1
     try clear hx1
     try clear qi1
     try clear c2
     try clear p2
     try clear c3
     try clear c5
     try clear c5b0
     try clear c5b1
     try clear c5b2
     try clear c8
     try clear c14
     try clear c15
     try clear c15b0
     try clear c15b1
     try clear p15
     try clear q15
     try clear hx15
     try clear qi15
     try clear p16
     try clear q16
     try clear hx16
     try clear qi16
     try clear c20
     try clear c29
     try clear c30
     try clear c32
     try clear c32b0
     try clear c32b1
     try clear c33
     try clear c33b0
     try clear c33b1
     try clear c34
     try clear c35
     try clear c36
     try clear hcz11_0
     try clear hcz11_1
     try clear hcz14_0
     try clear hcz14_1
     try clear hcz14_2
     try clear hcz14_3
     try clear hcz21_0
     try clear hcz21_1
     try clear hcz23_0
     try clear hcz23_1
     try clear hcz31_0
     try clear hcz31_1
     try clear hcz31_2
     try clear hcz31_3
     try clear hcz36_0
     try clear hcz36_1
     try clear hcz36_2
     try clear hcz36_3
     try clear hcz9_0
     try clear hcz9_1
     try clear hfz11_0
     try clear hfz11_1
     try clear hfz14_0
     try clear hfz14_1
     try clear hfz14_2
     try clear hfz14_3
     try clear hfz21_0
     try clear hfz21_1
     try clear hfz23_0
     try clear hfz23_1
     try clear hfz31_0
     try clear hfz31_1
     try clear hfz31_2
     try clear hfz31_3
     try clear hfz36_0
     try clear hfz36_1
     try clear hfz36_2
     try clear hfz36_3
     try clear hfz9_0
     try clear hfz9_1
     try clear hx156_0
     try clear hx159_0
     try clear hx161_0
     try clear p156
     try clear p159
     try clear p161
     try clear q156
     try clear q159
     try clear q161
     obtain ⟨kq, x161001_16, HA, HJ16, HO_4, BK150, BK151, BK160, HB⟩ := hcut
     cases kq with
     | zero => exact absurd HA.out (by simp [spileref36_Missing.j0])
     | succ kj16 =>
      have H := HA.out
      clear HA
      simp only [spileref36_Missing.j0] at H
      have HC37 := Aside0.mk H
      clear H
      go_upto_region 10 with (fail)
      go_cut [49] (fun v49 wc => ∃ (kq : Nat) (x49_36 : Bool), v49 = .bool x49_36 ∧ Aside0 (spileref36_Missing.j1 kq t153 t157 t158 x49_36 p l (rd t153 0) x161001_16 t157 t158 = some (r1, r2, r3, r4, r5)) ∧ Aside0 (kq ≤ kj16) ∧ Aside0 (Kd.R (Kd.int .i64) 3 wc w.heap.size (fun _ => True) (.slice (some ad156) t153.length co25) t153) ∧ Aside0 (wc.heap[gb150]? = some (.cells #[.int .i64 p, (.slice A l.length c)] 24 (0, 0))) ∧ Aside0 (wc.heap[gb151]? = some (.cells #[.int .i64 0, .int .i64 0, .int .i64 0, .int .i64 0] 28 (0, 0))) ∧ Aside0 (wc.heap[gb160]? = some (.cells #[.int .i64 (rd t153 0), .int .i64 x161001_16, .int .i64 t157, .int .i64 t158] 28 (0, 0))) ∧ Aside0 (Below w.heap.size w wc))
      case first =>
       have H := HC37.out
       clear HC37
       by_cases c38 : t158 < 0
       ·rw [if_pos c38] at H
        have c38b0 : decide (t158 < 0) = true := decide_eq_true c38
        clear c38
        (first | rw [c38b0] | (simp only [i64_w, i32_w]; rw [c38b0]) | skip)
        have H' := Aside0.mk H
        clear H
        go_wp2
        go_meet
        case rel => exact ⟨_, (true), (by first | rfl | (simp; done) | (simp [*]; done)), H', ⟨by have := HJ16.out; first | omega | exact Nat.le_refl _⟩, ⟨by (with_reducible repeat (first | apply Kd.R_alloc | apply Kd.R_drewN | apply Kd.R_drew)); exact HO_4.out⟩, ⟨by (with_reducible repeat (first | refine blk_drewN ?_ _ | refine blk_drew ?_ | refine blk_alloc ?_ _)); exact BK150.out⟩, ⟨by (with_reducible repeat (first | refine blk_drewN ?_ _ | refine blk_drew ?_ | refine blk_alloc ?_ _)); exact BK151.out⟩, ⟨by (with_reducible repeat (first | refine blk_drewN ?_ _ | refine blk_drew ?_ | refine blk_alloc ?_ _)); exact BK160.out⟩, ⟨by repeat (first | (with_reducible first | exact HB.out | apply below_alloc | apply pw_below_drewN | apply below_drew1 | refine below_set ?_ GE150.out | refine below_set ?_ GE151.out | refine below_set ?_ GE160.out) | exact HB.out)⟩⟩
       ·rw [if_neg c38] at H
        have c38b0 : decide (t158 < 0) = false := decide_eq_false c38
        clear c38
        (first | rw [c38b0] | (simp only [i64_w, i32_w]; rw [c38b0]) | skip)
        by_cases c39 : t158 = 0
        ·rw [if_pos c39] at H
         have c39b0 : (t158 == 0) = true := beq_iff_eq.mpr c39
         have c39b1 : (t158 != 0) = false := bne_eq_false_iff_eq.mpr c39
         clear c39
         have H' := Aside0.mk H
         clear H
         go_wp2
         go_meet
         case rel => exact ⟨_, (decide (t157 < 0)), (by first | rfl | (simp; done) | (simp [*]; done)), H', ⟨by have := HJ16.out; first | omega | exact Nat.le_refl _⟩, ⟨by (with_reducible repeat (first | apply Kd.R_alloc | apply Kd.R_drewN | apply Kd.R_drew)); exact HO_4.out⟩, ⟨by (with_reducible repeat (first | refine blk_drewN ?_ _ | refine blk_drew ?_ | refine blk_alloc ?_ _)); exact BK150.out⟩, ⟨by (with_reducible repeat (first | refine blk_drewN ?_ _ | refine blk_drew ?_ | refine blk_alloc ?_ _)); exact BK151.out⟩, ⟨by (with_reducible repeat (first | refine blk_drewN ?_ _ | refine blk_drew ?_ | refine blk_alloc ?_ _)); exact BK160.out⟩, ⟨by repeat (first | (with_reducible first | exact HB.out | apply below_alloc | apply pw_below_drewN | apply below_drew1 | refine below_set ?_ GE150.out | refine below_set ?_ GE151.out | refine below_set ?_ GE160.out) | exact HB.out)⟩⟩
        ·rw [if_neg c39] at H
         have c39b0 : (t158 == 0) = false := beq_eq_false_iff_ne.mpr c39
         have c39b1 : (t158 != 0) = true := bne_iff_ne.mpr c39
         have H' := Aside0.mk H
         clear H
         go_wp2
         go_meet
         case rel => exact ⟨_, (false), (by first | rfl | (simp; done) | (simp [*]; done)), H', ⟨by have := HJ16.out; first | omega | exact Nat.le_refl _⟩, ⟨by (with_reducible repeat (first | apply Kd.R_alloc | apply Kd.R_drewN | apply Kd.R_drew)); exact HO_4.out⟩, ⟨by (with_reducible repeat (first | refine blk_drewN ?_ _ | refine blk_drew ?_ | refine blk_alloc ?_ _)); exact BK150.out⟩, ⟨by (with_reducible repeat (first | refine blk_drewN ?_ _ | refine blk_drew ?_ | refine blk_alloc ?_ _)); exact BK151.out⟩, ⟨by (with_reducible repeat (first | refine blk_drewN ?_ _ | refine blk_drew ?_ | refine blk_alloc ?_ _)); exact BK160.out⟩, ⟨by repeat (first | (with_reducible first | exact HB.out | apply below_alloc | apply pw_below_drewN | apply below_drew1 | refine below_set ?_ GE150.out | refine below_set ?_ GE151.out | refine below_set ?_ GE160.out) | exact HB.out)⟩⟩
      case rest =>
       clear HC37
       try clear c1
       try clear p1
       try clear q1
       try clear hx1
       try clear qi1
       try clear c2
       try clear p2
       try clear c3
       try clear c5
       try clear c5b0
       try clear c5b1
       try clear c5b2
       try clear c8
       try clear c14
       try clear c15
       try clear c15b0
       try clear c15b1
       try clear p15
       try clear q15
       try clear hx15
       try clear qi15
       try clear p16
       try clear q16
       try clear hx16
       try clear qi16
       try clear c20
       try clear c29
       try clear c30
       try clear c32
       try clear c32b0
       try clear c32b1
       try clear c33
       try clear c33b0
       try clear c33b1
       try clear c34
       try clear c35
       try clear c36
       try clear c37
       try clear c38
       try clear c38b0
       try clear c39
       try clear c39b0
       try clear c39b1
       try clear hcz11_0
       try clear hcz11_1
       try clear hcz14_0
       try clear hcz14_1
       try clear hcz14_2
       try clear hcz14_3
       try clear hcz21_0
       try clear hcz21_1
       try clear hcz23_0
       try clear hcz23_1
       try clear hcz31_0
       try clear hcz31_1
       try clear hcz31_2
       try clear hcz31_3
       try clear hcz36_0
       try clear hcz36_1
       try clear hcz36_2
       try clear hcz36_3
       try clear hcz9_0
       try clear hcz9_1
       try clear hfz11_0
       try clear hfz11_1
       try clear hfz14_0
       try clear hfz14_1
       try clear hfz14_2
       try clear hfz14_3
       try clear hfz21_0
       try clear hfz21_1
       try clear hfz23_0
       try clear hfz23_1
       try clear hfz31_0
       try clear hfz31_1
       try clear hfz31_2
       try clear hfz31_3
       try clear hfz36_0
       try clear hfz36_1
       try clear hfz36_2
       try clear hfz36_3
       try clear hfz9_0
       try clear hfz9_1
       try clear hx156_0
       try clear hx159_0
       try clear hx161_0
       try clear p1
       try clear p15
       try clear p156
       try clear p159
       try clear p16
       try clear p161
       try clear p2
       try clear q1
       try clear q15
       try clear q156
       try clear q159
       try clear q16
       try clear q161
       obtain ⟨kq, x49_36, rfl, HA, HJ36, HO_4, BK150, BK151, BK160, HB⟩ := hcut
       cases kq with
       | zero => exact absurd HA.out (by simp [spileref36_Missing.j1])
       | succ kj36 =>
        have H := HA.out
        clear HA
        simp only [spileref36_Missing.j1] at H
        have HC40 := Aside0.mk H
        clear H
        go_upto_if 49 with (fail)
        go_cut [] (fun wc => ∃ (kq : Nat) (y0 : Int) (y1 : Int) (y2 : Int) (y3 : Int), Aside0 (spileref36_Missing.j2 kq p l y0 y1 y2 y3 = some (r1, r2, r3, r4, r5)) ∧ Aside0 (kq ≤ kj36) ∧ Aside0 (wc.heap[gb150]? = some (.cells #[.int .i64 p, (.slice A l.length c)] 24 (0, 0))) ∧ Aside0 (wc.heap[gb151]? = some (.cells #[.int .i64 0, .int .i64 0, .int .i64 0, .int .i64 0] 28 (0, 0))) ∧ Aside0 (wc.heap[gb160]? = some (.cells #[.int .i64 y0, .int .i64 y1, .int .i64 y2, .int .i64 y3] 28 (0, 0))) ∧ Aside0 (Below w.heap.size w wc))
        case first =>
         have H := HC40.out
         clear HC40
         by_cases c41 : x49_36 = true
         ·subst c41
          have H1 : (if 0 < (t153.length : Int) then (spileref36_Missing.j2 kj36 p l x161001_16 (rd t153 0) (wrap64 (-t157)) (wrap64 (-t158))) else (none)) = some (r1, r2, r3, r4, r5) := by rw [if_pos rfl] at H; exact H
          clear H
          have H := H1
          clear H1
          by_cases c42 : 0 < (t153.length : Int)
          ·rw [if_pos c42] at H
           have c42b0 : decide (0 < (t153.length : Int)) = true := decide_eq_true c42
           have c42b1 : decide (0 < t153.length) = true := decide_eq_true (by omega)
           clear c42
           (first | rw [c42b0] | (simp only [i64_w, i32_w]; rw [c42b0]) | skip)
           have H' := Aside0.mk H
           clear H
           try go_wp2
           have n0_ := Aside0.mk (Kd.R_drew HO_4.out)
           have n1_ := Aside0.mk (blk_drew BK150.out)
           have n2_ := Aside0.mk (blk_drew BK151.out)
           have n3_ := Aside0.mk (blk_drew BK160.out)
           have n4_ := Aside0.mk (below_drew1 HB.out)
           clear HO_4
           clear BK150
           clear BK151
           clear BK160
           clear HB
           have HO_4 := n0_
           have BK150 := n1_
           have BK151 := n2_
           have BK160 := n3_
           have HB := n4_
           clear n0_ n1_ n2_ n3_ n4_
           have p162 : 0 ≤ (0 : Int) := (by omega)
           have q162 : 0 < (t153.length : Int) := of_decide_eq_true (by first | (with_reducible assumption) | assumption)
           obtain ⟨ad162, e162, hx162_0⟩ := Kd.at_int (Kd.R_reads' HO_4.out).2.2 0 p162 q162
           obtain rfl : ad156 = ad162 := (by injection e162)
           have qi162 : (0 < t153.length) = True := eq_true (by omega)
           (try rw [show ((0 : Int)).toNat = 0 from rfl] at hx162_0)
           (try rw [Addr.add_zero'] at hx162_0)
           replace p162 := eq_true p162
           replace q162 := eq_true q162
           refine start_ (n := 11) (S := fun w' => w'.cell? ⟨gb160, 0, none⟩ = some (.int .i64 (rd t153 0)) ∧ w'.cell? ⟨gb160, 1, none⟩ = some (.int .i64 x161001_16) ∧ w'.cell? ⟨gb160, 2, none⟩ = some (.int .i64 t157) ∧ w'.cell? ⟨gb160, 3, none⟩ = some (.int .i64 t158) ∧ w'.cell? ad156 = some (.int .i64 (rd t153 0))) (ds := [10]) #[false, false, false, false, false, false, false, false, false, false, false] (by kernel_rfl) rfl rfl ⟨(blk_cell BK160.out 0).trans rfl, (blk_cell BK160.out 1).trans rfl, (blk_cell BK160.out 2).trans rfl, (blk_cell BK160.out 3).trans rfl, hx162_0⟩ (fun hHeld => ?_); refine with_tabW spileref36_Missing.tab11 spileref36_Missing.bits11 (fun HT_ HW_ => ?_)
           generalize wc.drew = w43 at HO_4 BK150 BK151 BK160 HB hx162_0 hHeld ⊢
           refine pure_ (i := 0) (N := some 50) (v := ?_) (a' := ?_) #[true, false, false, false, false, false, false, false, false, false, false] rfl rfl (any_of HT_.out (by kernel_rfl)) (fun _ _ _ h => h) (Or.inl ⟨by rfl, ?_⟩) ?_ ?_
           rotate_left
           ·intro w'
            go_simp
            with_reducible rfl
           rotate_left
           ·simp only [Act.put, List.setIfInBounds_toArray, List.set_cons_zero, List.set_cons_succ, i64_w, i32_w]
            rfl
           refine pure_ (i := 2) (N := some 52) (v := ?_) (a' := ?_) #[true, false, true, false, false, false, false, false, false, false, false] rfl rfl (any_of HT_.out (by kernel_rfl)) (fun _ _ _ h => h) (Or.inl ⟨by rfl, ?_⟩) ?_ ?_
           rotate_left
           ·intro w'
            go_simp
            with_reducible rfl
           rotate_left
           ·simp only [Act.put, List.setIfInBounds_toArray, List.set_cons_zero, List.set_cons_succ, i64_w, i32_w]
            rfl
           refine pure_ (i := 3) (N := some 53) (v := ?_) (a' := ?_) #[true, false, true, true, false, false, false, false, false, false, false] rfl rfl (any_of HT_.out (by kernel_rfl)) (fun _ _ _ h => h) (Or.inl ⟨by rfl, ?_⟩) ?_ ?_
           rotate_left
           ·intro w'
            go_simp
            with_reducible rfl
           rotate_left
           ·simp only [Act.put, List.setIfInBounds_toArray, List.set_cons_zero, List.set_cons_succ, i64_w, i32_w]
            rfl
           refine pure_ (i := 5) (N := some 55) (v := ?_) (a' := ?_) #[true, false, true, true, false, true, false, false, false, false, false] rfl rfl (any_of HT_.out (by kernel_rfl)) (fun _ _ _ h => h) (Or.inl ⟨by rfl, ?_⟩) ?_ ?_
           rotate_left
           ·intro w'
            go_simp
            with_reducible rfl
           rotate_left
           ·simp only [Act.put, List.setIfInBounds_toArray, List.set_cons_zero, List.set_cons_succ, i64_w, i32_w]
            rfl
           refine pure_ (i := 6) (N := some 56) (v := ?_) (a' := ?_) #[true, false, true, true, false, true, true, false, false, false, false] rfl rfl (any_of HT_.out (by kernel_rfl)) (fun _ _ _ h => h) (Or.inl ⟨by rfl, ?_⟩) ?_ ?_
           rotate_left
           ·intro w'
            go_simp
            with_reducible rfl
           rotate_left
           ·simp only [Act.put, List.setIfInBounds_toArray, List.set_cons_zero, List.set_cons_succ, i64_w, i32_w]
            rfl
           refine pure_ (i := 7) (N := some 57) (v := ?_) (a' := ?_) #[true, false, true, true, false, true, true, true, false, false, false] rfl rfl (any_of HT_.out (by kernel_rfl)) (fun _ _ _ h => h) (Or.inl ⟨by rfl, ?_⟩) ?_ ?_
           rotate_left
           ·intro w'
            go_simp
            with_reducible rfl
           rotate_left
           ·simp only [Act.put, List.setIfInBounds_toArray, List.set_cons_zero, List.set_cons_succ, i64_w, i32_w]
            rfl
           refine pure_ (i := 8) (N := some 58) (v := ?_) (a' := ?_) #[true, false, true, true, false, true, true, true, true, false, false] rfl rfl (any_of HT_.out (by kernel_rfl)) (fun _ _ _ h => h) (Or.inl ⟨by rfl, ?_⟩) ?_ ?_
           rotate_left
           ·intro w'
            go_simp
            with_reducible rfl
           rotate_left
           ·simp only [Act.put, List.setIfInBounds_toArray, List.set_cons_zero, List.set_cons_succ, i64_w, i32_w]
            rfl
           refine take_ (i := 1) (N := some 51) (v := ?_) (a' := ?_) #[true, true, true, true, false, true, true, true, true, false, false] rfl rfl (take_ofW HT_.out HW_.out (by kernel_rfl)) (fun _ _ _ h => h) (Or.inl ⟨by rfl, ?_⟩) hHeld ?_ ?_
           rotate_left
           ·rintro w' ⟨s0, s1, s2, s3, s4⟩
            go_simp
            with_reducible rfl
           rotate_left
           ·simp only [Act.put, List.setIfInBounds_toArray, List.set_cons_zero, List.set_cons_succ, i64_w, i32_w]
            rfl
           refine take_ (i := 4) (N := some 54) (v := ?_) (a' := ?_) #[true, true, true, true, true, true, true, true, true, false, false] rfl rfl (take_ofW HT_.out HW_.out (by kernel_rfl)) (fun _ _ _ h => h) (Or.inl ⟨by rfl, ?_⟩) hHeld ?_ ?_
           rotate_left
           ·rintro w' ⟨s0, s1, s2, s3, s4⟩
            go_simp
            with_reducible rfl
           rotate_left
           ·simp only [Act.put, List.setIfInBounds_toArray, List.set_cons_zero, List.set_cons_succ, i64_w, i32_w]
            rfl
           refine pure_ (i := 9) (N := some 59) (v := ?_) (a' := ?_) #[true, true, true, true, true, true, true, true, true, true, false] rfl rfl (any_of HT_.out (by kernel_rfl)) (fun _ _ _ h => h) (Or.inl ⟨by rfl, ?_⟩) ?_ ?_
           rotate_left
           ·intro w'
            go_simp
            with_reducible rfl
           rotate_left
           ·simp only [Act.put, List.setIfInBounds_toArray, List.set_cons_zero, List.set_cons_succ, i64_w, i32_w]
            rfl
           refine last_ (i := 10) (N := none) #[true, true, true, true, true, true, true, true, true, true, true] rfl rfl (one_of HT_.out (by kernel_rfl)) (by decide) (fun K hK => ?_)
           have hs44 : w43.cell? ⟨gb160, 0, none⟩ = some (.int .i64 (rd t153 0)) := (blk_cell BK160.out 0).trans rfl
           have hfs44 := blk_frozen BK160.out 0
           have hns44_0 := NB150_160.out
           have hns44_1 := NB151_160.out
           have hms44_0 := NB160_150.out
           have hms44_1 := NB160_151.out
           have hs45 : w43.cell? ⟨gb160, 1, none⟩ = some (.int .i64 x161001_16) := (blk_cell BK160.out 1).trans rfl
           have hfs45 := blk_frozen BK160.out 1
           have hns45_0 := NB150_160.out
           have hns45_1 := NB151_160.out
           have hms45_0 := NB160_150.out
           have hms45_1 := NB160_151.out
           have hs46 : w43.cell? ⟨gb160, 2, none⟩ = some (.int .i64 t157) := (blk_cell BK160.out 2).trans rfl
           have hfs46 := blk_frozen BK160.out 2
           have hns46_0 := NB150_160.out
           have hns46_1 := NB151_160.out
           have hms46_0 := NB160_150.out
           have hms46_1 := NB160_151.out
           have hs47 : w43.cell? ⟨gb160, 3, none⟩ = some (.int .i64 t158) := (blk_cell BK160.out 3).trans rfl
           have hfs47 := blk_frozen BK160.out 3
           have hns47_0 := NB150_160.out
           have hns47_1 := NB151_160.out
           have hms47_0 := NB160_150.out
           have hms47_1 := NB160_151.out
           refine skip_ (w1 := ?_) (by rfl) rfl ?_ ?_
           rotate_left
           ·go_simp
            rfl
           refine hK.out _ _ ?_
           clear hK K
           refine done_ (done_of HT_.out (by kernel_rfl)) ?_
           try go_wp2
           go_meet
           case rel => exact ⟨_, (x161001_16), (rd t153 0), (wrap64 (-t157)), (wrap64 (-t158)), H', ⟨by have := HJ16.out; have := HJ36.out; first | omega | exact Nat.le_refl _⟩, ⟨by (with_reducible repeat (first | refine blk_drewN ?_ _ | refine blk_drew ?_ | refine blk_alloc ?_ _)); refine blk_far ?_ NB150_160.out _; (with_reducible repeat (first | refine blk_drewN ?_ _ | refine blk_drew ?_ | refine blk_alloc ?_ _)); refine blk_far ?_ NB150_160.out _; (with_reducible repeat (first | refine blk_drewN ?_ _ | refine blk_drew ?_ | refine blk_alloc ?_ _)); refine blk_far ?_ NB150_160.out _; (with_reducible repeat (first | refine blk_drewN ?_ _ | refine blk_drew ?_ | refine blk_alloc ?_ _)); refine blk_far ?_ NB150_160.out _; (with_reducible repeat (first | refine blk_drewN ?_ _ | refine blk_drew ?_ | refine blk_alloc ?_ _)); exact BK150.out⟩, ⟨by (with_reducible repeat (first | refine blk_drewN ?_ _ | refine blk_drew ?_ | refine blk_alloc ?_ _)); refine blk_far ?_ NB151_160.out _; (with_reducible repeat (first | refine blk_drewN ?_ _ | refine blk_drew ?_ | refine blk_alloc ?_ _)); refine blk_far ?_ NB151_160.out _; (with_reducible repeat (first | refine blk_drewN ?_ _ | refine blk_drew ?_ | refine blk_alloc ?_ _)); refine blk_far ?_ NB151_160.out _; (with_reducible repeat (first | refine blk_drewN ?_ _ | refine blk_drew ?_ | refine blk_alloc ?_ _)); refine blk_far ?_ NB151_160.out _; (with_reducible repeat (first | refine blk_drewN ?_ _ | refine blk_drew ?_ | refine blk_alloc ?_ _)); exact BK151.out⟩, ⟨by (with_reducible repeat (first | refine blk_drewN ?_ _ | refine blk_drew ?_ | refine blk_alloc ?_ _)); refine blk_put (cs := #[.int .i64 x161001_16, .int .i64 (rd t153 0), .int .i64 (wrap64 (-t157)), .int .i64 t158]) ?_ 3 _ rfl; (with_reducible repeat (first | refine blk_drewN ?_ _ | refine blk_drew ?_ | refine blk_alloc ?_ _)); refine blk_put (cs := #[.int .i64 x161001_16, .int .i64 (rd t153 0), .int .i64 t157, .int .i64 t158]) ?_ 2 _ rfl; (with_reducible repeat (first | refine blk_drewN ?_ _ | refine blk_drew ?_ | refine blk_alloc ?_ _)); refine blk_put (cs := #[.int .i64 x161001_16, .int .i64 x161001_16, .int .i64 t157, .int .i64 t158]) ?_ 1 _ rfl; (with_reducible repeat (first | refine blk_drewN ?_ _ | refine blk_drew ?_ | refine blk_alloc ?_ _)); refine blk_put (cs := #[.int .i64 (rd t153 0), .int .i64 x161001_16, .int .i64 t157, .int .i64 t158]) ?_ 0 _ rfl; (with_reducible repeat (first | refine blk_drewN ?_ _ | refine blk_drew ?_ | refine blk_alloc ?_ _)); exact BK160.out⟩, ⟨by repeat (first | (with_reducible first | exact HB.out | apply below_alloc | apply pw_below_drewN | apply below_drew1 | refine below_set ?_ GE150.out | refine below_set ?_ GE151.out | refine below_set ?_ GE160.out) | exact HB.out)⟩⟩
          ·rw [if_neg c42] at H
           exact absurd H (by simp)
         ·replace c41 := Bool.eq_false_iff.mpr c41
          subst c41
          have H1 : (spileref36_Missing.j2 kj36 p l (rd t153 0) x161001_16 t157 t158) = some (r1, r2, r3, r4, r5) := by rw [if_neg (show ¬ (false = true) by decide)] at H; exact H
          clear H
          have H := H1
          clear H1
          have H' := Aside0.mk H
          clear H
          go_wp2
          go_meet
          case rel => exact ⟨_, ((rd t153 0)), (x161001_16), (t157), (t158), H', ⟨by have := HJ16.out; have := HJ36.out; first | omega | exact Nat.le_refl _⟩, ⟨by (with_reducible repeat (first | refine blk_drewN ?_ _ | refine blk_drew ?_ | refine blk_alloc ?_ _)); exact BK150.out⟩, ⟨by (with_reducible repeat (first | refine blk_drewN ?_ _ | refine blk_drew ?_ | refine blk_alloc ?_ _)); exact BK151.out⟩, ⟨by (with_reducible repeat (first | refine blk_drewN ?_ _ | refine blk_drew ?_ | refine blk_alloc ?_ _)); exact BK160.out⟩, ⟨by repeat (first | (with_reducible first | exact HB.out | apply below_alloc | apply pw_below_drewN | apply below_drew1 | refine below_set ?_ GE150.out | refine below_set ?_ GE151.out | refine below_set ?_ GE160.out) | exact HB.out)⟩⟩
        case rest =>
         clear HC40
         try clear c1
         try clear p1
         try clear q1
         try clear hx1
         try clear qi1
         try clear c2
         try clear p2
         try clear c3
         try clear c4
         try clear c5
         try clear c5b0
         try clear c5b1
         try clear c5b2
         try clear p6
         try clear c8
         try clear c14
         try clear c15
         try clear c15b0
         try clear c15b1
         try clear p15
         try clear q15
         try clear hx15
         try clear qi15
         try clear p16
         try clear q16
         try clear hx16
         try clear qi16
         try clear c20
         try clear c29
         try clear c30
         try clear c32
         try clear c32b0
         try clear c32b1
         try clear c33
         try clear c33b0
         try clear c33b1
         try clear c34
         try clear c35
         try clear c36
         try clear c37
         try clear c38
         try clear c38b0
         try clear c39
         try clear c39b0
         try clear c39b1
         try clear c41
         try clear c42
         try clear c42b0
         try clear c42b1
         try clear hcz11_0
         try clear hcz11_1
         try clear hcz14_0
         try clear hcz14_1
         try clear hcz14_2
         try clear hcz14_3
         try clear hcz21_0
         try clear hcz21_1
         try clear hcz23_0
         try clear hcz23_1
         try clear hcz31_0
         try clear hcz31_1
         try clear hcz31_2
         try clear hcz31_3
         try clear hcz36_0
         try clear hcz36_1
         try clear hcz36_2
         try clear hcz36_3
         try clear hcz9_0
         try clear hcz9_1
         try clear hfz11_0
         try clear hfz11_1
         try clear hfz14_0
         try clear hfz14_1
         try clear hfz14_2
         try clear hfz14_3
         try clear hfz21_0
         try clear hfz21_1
         try clear hfz23_0
         try clear hfz23_1
         try clear hfz31_0
         try clear hfz31_1
         try clear hfz31_2
         try clear hfz31_3
         try clear hfz36_0
         try clear hfz36_1
         try clear hfz36_2
         try clear hfz36_3
         try clear hfz9_0
         try clear hfz9_1
         try clear hx156_0
         try clear hx159_0
         try clear hx161_0
         try clear hx162_0
         try clear p1
         try clear p15
         try clear p156
         try clear p159
         try clear p16
         try clear p161
         try clear p162
         try clear p2
         try clear q1
         try clear q15
         try clear q156
         try clear q159
         try clear q16
         try clear q161
         try clear q162
         obtain ⟨kq, y0, y1, y2, y3, HA, HJ39, BK150, BK151, BK160, HB⟩ := hcut
         cases kq with
         | zero => exact absurd HA.out (by simp [spileref36_Missing.j2])
         | succ kj39 =>
          have H := HA.out
          clear HA
          simp only [spileref36_Missing.j2] at H
          have HC48 := Aside0.mk H
          clear H
          go_upto_region 12 with (fail)
          go_cut [67] (fun v67 wc => ∃ (kq : Nat) (x67_47 : Bool), v67 = .bool x67_47 ∧ Aside0 (spileref36_Missing.j3 kq x67_47 p l y0 y1 y2 y3 = some (r1, r2, r3, r4, r5)) ∧ Aside0 (kq ≤ kj39) ∧ Aside0 (wc.heap[gb150]? = some (.cells #[.int .i64 p, (.slice A l.length c)] 24 (0, 0))) ∧ Aside0 (wc.heap[gb151]? = some (.cells #[.int .i64 0, .int .i64 0, .int .i64 0, .int .i64 0] 28 (0, 0))) ∧ Aside0 (wc.heap[gb160]? = some (.cells #[.int .i64 y0, .int .i64 y1, .int .i64 y2, .int .i64 y3] 28 (0, 0))) ∧ Aside0 (Below w.heap.size w wc))
          case first =>
           have H := HC48.out
           clear HC48
           by_cases c49 : y2 < 0
           ·rw [if_pos c49] at H
            have c49b0 : decide (y2 < 0) = true := decide_eq_true c49
            clear c49
            (first | rw [c49b0] | (simp only [i64_w, i32_w]; rw [c49b0]) | skip)
            have H' := Aside0.mk H
            clear H
            have hnb50 := NB160_150.out
            have hnc50 := NB150_160.out
            have hnb51 := NB160_151.out
            have hnc51 := NB151_160.out
            have hcz52_0 : wc.cell? ⟨gb160, 0, none⟩ = some (.int .i64 y0) := (blk_cell BK160.out 0).trans rfl
            have hcz52_1 : wc.cell? ⟨gb160, 1, none⟩ = some (.int .i64 y1) := (blk_cell BK160.out 1).trans rfl
            have hcz52_2 : wc.cell? ⟨gb160, 2, none⟩ = some (.int .i64 y2) := (blk_cell BK160.out 2).trans rfl
            have hcz52_3 : wc.cell? ⟨gb160, 3, none⟩ = some (.int .i64 y3) := (blk_cell BK160.out 3).trans rfl
            have hfz52_0 := blk_frozen BK160.out 0
            have hfz52_1 := blk_frozen BK160.out 1
            have hfz52_2 := blk_frozen BK160.out 2
            have hfz52_3 := blk_frozen BK160.out 3
            go_wp2
            go_meet
            case rel => exact ⟨_, (true), (by first | rfl | (simp; done) | (simp [*]; done)), H', ⟨by have := HJ16.out; have := HJ36.out; have := HJ39.out; first | omega | exact Nat.le_refl _⟩, ⟨by (with_reducible repeat (first | refine blk_drewN ?_ _ | refine blk_drew ?_ | refine blk_alloc ?_ _)); exact BK150.out⟩, ⟨by (with_reducible repeat (first | refine blk_drewN ?_ _ | refine blk_drew ?_ | refine blk_alloc ?_ _)); exact BK151.out⟩, ⟨by (with_reducible repeat (first | refine blk_drewN ?_ _ | refine blk_drew ?_ | refine blk_alloc ?_ _)); exact BK160.out⟩, ⟨by repeat (first | (with_reducible first | exact HB.out | apply below_alloc | apply pw_below_drewN | apply below_drew1 | refine below_set ?_ GE150.out | refine below_set ?_ GE151.out | refine below_set ?_ GE160.out) | exact HB.out)⟩⟩
           ·rw [if_neg c49] at H
            have c49b0 : decide (y2 < 0) = false := decide_eq_false c49
            clear c49
            (first | rw [c49b0] | (simp only [i64_w, i32_w]; rw [c49b0]) | skip)
            have H' := Aside0.mk H
            clear H
            have hnb53 := NB160_150.out
            have hnc53 := NB150_160.out
            have hnb54 := NB160_151.out
            have hnc54 := NB151_160.out
            have hcz55_0 : wc.cell? ⟨gb160, 0, none⟩ = some (.int .i64 y0) := (blk_cell BK160.out 0).trans rfl
            have hcz55_1 : wc.cell? ⟨gb160, 1, none⟩ = some (.int .i64 y1) := (blk_cell BK160.out 1).trans rfl
            have hcz55_2 : wc.cell? ⟨gb160, 2, none⟩ = some (.int .i64 y2) := (blk_cell BK160.out 2).trans rfl
            have hcz55_3 : wc.cell? ⟨gb160, 3, none⟩ = some (.int .i64 y3) := (blk_cell BK160.out 3).trans rfl
            have hfz55_0 := blk_frozen BK160.out 0
            have hfz55_1 := blk_frozen BK160.out 1
            have hfz55_2 := blk_frozen BK160.out 2
            have hfz55_3 := blk_frozen BK160.out 3
            go_wp2
            go_meet
            case rel => exact ⟨_, (decide (y3 ≤ 0)), (by first | rfl | (simp; done) | (simp [*]; done)), H', ⟨by have := HJ16.out; have := HJ36.out; have := HJ39.out; first | omega | exact Nat.le_refl _⟩, ⟨by (with_reducible repeat (first | refine blk_drewN ?_ _ | refine blk_drew ?_ | refine blk_alloc ?_ _)); exact BK150.out⟩, ⟨by (with_reducible repeat (first | refine blk_drewN ?_ _ | refine blk_drew ?_ | refine blk_alloc ?_ _)); exact BK151.out⟩, ⟨by (with_reducible repeat (first | refine blk_drewN ?_ _ | refine blk_drew ?_ | refine blk_alloc ?_ _)); exact BK160.out⟩, ⟨by repeat (first | (with_reducible first | exact HB.out | apply below_alloc | apply pw_below_drewN | apply below_drew1 | refine below_set ?_ GE150.out | refine below_set ?_ GE151.out | refine below_set ?_ GE160.out) | exact HB.out)⟩⟩
          case rest =>
           clear HC48
           try clear c1
           try clear p1
           try clear q1
           try clear hx1
           try clear qi1
           try clear c2
           try clear p2
           try clear c3
           try clear c4
           try clear c5
           try clear c5b0
           try clear c5b1
           try clear c5b2
           try clear p6
           try clear c8
           try clear c14
           try clear c15
           try clear c15b0
           try clear c15b1
           try clear p15
           try clear q15
           try clear hx15
           try clear qi15
           try clear p16
           try clear q16
           try clear hx16
           try clear qi16
           try clear c20
           try clear c29
           try clear c30
           try clear c32
           try clear c32b0
           try clear c32b1
           try clear c33
           try clear c33b0
           try clear c33b1
           try clear c34
           try clear c35
           try clear c36
           try clear c37
           try clear c38
           try clear c38b0
           try clear c39
           try clear c39b0
           try clear c39b1
           try clear c41
           try clear c42
           try clear c42b0
           try clear c42b1
           try clear c49
           try clear c49b0
           try clear c50
           try clear c51
           try clear c53
           try clear c54
           try clear hcz11_0
           try clear hcz11_1
           try clear hcz14_0
           try clear hcz14_1
           try clear hcz14_2
           try clear hcz14_3
           try clear hcz21_0
           try clear hcz21_1
           try clear hcz23_0
           try clear hcz23_1
           try clear hcz31_0
           try clear hcz31_1
           try clear hcz31_2
           try clear hcz31_3
           try clear hcz36_0
           try clear hcz36_1
           try clear hcz36_2
           try clear hcz36_3
           try clear hcz52_0
           try clear hcz52_1
           try clear hcz52_2
           try clear hcz52_3
           try clear hcz55_0
           try clear hcz55_1
           try clear hcz55_2
           try clear hcz55_3
           try clear hcz9_0
           try clear hcz9_1
           try clear hfz11_0
           try clear hfz11_1
           try clear hfz14_0
           try clear hfz14_1
           try clear hfz14_2
           try clear hfz14_3
           try clear hfz21_0
           try clear hfz21_1
           try clear hfz23_0
           try clear hfz23_1
           try clear hfz31_0
           try clear hfz31_1
           try clear hfz31_2
           try clear hfz31_3
           try clear hfz36_0
           try clear hfz36_1
           try clear hfz36_2
           try clear hfz36_3
           try clear hfz52_0
           try clear hfz52_1
           try clear hfz52_2
           try clear hfz52_3
           try clear hfz55_0
           try clear hfz55_1
           try clear hfz55_2
           try clear hfz55_3
           try clear hfz9_0
           try clear hfz9_1
           try clear hx156_0
           try clear hx159_0
           try clear hx161_0
           try clear hx162_0
           try clear p1
           try clear p15
           try clear p156
           try clear p159
           try clear p16
           try clear p161
           try clear p162
           try clear p2
           try clear p6
           try clear q1
           try clear q15
           try clear q156
           try clear q159
           try clear q16
           try clear q161
           try clear q162
           obtain ⟨kq, x67_47, rfl, HA, HJ47, BK150, BK151, BK160, HB⟩ := hcut
           cases kq with
           | zero => exact absurd HA.out (by simp [spileref36_Missing.j3])
           | succ kj47 =>
            have H := HA.out
            clear HA
            simp only [spileref36_Missing.j3] at H
            by_cases c56 : x67_47 = true
            ·subst c56
             have H1 : (some (0, 0, 0, 0, 20)) = some (r1, r2, r3, r4, r5) := by rw [if_pos rfl] at H; exact H
             clear H
             have H := H1
             clear H1
             simp only [Option.some.injEq, Prod.mk.injEq] at H
             obtain ⟨rfl, rfl, rfl, rfl, rfl⟩ := H
             have hnb57 := NB151_150.out
             have hnc57 := NB150_151.out
             have hnb58 := NB151_160.out
             have hnc58 := NB160_151.out
             have hcz59_0 : wc.cell? ⟨gb151, 0, none⟩ = some (.int .i64 0) := (blk_cell BK151.out 0).trans rfl
             have hcz59_1 : wc.cell? ⟨gb151, 1, none⟩ = some (.int .i64 0) := (blk_cell BK151.out 1).trans rfl
             have hcz59_2 : wc.cell? ⟨gb151, 2, none⟩ = some (.int .i64 0) := (blk_cell BK151.out 2).trans rfl
             have hcz59_3 : wc.cell? ⟨gb151, 3, none⟩ = some (.int .i64 0) := (blk_cell BK151.out 3).trans rfl
             have hfz59_0 := blk_frozen BK151.out 0
             have hfz59_1 := blk_frozen BK151.out 1
             have hfz59_2 := blk_frozen BK151.out 2
             have hfz59_3 := blk_frozen BK151.out 3
             go_wp2
             refine bodyPost_ret (results_ct rfl _ _ gb151 28 #[.int .i64 0, .int .i64 0, .int .i64 0, .int .i64 0] (0, 0) _ rfl (by (with_reducible repeat (first | refine blk_drewN ?_ _ | refine blk_drew ?_ | refine blk_alloc ?_ _)); refine blk_put (cs := #[.int .i64 0, .int .i64 0, .int .i64 0, .int .i64 0]) ?_ 3 _ rfl; (with_reducible repeat (first | refine blk_drewN ?_ _ | refine blk_drew ?_ | refine blk_alloc ?_ _)); refine blk_put (cs := #[.int .i64 0, .int .i64 0, .int .i64 0, .int .i64 0]) ?_ 2 _ rfl; (with_reducible repeat (first | refine blk_drewN ?_ _ | refine blk_drew ?_ | refine blk_alloc ?_ _)); refine blk_put (cs := #[.int .i64 0, .int .i64 0, .int .i64 0, .int .i64 0]) ?_ 1 _ rfl; (with_reducible repeat (first | refine blk_drewN ?_ _ | refine blk_drew ?_ | refine blk_alloc ?_ _)); refine blk_put (cs := #[.int .i64 0, .int .i64 0, .int .i64 0, .int .i64 0]) ?_ 0 _ rfl; (with_reducible repeat (first | refine blk_drewN ?_ _ | refine blk_drew ?_ | refine blk_alloc ?_ _)); exact BK151.out) Try.underlying28 rfl (by kernel_rfl)) rfl ?_
             exact ⟨by first | rfl | (simp [errW_none, errW_some] <;> rfl) | (simp [*, errW_none, errW_some] <;> rfl), by repeat (first | (with_reducible first | exact HB.out | apply below_alloc | apply pw_below_drewN | apply below_drew1 | refine below_set ?_ GE150.out | refine below_set ?_ GE151.out | refine below_set ?_ GE160.out) | exact HB.out)⟩
            ·replace c56 := Bool.eq_false_iff.mpr c56
             subst c56
             have H1 : ((some (([] : List (S28)) : List (S28))).bind fun y163 => (if y163.length + l.length < 4398046511104 then ((some (y163 ++ l : List (S28))).bind fun y166 => ((some (([(⟨y0, y1, y2, y3⟩ : S28)] : List (S28)) : List (S28))).bind fun y169 => (if y166.length + y169.length < 4398046511104 then ((spileref36_open.f kj47 p (y166 ++ y169)).bind fun t176 => (if (t176.length : Int) > 0 then (some (0, 0, 0, 0, 20)) else (if y2 > 10737418240000 then (some (0, 0, 0, 0, 15)) else (if y3 > 128849018880000 then (some (0, 0, 0, 0, 15)) else (some (y0, y1, y2, y3, 0)))))) else (none)))) else (none))) = some (r1, r2, r3, r4, r5) := by rw [if_neg (show ¬ (false = true) by decide)] at H; exact H
             clear H
             have H := H1
             clear H1
             obtain ⟨y163, hy163⟩ : ∃ y_ : List (S28), y_ = (([] : List (S28))) := ⟨_, rfl⟩
             replace H : (if y163.length + l.length < 4398046511104 then ((some (y163 ++ l : List (S28))).bind fun y166 => ((some (([(⟨y0, y1, y2, y3⟩ : S28)] : List (S28)) : List (S28))).bind fun y169 => (if y166.length + y169.length < 4398046511104 then ((spileref36_open.f kj47 p (y166 ++ y169)).bind fun t176 => (if (t176.length : Int) > 0 then (some (0, 0, 0, 0, 20)) else (if y2 > 10737418240000 then (some (0, 0, 0, 0, 15)) else (if y3 > 128849018880000 then (some (0, 0, 0, 0, 15)) else (some (y0, y1, y2, y3, 0)))))) else (none)))) else (none)) = some (r1, r2, r3, r4, r5) := by first | (rw [hy163]; with_reducible exact H) | (have H2_ := (Option.bind_some _ _).symm.trans H; rw [hy163]; with_reducible exact H2_) | (have H2_ := (Option.bind_some _ _).symm.trans H; with_reducible exact H2_) | with_reducible exact H | (rw [hy163]; exact H) | exact H
             have Ny163 := Aside0.mk hy163
             clear hy163
             by_cases c60 : y163.length + l.length < 4398046511104
             ·rw [if_pos c60] at H
              have LMc60 := Aside0.mk c60
              clear c60
              obtain ⟨y166, hy166⟩ : ∃ y_ : List (S28), y_ = (y163 ++ l) := ⟨_, rfl⟩
              replace H : ((some (([(⟨y0, y1, y2, y3⟩ : S28)] : List (S28)) : List (S28))).bind fun y169 => (if y166.length + y169.length < 4398046511104 then ((spileref36_open.f kj47 p (y166 ++ y169)).bind fun t176 => (if (t176.length : Int) > 0 then (some (0, 0, 0, 0, 20)) else (if y2 > 10737418240000 then (some (0, 0, 0, 0, 15)) else (if y3 > 128849018880000 then (some (0, 0, 0, 0, 15)) else (some (y0, y1, y2, y3, 0)))))) else (none))) = some (r1, r2, r3, r4, r5) := by first | (rw [hy166]; with_reducible exact H) | (have H2_ := (Option.bind_some _ _).symm.trans H; rw [hy166]; with_reducible exact H2_) | (have H2_ := (Option.bind_some _ _).symm.trans H; with_reducible exact H2_) | with_reducible exact H | (rw [hy166]; exact H) | exact H
              have Ny166 := Aside0.mk hy166
              clear hy166
              obtain ⟨y169, hy169⟩ : ∃ y_ : List (S28), y_ = (([(⟨y0, y1, y2, y3⟩ : S28)] : List (S28))) := ⟨_, rfl⟩
              replace H : (if y166.length + y169.length < 4398046511104 then ((spileref36_open.f kj47 p (y166 ++ y169)).bind fun t176 => (if (t176.length : Int) > 0 then (some (0, 0, 0, 0, 20)) else (if y2 > 10737418240000 then (some (0, 0, 0, 0, 15)) else (if y3 > 128849018880000 then (some (0, 0, 0, 0, 15)) else (some (y0, y1, y2, y3, 0)))))) else (none)) = some (r1, r2, r3, r4, r5) := by first | (rw [hy169]; with_reducible exact H) | (have H2_ := (Option.bind_some _ _).symm.trans H; rw [hy169]; with_reducible exact H2_) | (have H2_ := (Option.bind_some _ _).symm.trans H; with_reducible exact H2_) | with_reducible exact H | (rw [hy169]; exact H) | exact H
              have Ny169 := Aside0.mk hy169
              clear hy169
              by_cases c61 : y166.length + y169.length < 4398046511104
              ·rw [if_pos c61] at H
               have LMc61 := Aside0.mk c61
               clear c61
               obtain ⟨y172, hy172⟩ : ∃ y_ : List (S28), y_ = (y166 ++ y169) := ⟨_, rfl⟩
               replace H : ((spileref36_open.f kj47 p y172).bind fun t176 => (if (t176.length : Int) > 0 then (some (0, 0, 0, 0, 20)) else (if y2 > 10737418240000 then (some (0, 0, 0, 0, 15)) else (if y3 > 128849018880000 then (some (0, 0, 0, 0, 15)) else (some (y0, y1, y2, y3, 0)))))) = some (r1, r2, r3, r4, r5) := by first | (rw [hy172]; with_reducible exact H) | (have H2_ := (Option.bind_some _ _).symm.trans H; rw [hy172]; with_reducible exact H2_) | (have H2_ := (Option.bind_some _ _).symm.trans H; with_reducible exact H2_) | with_reducible exact H | (rw [hy172]; exact H) | exact H
               have Ny172 := Aside0.mk hy172
               clear hy172
               replace H := Option.bind_eq_some_iff.mp H
               obtain ⟨t176, A620, H⟩ := H
               replace H : (if (t176.length : Int) > 0 then (some (0, 0, 0, 0, 20)) else (if y2 > 10737418240000 then (some (0, 0, 0, 0, 15)) else (if y3 > 128849018880000 then (some (0, 0, 0, 0, 15)) else (some (y0, y1, y2, y3, 0))))) = some (r1, r2, r3, r4, r5) := H
               have A62 := Aside0.mk A620
               clear A620
               try go_wp2
               go_cut [8] (fun v8 wq => ∃ (gb175 : Nat) (Ao75 : Option Addr) (co75 : Nat), v8 = .pointer (some ⟨gb175, 0, none⟩) ∧ Aside0 (Kd.C k28 wq Ao75 y172.length y172 ∧ y172.length ≤ co75) ∧ Aside0 (wq.heap[gb150]? = some (.cells #[.int .i64 p, .slice A l.length c] 24 (0, 0))) ∧ Aside0 (wq.heap[gb151]? = some (.cells #[.int .i64 0, .int .i64 0, .int .i64 0, .int .i64 0] 28 (0, 0))) ∧ Aside0 (wq.heap[gb160]? = some (.cells #[.int .i64 y0, .int .i64 y1, .int .i64 y2, .int .i64 y3] 28 (0, 0))) ∧ Aside0 (wq.heap[gb175]? = some (.cells #[.int .i64 p, .slice Ao75 y172.length co75] 24 (0, 0))) ∧ Aside0 (Below w.heap.size w wq))
               case first =>
                try go_wp2
                have n0_ := Aside0.mk (blk_drew BK150.out)
                have n1_ := Aside0.mk (blk_drew BK151.out)
                have n2_ := Aside0.mk (blk_drew BK160.out)
                have n3_ := Aside0.mk (below_drew1 HB.out)
                clear BK150
                clear BK151
                clear BK160
                clear HB
                have BK150 := n0_
                have BK151 := n1_
                have BK160 := n2_
                have HB := n3_
                clear n0_ n1_ n2_ n3_
                refine start_ (n := 12) (S := fun w' => w'.cell? ⟨gb150, 0, none⟩ = some (.int .i64 p) ∧ w'.cell? ⟨gb150, 1, none⟩ = some (.slice A l.length c) ∧ w'.cell? ⟨gb160, 0, none⟩ = some (.int .i64 y0) ∧ w'.cell? ⟨gb160, 1, none⟩ = some (.int .i64 y1) ∧ w'.cell? ⟨gb160, 2, none⟩ = some (.int .i64 y2) ∧ w'.cell? ⟨gb160, 3, none⟩ = some (.int .i64 y3)) (ds := []) #[false, false, false, false, false, false, false, false, false, false, false, false] (by kernel_rfl) rfl rfl ⟨(blk_cell BK150.out 0).trans rfl, (blk_cell BK150.out 1).trans rfl, (blk_cell BK160.out 0).trans rfl, (blk_cell BK160.out 1).trans rfl, (blk_cell BK160.out 2).trans rfl, (blk_cell BK160.out 3).trans rfl⟩ (fun hHeld => ?_); refine with_tabW spileref36_Missing.tab14 spileref36_Missing.bits14 (fun HT_ HW_ => ?_)
                generalize wc.drew = w64 at BK150 BK151 BK160 HB hHeld ⊢
                refine pure_ (i := 0) (N := some 69) (v := ?_) (a' := ?_) #[true, false, false, false, false, false, false, false, false, false, false, false] rfl rfl (any_of HT_.out (by kernel_rfl)) (fun _ _ _ h => h) (Or.inl ⟨by rfl, ?_⟩) ?_ ?_
                rotate_left
                ·intro w'
                 go_simp
                 with_reducible rfl
                rotate_left
                ·simp only [Act.put, List.setIfInBounds_toArray, List.set_cons_zero, List.set_cons_succ, i64_w, i32_w]
                 rfl
                refine pure_ (i := 3) (N := some 72) (v := ?_) (a' := ?_) #[true, false, false, true, false, false, false, false, false, false, false, false] rfl rfl (any_of HT_.out (by kernel_rfl)) (fun _ _ _ h => h) (Or.inl ⟨by rfl, ?_⟩) ?_ ?_
                rotate_left
                ·intro w'
                 go_simp
                 with_reducible rfl
                rotate_left
                ·simp only [Act.put, List.setIfInBounds_toArray, List.set_cons_zero, List.set_cons_succ, i64_w, i32_w]
                 rfl
                refine take_ (i := 1) (N := some 70) (v := ?_) (a' := ?_) #[true, true, false, true, false, false, false, false, false, false, false, false] rfl rfl (take_ofW HT_.out HW_.out (by kernel_rfl)) (fun _ _ _ h => h) (Or.inl ⟨by rfl, ?_⟩) hHeld ?_ ?_
                rotate_left
                ·rintro w' ⟨s0, s1, s2, s3, s4, s5⟩
                 go_simp
                 with_reducible rfl
                rotate_left
                ·simp only [Act.put, List.setIfInBounds_toArray, List.set_cons_zero, List.set_cons_succ, i64_w, i32_w]
                 rfl
                refine take_ (i := 4) (N := some 73) (v := ?_) (a' := ?_) #[true, true, false, true, true, false, false, false, false, false, false, false] rfl rfl (take_ofW HT_.out HW_.out (by kernel_rfl)) (fun _ _ _ h => h) (Or.inl ⟨by rfl, ?_⟩) hHeld ?_ ?_
                rotate_left
                ·rintro w' ⟨s0, s1, s2, s3, s4, s5⟩
                 go_simp
                 with_reducible rfl
                rotate_left
                ·simp only [Act.put, List.setIfInBounds_toArray, List.set_cons_zero, List.set_cons_succ, i64_w, i32_w]
                 rfl
                refine take_ (i := 6) (N := some 75) (v := ?_) (a' := ?_) #[true, true, false, true, true, false, true, false, false, false, false, false] rfl rfl (take_ofW HT_.out HW_.out (by kernel_rfl)) (fun _ _ _ h => h) (Or.inl ⟨by rfl, ?_⟩) hHeld ?_ ?_
                rotate_left
                ·rintro w' ⟨s0, s1, s2, s3, s4, s5⟩
                 go_simp
                 with_reducible rfl
                rotate_left
                ·simp only [Act.put, List.setIfInBounds_toArray, List.set_cons_zero, List.set_cons_succ, i64_w, i32_w]
                 rfl
                refine join_ (σ := Value × Value × Value × Value × Nat) 1 #[true, true, true, true, true, true, true, true, true, true, true, false] (fun s_ => [(71, s_.1), (74, s_.2.1), (76, s_.2.2.1), (77, s_.2.2.2.1), (8, .pointer (some ⟨s_.2.2.2.2, 0, none⟩)), (78, .agg #[.int .i64 p, s_.2.2.2.1])]) (fun s_ w' => (w'.cell? ⟨gb150, 0, none⟩ = some (.int .i64 p) ∧ w'.cell? ⟨gb150, 1, none⟩ = some (.slice A l.length c) ∧ w'.cell? ⟨gb160, 0, none⟩ = some (.int .i64 y0) ∧ w'.cell? ⟨gb160, 1, none⟩ = some (.int .i64 y1) ∧ w'.cell? ⟨gb160, 2, none⟩ = some (.int .i64 y2) ∧ w'.cell? ⟨gb160, 3, none⟩ = some (.int .i64 y3)) ∧ (Kd.R k28 28 w' w.heap.size (fun k_ => some k_ ≠ (s_.2.2.2.1 : Value).ownBlock ∧ k_ ≠ gb151 ∧ k_ ≠ gb160) s_.2.2.1 y169) ∧ (Kd.R k28 28 w' w.heap.size (fun k_ => some k_ ≠ (s_.2.2.1 : Value).ownBlock ∧ k_ ≠ gb151 ∧ k_ ≠ gb160) s_.2.2.2.1 y172) ∧ (w'.heap[gb150]? = some (.cells #[.int .i64 p, .slice A l.length c] 24 (0, 0))) ∧ (w'.heap[gb151]? = some (.cells #[.int .i64 0, .int .i64 0, .int .i64 0, .int .i64 0] 28 (0, 0))) ∧ (w'.heap[gb160]? = some (.cells #[.int .i64 y0, .int .i64 y1, .int .i64 y2, .int .i64 y3] 28 (0, 0))) ∧ (w'.heap[s_.2.2.2.2]? = some (.cells #[.int .i64 0, .slice none 0 0] 24 (0, 0))) ∧ (w.heap.size ≤ s_.2.2.2.2) ∧ (w.heap.size ≤ s_.2.2.2.2) ∧ (gb150 ≠ s_.2.2.2.2) ∧ (s_.2.2.2.2 ≠ gb150) ∧ (gb151 ≠ s_.2.2.2.2) ∧ (s_.2.2.2.2 ≠ gb151) ∧ (gb160 ≠ s_.2.2.2.2) ∧ (s_.2.2.2.2 ≠ gb160) ∧ (Below w.heap.size w w')) ?_ ?_
                rotate_left
                ·intro hJ2_5_7_8_10
                 refine join_ (σ := Value × Value × Value × Value) 2 #[true, true, true, true, true, true, true, true, true, true, false, false] (fun s_ => [(71, s_.1), (74, s_.2.1), (76, s_.2.2.1), (77, s_.2.2.2), (78, .agg #[.int .i64 p, s_.2.2.2])]) (fun s_ w' => (w'.cell? ⟨gb150, 0, none⟩ = some (.int .i64 p) ∧ w'.cell? ⟨gb150, 1, none⟩ = some (.slice A l.length c) ∧ w'.cell? ⟨gb160, 0, none⟩ = some (.int .i64 y0) ∧ w'.cell? ⟨gb160, 1, none⟩ = some (.int .i64 y1) ∧ w'.cell? ⟨gb160, 2, none⟩ = some (.int .i64 y2) ∧ w'.cell? ⟨gb160, 3, none⟩ = some (.int .i64 y3)) ∧ (Kd.R k28 28 w' w.heap.size (fun k_ => some k_ ≠ (s_.2.2.2 : Value).ownBlock ∧ k_ ≠ gb151 ∧ k_ ≠ gb160) s_.2.2.1 y169) ∧ (Kd.R k28 28 w' w.heap.size (fun k_ => some k_ ≠ (s_.2.2.1 : Value).ownBlock ∧ k_ ≠ gb151 ∧ k_ ≠ gb160) s_.2.2.2 y172) ∧ (w'.heap[gb150]? = some (.cells #[.int .i64 p, .slice A l.length c] 24 (0, 0))) ∧ (w'.heap[gb151]? = some (.cells #[.int .i64 0, .int .i64 0, .int .i64 0, .int .i64 0] 28 (0, 0))) ∧ (w'.heap[gb160]? = some (.cells #[.int .i64 y0, .int .i64 y1, .int .i64 y2, .int .i64 y3] 28 (0, 0))) ∧ (Below w.heap.size w w')) ?_ ?_
                 rotate_left
                 ·intro hJ2_5_7_8
                  refine join_ (σ := Value × Value × Value × Nat) 3 #[true, true, true, true, true, true, true, true, false, false, true, false] (fun s_ => [(71, s_.1), (74, s_.2.1), (76, s_.2.2.1), (8, .pointer (some ⟨s_.2.2.2, 0, none⟩))]) (fun s_ w' => (w'.cell? ⟨gb150, 0, none⟩ = some (.int .i64 p) ∧ w'.cell? ⟨gb150, 1, none⟩ = some (.slice A l.length c) ∧ w'.cell? ⟨gb160, 0, none⟩ = some (.int .i64 y0) ∧ w'.cell? ⟨gb160, 1, none⟩ = some (.int .i64 y1) ∧ w'.cell? ⟨gb160, 2, none⟩ = some (.int .i64 y2) ∧ w'.cell? ⟨gb160, 3, none⟩ = some (.int .i64 y3)) ∧ (Kd.R k28 28 w' w.heap.size (fun k_ => some k_ ≠ (s_.2.2.1 : Value).ownBlock ∧ k_ ≠ gb151 ∧ k_ ≠ gb160) s_.2.1 y166) ∧ (Kd.R k28 28 w' w.heap.size (fun k_ => some k_ ≠ (s_.2.1 : Value).ownBlock ∧ k_ ≠ gb151 ∧ k_ ≠ gb160) s_.2.2.1 y169) ∧ (w'.heap[gb150]? = some (.cells #[.int .i64 p, .slice A l.length c] 24 (0, 0))) ∧ (w'.heap[gb151]? = some (.cells #[.int .i64 0, .int .i64 0, .int .i64 0, .int .i64 0] 28 (0, 0))) ∧ (w'.heap[gb160]? = some (.cells #[.int .i64 y0, .int .i64 y1, .int .i64 y2, .int .i64 y3] 28 (0, 0))) ∧ (w'.heap[s_.2.2.2]? = some (.cells #[.int .i64 0, .slice none 0 0] 24 (0, 0))) ∧ (w.heap.size ≤ s_.2.2.2) ∧ (w.heap.size ≤ s_.2.2.2) ∧ (gb150 ≠ s_.2.2.2) ∧ (s_.2.2.2 ≠ gb150) ∧ (gb151 ≠ s_.2.2.2) ∧ (s_.2.2.2 ≠ gb151) ∧ (gb160 ≠ s_.2.2.2) ∧ (s_.2.2.2 ≠ gb160) ∧ (Below w.heap.size w w')) ?_ ?_
                  rotate_left
                  ·intro hJ2_5_7_10
                   refine join_ (σ := Value × Value × Value) 4 #[true, true, true, true, true, true, true, true, false, false, false, false] (fun s_ => [(71, s_.1), (74, s_.2.1), (76, s_.2.2)]) (fun s_ w' => (w'.cell? ⟨gb150, 0, none⟩ = some (.int .i64 p) ∧ w'.cell? ⟨gb150, 1, none⟩ = some (.slice A l.length c) ∧ w'.cell? ⟨gb160, 0, none⟩ = some (.int .i64 y0) ∧ w'.cell? ⟨gb160, 1, none⟩ = some (.int .i64 y1) ∧ w'.cell? ⟨gb160, 2, none⟩ = some (.int .i64 y2) ∧ w'.cell? ⟨gb160, 3, none⟩ = some (.int .i64 y3)) ∧ (Kd.R k28 28 w' w.heap.size (fun k_ => some k_ ≠ (s_.2.2 : Value).ownBlock ∧ k_ ≠ gb151 ∧ k_ ≠ gb160) s_.2.1 y166) ∧ (Kd.R k28 28 w' w.heap.size (fun k_ => some k_ ≠ (s_.2.1 : Value).ownBlock ∧ k_ ≠ gb151 ∧ k_ ≠ gb160) s_.2.2 y169) ∧ (w'.heap[gb150]? = some (.cells #[.int .i64 p, .slice A l.length c] 24 (0, 0))) ∧ (w'.heap[gb151]? = some (.cells #[.int .i64 0, .int .i64 0, .int .i64 0, .int .i64 0] 28 (0, 0))) ∧ (w'.heap[gb160]? = some (.cells #[.int .i64 y0, .int .i64 y1, .int .i64 y2, .int .i64 y3] 28 (0, 0))) ∧ (Below w.heap.size w w')) ?_ ?_
                   rotate_left
                   ·intro hJ2_5_7
                    refine join_ (σ := Value × Value × Nat) 4 #[true, true, true, true, true, true, true, false, false, false, true, false] (fun s_ => [(71, s_.1), (74, s_.2.1), (8, .pointer (some ⟨s_.2.2, 0, none⟩))]) (fun s_ w' => (w'.cell? ⟨gb150, 0, none⟩ = some (.int .i64 p) ∧ w'.cell? ⟨gb150, 1, none⟩ = some (.slice A l.length c) ∧ w'.cell? ⟨gb160, 0, none⟩ = some (.int .i64 y0) ∧ w'.cell? ⟨gb160, 1, none⟩ = some (.int .i64 y1) ∧ w'.cell? ⟨gb160, 2, none⟩ = some (.int .i64 y2) ∧ w'.cell? ⟨gb160, 3, none⟩ = some (.int .i64 y3)) ∧ (Kd.R k28 28 w' w.heap.size (fun k_ => k_ ≠ gb151 ∧ k_ ≠ gb160) s_.2.1 y166) ∧ (w'.heap[gb150]? = some (.cells #[.int .i64 p, .slice A l.length c] 24 (0, 0))) ∧ (w'.heap[gb151]? = some (.cells #[.int .i64 0, .int .i64 0, .int .i64 0, .int .i64 0] 28 (0, 0))) ∧ (w'.heap[gb160]? = some (.cells #[.int .i64 y0, .int .i64 y1, .int .i64 y2, .int .i64 y3] 28 (0, 0))) ∧ (w'.heap[s_.2.2]? = some (.cells #[.int .i64 0, .slice none 0 0] 24 (0, 0))) ∧ (w.heap.size ≤ s_.2.2) ∧ (w.heap.size ≤ s_.2.2) ∧ (gb150 ≠ s_.2.2) ∧ (s_.2.2 ≠ gb150) ∧ (gb151 ≠ s_.2.2) ∧ (s_.2.2 ≠ gb151) ∧ (gb160 ≠ s_.2.2) ∧ (s_.2.2 ≠ gb160) ∧ (Below w.heap.size w w')) ?_ ?_
                    rotate_left
                    ·intro hJ2_5_10
                     refine join_ (σ := Value × Value × Nat) 4 #[true, true, true, true, true, false, true, true, false, false, true, false] (fun s_ => [(71, s_.1), (76, s_.2.1), (8, .pointer (some ⟨s_.2.2, 0, none⟩))]) (fun s_ w' => (w'.cell? ⟨gb150, 0, none⟩ = some (.int .i64 p) ∧ w'.cell? ⟨gb150, 1, none⟩ = some (.slice A l.length c) ∧ w'.cell? ⟨gb160, 0, none⟩ = some (.int .i64 y0) ∧ w'.cell? ⟨gb160, 1, none⟩ = some (.int .i64 y1) ∧ w'.cell? ⟨gb160, 2, none⟩ = some (.int .i64 y2) ∧ w'.cell? ⟨gb160, 3, none⟩ = some (.int .i64 y3)) ∧ (Kd.R k28 28 w' w.heap.size (fun k_ => some k_ ≠ (s_.2.1 : Value).ownBlock ∧ k_ ≠ gb151 ∧ k_ ≠ gb160) s_.1 y163) ∧ (Kd.R k28 28 w' w.heap.size (fun k_ => some k_ ≠ (s_.1 : Value).ownBlock ∧ k_ ≠ gb151 ∧ k_ ≠ gb160) s_.2.1 y169) ∧ (w'.heap[gb150]? = some (.cells #[.int .i64 p, .slice A l.length c] 24 (0, 0))) ∧ (w'.heap[gb151]? = some (.cells #[.int .i64 0, .int .i64 0, .int .i64 0, .int .i64 0] 28 (0, 0))) ∧ (w'.heap[gb160]? = some (.cells #[.int .i64 y0, .int .i64 y1, .int .i64 y2, .int .i64 y3] 28 (0, 0))) ∧ (w'.heap[s_.2.2]? = some (.cells #[.int .i64 0, .slice none 0 0] 24 (0, 0))) ∧ (w.heap.size ≤ s_.2.2) ∧ (w.heap.size ≤ s_.2.2) ∧ (gb150 ≠ s_.2.2) ∧ (s_.2.2 ≠ gb150) ∧ (gb151 ≠ s_.2.2) ∧ (s_.2.2 ≠ gb151) ∧ (gb160 ≠ s_.2.2) ∧ (s_.2.2 ≠ gb160) ∧ (Below w.heap.size w w')) ?_ ?_
                     rotate_left
                     ·intro hJ2_7_10
                      refine join_ (σ := Value × Value) 5 #[true, true, true, true, true, true, true, false, false, false, false, false] (fun s_ => [(71, s_.1), (74, s_.2)]) (fun s_ w' => (w'.cell? ⟨gb150, 0, none⟩ = some (.int .i64 p) ∧ w'.cell? ⟨gb150, 1, none⟩ = some (.slice A l.length c) ∧ w'.cell? ⟨gb160, 0, none⟩ = some (.int .i64 y0) ∧ w'.cell? ⟨gb160, 1, none⟩ = some (.int .i64 y1) ∧ w'.cell? ⟨gb160, 2, none⟩ = some (.int .i64 y2) ∧ w'.cell? ⟨gb160, 3, none⟩ = some (.int .i64 y3)) ∧ (Kd.R k28 28 w' w.heap.size (fun k_ => k_ ≠ gb151 ∧ k_ ≠ gb160) s_.2 y166) ∧ (w'.heap[gb150]? = some (.cells #[.int .i64 p, .slice A l.length c] 24 (0, 0))) ∧ (w'.heap[gb151]? = some (.cells #[.int .i64 0, .int .i64 0, .int .i64 0, .int .i64 0] 28 (0, 0))) ∧ (w'.heap[gb160]? = some (.cells #[.int .i64 y0, .int .i64 y1, .int .i64 y2, .int .i64 y3] 28 (0, 0))) ∧ (Below w.heap.size w w')) ?_ ?_
                      rotate_left
                      ·intro hJ2_5
                       refine join_ (σ := Value × Value) 5 #[true, true, true, true, true, false, true, true, false, false, false, false] (fun s_ => [(71, s_.1), (76, s_.2)]) (fun s_ w' => (w'.cell? ⟨gb150, 0, none⟩ = some (.int .i64 p) ∧ w'.cell? ⟨gb150, 1, none⟩ = some (.slice A l.length c) ∧ w'.cell? ⟨gb160, 0, none⟩ = some (.int .i64 y0) ∧ w'.cell? ⟨gb160, 1, none⟩ = some (.int .i64 y1) ∧ w'.cell? ⟨gb160, 2, none⟩ = some (.int .i64 y2) ∧ w'.cell? ⟨gb160, 3, none⟩ = some (.int .i64 y3)) ∧ (Kd.R k28 28 w' w.heap.size (fun k_ => some k_ ≠ (s_.2 : Value).ownBlock ∧ k_ ≠ gb151 ∧ k_ ≠ gb160) s_.1 y163) ∧ (Kd.R k28 28 w' w.heap.size (fun k_ => some k_ ≠ (s_.1 : Value).ownBlock ∧ k_ ≠ gb151 ∧ k_ ≠ gb160) s_.2 y169) ∧ (w'.heap[gb150]? = some (.cells #[.int .i64 p, .slice A l.length c] 24 (0, 0))) ∧ (w'.heap[gb151]? = some (.cells #[.int .i64 0, .int .i64 0, .int .i64 0, .int .i64 0] 28 (0, 0))) ∧ (w'.heap[gb160]? = some (.cells #[.int .i64 y0, .int .i64 y1, .int .i64 y2, .int .i64 y3] 28 (0, 0))) ∧ (Below w.heap.size w w')) ?_ ?_
                       rotate_left
                       ·intro hJ2_7
                        refine join_ (σ := Value × Nat) 5 #[true, true, true, true, true, false, true, false, false, false, true, false] (fun s_ => [(71, s_.1), (8, .pointer (some ⟨s_.2, 0, none⟩))]) (fun s_ w' => (w'.cell? ⟨gb150, 0, none⟩ = some (.int .i64 p) ∧ w'.cell? ⟨gb150, 1, none⟩ = some (.slice A l.length c) ∧ w'.cell? ⟨gb160, 0, none⟩ = some (.int .i64 y0) ∧ w'.cell? ⟨gb160, 1, none⟩ = some (.int .i64 y1) ∧ w'.cell? ⟨gb160, 2, none⟩ = some (.int .i64 y2) ∧ w'.cell? ⟨gb160, 3, none⟩ = some (.int .i64 y3)) ∧ (Kd.R k28 28 w' w.heap.size (fun k_ => k_ ≠ gb151 ∧ k_ ≠ gb160) s_.1 y163) ∧ (w'.heap[gb150]? = some (.cells #[.int .i64 p, .slice A l.length c] 24 (0, 0))) ∧ (w'.heap[gb151]? = some (.cells #[.int .i64 0, .int .i64 0, .int .i64 0, .int .i64 0] 28 (0, 0))) ∧ (w'.heap[gb160]? = some (.cells #[.int .i64 y0, .int .i64 y1, .int .i64 y2, .int .i64 y3] 28 (0, 0))) ∧ (w'.heap[s_.2]? = some (.cells #[.int .i64 0, .slice none 0 0] 24 (0, 0))) ∧ (w.heap.size ≤ s_.2) ∧ (w.heap.size ≤ s_.2) ∧ (gb150 ≠ s_.2) ∧ (s_.2 ≠ gb150) ∧ (gb151 ≠ s_.2) ∧ (s_.2 ≠ gb151) ∧ (gb160 ≠ s_.2) ∧ (s_.2 ≠ gb160) ∧ (Below w.heap.size w w')) ?_ ?_
                        rotate_left
                        ·intro hJ2_10
                         refine join_ (σ := Value × Nat) 5 #[true, true, false, true, true, false, true, true, false, false, true, false] (fun s_ => [(76, s_.1), (8, .pointer (some ⟨s_.2, 0, none⟩))]) (fun s_ w' => (w'.cell? ⟨gb150, 0, none⟩ = some (.int .i64 p) ∧ w'.cell? ⟨gb150, 1, none⟩ = some (.slice A l.length c) ∧ w'.cell? ⟨gb160, 0, none⟩ = some (.int .i64 y0) ∧ w'.cell? ⟨gb160, 1, none⟩ = some (.int .i64 y1) ∧ w'.cell? ⟨gb160, 2, none⟩ = some (.int .i64 y2) ∧ w'.cell? ⟨gb160, 3, none⟩ = some (.int .i64 y3)) ∧ (Kd.R k28 28 w' w.heap.size (fun k_ => k_ ≠ gb151 ∧ k_ ≠ gb160) s_.1 y169) ∧ (w'.heap[gb150]? = some (.cells #[.int .i64 p, .slice A l.length c] 24 (0, 0))) ∧ (w'.heap[gb151]? = some (.cells #[.int .i64 0, .int .i64 0, .int .i64 0, .int .i64 0] 28 (0, 0))) ∧ (w'.heap[gb160]? = some (.cells #[.int .i64 y0, .int .i64 y1, .int .i64 y2, .int .i64 y3] 28 (0, 0))) ∧ (w'.heap[s_.2]? = some (.cells #[.int .i64 0, .slice none 0 0] 24 (0, 0))) ∧ (w.heap.size ≤ s_.2) ∧ (w.heap.size ≤ s_.2) ∧ (gb150 ≠ s_.2) ∧ (s_.2 ≠ gb150) ∧ (gb151 ≠ s_.2) ∧ (s_.2 ≠ gb151) ∧ (gb160 ≠ s_.2) ∧ (s_.2 ≠ gb160) ∧ (Below w.heap.size w w')) ?_ ?_
                         rotate_left
                         ·intro hJ7_10
                          refine join_ (σ := Value) 6 #[true, true, true, true, true, false, true, false, false, false, false, false] (fun s_ => [(71, s_)]) (fun s_ w' => (w'.cell? ⟨gb150, 0, none⟩ = some (.int .i64 p) ∧ w'.cell? ⟨gb150, 1, none⟩ = some (.slice A l.length c) ∧ w'.cell? ⟨gb160, 0, none⟩ = some (.int .i64 y0) ∧ w'.cell? ⟨gb160, 1, none⟩ = some (.int .i64 y1) ∧ w'.cell? ⟨gb160, 2, none⟩ = some (.int .i64 y2) ∧ w'.cell? ⟨gb160, 3, none⟩ = some (.int .i64 y3)) ∧ (Kd.R k28 28 w' w.heap.size (fun k_ => k_ ≠ gb151 ∧ k_ ≠ gb160) s_ y163) ∧ (w'.heap[gb150]? = some (.cells #[.int .i64 p, .slice A l.length c] 24 (0, 0))) ∧ (w'.heap[gb151]? = some (.cells #[.int .i64 0, .int .i64 0, .int .i64 0, .int .i64 0] 28 (0, 0))) ∧ (w'.heap[gb160]? = some (.cells #[.int .i64 y0, .int .i64 y1, .int .i64 y2, .int .i64 y3] 28 (0, 0))) ∧ (Below w.heap.size w w')) ?_ ?_
                          rotate_left
                          ·intro hJ2
                           refine join_ (σ := Value) 6 #[true, true, false, true, true, false, true, true, false, false, false, false] (fun s_ => [(76, s_)]) (fun s_ w' => (w'.cell? ⟨gb150, 0, none⟩ = some (.int .i64 p) ∧ w'.cell? ⟨gb150, 1, none⟩ = some (.slice A l.length c) ∧ w'.cell? ⟨gb160, 0, none⟩ = some (.int .i64 y0) ∧ w'.cell? ⟨gb160, 1, none⟩ = some (.int .i64 y1) ∧ w'.cell? ⟨gb160, 2, none⟩ = some (.int .i64 y2) ∧ w'.cell? ⟨gb160, 3, none⟩ = some (.int .i64 y3)) ∧ (Kd.R k28 28 w' w.heap.size (fun k_ => k_ ≠ gb151 ∧ k_ ≠ gb160) s_ y169) ∧ (w'.heap[gb150]? = some (.cells #[.int .i64 p, .slice A l.length c] 24 (0, 0))) ∧ (w'.heap[gb151]? = some (.cells #[.int .i64 0, .int .i64 0, .int .i64 0, .int .i64 0] 28 (0, 0))) ∧ (w'.heap[gb160]? = some (.cells #[.int .i64 y0, .int .i64 y1, .int .i64 y2, .int .i64 y3] 28 (0, 0))) ∧ (Below w.heap.size w w')) ?_ ?_
                           rotate_left
                           ·intro hJ7
                            refine join_ (σ := Nat) 6 #[true, true, false, true, true, false, true, false, false, false, true, false] (fun s_ => [(8, .pointer (some ⟨s_, 0, none⟩))]) (fun s_ w' => (w'.cell? ⟨gb150, 0, none⟩ = some (.int .i64 p) ∧ w'.cell? ⟨gb150, 1, none⟩ = some (.slice A l.length c) ∧ w'.cell? ⟨gb160, 0, none⟩ = some (.int .i64 y0) ∧ w'.cell? ⟨gb160, 1, none⟩ = some (.int .i64 y1) ∧ w'.cell? ⟨gb160, 2, none⟩ = some (.int .i64 y2) ∧ w'.cell? ⟨gb160, 3, none⟩ = some (.int .i64 y3)) ∧ (w'.heap[gb150]? = some (.cells #[.int .i64 p, .slice A l.length c] 24 (0, 0))) ∧ (w'.heap[gb151]? = some (.cells #[.int .i64 0, .int .i64 0, .int .i64 0, .int .i64 0] 28 (0, 0))) ∧ (w'.heap[gb160]? = some (.cells #[.int .i64 y0, .int .i64 y1, .int .i64 y2, .int .i64 y3] 28 (0, 0))) ∧ (w'.heap[s_]? = some (.cells #[.int .i64 0, .slice none 0 0] 24 (0, 0))) ∧ (w.heap.size ≤ s_) ∧ (w.heap.size ≤ s_) ∧ (gb150 ≠ s_) ∧ (s_ ≠ gb150) ∧ (gb151 ≠ s_) ∧ (s_ ≠ gb151) ∧ (gb160 ≠ s_) ∧ (s_ ≠ gb160) ∧ (Below w.heap.size w w')) ?_ ?_
                            rotate_left
                            ·intro hJ10
                             refine three_ (i := 2) (j := 7) (k := 10) (Ni := some 71) (Nj := some 76) (Nk := some 8) #[true, true, true, true, true, false, true, false, false, false, false, false] #[true, true, false, true, true, false, true, true, false, false, false, false] #[true, true, false, true, true, false, true, false, false, false, true, false] rfl rfl rfl rfl rfl rfl (three_of HT_.out (by kernel_rfl)) (by decide) (by decide) (by decide) (fun K hK => ?_) (fun K hK => ?_) (fun K hK => ?_)
                             ·skip
                              refine Kd.R_lit_step k28 _ 28 ?hg (N := 71) ?hd (xs := ([] : List (S28))) (inner := []) (ok := fun _ => True) (okp := fun _ => True) ?hr ?hp (fun _ hk => hk) trivial (Below.refl _ _) (Nat.le_refl _) (by simp) ?_; (case hd => rfl); (case hg => rfl); (case hr => first | (go_simp; done) | (go_simp; rfl)); (case hp => exact (Reps.none _ _))
                              intro v164 w65 ho66 hb hg_ hnew_
                              clear hg_ hnew_
                              (first | rw [← Ny163.out] at ho66 | (simp only [Int.reduceToNat] at ho66; rw [← Ny163.out] at ho66))
                              have n0_ := Aside0.mk (Kd.R_lower (Kd.R_newB (Kd.R_newB ho66 (g := gb151) (o := .cells #[.int .i64 0, .int .i64 0, .int .i64 0, .int .i64 0] 28 (0, 0)) BK151.out) (g := gb160) (o := .cells #[.int .i64 y0, .int .i64 y1, .int .i64 y2, .int .i64 y3] 28 (0, 0)) BK160.out) (below_size HB.out))
                              have n1_ := Aside0.mk (blk_below (g := gb150) (o := .cells #[.int .i64 p, .slice A l.length c] 24 (0, 0)) BK150.out hb)
                              have n2_ := Aside0.mk (blk_below (g := gb151) (o := .cells #[.int .i64 0, .int .i64 0, .int .i64 0, .int .i64 0] 28 (0, 0)) BK151.out hb)
                              have n3_ := Aside0.mk (blk_below (g := gb160) (o := .cells #[.int .i64 y0, .int .i64 y1, .int .i64 y2, .int .i64 y3] 28 (0, 0)) BK160.out hb)
                              have n4_ := Aside0.mk (below_step HB.out hb)
                              clear BK150
                              clear BK151
                              clear BK160
                              clear HB
                              have HO165 := n0_
                              have BK150 := n1_
                              have BK151 := n2_
                              have BK160 := n3_
                              have HB := n4_
                              clear n0_ n1_ n2_ n3_ n4_
                              clear hb ho66
                              refine hK.out _ _ ⟨(blk_cell BK150.out 0).trans rfl, (blk_cell BK150.out 1).trans rfl, (blk_cell BK160.out 0).trans rfl, (blk_cell BK160.out 1).trans rfl, (blk_cell BK160.out 2).trans rfl, (blk_cell BK160.out 3).trans rfl⟩ (fun hHeld => ?_)
                              clear hK K
                              refine norm_ (a' := ?_) ?_ ?_
                              rotate_left
                              ·show Act.put _ (some 71) _ = _
                               simp only [Act.put, List.setIfInBounds_toArray, List.set_cons_zero, List.set_cons_succ, i64_w, i32_w]
                               rfl
                              exact norm_ (by first | (simp only [putAll, Act.put, List.setIfInBounds_toArray, List.set_cons_zero, List.set_cons_succ]; done) | (simp only [putAll, Act.put, List.setIfInBounds_toArray, List.set_cons_zero, List.set_cons_succ]; rfl)) (hJ2 (v164) _ ⟨hHeld, (Kd.R_mono HO165.out (fun _ hk => ⟨hk.1.2, hk.2⟩)), BK150.out, BK151.out, BK160.out, HB.out⟩)
                             ·skip
                              refine Kd.R_lit_step k28 _ 28 ?hg (N := 76) ?hd (xs := ([(⟨y0, y1, y2, y3⟩ : S28)] : List (S28))) (inner := [.int .i64 y0, .int .i64 y1, .int .i64 y2, .int .i64 y3]) (ok := fun _ => True) (okp := fun _ => True) ?hr ?hp (fun _ hk => hk) trivial (Below.refl _ _) (Nat.le_refl _) (by simp) ?_; (case hd => rfl); (case hg => rfl); (case hr => first | (go_simp; done) | (go_simp; rfl)); (case hp => exact (Reps.c4 (show Kd.M k28 _ _ _ (⟨y0, y1, y2, y3⟩ : S28) [.int .i64 y0, .int .i64 y1, .int .i64 y2, .int .i64 y3] from (k28_mkM _ _ _ (⟨y0, y1, y2, y3⟩ : S28) )) (Reps.none _ _)))
                              intro v170 w65 ho66 hb hg_ hnew_
                              clear hg_ hnew_
                              (first | rw [← Ny169.out] at ho66 | (simp only [Int.reduceToNat] at ho66; rw [← Ny169.out] at ho66))
                              have n0_ := Aside0.mk (Kd.R_lower (Kd.R_newB (Kd.R_newB ho66 (g := gb151) (o := .cells #[.int .i64 0, .int .i64 0, .int .i64 0, .int .i64 0] 28 (0, 0)) BK151.out) (g := gb160) (o := .cells #[.int .i64 y0, .int .i64 y1, .int .i64 y2, .int .i64 y3] 28 (0, 0)) BK160.out) (below_size HB.out))
                              have n1_ := Aside0.mk (blk_below (g := gb150) (o := .cells #[.int .i64 p, .slice A l.length c] 24 (0, 0)) BK150.out hb)
                              have n2_ := Aside0.mk (blk_below (g := gb151) (o := .cells #[.int .i64 0, .int .i64 0, .int .i64 0, .int .i64 0] 28 (0, 0)) BK151.out hb)
                              have n3_ := Aside0.mk (blk_below (g := gb160) (o := .cells #[.int .i64 y0, .int .i64 y1, .int .i64 y2, .int .i64 y3] 28 (0, 0)) BK160.out hb)
                              have n4_ := Aside0.mk (below_step HB.out hb)
                              clear BK150
                              clear BK151
                              clear BK160
                              clear HB
                              have HO171 := n0_
                              have BK150 := n1_
                              have BK151 := n2_
                              have BK160 := n3_
                              have HB := n4_
                              clear n0_ n1_ n2_ n3_ n4_
                              clear hb ho66
                              refine hK.out _ _ ⟨(blk_cell BK150.out 0).trans rfl, (blk_cell BK150.out 1).trans rfl, (blk_cell BK160.out 0).trans rfl, (blk_cell BK160.out 1).trans rfl, (blk_cell BK160.out 2).trans rfl, (blk_cell BK160.out 3).trans rfl⟩ (fun hHeld => ?_)
                              clear hK K
                              refine norm_ (a' := ?_) ?_ ?_
                              rotate_left
                              ·show Act.put _ (some 76) _ = _
                               simp only [Act.put, List.setIfInBounds_toArray, List.set_cons_zero, List.set_cons_succ, i64_w, i32_w]
                               rfl
                              exact norm_ (by first | (simp only [putAll, Act.put, List.setIfInBounds_toArray, List.set_cons_zero, List.set_cons_succ]; done) | (simp only [putAll, Act.put, List.setIfInBounds_toArray, List.set_cons_zero, List.set_cons_succ]; rfl)) (hJ7 (v170) _ ⟨hHeld, (Kd.R_mono HO171.out (fun _ hk => ⟨hk.1.2, hk.2⟩)), BK150.out, BK151.out, BK160.out, HB.out⟩)
                             ·skip
                              refine box_step ?hg (N := 8) ?hd (cs := #[.int .i64 0, .slice none 0 0]) (t := 24) ?hr ?_; (case hd => rfl); (case hg => rfl); (case hr => first | (go_simp; done) | (go_simp; rfl))
                              intro gb175 hg w65 hbox hb
                              have n0_ := Aside0.mk (blk_below (g := gb150) (o := .cells #[.int .i64 p, .slice A l.length c] 24 (0, 0)) BK150.out hb)
                              have n1_ := Aside0.mk (blk_below (g := gb151) (o := .cells #[.int .i64 0, .int .i64 0, .int .i64 0, .int .i64 0] 28 (0, 0)) BK151.out hb)
                              have n2_ := Aside0.mk (blk_below (g := gb160) (o := .cells #[.int .i64 y0, .int .i64 y1, .int .i64 y2, .int .i64 y3] 28 (0, 0)) BK160.out hb)
                              have n3_ := Aside0.mk (below_step HB.out hb)
                              have n4_ := Aside0.mk (hbox)
                              have n5_ := Aside0.mk ((by rw [hg]; exact (below_size HB.out) : w.heap.size ≤ gb175))
                              have n6_ := Aside0.mk ((by rw [hg]; exact (below_size HB.out) : w.heap.size ≤ gb175))
                              have n7_ := Aside0.mk ((by rw [hg]; exact Nat.ne_of_lt (blk_lt (g := gb150) (o := .cells #[.int .i64 p, .slice A l.length c] 24 (0, 0)) BK150.out) : gb150 ≠ gb175))
                              have n8_ := Aside0.mk ((by rw [hg]; exact Nat.ne_of_gt (blk_lt (g := gb150) (o := .cells #[.int .i64 p, .slice A l.length c] 24 (0, 0)) BK150.out) : gb175 ≠ gb150))
                              have n9_ := Aside0.mk ((by rw [hg]; exact Nat.ne_of_lt (blk_lt (g := gb151) (o := .cells #[.int .i64 0, .int .i64 0, .int .i64 0, .int .i64 0] 28 (0, 0)) BK151.out) : gb151 ≠ gb175))
                              have n10_ := Aside0.mk ((by rw [hg]; exact Nat.ne_of_gt (blk_lt (g := gb151) (o := .cells #[.int .i64 0, .int .i64 0, .int .i64 0, .int .i64 0] 28 (0, 0)) BK151.out) : gb175 ≠ gb151))
                              have n11_ := Aside0.mk ((by rw [hg]; exact Nat.ne_of_lt (blk_lt (g := gb160) (o := .cells #[.int .i64 y0, .int .i64 y1, .int .i64 y2, .int .i64 y3] 28 (0, 0)) BK160.out) : gb160 ≠ gb175))
                              have n12_ := Aside0.mk ((by rw [hg]; exact Nat.ne_of_gt (blk_lt (g := gb160) (o := .cells #[.int .i64 y0, .int .i64 y1, .int .i64 y2, .int .i64 y3] 28 (0, 0)) BK160.out) : gb175 ≠ gb160))
                              clear BK150
                              clear BK151
                              clear BK160
                              clear HB
                              have BK150 := n0_
                              have BK151 := n1_
                              have BK160 := n2_
                              have HB := n3_
                              have BK175 := n4_
                              have GW175 := n5_
                              have GE175 := n6_
                              have NB150_175 := n7_
                              have NB175_150 := n8_
                              have NB151_175 := n9_
                              have NB175_151 := n10_
                              have NB160_175 := n11_
                              have NB175_160 := n12_
                              clear n0_ n1_ n2_ n3_ n4_ n5_ n6_ n7_ n8_ n9_ n10_ n11_ n12_
                              clear hb hbox hg
                              refine hK.out _ _ ⟨(blk_cell BK150.out 0).trans rfl, (blk_cell BK150.out 1).trans rfl, (blk_cell BK160.out 0).trans rfl, (blk_cell BK160.out 1).trans rfl, (blk_cell BK160.out 2).trans rfl, (blk_cell BK160.out 3).trans rfl⟩ (fun hHeld => ?_)
                              clear hK K
                              refine norm_ (a' := ?_) ?_ ?_
                              rotate_left
                              ·show Act.put _ (some 8) _ = _
                               simp only [Act.put, List.setIfInBounds_toArray, List.set_cons_zero, List.set_cons_succ, i64_w, i32_w]
                               rfl
                              exact norm_ (by first | (simp only [putAll, Act.put, List.setIfInBounds_toArray, List.set_cons_zero, List.set_cons_succ]; done) | (simp only [putAll, Act.put, List.setIfInBounds_toArray, List.set_cons_zero, List.set_cons_succ]; rfl)) (hJ10 (gb175) _ ⟨hHeld, BK150.out, BK151.out, BK160.out, BK175.out, GW175.out, GE175.out, NB150_175.out, NB175_150.out, NB151_175.out, NB175_151.out, NB160_175.out, NB175_160.out, HB.out⟩)
                            ·skip
                             rintro gb175 w66 ⟨hS_, h0_, h1_, h2_, h3_, h4_, h5_, h6_, h7_, h8_, h9_, h10_, h11_, h12_⟩
                             have n0_ : Aside0 (w66.heap[gb150]? = some (.cells #[.int .i64 p, .slice A l.length c] 24 (0, 0))) := ⟨h0_⟩
                             have n1_ : Aside0 (w66.heap[gb151]? = some (.cells #[.int .i64 0, .int .i64 0, .int .i64 0, .int .i64 0] 28 (0, 0))) := ⟨h1_⟩
                             have n2_ : Aside0 (w66.heap[gb160]? = some (.cells #[.int .i64 y0, .int .i64 y1, .int .i64 y2, .int .i64 y3] 28 (0, 0))) := ⟨h2_⟩
                             have n3_ : Aside0 (w66.heap[gb175]? = some (.cells #[.int .i64 0, .slice none 0 0] 24 (0, 0))) := ⟨h3_⟩
                             have n4_ : Aside0 (w.heap.size ≤ gb175) := ⟨h4_⟩
                             have n5_ : Aside0 (w.heap.size ≤ gb175) := ⟨h5_⟩
                             have n6_ : Aside0 (gb150 ≠ gb175) := ⟨h6_⟩
                             have n7_ : Aside0 (gb175 ≠ gb150) := ⟨h7_⟩
                             have n8_ : Aside0 (gb151 ≠ gb175) := ⟨h8_⟩
                             have n9_ : Aside0 (gb175 ≠ gb151) := ⟨h9_⟩
                             have n10_ : Aside0 (gb160 ≠ gb175) := ⟨h10_⟩
                             have n11_ : Aside0 (gb175 ≠ gb160) := ⟨h11_⟩
                             have n12_ : Aside0 (Below w.heap.size w w66) := ⟨h12_⟩
                             clear BK150
                             clear BK151
                             clear BK160
                             clear HB
                             clear h0_ h1_ h2_ h3_ h4_ h5_ h6_ h7_ h8_ h9_ h10_ h11_ h12_
                             have BK150 := n0_
                             have BK151 := n1_
                             have BK160 := n2_
                             have BK175 := n3_
                             have GW175 := n4_
                             have GE175 := n5_
                             have NB150_175 := n6_
                             have NB175_150 := n7_
                             have NB151_175 := n8_
                             have NB175_151 := n9_
                             have NB160_175 := n10_
                             have NB175_160 := n11_
                             have HB := n12_
                             clear n0_ n1_ n2_ n3_ n4_ n5_ n6_ n7_ n8_ n9_ n10_ n11_ n12_
                             have hHeld : w66.cell? ⟨gb150, 0, none⟩ = some (.int .i64 p) ∧ w66.cell? ⟨gb150, 1, none⟩ = some (.slice A l.length c) ∧ w66.cell? ⟨gb160, 0, none⟩ = some (.int .i64 y0) ∧ w66.cell? ⟨gb160, 1, none⟩ = some (.int .i64 y1) ∧ w66.cell? ⟨gb160, 2, none⟩ = some (.int .i64 y2) ∧ w66.cell? ⟨gb160, 3, none⟩ = some (.int .i64 y3) := hS_
                             refine norm_ (a' := ?_) ?_ ?_
                             rotate_left
                             ·simp only [putAll, Act.put, List.setIfInBounds_toArray, List.set_cons_zero, List.set_cons_succ]
                              rfl
                             refine two_ (i := 2) (j := 7) (Ni := some 71) (Nj := some 76) #[true, true, true, true, true, false, true, false, false, false, true, false] #[true, true, false, true, true, false, true, true, false, false, true, false] rfl rfl rfl rfl (two_of HT_.out (by kernel_rfl)) (by decide) (by decide) (fun K hK => ?_) (fun K hK => ?_)
                             ·skip
                              refine Kd.R_lit_step k28 _ 28 ?hg (N := 71) ?hd (xs := ([] : List (S28))) (inner := []) (ok := fun _ => True) (okp := fun _ => True) ?hr ?hp (fun _ hk => hk) trivial (Below.refl _ _) (Nat.le_refl _) (by simp) ?_; (case hd => rfl); (case hg => rfl); (case hr => first | (go_simp; done) | (go_simp; rfl)); (case hp => exact (Reps.none _ _))
                              intro v164 w67 ho68 hb hg_ hnew_
                              clear hg_ hnew_
                              (first | rw [← Ny163.out] at ho68 | (simp only [Int.reduceToNat] at ho68; rw [← Ny163.out] at ho68))
                              have n0_ := Aside0.mk (Kd.R_lower (Kd.R_newB (Kd.R_newB ho68 (g := gb151) (o := .cells #[.int .i64 0, .int .i64 0, .int .i64 0, .int .i64 0] 28 (0, 0)) BK151.out) (g := gb160) (o := .cells #[.int .i64 y0, .int .i64 y1, .int .i64 y2, .int .i64 y3] 28 (0, 0)) BK160.out) (below_size HB.out))
                              have n1_ := Aside0.mk (blk_below (g := gb150) (o := .cells #[.int .i64 p, .slice A l.length c] 24 (0, 0)) BK150.out hb)
                              have n2_ := Aside0.mk (blk_below (g := gb151) (o := .cells #[.int .i64 0, .int .i64 0, .int .i64 0, .int .i64 0] 28 (0, 0)) BK151.out hb)
                              have n3_ := Aside0.mk (blk_below (g := gb160) (o := .cells #[.int .i64 y0, .int .i64 y1, .int .i64 y2, .int .i64 y3] 28 (0, 0)) BK160.out hb)
                              have n4_ := Aside0.mk (blk_below (g := gb175) (o := .cells #[.int .i64 0, .slice none 0 0] 24 (0, 0)) BK175.out hb)
                              have n5_ := Aside0.mk (below_step HB.out hb)
                              clear BK150
                              clear BK151
                              clear BK160
                              clear BK175
                              clear HB
                              have HO165 := n0_
                              have BK150 := n1_
                              have BK151 := n2_
                              have BK160 := n3_
                              have BK175 := n4_
                              have HB := n5_
                              clear n0_ n1_ n2_ n3_ n4_ n5_
                              clear hb ho68
                              refine hK.out _ _ ⟨(blk_cell BK150.out 0).trans rfl, (blk_cell BK150.out 1).trans rfl, (blk_cell BK160.out 0).trans rfl, (blk_cell BK160.out 1).trans rfl, (blk_cell BK160.out 2).trans rfl, (blk_cell BK160.out 3).trans rfl⟩ (fun hHeld => ?_)
                              clear hK K
                              refine norm_ (a' := ?_) ?_ ?_
                              rotate_left
                              ·show Act.put _ (some 71) _ = _
                               simp only [Act.put, List.setIfInBounds_toArray, List.set_cons_zero, List.set_cons_succ, i64_w, i32_w]
                               rfl
                              exact norm_ (by first | (simp only [putAll, Act.put, List.setIfInBounds_toArray, List.set_cons_zero, List.set_cons_succ]; done) | (simp only [putAll, Act.put, List.setIfInBounds_toArray, List.set_cons_zero, List.set_cons_succ]; rfl)) (hJ2_10 (v164, gb175) _ ⟨hHeld, (Kd.R_mono HO165.out (fun _ hk => ⟨hk.1.2, hk.2⟩)), BK150.out, BK151.out, BK160.out, BK175.out, GW175.out, GE175.out, NB150_175.out, NB175_150.out, NB151_175.out, NB175_151.out, NB160_175.out, NB175_160.out, HB.out⟩)
                             ·skip
                              refine Kd.R_lit_step k28 _ 28 ?hg (N := 76) ?hd (xs := ([(⟨y0, y1, y2, y3⟩ : S28)] : List (S28))) (inner := [.int .i64 y0, .int .i64 y1, .int .i64 y2, .int .i64 y3]) (ok := fun _ => True) (okp := fun _ => True) ?hr ?hp (fun _ hk => hk) trivial (Below.refl _ _) (Nat.le_refl _) (by simp) ?_; (case hd => rfl); (case hg => rfl); (case hr => first | (go_simp; done) | (go_simp; rfl)); (case hp => exact (Reps.c4 (show Kd.M k28 _ _ _ (⟨y0, y1, y2, y3⟩ : S28) [.int .i64 y0, .int .i64 y1, .int .i64 y2, .int .i64 y3] from (k28_mkM _ _ _ (⟨y0, y1, y2, y3⟩ : S28) )) (Reps.none _ _)))
                              intro v170 w67 ho68 hb hg_ hnew_
                              clear hg_ hnew_
                              (first | rw [← Ny169.out] at ho68 | (simp only [Int.reduceToNat] at ho68; rw [← Ny169.out] at ho68))
                              have n0_ := Aside0.mk (Kd.R_lower (Kd.R_newB (Kd.R_newB ho68 (g := gb151) (o := .cells #[.int .i64 0, .int .i64 0, .int .i64 0, .int .i64 0] 28 (0, 0)) BK151.out) (g := gb160) (o := .cells #[.int .i64 y0, .int .i64 y1, .int .i64 y2, .int .i64 y3] 28 (0, 0)) BK160.out) (below_size HB.out))
                              have n1_ := Aside0.mk (blk_below (g := gb150) (o := .cells #[.int .i64 p, .slice A l.length c] 24 (0, 0)) BK150.out hb)
                              have n2_ := Aside0.mk (blk_below (g := gb151) (o := .cells #[.int .i64 0, .int .i64 0, .int .i64 0, .int .i64 0] 28 (0, 0)) BK151.out hb)
                              have n3_ := Aside0.mk (blk_below (g := gb160) (o := .cells #[.int .i64 y0, .int .i64 y1, .int .i64 y2, .int .i64 y3] 28 (0, 0)) BK160.out hb)
                              have n4_ := Aside0.mk (blk_below (g := gb175) (o := .cells #[.int .i64 0, .slice none 0 0] 24 (0, 0)) BK175.out hb)
                              have n5_ := Aside0.mk (below_step HB.out hb)
                              clear BK150
                              clear BK151
                              clear BK160
                              clear BK175
                              clear HB
                              have HO171 := n0_
                              have BK150 := n1_
                              have BK151 := n2_
                              have BK160 := n3_
                              have BK175 := n4_
                              have HB := n5_
                              clear n0_ n1_ n2_ n3_ n4_ n5_
                              clear hb ho68
                              refine hK.out _ _ ⟨(blk_cell BK150.out 0).trans rfl, (blk_cell BK150.out 1).trans rfl, (blk_cell BK160.out 0).trans rfl, (blk_cell BK160.out 1).trans rfl, (blk_cell BK160.out 2).trans rfl, (blk_cell BK160.out 3).trans rfl⟩ (fun hHeld => ?_)
                              clear hK K
                              refine norm_ (a' := ?_) ?_ ?_
                              rotate_left
                              ·show Act.put _ (some 76) _ = _
                               simp only [Act.put, List.setIfInBounds_toArray, List.set_cons_zero, List.set_cons_succ, i64_w, i32_w]
                               rfl
                              exact norm_ (by first | (simp only [putAll, Act.put, List.setIfInBounds_toArray, List.set_cons_zero, List.set_cons_succ]; done) | (simp only [putAll, Act.put, List.setIfInBounds_toArray, List.set_cons_zero, List.set_cons_succ]; rfl)) (hJ7_10 (v170, gb175) _ ⟨hHeld, (Kd.R_mono HO171.out (fun _ hk => ⟨hk.1.2, hk.2⟩)), BK150.out, BK151.out, BK160.out, BK175.out, GW175.out, GE175.out, NB150_175.out, NB175_150.out, NB151_175.out, NB175_151.out, NB160_175.out, NB175_160.out, HB.out⟩)
                           ·skip
                            rintro v170 w67 ⟨hS_, h0_, h1_, h2_, h3_, h4_⟩
                            have n0_ : Aside0 (Kd.R k28 28 w67 w.heap.size (fun k_ => k_ ≠ gb151 ∧ k_ ≠ gb160) v170 y169) := ⟨h0_⟩
                            have n1_ : Aside0 (w67.heap[gb150]? = some (.cells #[.int .i64 p, .slice A l.length c] 24 (0, 0))) := ⟨h1_⟩
                            have n2_ : Aside0 (w67.heap[gb151]? = some (.cells #[.int .i64 0, .int .i64 0, .int .i64 0, .int .i64 0] 28 (0, 0))) := ⟨h2_⟩
                            have n3_ : Aside0 (w67.heap[gb160]? = some (.cells #[.int .i64 y0, .int .i64 y1, .int .i64 y2, .int .i64 y3] 28 (0, 0))) := ⟨h3_⟩
                            have n4_ : Aside0 (Below w.heap.size w w67) := ⟨h4_⟩
                            clear BK150
                            clear BK151
                            clear BK160
                            clear HB
                            clear h0_ h1_ h2_ h3_ h4_
                            have HO171 := n0_
                            have BK150 := n1_
                            have BK151 := n2_
                            have BK160 := n3_
                            have HB := n4_
                            clear n0_ n1_ n2_ n3_ n4_
                            have hHeld : w67.cell? ⟨gb150, 0, none⟩ = some (.int .i64 p) ∧ w67.cell? ⟨gb150, 1, none⟩ = some (.slice A l.length c) ∧ w67.cell? ⟨gb160, 0, none⟩ = some (.int .i64 y0) ∧ w67.cell? ⟨gb160, 1, none⟩ = some (.int .i64 y1) ∧ w67.cell? ⟨gb160, 2, none⟩ = some (.int .i64 y2) ∧ w67.cell? ⟨gb160, 3, none⟩ = some (.int .i64 y3) := hS_
                            refine norm_ (a' := ?_) ?_ ?_
                            rotate_left
                            ·simp only [putAll, Act.put, List.setIfInBounds_toArray, List.set_cons_zero, List.set_cons_succ]
                             rfl
                            refine two_ (i := 2) (j := 10) (Ni := some 71) (Nj := some 8) #[true, true, true, true, true, false, true, true, false, false, false, false] #[true, true, false, true, true, false, true, true, false, false, true, false] rfl rfl rfl rfl (two_of HT_.out (by kernel_rfl)) (by decide) (by decide) (fun K hK => ?_) (fun K hK => ?_)
                            ·skip
                             refine Kd.R_lit_step k28 _ 28 ?hg (N := 71) ?hd (xs := ([] : List (S28))) (inner := []) (ok := fun _ => True) (okp := fun _ => True) ?hr ?hp (fun _ hk => hk) trivial (Below.refl _ _) (Nat.le_refl _) (by simp) ?_; (case hd => rfl); (case hg => rfl); (case hr => first | (go_simp; done) | (go_simp; rfl)); (case hp => exact (Reps.none _ _))
                             intro v164 w68 ho69 hb hg_ hnew_
                             clear hg_ hnew_
                             (first | rw [← Ny163.out] at ho69 | (simp only [Int.reduceToNat] at ho69; rw [← Ny163.out] at ho69))
                             have n0_ := Aside0.mk (Kd.R_elder' (HO171.out) (Kd.R_base ho69) hb)
                             have n1_ := Aside0.mk (Kd.R_lower (Kd.R_newB (Kd.R_newB (Kd.R_new' ho69 (Kd.R_lt (HO171.out))) (g := gb151) (o := .cells #[.int .i64 0, .int .i64 0, .int .i64 0, .int .i64 0] 28 (0, 0)) BK151.out) (g := gb160) (o := .cells #[.int .i64 y0, .int .i64 y1, .int .i64 y2, .int .i64 y3] 28 (0, 0)) BK160.out) (below_size HB.out))
                             have n2_ := Aside0.mk (blk_below (g := gb150) (o := .cells #[.int .i64 p, .slice A l.length c] 24 (0, 0)) BK150.out hb)
                             have n3_ := Aside0.mk (blk_below (g := gb151) (o := .cells #[.int .i64 0, .int .i64 0, .int .i64 0, .int .i64 0] 28 (0, 0)) BK151.out hb)
                             have n4_ := Aside0.mk (blk_below (g := gb160) (o := .cells #[.int .i64 y0, .int .i64 y1, .int .i64 y2, .int .i64 y3] 28 (0, 0)) BK160.out hb)
                             have n5_ := Aside0.mk (below_step HB.out hb)
                             clear HO171
                             clear BK150
                             clear BK151
                             clear BK160
                             clear HB
                             have HO171 := n0_
                             have HO165 := n1_
                             have BK150 := n2_
                             have BK151 := n3_
                             have BK160 := n4_
                             have HB := n5_
                             clear n0_ n1_ n2_ n3_ n4_ n5_
                             clear hb ho69
                             refine hK.out _ _ ⟨(blk_cell BK150.out 0).trans rfl, (blk_cell BK150.out 1).trans rfl, (blk_cell BK160.out 0).trans rfl, (blk_cell BK160.out 1).trans rfl, (blk_cell BK160.out 2).trans rfl, (blk_cell BK160.out 3).trans rfl⟩ (fun hHeld => ?_)
                             clear hK K
                             refine norm_ (a' := ?_) ?_ ?_
                             rotate_left
                             ·show Act.put _ (some 71) _ = _
                              simp only [Act.put, List.setIfInBounds_toArray, List.set_cons_zero, List.set_cons_succ, i64_w, i32_w]
                              rfl
                             exact norm_ (by first | (simp only [putAll, Act.put, List.setIfInBounds_toArray, List.set_cons_zero, List.set_cons_succ]; done) | (simp only [putAll, Act.put, List.setIfInBounds_toArray, List.set_cons_zero, List.set_cons_succ]; rfl)) (hJ2_7 (v164, v170) _ ⟨hHeld, (Kd.R_mono HO165.out (fun _ hk => ⟨hk.1.1.2, ⟨hk.1.2, hk.2⟩⟩)), (Kd.R_mono HO171.out (fun _ hk => ⟨hk.2, ⟨hk.1.1, hk.1.2⟩⟩)), BK150.out, BK151.out, BK160.out, HB.out⟩)
                            ·skip
                             refine box_step ?hg (N := 8) ?hd (cs := #[.int .i64 0, .slice none 0 0]) (t := 24) ?hr ?_; (case hd => rfl); (case hg => rfl); (case hr => first | (go_simp; done) | (go_simp; rfl))
                             intro gb175 hg w68 hbox hb
                             have n0_ := Aside0.mk (Kd.R_below (HO171.out) hb)
                             have n1_ := Aside0.mk (blk_below (g := gb150) (o := .cells #[.int .i64 p, .slice A l.length c] 24 (0, 0)) BK150.out hb)
                             have n2_ := Aside0.mk (blk_below (g := gb151) (o := .cells #[.int .i64 0, .int .i64 0, .int .i64 0, .int .i64 0] 28 (0, 0)) BK151.out hb)
                             have n3_ := Aside0.mk (blk_below (g := gb160) (o := .cells #[.int .i64 y0, .int .i64 y1, .int .i64 y2, .int .i64 y3] 28 (0, 0)) BK160.out hb)
                             have n4_ := Aside0.mk (below_step HB.out hb)
                             have n5_ := Aside0.mk (hbox)
                             have n6_ := Aside0.mk ((by rw [hg]; exact (below_size HB.out) : w.heap.size ≤ gb175))
                             have n7_ := Aside0.mk ((by rw [hg]; exact (below_size HB.out) : w.heap.size ≤ gb175))
                             have n8_ := Aside0.mk ((by rw [hg]; exact Nat.ne_of_lt (blk_lt (g := gb150) (o := .cells #[.int .i64 p, .slice A l.length c] 24 (0, 0)) BK150.out) : gb150 ≠ gb175))
                             have n9_ := Aside0.mk ((by rw [hg]; exact Nat.ne_of_gt (blk_lt (g := gb150) (o := .cells #[.int .i64 p, .slice A l.length c] 24 (0, 0)) BK150.out) : gb175 ≠ gb150))
                             have n10_ := Aside0.mk ((by rw [hg]; exact Nat.ne_of_lt (blk_lt (g := gb151) (o := .cells #[.int .i64 0, .int .i64 0, .int .i64 0, .int .i64 0] 28 (0, 0)) BK151.out) : gb151 ≠ gb175))
                             have n11_ := Aside0.mk ((by rw [hg]; exact Nat.ne_of_gt (blk_lt (g := gb151) (o := .cells #[.int .i64 0, .int .i64 0, .int .i64 0, .int .i64 0] 28 (0, 0)) BK151.out) : gb175 ≠ gb151))
                             have n12_ := Aside0.mk ((by rw [hg]; exact Nat.ne_of_lt (blk_lt (g := gb160) (o := .cells #[.int .i64 y0, .int .i64 y1, .int .i64 y2, .int .i64 y3] 28 (0, 0)) BK160.out) : gb160 ≠ gb175))
                             have n13_ := Aside0.mk ((by rw [hg]; exact Nat.ne_of_gt (blk_lt (g := gb160) (o := .cells #[.int .i64 y0, .int .i64 y1, .int .i64 y2, .int .i64 y3] 28 (0, 0)) BK160.out) : gb175 ≠ gb160))
                             clear HO171
                             clear BK150
                             clear BK151
                             clear BK160
                             clear HB
                             have HO171 := n0_
                             have BK150 := n1_
                             have BK151 := n2_
                             have BK160 := n3_
                             have HB := n4_
                             have BK175 := n5_
                             have GW175 := n6_
                             have GE175 := n7_
                             have NB150_175 := n8_
                             have NB175_150 := n9_
                             have NB151_175 := n10_
                             have NB175_151 := n11_
                             have NB160_175 := n12_
                             have NB175_160 := n13_
                             clear n0_ n1_ n2_ n3_ n4_ n5_ n6_ n7_ n8_ n9_ n10_ n11_ n12_ n13_
                             clear hb hbox hg
                             refine hK.out _ _ ⟨(blk_cell BK150.out 0).trans rfl, (blk_cell BK150.out 1).trans rfl, (blk_cell BK160.out 0).trans rfl, (blk_cell BK160.out 1).trans rfl, (blk_cell BK160.out 2).trans rfl, (blk_cell BK160.out 3).trans rfl⟩ (fun hHeld => ?_)
                             clear hK K
                             refine norm_ (a' := ?_) ?_ ?_
                             rotate_left
                             ·show Act.put _ (some 8) _ = _
                              simp only [Act.put, List.setIfInBounds_toArray, List.set_cons_zero, List.set_cons_succ, i64_w, i32_w]
                              rfl
                             exact norm_ (by first | (simp only [putAll, Act.put, List.setIfInBounds_toArray, List.set_cons_zero, List.set_cons_succ]; done) | (simp only [putAll, Act.put, List.setIfInBounds_toArray, List.set_cons_zero, List.set_cons_succ]; rfl)) (hJ7_10 (v170, gb175) _ ⟨hHeld, (HO171.out), BK150.out, BK151.out, BK160.out, BK175.out, GW175.out, GE175.out, NB150_175.out, NB175_150.out, NB151_175.out, NB175_151.out, NB160_175.out, NB175_160.out, HB.out⟩)
                          ·skip
                           rintro v164 w67 ⟨hS_, h0_, h1_, h2_, h3_, h4_⟩
                           have n0_ : Aside0 (Kd.R k28 28 w67 w.heap.size (fun k_ => k_ ≠ gb151 ∧ k_ ≠ gb160) v164 y163) := ⟨h0_⟩
                           have n1_ : Aside0 (w67.heap[gb150]? = some (.cells #[.int .i64 p, .slice A l.length c] 24 (0, 0))) := ⟨h1_⟩
                           have n2_ : Aside0 (w67.heap[gb151]? = some (.cells #[.int .i64 0, .int .i64 0, .int .i64 0, .int .i64 0] 28 (0, 0))) := ⟨h2_⟩
                           have n3_ : Aside0 (w67.heap[gb160]? = some (.cells #[.int .i64 y0, .int .i64 y1, .int .i64 y2, .int .i64 y3] 28 (0, 0))) := ⟨h3_⟩
                           have n4_ : Aside0 (Below w.heap.size w w67) := ⟨h4_⟩
                           clear BK150
                           clear BK151
                           clear BK160
                           clear HB
                           clear h0_ h1_ h2_ h3_ h4_
                           have HO165 := n0_
                           have BK150 := n1_
                           have BK151 := n2_
                           have BK160 := n3_
                           have HB := n4_
                           clear n0_ n1_ n2_ n3_ n4_
                           have hHeld : w67.cell? ⟨gb150, 0, none⟩ = some (.int .i64 p) ∧ w67.cell? ⟨gb150, 1, none⟩ = some (.slice A l.length c) ∧ w67.cell? ⟨gb160, 0, none⟩ = some (.int .i64 y0) ∧ w67.cell? ⟨gb160, 1, none⟩ = some (.int .i64 y1) ∧ w67.cell? ⟨gb160, 2, none⟩ = some (.int .i64 y2) ∧ w67.cell? ⟨gb160, 3, none⟩ = some (.int .i64 y3) := hS_
                           refine norm_ (a' := ?_) ?_ ?_
                           rotate_left
                           ·simp only [putAll, Act.put, List.setIfInBounds_toArray, List.set_cons_zero, List.set_cons_succ]
                            rfl
                           refine three_ (i := 5) (j := 7) (k := 10) (Ni := some 74) (Nj := some 76) (Nk := some 8) #[true, true, true, true, true, true, true, false, false, false, false, false] #[true, true, true, true, true, false, true, true, false, false, false, false] #[true, true, true, true, true, false, true, false, false, false, true, false] rfl rfl rfl rfl rfl rfl (three_of HT_.out (by kernel_rfl)) (by decide) (by decide) (by decide) (fun K hK => ?_) (fun K hK => ?_) (fun K hK => ?_)
                           ·skip
                            refine Kd.R_append_rows_step k28 (w0 := w) w.heap.size (by rfl) (.tmp 71) (.tmp 73) 22 28 (.agg #[(.int .i64 0), (.int .i64 0), (.int .i64 0), (.int .i64 0)]) 32 rfl Try.underlying22 info28 rfl (by decide) (by omega) v164 y163 l _ _ _ (fun k_ => k_ ≠ gb151 ∧ k_ ≠ gb160) (fun _ => False) rfl rfl ?aO ?aR (fun _ _ h => h) (fun _ h => h.elim) ?aF ?aB ?aS ?aL ?_
                            (case aR => repeat (first | exact (Kd.C_below HR0_1.out HB.out) | (with_reducible refine Kd.C_alloc ?_ _) | (with_reducible refine Kd.C_drewN ?_ _) | (with_reducible refine Kd.C_drew ?_)))
                            (case aB => exact HB.out)
                            (case aF => exact (fun k_ hk => ⟨Kd.freshB (g := gb151) (o := .cells #[.int .i64 0, .int .i64 0, .int .i64 0, .int .i64 0] 28 (0, 0)) BK151.out k_ hk, Kd.freshB (g := gb160) (o := .cells #[.int .i64 y0, .int .i64 y1, .int .i64 y2, .int .i64 y3] 28 (0, 0)) BK160.out k_ hk⟩))
                            (case aO => exact (HO165.out))
                            (case aS => exact (below_size HB.out))
                            (case aL => have := LMc60.out; omega)
                            intro v167 w68 ho hb hg hat
                            rw [← Ny166.out] at ho
                            have n0_ := Aside0.mk (blk_grown (g := gb150) (o := .cells #[.int .i64 p, .slice A l.length c] 24 (0, 0)) BK150.out hg (Kd.R_ne HO165.out BK150.out (by decide)))
                            have n1_ := Aside0.mk (blk_grown (g := gb151) (o := .cells #[.int .i64 0, .int .i64 0, .int .i64 0, .int .i64 0] 28 (0, 0)) BK151.out hg (Kd.R_away HO165.out (fun _ hk => hk.1)))
                            have n2_ := Aside0.mk (blk_grown (g := gb160) (o := .cells #[.int .i64 y0, .int .i64 y1, .int .i64 y2, .int .i64 y3] 28 (0, 0)) BK160.out hg (Kd.R_away HO165.out (fun _ hk => hk.2)))
                            have n3_ := Aside0.mk (hb)
                            have n4_ := Aside0.mk (ho)
                            clear BK150
                            clear BK151
                            clear BK160
                            clear HB
                            clear HO165
                            have BK150 := n0_
                            have BK151 := n1_
                            have BK160 := n2_
                            have HB := n3_
                            have HO168 := n4_
                            clear n0_ n1_ n2_ n3_ n4_
                            clear ho hb hg hat
                            refine hK.out _ _ ⟨(blk_cell BK150.out 0).trans rfl, (blk_cell BK150.out 1).trans rfl, (blk_cell BK160.out 0).trans rfl, (blk_cell BK160.out 1).trans rfl, (blk_cell BK160.out 2).trans rfl, (blk_cell BK160.out 3).trans rfl⟩ (fun hHeld => ?_)
                            clear hK K
                            refine norm_ (a' := ?_) ?_ ?_
                            rotate_left
                            ·show Act.put _ (some 74) _ = _
                             simp only [Act.put, List.setIfInBounds_toArray, List.set_cons_zero, List.set_cons_succ, i64_w, i32_w]
                             rfl
                            exact norm_ (by first | (simp only [putAll, Act.put, List.setIfInBounds_toArray, List.set_cons_zero, List.set_cons_succ]; done) | (simp only [putAll, Act.put, List.setIfInBounds_toArray, List.set_cons_zero, List.set_cons_succ]; rfl)) (hJ2_5 (v164, v167) _ ⟨hHeld, (HO168.out), BK150.out, BK151.out, BK160.out, HB.out⟩)
                           ·skip
                            refine Kd.R_lit_step k28 _ 28 ?hg (N := 76) ?hd (xs := ([(⟨y0, y1, y2, y3⟩ : S28)] : List (S28))) (inner := [.int .i64 y0, .int .i64 y1, .int .i64 y2, .int .i64 y3]) (ok := fun _ => True) (okp := fun _ => True) ?hr ?hp (fun _ hk => hk) trivial (Below.refl _ _) (Nat.le_refl _) (by simp) ?_; (case hd => rfl); (case hg => rfl); (case hr => first | (go_simp; done) | (go_simp; rfl)); (case hp => exact (Reps.c4 (show Kd.M k28 _ _ _ (⟨y0, y1, y2, y3⟩ : S28) [.int .i64 y0, .int .i64 y1, .int .i64 y2, .int .i64 y3] from (k28_mkM _ _ _ (⟨y0, y1, y2, y3⟩ : S28) )) (Reps.none _ _)))
                            intro v170 w68 ho69 hb hg_ hnew_
                            clear hg_ hnew_
                            (first | rw [← Ny169.out] at ho69 | (simp only [Int.reduceToNat] at ho69; rw [← Ny169.out] at ho69))
                            have n0_ := Aside0.mk (Kd.R_elder' (HO165.out) (Kd.R_base ho69) hb)
                            have n1_ := Aside0.mk (Kd.R_lower (Kd.R_newB (Kd.R_newB (Kd.R_new' ho69 (Kd.R_lt (HO165.out))) (g := gb151) (o := .cells #[.int .i64 0, .int .i64 0, .int .i64 0, .int .i64 0] 28 (0, 0)) BK151.out) (g := gb160) (o := .cells #[.int .i64 y0, .int .i64 y1, .int .i64 y2, .int .i64 y3] 28 (0, 0)) BK160.out) (below_size HB.out))
                            have n2_ := Aside0.mk (blk_below (g := gb150) (o := .cells #[.int .i64 p, .slice A l.length c] 24 (0, 0)) BK150.out hb)
                            have n3_ := Aside0.mk (blk_below (g := gb151) (o := .cells #[.int .i64 0, .int .i64 0, .int .i64 0, .int .i64 0] 28 (0, 0)) BK151.out hb)
                            have n4_ := Aside0.mk (blk_below (g := gb160) (o := .cells #[.int .i64 y0, .int .i64 y1, .int .i64 y2, .int .i64 y3] 28 (0, 0)) BK160.out hb)
                            have n5_ := Aside0.mk (below_step HB.out hb)
                            clear HO165
                            clear BK150
                            clear BK151
                            clear BK160
                            clear HB
                            have HO165 := n0_
                            have HO171 := n1_
                            have BK150 := n2_
                            have BK151 := n3_
                            have BK160 := n4_
                            have HB := n5_
                            clear n0_ n1_ n2_ n3_ n4_ n5_
                            clear hb ho69
                            refine hK.out _ _ ⟨(blk_cell BK150.out 0).trans rfl, (blk_cell BK150.out 1).trans rfl, (blk_cell BK160.out 0).trans rfl, (blk_cell BK160.out 1).trans rfl, (blk_cell BK160.out 2).trans rfl, (blk_cell BK160.out 3).trans rfl⟩ (fun hHeld => ?_)
                            clear hK K
                            refine norm_ (a' := ?_) ?_ ?_
                            rotate_left
                            ·show Act.put _ (some 76) _ = _
                             simp only [Act.put, List.setIfInBounds_toArray, List.set_cons_zero, List.set_cons_succ, i64_w, i32_w]
                             rfl
                            exact norm_ (by first | (simp only [putAll, Act.put, List.setIfInBounds_toArray, List.set_cons_zero, List.set_cons_succ]; done) | (simp only [putAll, Act.put, List.setIfInBounds_toArray, List.set_cons_zero, List.set_cons_succ]; rfl)) (hJ2_7 (v164, v170) _ ⟨hHeld, (Kd.R_mono HO165.out (fun _ hk => ⟨hk.2, ⟨hk.1.1, hk.1.2⟩⟩)), (Kd.R_mono HO171.out (fun _ hk => ⟨hk.1.1.2, ⟨hk.1.2, hk.2⟩⟩)), BK150.out, BK151.out, BK160.out, HB.out⟩)
                           ·skip
                            refine box_step ?hg (N := 8) ?hd (cs := #[.int .i64 0, .slice none 0 0]) (t := 24) ?hr ?_; (case hd => rfl); (case hg => rfl); (case hr => first | (go_simp; done) | (go_simp; rfl))
                            intro gb175 hg w68 hbox hb
                            have n0_ := Aside0.mk (Kd.R_below (HO165.out) hb)
                            have n1_ := Aside0.mk (blk_below (g := gb150) (o := .cells #[.int .i64 p, .slice A l.length c] 24 (0, 0)) BK150.out hb)
                            have n2_ := Aside0.mk (blk_below (g := gb151) (o := .cells #[.int .i64 0, .int .i64 0, .int .i64 0, .int .i64 0] 28 (0, 0)) BK151.out hb)
                            have n3_ := Aside0.mk (blk_below (g := gb160) (o := .cells #[.int .i64 y0, .int .i64 y1, .int .i64 y2, .int .i64 y3] 28 (0, 0)) BK160.out hb)
                            have n4_ := Aside0.mk (below_step HB.out hb)
                            have n5_ := Aside0.mk (hbox)
                            have n6_ := Aside0.mk ((by rw [hg]; exact (below_size HB.out) : w.heap.size ≤ gb175))
                            have n7_ := Aside0.mk ((by rw [hg]; exact (below_size HB.out) : w.heap.size ≤ gb175))
                            have n8_ := Aside0.mk ((by rw [hg]; exact Nat.ne_of_lt (blk_lt (g := gb150) (o := .cells #[.int .i64 p, .slice A l.length c] 24 (0, 0)) BK150.out) : gb150 ≠ gb175))
                            have n9_ := Aside0.mk ((by rw [hg]; exact Nat.ne_of_gt (blk_lt (g := gb150) (o := .cells #[.int .i64 p, .slice A l.length c] 24 (0, 0)) BK150.out) : gb175 ≠ gb150))
                            have n10_ := Aside0.mk ((by rw [hg]; exact Nat.ne_of_lt (blk_lt (g := gb151) (o := .cells #[.int .i64 0, .int .i64 0, .int .i64 0, .int .i64 0] 28 (0, 0)) BK151.out) : gb151 ≠ gb175))
                            have n11_ := Aside0.mk ((by rw [hg]; exact Nat.ne_of_gt (blk_lt (g := gb151) (o := .cells #[.int .i64 0, .int .i64 0, .int .i64 0, .int .i64 0] 28 (0, 0)) BK151.out) : gb175 ≠ gb151))
                            have n12_ := Aside0.mk ((by rw [hg]; exact Nat.ne_of_lt (blk_lt (g := gb160) (o := .cells #[.int .i64 y0, .int .i64 y1, .int .i64 y2, .int .i64 y3] 28 (0, 0)) BK160.out) : gb160 ≠ gb175))
                            have n13_ := Aside0.mk ((by rw [hg]; exact Nat.ne_of_gt (blk_lt (g := gb160) (o := .cells #[.int .i64 y0, .int .i64 y1, .int .i64 y2, .int .i64 y3] 28 (0, 0)) BK160.out) : gb175 ≠ gb160))
                            clear HO165
                            clear BK150
                            clear BK151
                            clear BK160
                            clear HB
                            have HO165 := n0_
                            have BK150 := n1_
                            have BK151 := n2_
                            have BK160 := n3_
                            have HB := n4_
                            have BK175 := n5_
                            have GW175 := n6_
                            have GE175 := n7_
                            have NB150_175 := n8_
                            have NB175_150 := n9_
                            have NB151_175 := n10_
                            have NB175_151 := n11_
                            have NB160_175 := n12_
                            have NB175_160 := n13_
                            clear n0_ n1_ n2_ n3_ n4_ n5_ n6_ n7_ n8_ n9_ n10_ n11_ n12_ n13_
                            clear hb hbox hg
                            refine hK.out _ _ ⟨(blk_cell BK150.out 0).trans rfl, (blk_cell BK150.out 1).trans rfl, (blk_cell BK160.out 0).trans rfl, (blk_cell BK160.out 1).trans rfl, (blk_cell BK160.out 2).trans rfl, (blk_cell BK160.out 3).trans rfl⟩ (fun hHeld => ?_)
                            clear hK K
                            refine norm_ (a' := ?_) ?_ ?_
                            rotate_left
                            ·show Act.put _ (some 8) _ = _
                             simp only [Act.put, List.setIfInBounds_toArray, List.set_cons_zero, List.set_cons_succ, i64_w, i32_w]
                             rfl
                            exact norm_ (by first | (simp only [putAll, Act.put, List.setIfInBounds_toArray, List.set_cons_zero, List.set_cons_succ]; done) | (simp only [putAll, Act.put, List.setIfInBounds_toArray, List.set_cons_zero, List.set_cons_succ]; rfl)) (hJ2_10 (v164, gb175) _ ⟨hHeld, (HO165.out), BK150.out, BK151.out, BK160.out, BK175.out, GW175.out, GE175.out, NB150_175.out, NB175_150.out, NB151_175.out, NB175_151.out, NB160_175.out, NB175_160.out, HB.out⟩)
                         ·skip
                          rintro ⟨v170, gb175⟩ w68 ⟨hS_, h0_, h1_, h2_, h3_, h4_, h5_, h6_, h7_, h8_, h9_, h10_, h11_, h12_, h13_⟩
                          have n0_ : Aside0 (Kd.R k28 28 w68 w.heap.size (fun k_ => k_ ≠ gb151 ∧ k_ ≠ gb160) v170 y169) := ⟨h0_⟩
                          have n1_ : Aside0 (w68.heap[gb150]? = some (.cells #[.int .i64 p, .slice A l.length c] 24 (0, 0))) := ⟨h1_⟩
                          have n2_ : Aside0 (w68.heap[gb151]? = some (.cells #[.int .i64 0, .int .i64 0, .int .i64 0, .int .i64 0] 28 (0, 0))) := ⟨h2_⟩
                          have n3_ : Aside0 (w68.heap[gb160]? = some (.cells #[.int .i64 y0, .int .i64 y1, .int .i64 y2, .int .i64 y3] 28 (0, 0))) := ⟨h3_⟩
                          have n4_ : Aside0 (w68.heap[gb175]? = some (.cells #[.int .i64 0, .slice none 0 0] 24 (0, 0))) := ⟨h4_⟩
                          have n5_ : Aside0 (w.heap.size ≤ gb175) := ⟨h5_⟩
                          have n6_ : Aside0 (w.heap.size ≤ gb175) := ⟨h6_⟩
                          have n7_ : Aside0 (gb150 ≠ gb175) := ⟨h7_⟩
                          have n8_ : Aside0 (gb175 ≠ gb150) := ⟨h8_⟩
                          have n9_ : Aside0 (gb151 ≠ gb175) := ⟨h9_⟩
                          have n10_ : Aside0 (gb175 ≠ gb151) := ⟨h10_⟩
                          have n11_ : Aside0 (gb160 ≠ gb175) := ⟨h11_⟩
                          have n12_ : Aside0 (gb175 ≠ gb160) := ⟨h12_⟩
                          have n13_ : Aside0 (Below w.heap.size w w68) := ⟨h13_⟩
                          clear BK150
                          clear BK151
                          clear BK160
                          clear HB
                          clear h0_ h1_ h2_ h3_ h4_ h5_ h6_ h7_ h8_ h9_ h10_ h11_ h12_ h13_
                          have HO171 := n0_
                          have BK150 := n1_
                          have BK151 := n2_
                          have BK160 := n3_
                          have BK175 := n4_
                          have GW175 := n5_
                          have GE175 := n6_
                          have NB150_175 := n7_
                          have NB175_150 := n8_
                          have NB151_175 := n9_
                          have NB175_151 := n10_
                          have NB160_175 := n11_
                          have NB175_160 := n12_
                          have HB := n13_
                          clear n0_ n1_ n2_ n3_ n4_ n5_ n6_ n7_ n8_ n9_ n10_ n11_ n12_ n13_
                          have hHeld : w68.cell? ⟨gb150, 0, none⟩ = some (.int .i64 p) ∧ w68.cell? ⟨gb150, 1, none⟩ = some (.slice A l.length c) ∧ w68.cell? ⟨gb160, 0, none⟩ = some (.int .i64 y0) ∧ w68.cell? ⟨gb160, 1, none⟩ = some (.int .i64 y1) ∧ w68.cell? ⟨gb160, 2, none⟩ = some (.int .i64 y2) ∧ w68.cell? ⟨gb160, 3, none⟩ = some (.int .i64 y3) := hS_
                          refine norm_ (a' := ?_) ?_ ?_
                          rotate_left
                          ·simp only [putAll, Act.put, List.setIfInBounds_toArray, List.set_cons_zero, List.set_cons_succ]
                           rfl
                          refine one_ (i := 2) (N := some 71) #[true, true, true, true, true, false, true, true, false, false, true, false] rfl rfl (one_of HT_.out (by kernel_rfl)) (by decide) (fun K hK => ?_)
                          refine Kd.R_lit_step k28 _ 28 ?hg (N := 71) ?hd (xs := ([] : List (S28))) (inner := []) (ok := fun _ => True) (okp := fun _ => True) ?hr ?hp (fun _ hk => hk) trivial (Below.refl _ _) (Nat.le_refl _) (by simp) ?_; (case hd => rfl); (case hg => rfl); (case hr => first | (go_simp; done) | (go_simp; rfl)); (case hp => exact (Reps.none _ _))
                          intro v164 w69 ho70 hb hg_ hnew_
                          clear hg_ hnew_
                          (first | rw [← Ny163.out] at ho70 | (simp only [Int.reduceToNat] at ho70; rw [← Ny163.out] at ho70))
                          have n0_ := Aside0.mk (Kd.R_elder' (HO171.out) (Kd.R_base ho70) hb)
                          have n1_ := Aside0.mk (Kd.R_lower (Kd.R_newB (Kd.R_newB (Kd.R_new' ho70 (Kd.R_lt (HO171.out))) (g := gb151) (o := .cells #[.int .i64 0, .int .i64 0, .int .i64 0, .int .i64 0] 28 (0, 0)) BK151.out) (g := gb160) (o := .cells #[.int .i64 y0, .int .i64 y1, .int .i64 y2, .int .i64 y3] 28 (0, 0)) BK160.out) (below_size HB.out))
                          have n2_ := Aside0.mk (blk_below (g := gb150) (o := .cells #[.int .i64 p, .slice A l.length c] 24 (0, 0)) BK150.out hb)
                          have n3_ := Aside0.mk (blk_below (g := gb151) (o := .cells #[.int .i64 0, .int .i64 0, .int .i64 0, .int .i64 0] 28 (0, 0)) BK151.out hb)
                          have n4_ := Aside0.mk (blk_below (g := gb160) (o := .cells #[.int .i64 y0, .int .i64 y1, .int .i64 y2, .int .i64 y3] 28 (0, 0)) BK160.out hb)
                          have n5_ := Aside0.mk (blk_below (g := gb175) (o := .cells #[.int .i64 0, .slice none 0 0] 24 (0, 0)) BK175.out hb)
                          have n6_ := Aside0.mk (below_step HB.out hb)
                          clear HO171
                          clear BK150
                          clear BK151
                          clear BK160
                          clear BK175
                          clear HB
                          have HO171 := n0_
                          have HO165 := n1_
                          have BK150 := n2_
                          have BK151 := n3_
                          have BK160 := n4_
                          have BK175 := n5_
                          have HB := n6_
                          clear n0_ n1_ n2_ n3_ n4_ n5_ n6_
                          clear hb ho70
                          refine hK.out _ _ ⟨(blk_cell BK150.out 0).trans rfl, (blk_cell BK150.out 1).trans rfl, (blk_cell BK160.out 0).trans rfl, (blk_cell BK160.out 1).trans rfl, (blk_cell BK160.out 2).trans rfl, (blk_cell BK160.out 3).trans rfl⟩ (fun hHeld => ?_)
                          clear hK K
                          refine norm_ (a' := ?_) ?_ ?_
                          rotate_left
                          ·show Act.put _ (some 71) _ = _
                           simp only [Act.put, List.setIfInBounds_toArray, List.set_cons_zero, List.set_cons_succ, i64_w, i32_w]
                           rfl
                          exact norm_ (by first | (simp only [putAll, Act.put, List.setIfInBounds_toArray, List.set_cons_zero, List.set_cons_succ]; done) | (simp only [putAll, Act.put, List.setIfInBounds_toArray, List.set_cons_zero, List.set_cons_succ]; rfl)) (hJ2_7_10 (v164, v170, gb175) _ ⟨hHeld, (Kd.R_mono HO165.out (fun _ hk => ⟨hk.1.1.2, ⟨hk.1.2, hk.2⟩⟩)), (Kd.R_mono HO171.out (fun _ hk => ⟨hk.2, ⟨hk.1.1, hk.1.2⟩⟩)), BK150.out, BK151.out, BK160.out, BK175.out, GW175.out, GE175.out, NB150_175.out, NB175_150.out, NB151_175.out, NB175_151.out, NB160_175.out, NB175_160.out, HB.out⟩)
                        ·skip
                         rintro ⟨v164, gb175⟩ w68 ⟨hS_, h0_, h1_, h2_, h3_, h4_, h5_, h6_, h7_, h8_, h9_, h10_, h11_, h12_, h13_⟩
                         have n0_ : Aside0 (Kd.R k28 28 w68 w.heap.size (fun k_ => k_ ≠ gb151 ∧ k_ ≠ gb160) v164 y163) := ⟨h0_⟩
                         have n1_ : Aside0 (w68.heap[gb150]? = some (.cells #[.int .i64 p, .slice A l.length c] 24 (0, 0))) := ⟨h1_⟩
                         have n2_ : Aside0 (w68.heap[gb151]? = some (.cells #[.int .i64 0, .int .i64 0, .int .i64 0, .int .i64 0] 28 (0, 0))) := ⟨h2_⟩
                         have n3_ : Aside0 (w68.heap[gb160]? = some (.cells #[.int .i64 y0, .int .i64 y1, .int .i64 y2, .int .i64 y3] 28 (0, 0))) := ⟨h3_⟩
                         have n4_ : Aside0 (w68.heap[gb175]? = some (.cells #[.int .i64 0, .slice none 0 0] 24 (0, 0))) := ⟨h4_⟩
                         have n5_ : Aside0 (w.heap.size ≤ gb175) := ⟨h5_⟩
                         have n6_ : Aside0 (w.heap.size ≤ gb175) := ⟨h6_⟩
                         have n7_ : Aside0 (gb150 ≠ gb175) := ⟨h7_⟩
                         have n8_ : Aside0 (gb175 ≠ gb150) := ⟨h8_⟩
                         have n9_ : Aside0 (gb151 ≠ gb175) := ⟨h9_⟩
                         have n10_ : Aside0 (gb175 ≠ gb151) := ⟨h10_⟩
                         have n11_ : Aside0 (gb160 ≠ gb175) := ⟨h11_⟩
                         have n12_ : Aside0 (gb175 ≠ gb160) := ⟨h12_⟩
                         have n13_ : Aside0 (Below w.heap.size w w68) := ⟨h13_⟩
                         clear BK150
                         clear BK151
                         clear BK160
                         clear HB
                         clear h0_ h1_ h2_ h3_ h4_ h5_ h6_ h7_ h8_ h9_ h10_ h11_ h12_ h13_
                         have HO165 := n0_
                         have BK150 := n1_
                         have BK151 := n2_
                         have BK160 := n3_
                         have BK175 := n4_
                         have GW175 := n5_
                         have GE175 := n6_
                         have NB150_175 := n7_
                         have NB175_150 := n8_
                         have NB151_175 := n9_
                         have NB175_151 := n10_
                         have NB160_175 := n11_
                         have NB175_160 := n12_
                         have HB := n13_
                         clear n0_ n1_ n2_ n3_ n4_ n5_ n6_ n7_ n8_ n9_ n10_ n11_ n12_ n13_
                         have hHeld : w68.cell? ⟨gb150, 0, none⟩ = some (.int .i64 p) ∧ w68.cell? ⟨gb150, 1, none⟩ = some (.slice A l.length c) ∧ w68.cell? ⟨gb160, 0, none⟩ = some (.int .i64 y0) ∧ w68.cell? ⟨gb160, 1, none⟩ = some (.int .i64 y1) ∧ w68.cell? ⟨gb160, 2, none⟩ = some (.int .i64 y2) ∧ w68.cell? ⟨gb160, 3, none⟩ = some (.int .i64 y3) := hS_
                         refine norm_ (a' := ?_) ?_ ?_
                         rotate_left
                         ·simp only [putAll, Act.put, List.setIfInBounds_toArray, List.set_cons_zero, List.set_cons_succ]
                          rfl
                         refine two_ (i := 5) (j := 7) (Ni := some 74) (Nj := some 76) #[true, true, true, true, true, true, true, false, false, false, true, false] #[true, true, true, true, true, false, true, true, false, false, true, false] rfl rfl rfl rfl (two_of HT_.out (by kernel_rfl)) (by decide) (by decide) (fun K hK => ?_) (fun K hK => ?_)
                         ·skip
                          refine Kd.R_append_rows_step k28 (w0 := w) w.heap.size (by rfl) (.tmp 71) (.tmp 73) 22 28 (.agg #[(.int .i64 0), (.int .i64 0), (.int .i64 0), (.int .i64 0)]) 32 rfl Try.underlying22 info28 rfl (by decide) (by omega) v164 y163 l _ _ _ (fun k_ => k_ ≠ gb151 ∧ k_ ≠ gb160) (fun _ => False) rfl rfl ?aO ?aR (fun _ _ h => h) (fun _ h => h.elim) ?aF ?aB ?aS ?aL ?_
                          (case aR => repeat (first | exact (Kd.C_below HR0_1.out HB.out) | (with_reducible refine Kd.C_alloc ?_ _) | (with_reducible refine Kd.C_drewN ?_ _) | (with_reducible refine Kd.C_drew ?_)))
                          (case aB => exact HB.out)
                          (case aF => exact (fun k_ hk => ⟨Kd.freshB (g := gb151) (o := .cells #[.int .i64 0, .int .i64 0, .int .i64 0, .int .i64 0] 28 (0, 0)) BK151.out k_ hk, Kd.freshB (g := gb160) (o := .cells #[.int .i64 y0, .int .i64 y1, .int .i64 y2, .int .i64 y3] 28 (0, 0)) BK160.out k_ hk⟩))
                          (case aO => exact (HO165.out))
                          (case aS => exact (below_size HB.out))
                          (case aL => have := LMc60.out; omega)
                          intro v167 w69 ho hb hg hat
                          rw [← Ny166.out] at ho
                          have n0_ := Aside0.mk (blk_grown (g := gb150) (o := .cells #[.int .i64 p, .slice A l.length c] 24 (0, 0)) BK150.out hg (Kd.R_ne HO165.out BK150.out (by decide)))
                          have n1_ := Aside0.mk (blk_grown (g := gb151) (o := .cells #[.int .i64 0, .int .i64 0, .int .i64 0, .int .i64 0] 28 (0, 0)) BK151.out hg (Kd.R_away HO165.out (fun _ hk => hk.1)))
                          have n2_ := Aside0.mk (blk_grown (g := gb160) (o := .cells #[.int .i64 y0, .int .i64 y1, .int .i64 y2, .int .i64 y3] 28 (0, 0)) BK160.out hg (Kd.R_away HO165.out (fun _ hk => hk.2)))
                          have n3_ := Aside0.mk (blk_grown (g := gb175) (o := .cells #[.int .i64 0, .slice none 0 0] 24 (0, 0)) BK175.out hg (Kd.R_ne HO165.out BK175.out (by decide)))
                          have n4_ := Aside0.mk (hb)
                          have n5_ := Aside0.mk (ho)
                          clear BK150
                          clear BK151
                          clear BK160
                          clear BK175
                          clear HB
                          clear HO165
                          have BK150 := n0_
                          have BK151 := n1_
                          have BK160 := n2_
                          have BK175 := n3_
                          have HB := n4_
                          have HO168 := n5_
                          clear n0_ n1_ n2_ n3_ n4_ n5_
                          clear ho hb hg hat
                          refine hK.out _ _ ⟨(blk_cell BK150.out 0).trans rfl, (blk_cell BK150.out 1).trans rfl, (blk_cell BK160.out 0).trans rfl, (blk_cell BK160.out 1).trans rfl, (blk_cell BK160.out 2).trans rfl, (blk_cell BK160.out 3).trans rfl⟩ (fun hHeld => ?_)
                          clear hK K
                          refine norm_ (a' := ?_) ?_ ?_
                          rotate_left
                          ·show Act.put _ (some 74) _ = _
                           simp only [Act.put, List.setIfInBounds_toArray, List.set_cons_zero, List.set_cons_succ, i64_w, i32_w]
                           rfl
                          exact norm_ (by first | (simp only [putAll, Act.put, List.setIfInBounds_toArray, List.set_cons_zero, List.set_cons_succ]; done) | (simp only [putAll, Act.put, List.setIfInBounds_toArray, List.set_cons_zero, List.set_cons_succ]; rfl)) (hJ2_5_10 (v164, v167, gb175) _ ⟨hHeld, (HO168.out), BK150.out, BK151.out, BK160.out, BK175.out, GW175.out, GE175.out, NB150_175.out, NB175_150.out, NB151_175.out, NB175_151.out, NB160_175.out, NB175_160.out, HB.out⟩)
                         ·skip
                          refine Kd.R_lit_step k28 _ 28 ?hg (N := 76) ?hd (xs := ([(⟨y0, y1, y2, y3⟩ : S28)] : List (S28))) (inner := [.int .i64 y0, .int .i64 y1, .int .i64 y2, .int .i64 y3]) (ok := fun _ => True) (okp := fun _ => True) ?hr ?hp (fun _ hk => hk) trivial (Below.refl _ _) (Nat.le_refl _) (by simp) ?_; (case hd => rfl); (case hg => rfl); (case hr => first | (go_simp; done) | (go_simp; rfl)); (case hp => exact (Reps.c4 (show Kd.M k28 _ _ _ (⟨y0, y1, y2, y3⟩ : S28) [.int .i64 y0, .int .i64 y1, .int .i64 y2, .int .i64 y3] from (k28_mkM _ _ _ (⟨y0, y1, y2, y3⟩ : S28) )) (Reps.none _ _)))
                          intro v170 w69 ho70 hb hg_ hnew_
                          clear hg_ hnew_
                          (first | rw [← Ny169.out] at ho70 | (simp only [Int.reduceToNat] at ho70; rw [← Ny169.out] at ho70))
                          have n0_ := Aside0.mk (Kd.R_elder' (HO165.out) (Kd.R_base ho70) hb)
                          have n1_ := Aside0.mk (Kd.R_lower (Kd.R_newB (Kd.R_newB (Kd.R_new' ho70 (Kd.R_lt (HO165.out))) (g := gb151) (o := .cells #[.int .i64 0, .int .i64 0, .int .i64 0, .int .i64 0] 28 (0, 0)) BK151.out) (g := gb160) (o := .cells #[.int .i64 y0, .int .i64 y1, .int .i64 y2, .int .i64 y3] 28 (0, 0)) BK160.out) (below_size HB.out))
                          have n2_ := Aside0.mk (blk_below (g := gb150) (o := .cells #[.int .i64 p, .slice A l.length c] 24 (0, 0)) BK150.out hb)
                          have n3_ := Aside0.mk (blk_below (g := gb151) (o := .cells #[.int .i64 0, .int .i64 0, .int .i64 0, .int .i64 0] 28 (0, 0)) BK151.out hb)
                          have n4_ := Aside0.mk (blk_below (g := gb160) (o := .cells #[.int .i64 y0, .int .i64 y1, .int .i64 y2, .int .i64 y3] 28 (0, 0)) BK160.out hb)
                          have n5_ := Aside0.mk (blk_below (g := gb175) (o := .cells #[.int .i64 0, .slice none 0 0] 24 (0, 0)) BK175.out hb)
                          have n6_ := Aside0.mk (below_step HB.out hb)
                          clear HO165
                          clear BK150
                          clear BK151
                          clear BK160
                          clear BK175
                          clear HB
                          have HO165 := n0_
                          have HO171 := n1_
                          have BK150 := n2_
                          have BK151 := n3_
                          have BK160 := n4_
                          have BK175 := n5_
                          have HB := n6_
                          clear n0_ n1_ n2_ n3_ n4_ n5_ n6_
                          clear hb ho70
                          refine hK.out _ _ ⟨(blk_cell BK150.out 0).trans rfl, (blk_cell BK150.out 1).trans rfl, (blk_cell BK160.out 0).trans rfl, (blk_cell BK160.out 1).trans rfl, (blk_cell BK160.out 2).trans rfl, (blk_cell BK160.out 3).trans rfl⟩ (fun hHeld => ?_)
                          clear hK K
                          refine norm_ (a' := ?_) ?_ ?_
                          rotate_left
                          ·show Act.put _ (some 76) _ = _
                           simp only [Act.put, List.setIfInBounds_toArray, List.set_cons_zero, List.set_cons_succ, i64_w, i32_w]
                           rfl
                          exact norm_ (by first | (simp only [putAll, Act.put, List.setIfInBounds_toArray, List.set_cons_zero, List.set_cons_succ]; done) | (simp only [putAll, Act.put, List.setIfInBounds_toArray, List.set_cons_zero, List.set_cons_succ]; rfl)) (hJ2_7_10 (v164, v170, gb175) _ ⟨hHeld, (Kd.R_mono HO165.out (fun _ hk => ⟨hk.2, ⟨hk.1.1, hk.1.2⟩⟩)), (Kd.R_mono HO171.out (fun _ hk => ⟨hk.1.1.2, ⟨hk.1.2, hk.2⟩⟩)), BK150.out, BK151.out, BK160.out, BK175.out, GW175.out, GE175.out, NB150_175.out, NB175_150.out, NB151_175.out, NB175_151.out, NB160_175.out, NB175_160.out, HB.out⟩)
                       ·skip
                        rintro ⟨v164, v170⟩ w69 ⟨hS_, h0_, h1_, h2_, h3_, h4_, h5_⟩
                        have n0_ : Aside0 (Kd.R k28 28 w69 w.heap.size (fun k_ => some k_ ≠ (v170 : Value).ownBlock ∧ k_ ≠ gb151 ∧ k_ ≠ gb160) v164 y163) := ⟨h0_⟩
                        have n1_ : Aside0 (Kd.R k28 28 w69 w.heap.size (fun k_ => some k_ ≠ (v164 : Value).ownBlock ∧ k_ ≠ gb151 ∧ k_ ≠ gb160) v170 y169) := ⟨h1_⟩
                        have n2_ : Aside0 (w69.heap[gb150]? = some (.cells #[.int .i64 p, .slice A l.length c] 24 (0, 0))) := ⟨h2_⟩
                        have n3_ : Aside0 (w69.heap[gb151]? = some (.cells #[.int .i64 0, .int .i64 0, .int .i64 0, .int .i64 0] 28 (0, 0))) := ⟨h3_⟩
                        have n4_ : Aside0 (w69.heap[gb160]? = some (.cells #[.int .i64 y0, .int .i64 y1, .int .i64 y2, .int .i64 y3] 28 (0, 0))) := ⟨h4_⟩
                        have n5_ : Aside0 (Below w.heap.size w w69) := ⟨h5_⟩
                        clear BK150
                        clear BK151
                        clear BK160
                        clear HB
                        clear h0_ h1_ h2_ h3_ h4_ h5_
                        have HO165 := n0_
                        have HO171 := n1_
                        have BK150 := n2_
                        have BK151 := n3_
                        have BK160 := n4_
                        have HB := n5_
                        clear n0_ n1_ n2_ n3_ n4_ n5_
                        have hHeld : w69.cell? ⟨gb150, 0, none⟩ = some (.int .i64 p) ∧ w69.cell? ⟨gb150, 1, none⟩ = some (.slice A l.length c) ∧ w69.cell? ⟨gb160, 0, none⟩ = some (.int .i64 y0) ∧ w69.cell? ⟨gb160, 1, none⟩ = some (.int .i64 y1) ∧ w69.cell? ⟨gb160, 2, none⟩ = some (.int .i64 y2) ∧ w69.cell? ⟨gb160, 3, none⟩ = some (.int .i64 y3) := hS_
                        refine norm_ (a' := ?_) ?_ ?_
                        rotate_left
                        ·simp only [putAll, Act.put, List.setIfInBounds_toArray, List.set_cons_zero, List.set_cons_succ]
                         rfl
                        refine two_ (i := 5) (j := 10) (Ni := some 74) (Nj := some 8) #[true, true, true, true, true, true, true, true, false, false, false, false] #[true, true, true, true, true, false, true, true, false, false, true, false] rfl rfl rfl rfl (two_of HT_.out (by kernel_rfl)) (by decide) (by decide) (fun K hK => ?_) (fun K hK => ?_)
                        ·skip
                         refine Kd.R_append_rows_step k28 (w0 := w) w.heap.size (by rfl) (.tmp 71) (.tmp 73) 22 28 (.agg #[(.int .i64 0), (.int .i64 0), (.int .i64 0), (.int .i64 0)]) 32 rfl Try.underlying22 info28 rfl (by decide) (by omega) v164 y163 l _ _ _ (fun k_ => some k_ ≠ (v170 : Value).ownBlock ∧ k_ ≠ gb151 ∧ k_ ≠ gb160) (fun _ => False) rfl rfl ?aO ?aR (fun _ _ h => h) (fun _ h => h.elim) ?aF ?aB ?aS ?aL ?_
                         (case aR => repeat (first | exact (Kd.C_below HR0_1.out HB.out) | (with_reducible refine Kd.C_alloc ?_ _) | (with_reducible refine Kd.C_drewN ?_ _) | (with_reducible refine Kd.C_drew ?_)))
                         (case aB => exact HB.out)
                         (case aF => exact (fun k_ hk => ⟨Kd.fresh' (Kd.R_lt (HO171.out)) k_ hk, Kd.freshB (g := gb151) (o := .cells #[.int .i64 0, .int .i64 0, .int .i64 0, .int .i64 0] 28 (0, 0)) BK151.out k_ hk, Kd.freshB (g := gb160) (o := .cells #[.int .i64 y0, .int .i64 y1, .int .i64 y2, .int .i64 y3] 28 (0, 0)) BK160.out k_ hk⟩))
                         (case aO => exact (HO165.out))
                         (case aS => exact (below_size HB.out))
                         (case aL => have := LMc60.out; omega)
                         intro v167 w70 ho hb hg hat
                         rw [← Ny166.out] at ho
                         have n0_ := Aside0.mk (blk_grown (g := gb150) (o := .cells #[.int .i64 p, .slice A l.length c] 24 (0, 0)) BK150.out hg (Kd.R_ne HO165.out BK150.out (by decide)))
                         have n1_ := Aside0.mk (blk_grown (g := gb151) (o := .cells #[.int .i64 0, .int .i64 0, .int .i64 0, .int .i64 0] 28 (0, 0)) BK151.out hg (Kd.R_away HO165.out (fun _ hk => hk.2.1)))
                         have n2_ := Aside0.mk (blk_grown (g := gb160) (o := .cells #[.int .i64 y0, .int .i64 y1, .int .i64 y2, .int .i64 y3] 28 (0, 0)) BK160.out hg (Kd.R_away HO165.out (fun _ hk => hk.2.2)))
                         have n3_ := Aside0.mk (Kd.R_after (ok := (fun k_ => k_ ≠ gb151 ∧ k_ ≠ gb160)) (Kd.R_mono HO171.out (fun _ hk => ⟨⟨hk.2.1, hk.2.2⟩, hk.1⟩)) hg hat)
                         have n4_ := Aside0.mk (hb)
                         have n5_ := Aside0.mk (ho)
                         clear BK150
                         clear BK151
                         clear BK160
                         clear HO171
                         clear HB
                         clear HO165
                         have BK150 := n0_
                         have BK151 := n1_
                         have BK160 := n2_
                         have HO171 := n3_
                         have HB := n4_
                         have HO168 := n5_
                         clear n0_ n1_ n2_ n3_ n4_ n5_
                         clear ho hb hg hat
                         refine hK.out _ _ ⟨(blk_cell BK150.out 0).trans rfl, (blk_cell BK150.out 1).trans rfl, (blk_cell BK160.out 0).trans rfl, (blk_cell BK160.out 1).trans rfl, (blk_cell BK160.out 2).trans rfl, (blk_cell BK160.out 3).trans rfl⟩ (fun hHeld => ?_)
                         clear hK K
                         refine norm_ (a' := ?_) ?_ ?_
                         rotate_left
                         ·show Act.put _ (some 74) _ = _
                          simp only [Act.put, List.setIfInBounds_toArray, List.set_cons_zero, List.set_cons_succ, i64_w, i32_w]
                          rfl
                         exact norm_ (by first | (simp only [putAll, Act.put, List.setIfInBounds_toArray, List.set_cons_zero, List.set_cons_succ]; done) | (simp only [putAll, Act.put, List.setIfInBounds_toArray, List.set_cons_zero, List.set_cons_succ]; rfl)) (hJ2_5_7 (v164, v167, v170) _ ⟨hHeld, (HO168.out), (Kd.R_mono HO171.out (fun _ hk => ⟨hk.2, ⟨hk.1.1, hk.1.2⟩⟩)), BK150.out, BK151.out, BK160.out, HB.out⟩)
                        ·skip
                         refine box_step ?hg (N := 8) ?hd (cs := #[.int .i64 0, .slice none 0 0]) (t := 24) ?hr ?_; (case hd => rfl); (case hg => rfl); (case hr => first | (go_simp; done) | (go_simp; rfl))
                         intro gb175 hg w70 hbox hb
                         have n0_ := Aside0.mk (Kd.R_below (HO165.out) hb)
                         have n1_ := Aside0.mk (Kd.R_below (HO171.out) hb)
                         have n2_ := Aside0.mk (blk_below (g := gb150) (o := .cells #[.int .i64 p, .slice A l.length c] 24 (0, 0)) BK150.out hb)
                         have n3_ := Aside0.mk (blk_below (g := gb151) (o := .cells #[.int .i64 0, .int .i64 0, .int .i64 0, .int .i64 0] 28 (0, 0)) BK151.out hb)
                         have n4_ := Aside0.mk (blk_below (g := gb160) (o := .cells #[.int .i64 y0, .int .i64 y1, .int .i64 y2, .int .i64 y3] 28 (0, 0)) BK160.out hb)
                         have n5_ := Aside0.mk (below_step HB.out hb)
                         have n6_ := Aside0.mk (hbox)
                         have n7_ := Aside0.mk ((by rw [hg]; exact (below_size HB.out) : w.heap.size ≤ gb175))
                         have n8_ := Aside0.mk ((by rw [hg]; exact (below_size HB.out) : w.heap.size ≤ gb175))
                         have n9_ := Aside0.mk ((by rw [hg]; exact Nat.ne_of_lt (blk_lt (g := gb150) (o := .cells #[.int .i64 p, .slice A l.length c] 24 (0, 0)) BK150.out) : gb150 ≠ gb175))
                         have n10_ := Aside0.mk ((by rw [hg]; exact Nat.ne_of_gt (blk_lt (g := gb150) (o := .cells #[.int .i64 p, .slice A l.length c] 24 (0, 0)) BK150.out) : gb175 ≠ gb150))
                         have n11_ := Aside0.mk ((by rw [hg]; exact Nat.ne_of_lt (blk_lt (g := gb151) (o := .cells #[.int .i64 0, .int .i64 0, .int .i64 0, .int .i64 0] 28 (0, 0)) BK151.out) : gb151 ≠ gb175))
                         have n12_ := Aside0.mk ((by rw [hg]; exact Nat.ne_of_gt (blk_lt (g := gb151) (o := .cells #[.int .i64 0, .int .i64 0, .int .i64 0, .int .i64 0] 28 (0, 0)) BK151.out) : gb175 ≠ gb151))
                         have n13_ := Aside0.mk ((by rw [hg]; exact Nat.ne_of_lt (blk_lt (g := gb160) (o := .cells #[.int .i64 y0, .int .i64 y1, .int .i64 y2, .int .i64 y3] 28 (0, 0)) BK160.out) : gb160 ≠ gb175))
                         have n14_ := Aside0.mk ((by rw [hg]; exact Nat.ne_of_gt (blk_lt (g := gb160) (o := .cells #[.int .i64 y0, .int .i64 y1, .int .i64 y2, .int .i64 y3] 28 (0, 0)) BK160.out) : gb175 ≠ gb160))
                         clear HO165
                         clear HO171
                         clear BK150
                         clear BK151
                         clear BK160
                         clear HB
                         have HO165 := n0_
                         have HO171 := n1_
                         have BK150 := n2_
                         have BK151 := n3_
                         have BK160 := n4_
                         have HB := n5_
                         have BK175 := n6_
                         have GW175 := n7_
                         have GE175 := n8_
                         have NB150_175 := n9_
                         have NB175_150 := n10_
                         have NB151_175 := n11_
                         have NB175_151 := n12_
                         have NB160_175 := n13_
                         have NB175_160 := n14_
                         clear n0_ n1_ n2_ n3_ n4_ n5_ n6_ n7_ n8_ n9_ n10_ n11_ n12_ n13_ n14_
                         clear hb hbox hg
                         refine hK.out _ _ ⟨(blk_cell BK150.out 0).trans rfl, (blk_cell BK150.out 1).trans rfl, (blk_cell BK160.out 0).trans rfl, (blk_cell BK160.out 1).trans rfl, (blk_cell BK160.out 2).trans rfl, (blk_cell BK160.out 3).trans rfl⟩ (fun hHeld => ?_)
                         clear hK K
                         refine norm_ (a' := ?_) ?_ ?_
                         rotate_left
                         ·show Act.put _ (some 8) _ = _
                          simp only [Act.put, List.setIfInBounds_toArray, List.set_cons_zero, List.set_cons_succ, i64_w, i32_w]
                          rfl
                         exact norm_ (by first | (simp only [putAll, Act.put, List.setIfInBounds_toArray, List.set_cons_zero, List.set_cons_succ]; done) | (simp only [putAll, Act.put, List.setIfInBounds_toArray, List.set_cons_zero, List.set_cons_succ]; rfl)) (hJ2_7_10 (v164, v170, gb175) _ ⟨hHeld, (HO165.out), (HO171.out), BK150.out, BK151.out, BK160.out, BK175.out, GW175.out, GE175.out, NB150_175.out, NB175_150.out, NB151_175.out, NB175_151.out, NB160_175.out, NB175_160.out, HB.out⟩)
                      ·skip
                       rintro ⟨v164, v167⟩ w68 ⟨hS_, h0_, h1_, h2_, h3_, h4_⟩
                       have n0_ : Aside0 (Kd.R k28 28 w68 w.heap.size (fun k_ => k_ ≠ gb151 ∧ k_ ≠ gb160) v167 y166) := ⟨h0_⟩
                       have n1_ : Aside0 (w68.heap[gb150]? = some (.cells #[.int .i64 p, .slice A l.length c] 24 (0, 0))) := ⟨h1_⟩
                       have n2_ : Aside0 (w68.heap[gb151]? = some (.cells #[.int .i64 0, .int .i64 0, .int .i64 0, .int .i64 0] 28 (0, 0))) := ⟨h2_⟩
                       have n3_ : Aside0 (w68.heap[gb160]? = some (.cells #[.int .i64 y0, .int .i64 y1, .int .i64 y2, .int .i64 y3] 28 (0, 0))) := ⟨h3_⟩
                       have n4_ : Aside0 (Below w.heap.size w w68) := ⟨h4_⟩
                       clear BK150
                       clear BK151
                       clear BK160
                       clear HB
                       clear h0_ h1_ h2_ h3_ h4_
                       have HO168 := n0_
                       have BK150 := n1_
                       have BK151 := n2_
                       have BK160 := n3_
                       have HB := n4_
                       clear n0_ n1_ n2_ n3_ n4_
                       have hHeld : w68.cell? ⟨gb150, 0, none⟩ = some (.int .i64 p) ∧ w68.cell? ⟨gb150, 1, none⟩ = some (.slice A l.length c) ∧ w68.cell? ⟨gb160, 0, none⟩ = some (.int .i64 y0) ∧ w68.cell? ⟨gb160, 1, none⟩ = some (.int .i64 y1) ∧ w68.cell? ⟨gb160, 2, none⟩ = some (.int .i64 y2) ∧ w68.cell? ⟨gb160, 3, none⟩ = some (.int .i64 y3) := hS_
                       refine norm_ (a' := ?_) ?_ ?_
                       rotate_left
                       ·simp only [putAll, Act.put, List.setIfInBounds_toArray, List.set_cons_zero, List.set_cons_succ]
                        rfl
                       refine two_ (i := 7) (j := 10) (Ni := some 76) (Nj := some 8) #[true, true, true, true, true, true, true, true, false, false, false, false] #[true, true, true, true, true, true, true, false, false, false, true, false] rfl rfl rfl rfl (two_of HT_.out (by kernel_rfl)) (by decide) (by decide) (fun K hK => ?_) (fun K hK => ?_)
                       ·skip
                        refine Kd.R_lit_step k28 _ 28 ?hg (N := 76) ?hd (xs := ([(⟨y0, y1, y2, y3⟩ : S28)] : List (S28))) (inner := [.int .i64 y0, .int .i64 y1, .int .i64 y2, .int .i64 y3]) (ok := fun _ => True) (okp := fun _ => True) ?hr ?hp (fun _ hk => hk) trivial (Below.refl _ _) (Nat.le_refl _) (by simp) ?_; (case hd => rfl); (case hg => rfl); (case hr => first | (go_simp; done) | (go_simp; rfl)); (case hp => exact (Reps.c4 (show Kd.M k28 _ _ _ (⟨y0, y1, y2, y3⟩ : S28) [.int .i64 y0, .int .i64 y1, .int .i64 y2, .int .i64 y3] from (k28_mkM _ _ _ (⟨y0, y1, y2, y3⟩ : S28) )) (Reps.none _ _)))
                        intro v170 w69 ho70 hb hg_ hnew_
                        clear hg_ hnew_
                        (first | rw [← Ny169.out] at ho70 | (simp only [Int.reduceToNat] at ho70; rw [← Ny169.out] at ho70))
                        have n0_ := Aside0.mk (Kd.R_elder' (HO168.out) (Kd.R_base ho70) hb)
                        have n1_ := Aside0.mk (Kd.R_lower (Kd.R_newB (Kd.R_newB (Kd.R_new' ho70 (Kd.R_lt (HO168.out))) (g := gb151) (o := .cells #[.int .i64 0, .int .i64 0, .int .i64 0, .int .i64 0] 28 (0, 0)) BK151.out) (g := gb160) (o := .cells #[.int .i64 y0, .int .i64 y1, .int .i64 y2, .int .i64 y3] 28 (0, 0)) BK160.out) (below_size HB.out))
                        have n2_ := Aside0.mk (blk_below (g := gb150) (o := .cells #[.int .i64 p, .slice A l.length c] 24 (0, 0)) BK150.out hb)
                        have n3_ := Aside0.mk (blk_below (g := gb151) (o := .cells #[.int .i64 0, .int .i64 0, .int .i64 0, .int .i64 0] 28 (0, 0)) BK151.out hb)
                        have n4_ := Aside0.mk (blk_below (g := gb160) (o := .cells #[.int .i64 y0, .int .i64 y1, .int .i64 y2, .int .i64 y3] 28 (0, 0)) BK160.out hb)
                        have n5_ := Aside0.mk (below_step HB.out hb)
                        clear HO168
                        clear BK150
                        clear BK151
                        clear BK160
                        clear HB
                        have HO168 := n0_
                        have HO171 := n1_
                        have BK150 := n2_
                        have BK151 := n3_
                        have BK160 := n4_
                        have HB := n5_
                        clear n0_ n1_ n2_ n3_ n4_ n5_
                        clear hb ho70
                        refine hK.out _ _ ⟨(blk_cell BK150.out 0).trans rfl, (blk_cell BK150.out 1).trans rfl, (blk_cell BK160.out 0).trans rfl, (blk_cell BK160.out 1).trans rfl, (blk_cell BK160.out 2).trans rfl, (blk_cell BK160.out 3).trans rfl⟩ (fun hHeld => ?_)
                        clear hK K
                        refine norm_ (a' := ?_) ?_ ?_
                        rotate_left
                        ·show Act.put _ (some 76) _ = _
                         simp only [Act.put, List.setIfInBounds_toArray, List.set_cons_zero, List.set_cons_succ, i64_w, i32_w]
                         rfl
                        exact norm_ (by first | (simp only [putAll, Act.put, List.setIfInBounds_toArray, List.set_cons_zero, List.set_cons_succ]; done) | (simp only [putAll, Act.put, List.setIfInBounds_toArray, List.set_cons_zero, List.set_cons_succ]; rfl)) (hJ2_5_7 (v164, v167, v170) _ ⟨hHeld, (Kd.R_mono HO168.out (fun _ hk => ⟨hk.2, ⟨hk.1.1, hk.1.2⟩⟩)), (Kd.R_mono HO171.out (fun _ hk => ⟨hk.1.1.2, ⟨hk.1.2, hk.2⟩⟩)), BK150.out, BK151.out, BK160.out, HB.out⟩)
                       ·skip
                        refine box_step ?hg (N := 8) ?hd (cs := #[.int .i64 0, .slice none 0 0]) (t := 24) ?hr ?_; (case hd => rfl); (case hg => rfl); (case hr => first | (go_simp; done) | (go_simp; rfl))
                        intro gb175 hg w69 hbox hb
                        have n0_ := Aside0.mk (Kd.R_below (HO168.out) hb)
                        have n1_ := Aside0.mk (blk_below (g := gb150) (o := .cells #[.int .i64 p, .slice A l.length c] 24 (0, 0)) BK150.out hb)
                        have n2_ := Aside0.mk (blk_below (g := gb151) (o := .cells #[.int .i64 0, .int .i64 0, .int .i64 0, .int .i64 0] 28 (0, 0)) BK151.out hb)
                        have n3_ := Aside0.mk (blk_below (g := gb160) (o := .cells #[.int .i64 y0, .int .i64 y1, .int .i64 y2, .int .i64 y3] 28 (0, 0)) BK160.out hb)
                        have n4_ := Aside0.mk (below_step HB.out hb)
                        have n5_ := Aside0.mk (hbox)
                        have n6_ := Aside0.mk ((by rw [hg]; exact (below_size HB.out) : w.heap.size ≤ gb175))
                        have n7_ := Aside0.mk ((by rw [hg]; exact (below_size HB.out) : w.heap.size ≤ gb175))
                        have n8_ := Aside0.mk ((by rw [hg]; exact Nat.ne_of_lt (blk_lt (g := gb150) (o := .cells #[.int .i64 p, .slice A l.length c] 24 (0, 0)) BK150.out) : gb150 ≠ gb175))
                        have n9_ := Aside0.mk ((by rw [hg]; exact Nat.ne_of_gt (blk_lt (g := gb150) (o := .cells #[.int .i64 p, .slice A l.length c] 24 (0, 0)) BK150.out) : gb175 ≠ gb150))
                        have n10_ := Aside0.mk ((by rw [hg]; exact Nat.ne_of_lt (blk_lt (g := gb151) (o := .cells #[.int .i64 0, .int .i64 0, .int .i64 0, .int .i64 0] 28 (0, 0)) BK151.out) : gb151 ≠ gb175))
                        have n11_ := Aside0.mk ((by rw [hg]; exact Nat.ne_of_gt (blk_lt (g := gb151) (o := .cells #[.int .i64 0, .int .i64 0, .int .i64 0, .int .i64 0] 28 (0, 0)) BK151.out) : gb175 ≠ gb151))
                        have n12_ := Aside0.mk ((by rw [hg]; exact Nat.ne_of_lt (blk_lt (g := gb160) (o := .cells #[.int .i64 y0, .int .i64 y1, .int .i64 y2, .int .i64 y3] 28 (0, 0)) BK160.out) : gb160 ≠ gb175))
                        have n13_ := Aside0.mk ((by rw [hg]; exact Nat.ne_of_gt (blk_lt (g := gb160) (o := .cells #[.int .i64 y0, .int .i64 y1, .int .i64 y2, .int .i64 y3] 28 (0, 0)) BK160.out) : gb175 ≠ gb160))
                        clear HO168
                        clear BK150
                        clear BK151
                        clear BK160
                        clear HB
                        have HO168 := n0_
                        have BK150 := n1_
                        have BK151 := n2_
                        have BK160 := n3_
                        have HB := n4_
                        have BK175 := n5_
                        have GW175 := n6_
                        have GE175 := n7_
                        have NB150_175 := n8_
                        have NB175_150 := n9_
                        have NB151_175 := n10_
                        have NB175_151 := n11_
                        have NB160_175 := n12_
                        have NB175_160 := n13_
                        clear n0_ n1_ n2_ n3_ n4_ n5_ n6_ n7_ n8_ n9_ n10_ n11_ n12_ n13_
                        clear hb hbox hg
                        refine hK.out _ _ ⟨(blk_cell BK150.out 0).trans rfl, (blk_cell BK150.out 1).trans rfl, (blk_cell BK160.out 0).trans rfl, (blk_cell BK160.out 1).trans rfl, (blk_cell BK160.out 2).trans rfl, (blk_cell BK160.out 3).trans rfl⟩ (fun hHeld => ?_)
                        clear hK K
                        refine norm_ (a' := ?_) ?_ ?_
                        rotate_left
                        ·show Act.put _ (some 8) _ = _
                         simp only [Act.put, List.setIfInBounds_toArray, List.set_cons_zero, List.set_cons_succ, i64_w, i32_w]
                         rfl
                        exact norm_ (by first | (simp only [putAll, Act.put, List.setIfInBounds_toArray, List.set_cons_zero, List.set_cons_succ]; done) | (simp only [putAll, Act.put, List.setIfInBounds_toArray, List.set_cons_zero, List.set_cons_succ]; rfl)) (hJ2_5_10 (v164, v167, gb175) _ ⟨hHeld, (HO168.out), BK150.out, BK151.out, BK160.out, BK175.out, GW175.out, GE175.out, NB150_175.out, NB175_150.out, NB151_175.out, NB175_151.out, NB160_175.out, NB175_160.out, HB.out⟩)
                     ·skip
                      rintro ⟨v164, v170, gb175⟩ w70 ⟨hS_, h0_, h1_, h2_, h3_, h4_, h5_, h6_, h7_, h8_, h9_, h10_, h11_, h12_, h13_, h14_⟩
                      have n0_ : Aside0 (Kd.R k28 28 w70 w.heap.size (fun k_ => some k_ ≠ (v170 : Value).ownBlock ∧ k_ ≠ gb151 ∧ k_ ≠ gb160) v164 y163) := ⟨h0_⟩
                      have n1_ : Aside0 (Kd.R k28 28 w70 w.heap.size (fun k_ => some k_ ≠ (v164 : Value).ownBlock ∧ k_ ≠ gb151 ∧ k_ ≠ gb160) v170 y169) := ⟨h1_⟩
                      have n2_ : Aside0 (w70.heap[gb150]? = some (.cells #[.int .i64 p, .slice A l.length c] 24 (0, 0))) := ⟨h2_⟩
                      have n3_ : Aside0 (w70.heap[gb151]? = some (.cells #[.int .i64 0, .int .i64 0, .int .i64 0, .int .i64 0] 28 (0, 0))) := ⟨h3_⟩
                      have n4_ : Aside0 (w70.heap[gb160]? = some (.cells #[.int .i64 y0, .int .i64 y1, .int .i64 y2, .int .i64 y3] 28 (0, 0))) := ⟨h4_⟩
                      have n5_ : Aside0 (w70.heap[gb175]? = some (.cells #[.int .i64 0, .slice none 0 0] 24 (0, 0))) := ⟨h5_⟩
                      have n6_ : Aside0 (w.heap.size ≤ gb175) := ⟨h6_⟩
                      have n7_ : Aside0 (w.heap.size ≤ gb175) := ⟨h7_⟩
                      have n8_ : Aside0 (gb150 ≠ gb175) := ⟨h8_⟩
                      have n9_ : Aside0 (gb175 ≠ gb150) := ⟨h9_⟩
                      have n10_ : Aside0 (gb151 ≠ gb175) := ⟨h10_⟩
                      have n11_ : Aside0 (gb175 ≠ gb151) := ⟨h11_⟩
                      have n12_ : Aside0 (gb160 ≠ gb175) := ⟨h12_⟩
                      have n13_ : Aside0 (gb175 ≠ gb160) := ⟨h13_⟩
                      have n14_ : Aside0 (Below w.heap.size w w70) := ⟨h14_⟩
                      clear BK150
                      clear BK151
                      clear BK160
                      clear HB
                      clear h0_ h1_ h2_ h3_ h4_ h5_ h6_ h7_ h8_ h9_ h10_ h11_ h12_ h13_ h14_
                      have HO165 := n0_
                      have HO171 := n1_
                      have BK150 := n2_
                      have BK151 := n3_
                      have BK160 := n4_
                      have BK175 := n5_
                      have GW175 := n6_
                      have GE175 := n7_
                      have NB150_175 := n8_
                      have NB175_150 := n9_
                      have NB151_175 := n10_
                      have NB175_151 := n11_
                      have NB160_175 := n12_
                      have NB175_160 := n13_
                      have HB := n14_
                      clear n0_ n1_ n2_ n3_ n4_ n5_ n6_ n7_ n8_ n9_ n10_ n11_ n12_ n13_ n14_
                      have hHeld : w70.cell? ⟨gb150, 0, none⟩ = some (.int .i64 p) ∧ w70.cell? ⟨gb150, 1, none⟩ = some (.slice A l.length c) ∧ w70.cell? ⟨gb160, 0, none⟩ = some (.int .i64 y0) ∧ w70.cell? ⟨gb160, 1, none⟩ = some (.int .i64 y1) ∧ w70.cell? ⟨gb160, 2, none⟩ = some (.int .i64 y2) ∧ w70.cell? ⟨gb160, 3, none⟩ = some (.int .i64 y3) := hS_
                      refine norm_ (a' := ?_) ?_ ?_
                      rotate_left
                      ·simp only [putAll, Act.put, List.setIfInBounds_toArray, List.set_cons_zero, List.set_cons_succ]
                       rfl
                      refine one_ (i := 5) (N := some 74) #[true, true, true, true, true, true, true, true, false, false, true, false] rfl rfl (one_of HT_.out (by kernel_rfl)) (by decide) (fun K hK => ?_)
                      refine Kd.R_append_rows_step k28 (w0 := w) w.heap.size (by rfl) (.tmp 71) (.tmp 73) 22 28 (.agg #[(.int .i64 0), (.int .i64 0), (.int .i64 0), (.int .i64 0)]) 32 rfl Try.underlying22 info28 rfl (by decide) (by omega) v164 y163 l _ _ _ (fun k_ => some k_ ≠ (v170 : Value).ownBlock ∧ k_ ≠ gb151 ∧ k_ ≠ gb160) (fun _ => False) rfl rfl ?aO ?aR (fun _ _ h => h) (fun _ h => h.elim) ?aF ?aB ?aS ?aL ?_
                      (case aR => repeat (first | exact (Kd.C_below HR0_1.out HB.out) | (with_reducible refine Kd.C_alloc ?_ _) | (with_reducible refine Kd.C_drewN ?_ _) | (with_reducible refine Kd.C_drew ?_)))
                      (case aB => exact HB.out)
                      (case aF => exact (fun k_ hk => ⟨Kd.fresh' (Kd.R_lt (HO171.out)) k_ hk, Kd.freshB (g := gb151) (o := .cells #[.int .i64 0, .int .i64 0, .int .i64 0, .int .i64 0] 28 (0, 0)) BK151.out k_ hk, Kd.freshB (g := gb160) (o := .cells #[.int .i64 y0, .int .i64 y1, .int .i64 y2, .int .i64 y3] 28 (0, 0)) BK160.out k_ hk⟩))
                      (case aO => exact (HO165.out))
                      (case aS => exact (below_size HB.out))
                      (case aL => have := LMc60.out; omega)
                      intro v167 w71 ho hb hg hat
                      rw [← Ny166.out] at ho
                      have n0_ := Aside0.mk (blk_grown (g := gb150) (o := .cells #[.int .i64 p, .slice A l.length c] 24 (0, 0)) BK150.out hg (Kd.R_ne HO165.out BK150.out (by decide)))
                      have n1_ := Aside0.mk (blk_grown (g := gb151) (o := .cells #[.int .i64 0, .int .i64 0, .int .i64 0, .int .i64 0] 28 (0, 0)) BK151.out hg (Kd.R_away HO165.out (fun _ hk => hk.2.1)))
                      have n2_ := Aside0.mk (blk_grown (g := gb160) (o := .cells #[.int .i64 y0, .int .i64 y1, .int .i64 y2, .int .i64 y3] 28 (0, 0)) BK160.out hg (Kd.R_away HO165.out (fun _ hk => hk.2.2)))
                      have n3_ := Aside0.mk (Kd.R_after (ok := (fun k_ => k_ ≠ gb151 ∧ k_ ≠ gb160)) (Kd.R_mono HO171.out (fun _ hk => ⟨⟨hk.2.1, hk.2.2⟩, hk.1⟩)) hg hat)
                      have n4_ := Aside0.mk (blk_grown (g := gb175) (o := .cells #[.int .i64 0, .slice none 0 0] 24 (0, 0)) BK175.out hg (Kd.R_ne HO165.out BK175.out (by decide)))
                      have n5_ := Aside0.mk (hb)
                      have n6_ := Aside0.mk (ho)
                      clear BK150
                      clear BK151
                      clear BK160
                      clear HO171
                      clear BK175
                      clear HB
                      clear HO165
                      have BK150 := n0_
                      have BK151 := n1_
                      have BK160 := n2_
                      have HO171 := n3_
                      have BK175 := n4_
                      have HB := n5_
                      have HO168 := n6_
                      clear n0_ n1_ n2_ n3_ n4_ n5_ n6_
                      clear ho hb hg hat
                      refine hK.out _ _ ⟨(blk_cell BK150.out 0).trans rfl, (blk_cell BK150.out 1).trans rfl, (blk_cell BK160.out 0).trans rfl, (blk_cell BK160.out 1).trans rfl, (blk_cell BK160.out 2).trans rfl, (blk_cell BK160.out 3).trans rfl⟩ (fun hHeld => ?_)
                      clear hK K
                      refine norm_ (a' := ?_) ?_ ?_
                      rotate_left
                      ·show Act.put _ (some 74) _ = _
                       simp only [Act.put, List.setIfInBounds_toArray, List.set_cons_zero, List.set_cons_succ, i64_w, i32_w]
                       rfl
                      exact norm_ (by first | (simp only [putAll, Act.put, List.setIfInBounds_toArray, List.set_cons_zero, List.set_cons_succ]; done) | (simp only [putAll, Act.put, List.setIfInBounds_toArray, List.set_cons_zero, List.set_cons_succ]; rfl)) (hJ2_5_7_10 (v164, v167, v170, gb175) _ ⟨hHeld, (HO168.out), (Kd.R_mono HO171.out (fun _ hk => ⟨hk.2, ⟨hk.1.1, hk.1.2⟩⟩)), BK150.out, BK151.out, BK160.out, BK175.out, GW175.out, GE175.out, NB150_175.out, NB175_150.out, NB151_175.out, NB175_151.out, NB160_175.out, NB175_160.out, HB.out⟩)
                    ·skip
                     rintro ⟨v164, v167, gb175⟩ w69 ⟨hS_, h0_, h1_, h2_, h3_, h4_, h5_, h6_, h7_, h8_, h9_, h10_, h11_, h12_, h13_⟩
                     have n0_ : Aside0 (Kd.R k28 28 w69 w.heap.size (fun k_ => k_ ≠ gb151 ∧ k_ ≠ gb160) v167 y166) := ⟨h0_⟩
                     have n1_ : Aside0 (w69.heap[gb150]? = some (.cells #[.int .i64 p, .slice A l.length c] 24 (0, 0))) := ⟨h1_⟩
                     have n2_ : Aside0 (w69.heap[gb151]? = some (.cells #[.int .i64 0, .int .i64 0, .int .i64 0, .int .i64 0] 28 (0, 0))) := ⟨h2_⟩
                     have n3_ : Aside0 (w69.heap[gb160]? = some (.cells #[.int .i64 y0, .int .i64 y1, .int .i64 y2, .int .i64 y3] 28 (0, 0))) := ⟨h3_⟩
                     have n4_ : Aside0 (w69.heap[gb175]? = some (.cells #[.int .i64 0, .slice none 0 0] 24 (0, 0))) := ⟨h4_⟩
                     have n5_ : Aside0 (w.heap.size ≤ gb175) := ⟨h5_⟩
                     have n6_ : Aside0 (w.heap.size ≤ gb175) := ⟨h6_⟩
                     have n7_ : Aside0 (gb150 ≠ gb175) := ⟨h7_⟩
                     have n8_ : Aside0 (gb175 ≠ gb150) := ⟨h8_⟩
                     have n9_ : Aside0 (gb151 ≠ gb175) := ⟨h9_⟩
                     have n10_ : Aside0 (gb175 ≠ gb151) := ⟨h10_⟩
                     have n11_ : Aside0 (gb160 ≠ gb175) := ⟨h11_⟩
                     have n12_ : Aside0 (gb175 ≠ gb160) := ⟨h12_⟩
                     have n13_ : Aside0 (Below w.heap.size w w69) := ⟨h13_⟩
                     clear BK150
                     clear BK151
                     clear BK160
                     clear HB
                     clear h0_ h1_ h2_ h3_ h4_ h5_ h6_ h7_ h8_ h9_ h10_ h11_ h12_ h13_
                     have HO168 := n0_
                     have BK150 := n1_
                     have BK151 := n2_
                     have BK160 := n3_
                     have BK175 := n4_
                     have GW175 := n5_
                     have GE175 := n6_
                     have NB150_175 := n7_
                     have NB175_150 := n8_
                     have NB151_175 := n9_
                     have NB175_151 := n10_
                     have NB160_175 := n11_
                     have NB175_160 := n12_
                     have HB := n13_
                     clear n0_ n1_ n2_ n3_ n4_ n5_ n6_ n7_ n8_ n9_ n10_ n11_ n12_ n13_
                     have hHeld : w69.cell? ⟨gb150, 0, none⟩ = some (.int .i64 p) ∧ w69.cell? ⟨gb150, 1, none⟩ = some (.slice A l.length c) ∧ w69.cell? ⟨gb160, 0, none⟩ = some (.int .i64 y0) ∧ w69.cell? ⟨gb160, 1, none⟩ = some (.int .i64 y1) ∧ w69.cell? ⟨gb160, 2, none⟩ = some (.int .i64 y2) ∧ w69.cell? ⟨gb160, 3, none⟩ = some (.int .i64 y3) := hS_
                     refine norm_ (a' := ?_) ?_ ?_
                     rotate_left
                     ·simp only [putAll, Act.put, List.setIfInBounds_toArray, List.set_cons_zero, List.set_cons_succ]
                      rfl
                     refine one_ (i := 7) (N := some 76) #[true, true, true, true, true, true, true, true, false, false, true, false] rfl rfl (one_of HT_.out (by kernel_rfl)) (by decide) (fun K hK => ?_)
                     refine Kd.R_lit_step k28 _ 28 ?hg (N := 76) ?hd (xs := ([(⟨y0, y1, y2, y3⟩ : S28)] : List (S28))) (inner := [.int .i64 y0, .int .i64 y1, .int .i64 y2, .int .i64 y3]) (ok := fun _ => True) (okp := fun _ => True) ?hr ?hp (fun _ hk => hk) trivial (Below.refl _ _) (Nat.le_refl _) (by simp) ?_; (case hd => rfl); (case hg => rfl); (case hr => first | (go_simp; done) | (go_simp; rfl)); (case hp => exact (Reps.c4 (show Kd.M k28 _ _ _ (⟨y0, y1, y2, y3⟩ : S28) [.int .i64 y0, .int .i64 y1, .int .i64 y2, .int .i64 y3] from (k28_mkM _ _ _ (⟨y0, y1, y2, y3⟩ : S28) )) (Reps.none _ _)))
                     intro v170 w70 ho71 hb hg_ hnew_
                     clear hg_ hnew_
                     (first | rw [← Ny169.out] at ho71 | (simp only [Int.reduceToNat] at ho71; rw [← Ny169.out] at ho71))
                     have n0_ := Aside0.mk (Kd.R_elder' (HO168.out) (Kd.R_base ho71) hb)
                     have n1_ := Aside0.mk (Kd.R_lower (Kd.R_newB (Kd.R_newB (Kd.R_new' ho71 (Kd.R_lt (HO168.out))) (g := gb151) (o := .cells #[.int .i64 0, .int .i64 0, .int .i64 0, .int .i64 0] 28 (0, 0)) BK151.out) (g := gb160) (o := .cells #[.int .i64 y0, .int .i64 y1, .int .i64 y2, .int .i64 y3] 28 (0, 0)) BK160.out) (below_size HB.out))
                     have n2_ := Aside0.mk (blk_below (g := gb150) (o := .cells #[.int .i64 p, .slice A l.length c] 24 (0, 0)) BK150.out hb)
                     have n3_ := Aside0.mk (blk_below (g := gb151) (o := .cells #[.int .i64 0, .int .i64 0, .int .i64 0, .int .i64 0] 28 (0, 0)) BK151.out hb)
                     have n4_ := Aside0.mk (blk_below (g := gb160) (o := .cells #[.int .i64 y0, .int .i64 y1, .int .i64 y2, .int .i64 y3] 28 (0, 0)) BK160.out hb)
                     have n5_ := Aside0.mk (blk_below (g := gb175) (o := .cells #[.int .i64 0, .slice none 0 0] 24 (0, 0)) BK175.out hb)
                     have n6_ := Aside0.mk (below_step HB.out hb)
                     clear HO168
                     clear BK150
                     clear BK151
                     clear BK160
                     clear BK175
                     clear HB
                     have HO168 := n0_
                     have HO171 := n1_
                     have BK150 := n2_
                     have BK151 := n3_
                     have BK160 := n4_
                     have BK175 := n5_
                     have HB := n6_
                     clear n0_ n1_ n2_ n3_ n4_ n5_ n6_
                     clear hb ho71
                     refine hK.out _ _ ⟨(blk_cell BK150.out 0).trans rfl, (blk_cell BK150.out 1).trans rfl, (blk_cell BK160.out 0).trans rfl, (blk_cell BK160.out 1).trans rfl, (blk_cell BK160.out 2).trans rfl, (blk_cell BK160.out 3).trans rfl⟩ (fun hHeld => ?_)
                     clear hK K
                     refine norm_ (a' := ?_) ?_ ?_
                     rotate_left
                     ·show Act.put _ (some 76) _ = _
                      simp only [Act.put, List.setIfInBounds_toArray, List.set_cons_zero, List.set_cons_succ, i64_w, i32_w]
                      rfl
                     exact norm_ (by first | (simp only [putAll, Act.put, List.setIfInBounds_toArray, List.set_cons_zero, List.set_cons_succ]; done) | (simp only [putAll, Act.put, List.setIfInBounds_toArray, List.set_cons_zero, List.set_cons_succ]; rfl)) (hJ2_5_7_10 (v164, v167, v170, gb175) _ ⟨hHeld, (Kd.R_mono HO168.out (fun _ hk => ⟨hk.2, ⟨hk.1.1, hk.1.2⟩⟩)), (Kd.R_mono HO171.out (fun _ hk => ⟨hk.1.1.2, ⟨hk.1.2, hk.2⟩⟩)), BK150.out, BK151.out, BK160.out, BK175.out, GW175.out, GE175.out, NB150_175.out, NB175_150.out, NB151_175.out, NB175_151.out, NB160_175.out, NB175_160.out, HB.out⟩)
                   ·skip
                    rintro ⟨v164, v167, v170⟩ w70 ⟨hS_, h0_, h1_, h2_, h3_, h4_, h5_⟩
                    have n0_ : Aside0 (Kd.R k28 28 w70 w.heap.size (fun k_ => some k_ ≠ (v170 : Value).ownBlock ∧ k_ ≠ gb151 ∧ k_ ≠ gb160) v167 y166) := ⟨h0_⟩
                    have n1_ : Aside0 (Kd.R k28 28 w70 w.heap.size (fun k_ => some k_ ≠ (v167 : Value).ownBlock ∧ k_ ≠ gb151 ∧ k_ ≠ gb160) v170 y169) := ⟨h1_⟩
                    have n2_ : Aside0 (w70.heap[gb150]? = some (.cells #[.int .i64 p, .slice A l.length c] 24 (0, 0))) := ⟨h2_⟩
                    have n3_ : Aside0 (w70.heap[gb151]? = some (.cells #[.int .i64 0, .int .i64 0, .int .i64 0, .int .i64 0] 28 (0, 0))) := ⟨h3_⟩
                    have n4_ : Aside0 (w70.heap[gb160]? = some (.cells #[.int .i64 y0, .int .i64 y1, .int .i64 y2, .int .i64 y3] 28 (0, 0))) := ⟨h4_⟩
                    have n5_ : Aside0 (Below w.heap.size w w70) := ⟨h5_⟩
                    clear BK150
                    clear BK151
                    clear BK160
                    clear HB
                    clear h0_ h1_ h2_ h3_ h4_ h5_
                    have HO168 := n0_
                    have HO171 := n1_
                    have BK150 := n2_
                    have BK151 := n3_
                    have BK160 := n4_
                    have HB := n5_
                    clear n0_ n1_ n2_ n3_ n4_ n5_
                    have hHeld : w70.cell? ⟨gb150, 0, none⟩ = some (.int .i64 p) ∧ w70.cell? ⟨gb150, 1, none⟩ = some (.slice A l.length c) ∧ w70.cell? ⟨gb160, 0, none⟩ = some (.int .i64 y0) ∧ w70.cell? ⟨gb160, 1, none⟩ = some (.int .i64 y1) ∧ w70.cell? ⟨gb160, 2, none⟩ = some (.int .i64 y2) ∧ w70.cell? ⟨gb160, 3, none⟩ = some (.int .i64 y3) := hS_
                    obtain ⟨Ao72, co72, eo72⟩ := Kd.R_slice HO171.out
                    (first | subst eo72 | (injection eo72 with f1_ f2_ f3_; have f4_ := f1_.symm; have f5_ := f3_.symm; clear f1_ f2_ f3_; subst f4_; subst f5_))
                    refine norm_ (a' := ?_) ?_ ?_
                    rotate_left
                    ·simp only [putAll, Act.put, List.setIfInBounds_toArray, List.set_cons_zero, List.set_cons_succ]
                     rfl
                    refine two_ (i := 8) (j := 10) (Ni := some 77) (Nj := some 8) #[true, true, true, true, true, true, true, true, true, false, false, false] #[true, true, true, true, true, true, true, true, false, false, true, false] rfl rfl rfl rfl (two_of HT_.out (by kernel_rfl)) (by decide) (by decide) (fun K hK => ?_) (fun K hK => ?_)
                    ·skip
                     refine Kd.R_append_rows_step k28 (w0 := w) w.heap.size (by rfl) (.tmp 74) (.tmp 76) 22 28 (.agg #[(.int .i64 0), (.int .i64 0), (.int .i64 0), (.int .i64 0)]) 32 rfl Try.underlying22 info28 rfl (by decide) (by omega) v167 y166 y169 _ _ _ (fun k_ => some k_ ≠ (.slice Ao72 y169.length co72 : Value).ownBlock ∧ k_ ≠ gb151 ∧ k_ ≠ gb160) (fun _ => False) rfl rfl ?aO ?aR (fun _ _ h => h) (fun _ h => h.elim) ?aF ?aB ?aS ?aL ?_
                     (case aR => repeat (first | exact (Kd.R_reads' HO171.out).2.2 | (with_reducible refine Kd.C_alloc ?_ _) | (with_reducible refine Kd.C_drewN ?_ _) | (with_reducible refine Kd.C_drew ?_)))
                     (case aB => exact HB.out)
                     (case aF => exact (fun k_ hk => ⟨Kd.fresh' (Kd.R_lt (HO171.out)) k_ hk, Kd.freshB (g := gb151) (o := .cells #[.int .i64 0, .int .i64 0, .int .i64 0, .int .i64 0] 28 (0, 0)) BK151.out k_ hk, Kd.freshB (g := gb160) (o := .cells #[.int .i64 y0, .int .i64 y1, .int .i64 y2, .int .i64 y3] 28 (0, 0)) BK160.out k_ hk⟩))
                     (case aO => exact (HO168.out))
                     (case aS => exact (below_size HB.out))
                     (case aL => have := LMc61.out; omega)
                     intro v173 w71 ho hb hg hat
                     rw [← Ny172.out] at ho
                     have n0_ := Aside0.mk (blk_grown (g := gb150) (o := .cells #[.int .i64 p, .slice A l.length c] 24 (0, 0)) BK150.out hg (Kd.R_ne HO168.out BK150.out (by decide)))
                     have n1_ := Aside0.mk (blk_grown (g := gb151) (o := .cells #[.int .i64 0, .int .i64 0, .int .i64 0, .int .i64 0] 28 (0, 0)) BK151.out hg (Kd.R_away HO168.out (fun _ hk => hk.2.1)))
                     have n2_ := Aside0.mk (blk_grown (g := gb160) (o := .cells #[.int .i64 y0, .int .i64 y1, .int .i64 y2, .int .i64 y3] 28 (0, 0)) BK160.out hg (Kd.R_away HO168.out (fun _ hk => hk.2.2)))
                     have n3_ := Aside0.mk (Kd.R_after (ok := (fun k_ => k_ ≠ gb151 ∧ k_ ≠ gb160)) (Kd.R_mono HO171.out (fun _ hk => ⟨⟨hk.2.1, hk.2.2⟩, hk.1⟩)) hg hat)
                     have n4_ := Aside0.mk (hb)
                     have n5_ := Aside0.mk (ho)
                     clear BK150
                     clear BK151
                     clear BK160
                     clear HO171
                     clear HB
                     clear HO168
                     have BK150 := n0_
                     have BK151 := n1_
                     have BK160 := n2_
                     have HO171 := n3_
                     have HB := n4_
                     have HO174 := n5_
                     clear n0_ n1_ n2_ n3_ n4_ n5_
                     clear ho hb hg hat
                     obtain ⟨Ao73, co73, eo73⟩ := Kd.R_slice HO174.out
                     (first | subst eo73 | (injection eo73 with f1_ f2_ f3_; have f4_ := f1_.symm; have f5_ := f3_.symm; clear f1_ f2_ f3_; subst f4_; subst f5_))
                     refine hK.out _ _ ⟨(blk_cell BK150.out 0).trans rfl, (blk_cell BK150.out 1).trans rfl, (blk_cell BK160.out 0).trans rfl, (blk_cell BK160.out 1).trans rfl, (blk_cell BK160.out 2).trans rfl, (blk_cell BK160.out 3).trans rfl⟩ (fun hHeld => ?_)
                     clear hK K
                     refine norm_ (a' := ?_) ?_ ?_
                     rotate_left
                     ·show Act.put _ (some 77) _ = _
                      simp only [Act.put, List.setIfInBounds_toArray, List.set_cons_zero, List.set_cons_succ, i64_w, i32_w]
                      rfl
                     refine pure_ (i := 9) (N := some 78) (v := ?_) (a' := ?_) #[true, true, true, true, true, true, true, true, true, true, false, false] rfl rfl (any_of HT_.out (by kernel_rfl)) (fun _ _ _ h => h) (Or.inl ⟨by rfl, ?_⟩) ?_ ?_
                     rotate_left
                     ·intro w'
                      go_simp
                      with_reducible rfl
                     rotate_left
                     ·simp only [Act.put, List.setIfInBounds_toArray, List.set_cons_zero, List.set_cons_succ, i64_w, i32_w]
                      rfl
                     exact norm_ (by first | (simp only [putAll, Act.put, List.setIfInBounds_toArray, List.set_cons_zero, List.set_cons_succ]; done) | (simp only [putAll, Act.put, List.setIfInBounds_toArray, List.set_cons_zero, List.set_cons_succ]; rfl)) (hJ2_5_7_8 (v164, v167, .slice Ao72 y169.length co72, .slice Ao73 y172.length co73) _ ⟨hHeld, (Kd.R_mono HO171.out (fun _ hk => ⟨hk.2, ⟨hk.1.1, hk.1.2⟩⟩)), (HO174.out), BK150.out, BK151.out, BK160.out, HB.out⟩)
                    ·skip
                     refine box_step ?hg (N := 8) ?hd (cs := #[.int .i64 0, .slice none 0 0]) (t := 24) ?hr ?_; (case hd => rfl); (case hg => rfl); (case hr => first | (go_simp; done) | (go_simp; rfl))
                     intro gb175 hg w71 hbox hb
                     have n0_ := Aside0.mk (Kd.R_below (HO168.out) hb)
                     have n1_ := Aside0.mk (Kd.R_below (HO171.out) hb)
                     have n2_ := Aside0.mk (blk_below (g := gb150) (o := .cells #[.int .i64 p, .slice A l.length c] 24 (0, 0)) BK150.out hb)
                     have n3_ := Aside0.mk (blk_below (g := gb151) (o := .cells #[.int .i64 0, .int .i64 0, .int .i64 0, .int .i64 0] 28 (0, 0)) BK151.out hb)
                     have n4_ := Aside0.mk (blk_below (g := gb160) (o := .cells #[.int .i64 y0, .int .i64 y1, .int .i64 y2, .int .i64 y3] 28 (0, 0)) BK160.out hb)
                     have n5_ := Aside0.mk (below_step HB.out hb)
                     have n6_ := Aside0.mk (hbox)
                     have n7_ := Aside0.mk ((by rw [hg]; exact (below_size HB.out) : w.heap.size ≤ gb175))
                     have n8_ := Aside0.mk ((by rw [hg]; exact (below_size HB.out) : w.heap.size ≤ gb175))
                     have n9_ := Aside0.mk ((by rw [hg]; exact Nat.ne_of_lt (blk_lt (g := gb150) (o := .cells #[.int .i64 p, .slice A l.length c] 24 (0, 0)) BK150.out) : gb150 ≠ gb175))
                     have n10_ := Aside0.mk ((by rw [hg]; exact Nat.ne_of_gt (blk_lt (g := gb150) (o := .cells #[.int .i64 p, .slice A l.length c] 24 (0, 0)) BK150.out) : gb175 ≠ gb150))
                     have n11_ := Aside0.mk ((by rw [hg]; exact Nat.ne_of_lt (blk_lt (g := gb151) (o := .cells #[.int .i64 0, .int .i64 0, .int .i64 0, .int .i64 0] 28 (0, 0)) BK151.out) : gb151 ≠ gb175))
                     have n12_ := Aside0.mk ((by rw [hg]; exact Nat.ne_of_gt (blk_lt (g := gb151) (o := .cells #[.int .i64 0, .int .i64 0, .int .i64 0, .int .i64 0] 28 (0, 0)) BK151.out) : gb175 ≠ gb151))
                     have n13_ := Aside0.mk ((by rw [hg]; exact Nat.ne_of_lt (blk_lt (g := gb160) (o := .cells #[.int .i64 y0, .int .i64 y1, .int .i64 y2, .int .i64 y3] 28 (0, 0)) BK160.out) : gb160 ≠ gb175))
                     have n14_ := Aside0.mk ((by rw [hg]; exact Nat.ne_of_gt (blk_lt (g := gb160) (o := .cells #[.int .i64 y0, .int .i64 y1, .int .i64 y2, .int .i64 y3] 28 (0, 0)) BK160.out) : gb175 ≠ gb160))
                     clear HO168
                     clear HO171
                     clear BK150
                     clear BK151
                     clear BK160
                     clear HB
                     have HO168 := n0_
                     have HO171 := n1_
                     have BK150 := n2_
                     have BK151 := n3_
                     have BK160 := n4_
                     have HB := n5_
                     have BK175 := n6_
                     have GW175 := n7_
                     have GE175 := n8_
                     have NB150_175 := n9_
                     have NB175_150 := n10_
                     have NB151_175 := n11_
                     have NB175_151 := n12_
                     have NB160_175 := n13_
                     have NB175_160 := n14_
                     clear n0_ n1_ n2_ n3_ n4_ n5_ n6_ n7_ n8_ n9_ n10_ n11_ n12_ n13_ n14_
                     clear hb hbox hg
                     refine hK.out _ _ ⟨(blk_cell BK150.out 0).trans rfl, (blk_cell BK150.out 1).trans rfl, (blk_cell BK160.out 0).trans rfl, (blk_cell BK160.out 1).trans rfl, (blk_cell BK160.out 2).trans rfl, (blk_cell BK160.out 3).trans rfl⟩ (fun hHeld => ?_)
                     clear hK K
                     refine norm_ (a' := ?_) ?_ ?_
                     rotate_left
                     ·show Act.put _ (some 8) _ = _
                      simp only [Act.put, List.setIfInBounds_toArray, List.set_cons_zero, List.set_cons_succ, i64_w, i32_w]
                      rfl
                     exact norm_ (by first | (simp only [putAll, Act.put, List.setIfInBounds_toArray, List.set_cons_zero, List.set_cons_succ]; done) | (simp only [putAll, Act.put, List.setIfInBounds_toArray, List.set_cons_zero, List.set_cons_succ]; rfl)) (hJ2_5_7_10 (v164, v167, (.slice Ao72 y169.length co72 : Value), gb175) _ ⟨hHeld, (HO168.out), (HO171.out), BK150.out, BK151.out, BK160.out, BK175.out, GW175.out, GE175.out, NB150_175.out, NB175_150.out, NB151_175.out, NB175_151.out, NB160_175.out, NB175_160.out, HB.out⟩)
                  ·skip
                   rintro ⟨v164, v167, v170, gb175⟩ w71 ⟨hS_, h0_, h1_, h2_, h3_, h4_, h5_, h6_, h7_, h8_, h9_, h10_, h11_, h12_, h13_, h14_⟩
                   have n0_ : Aside0 (Kd.R k28 28 w71 w.heap.size (fun k_ => some k_ ≠ (v170 : Value).ownBlock ∧ k_ ≠ gb151 ∧ k_ ≠ gb160) v167 y166) := ⟨h0_⟩
                   have n1_ : Aside0 (Kd.R k28 28 w71 w.heap.size (fun k_ => some k_ ≠ (v167 : Value).ownBlock ∧ k_ ≠ gb151 ∧ k_ ≠ gb160) v170 y169) := ⟨h1_⟩
                   have n2_ : Aside0 (w71.heap[gb150]? = some (.cells #[.int .i64 p, .slice A l.length c] 24 (0, 0))) := ⟨h2_⟩
                   have n3_ : Aside0 (w71.heap[gb151]? = some (.cells #[.int .i64 0, .int .i64 0, .int .i64 0, .int .i64 0] 28 (0, 0))) := ⟨h3_⟩
                   have n4_ : Aside0 (w71.heap[gb160]? = some (.cells #[.int .i64 y0, .int .i64 y1, .int .i64 y2, .int .i64 y3] 28 (0, 0))) := ⟨h4_⟩
                   have n5_ : Aside0 (w71.heap[gb175]? = some (.cells #[.int .i64 0, .slice none 0 0] 24 (0, 0))) := ⟨h5_⟩
                   have n6_ : Aside0 (w.heap.size ≤ gb175) := ⟨h6_⟩
                   have n7_ : Aside0 (w.heap.size ≤ gb175) := ⟨h7_⟩
                   have n8_ : Aside0 (gb150 ≠ gb175) := ⟨h8_⟩
                   have n9_ : Aside0 (gb175 ≠ gb150) := ⟨h9_⟩
                   have n10_ : Aside0 (gb151 ≠ gb175) := ⟨h10_⟩
                   have n11_ : Aside0 (gb175 ≠ gb151) := ⟨h11_⟩
                   have n12_ : Aside0 (gb160 ≠ gb175) := ⟨h12_⟩
                   have n13_ : Aside0 (gb175 ≠ gb160) := ⟨h13_⟩
                   have n14_ : Aside0 (Below w.heap.size w w71) := ⟨h14_⟩
                   clear BK150
                   clear BK151
                   clear BK160
                   clear HB
                   clear h0_ h1_ h2_ h3_ h4_ h5_ h6_ h7_ h8_ h9_ h10_ h11_ h12_ h13_ h14_
                   have HO168 := n0_
                   have HO171 := n1_
                   have BK150 := n2_
                   have BK151 := n3_
                   have BK160 := n4_
                   have BK175 := n5_
                   have GW175 := n6_
                   have GE175 := n7_
                   have NB150_175 := n8_
                   have NB175_150 := n9_
                   have NB151_175 := n10_
                   have NB175_151 := n11_
                   have NB160_175 := n12_
                   have NB175_160 := n13_
                   have HB := n14_
                   clear n0_ n1_ n2_ n3_ n4_ n5_ n6_ n7_ n8_ n9_ n10_ n11_ n12_ n13_ n14_
                   have hHeld : w71.cell? ⟨gb150, 0, none⟩ = some (.int .i64 p) ∧ w71.cell? ⟨gb150, 1, none⟩ = some (.slice A l.length c) ∧ w71.cell? ⟨gb160, 0, none⟩ = some (.int .i64 y0) ∧ w71.cell? ⟨gb160, 1, none⟩ = some (.int .i64 y1) ∧ w71.cell? ⟨gb160, 2, none⟩ = some (.int .i64 y2) ∧ w71.cell? ⟨gb160, 3, none⟩ = some (.int .i64 y3) := hS_
                   obtain ⟨Ao73, co73, eo73⟩ := Kd.R_slice HO171.out
                   (first | subst eo73 | (injection eo73 with f1_ f2_ f3_; have f4_ := f1_.symm; have f5_ := f3_.symm; clear f1_ f2_ f3_; subst f4_; subst f5_))
                   refine norm_ (a' := ?_) ?_ ?_
                   rotate_left
                   ·simp only [putAll, Act.put, List.setIfInBounds_toArray, List.set_cons_zero, List.set_cons_succ]
                    rfl
                   refine one_ (i := 8) (N := some 77) #[true, true, true, true, true, true, true, true, true, false, true, false] rfl rfl (one_of HT_.out (by kernel_rfl)) (by decide) (fun K hK => ?_)
                   refine Kd.R_append_rows_step k28 (w0 := w) w.heap.size (by rfl) (.tmp 74) (.tmp 76) 22 28 (.agg #[(.int .i64 0), (.int .i64 0), (.int .i64 0), (.int .i64 0)]) 32 rfl Try.underlying22 info28 rfl (by decide) (by omega) v167 y166 y169 _ _ _ (fun k_ => some k_ ≠ (.slice Ao73 y169.length co73 : Value).ownBlock ∧ k_ ≠ gb151 ∧ k_ ≠ gb160) (fun _ => False) rfl rfl ?aO ?aR (fun _ _ h => h) (fun _ h => h.elim) ?aF ?aB ?aS ?aL ?_
                   (case aR => repeat (first | exact (Kd.R_reads' HO171.out).2.2 | (with_reducible refine Kd.C_alloc ?_ _) | (with_reducible refine Kd.C_drewN ?_ _) | (with_reducible refine Kd.C_drew ?_)))
                   (case aB => exact HB.out)
                   (case aF => exact (fun k_ hk => ⟨Kd.fresh' (Kd.R_lt (HO171.out)) k_ hk, Kd.freshB (g := gb151) (o := .cells #[.int .i64 0, .int .i64 0, .int .i64 0, .int .i64 0] 28 (0, 0)) BK151.out k_ hk, Kd.freshB (g := gb160) (o := .cells #[.int .i64 y0, .int .i64 y1, .int .i64 y2, .int .i64 y3] 28 (0, 0)) BK160.out k_ hk⟩))
                   (case aO => exact (HO168.out))
                   (case aS => exact (below_size HB.out))
                   (case aL => have := LMc61.out; omega)
                   intro v173 w72 ho hb hg hat
                   rw [← Ny172.out] at ho
                   have n0_ := Aside0.mk (blk_grown (g := gb150) (o := .cells #[.int .i64 p, .slice A l.length c] 24 (0, 0)) BK150.out hg (Kd.R_ne HO168.out BK150.out (by decide)))
                   have n1_ := Aside0.mk (blk_grown (g := gb151) (o := .cells #[.int .i64 0, .int .i64 0, .int .i64 0, .int .i64 0] 28 (0, 0)) BK151.out hg (Kd.R_away HO168.out (fun _ hk => hk.2.1)))
                   have n2_ := Aside0.mk (blk_grown (g := gb160) (o := .cells #[.int .i64 y0, .int .i64 y1, .int .i64 y2, .int .i64 y3] 28 (0, 0)) BK160.out hg (Kd.R_away HO168.out (fun _ hk => hk.2.2)))
                   have n3_ := Aside0.mk (Kd.R_after (ok := (fun k_ => k_ ≠ gb151 ∧ k_ ≠ gb160)) (Kd.R_mono HO171.out (fun _ hk => ⟨⟨hk.2.1, hk.2.2⟩, hk.1⟩)) hg hat)
                   have n4_ := Aside0.mk (blk_grown (g := gb175) (o := .cells #[.int .i64 0, .slice none 0 0] 24 (0, 0)) BK175.out hg (Kd.R_ne HO168.out BK175.out (by decide)))
                   have n5_ := Aside0.mk (hb)
                   have n6_ := Aside0.mk (ho)
                   clear BK150
                   clear BK151
                   clear BK160
                   clear HO171
                   clear BK175
                   clear HB
                   clear HO168
                   have BK150 := n0_
                   have BK151 := n1_
                   have BK160 := n2_
                   have HO171 := n3_
                   have BK175 := n4_
                   have HB := n5_
                   have HO174 := n6_
                   clear n0_ n1_ n2_ n3_ n4_ n5_ n6_
                   clear ho hb hg hat
                   obtain ⟨Ao74, co74, eo74⟩ := Kd.R_slice HO174.out
                   (first | subst eo74 | (injection eo74 with f1_ f2_ f3_; have f4_ := f1_.symm; have f5_ := f3_.symm; clear f1_ f2_ f3_; subst f4_; subst f5_))
                   refine hK.out _ _ ⟨(blk_cell BK150.out 0).trans rfl, (blk_cell BK150.out 1).trans rfl, (blk_cell BK160.out 0).trans rfl, (blk_cell BK160.out 1).trans rfl, (blk_cell BK160.out 2).trans rfl, (blk_cell BK160.out 3).trans rfl⟩ (fun hHeld => ?_)
                   clear hK K
                   refine norm_ (a' := ?_) ?_ ?_
                   rotate_left
                   ·show Act.put _ (some 77) _ = _
                    simp only [Act.put, List.setIfInBounds_toArray, List.set_cons_zero, List.set_cons_succ, i64_w, i32_w]
                    rfl
                   refine pure_ (i := 9) (N := some 78) (v := ?_) (a' := ?_) #[true, true, true, true, true, true, true, true, true, true, true, false] rfl rfl (any_of HT_.out (by kernel_rfl)) (fun _ _ _ h => h) (Or.inl ⟨by rfl, ?_⟩) ?_ ?_
                   rotate_left
                   ·intro w'
                    go_simp
                    with_reducible rfl
                   rotate_left
                   ·simp only [Act.put, List.setIfInBounds_toArray, List.set_cons_zero, List.set_cons_succ, i64_w, i32_w]
                    rfl
                   exact norm_ (by first | (simp only [putAll, Act.put, List.setIfInBounds_toArray, List.set_cons_zero, List.set_cons_succ]; done) | (simp only [putAll, Act.put, List.setIfInBounds_toArray, List.set_cons_zero, List.set_cons_succ]; rfl)) (hJ2_5_7_8_10 (v164, v167, .slice Ao73 y169.length co73, .slice Ao74 y172.length co74, gb175) _ ⟨hHeld, (Kd.R_mono HO171.out (fun _ hk => ⟨hk.2, ⟨hk.1.1, hk.1.2⟩⟩)), (HO174.out), BK150.out, BK151.out, BK160.out, BK175.out, GW175.out, GE175.out, NB150_175.out, NB175_150.out, NB151_175.out, NB175_151.out, NB160_175.out, NB175_160.out, HB.out⟩)
                 ·skip
                  rintro ⟨v164, v167, v170, v173⟩ w73 ⟨hS_, h0_, h1_, h2_, h3_, h4_, h5_⟩
                  have n0_ : Aside0 (Kd.R k28 28 w73 w.heap.size (fun k_ => some k_ ≠ (v173 : Value).ownBlock ∧ k_ ≠ gb151 ∧ k_ ≠ gb160) v170 y169) := ⟨h0_⟩
                  have n1_ : Aside0 (Kd.R k28 28 w73 w.heap.size (fun k_ => some k_ ≠ (v170 : Value).ownBlock ∧ k_ ≠ gb151 ∧ k_ ≠ gb160) v173 y172) := ⟨h1_⟩
                  have n2_ : Aside0 (w73.heap[gb150]? = some (.cells #[.int .i64 p, .slice A l.length c] 24 (0, 0))) := ⟨h2_⟩
                  have n3_ : Aside0 (w73.heap[gb151]? = some (.cells #[.int .i64 0, .int .i64 0, .int .i64 0, .int .i64 0] 28 (0, 0))) := ⟨h3_⟩
                  have n4_ : Aside0 (w73.heap[gb160]? = some (.cells #[.int .i64 y0, .int .i64 y1, .int .i64 y2, .int .i64 y3] 28 (0, 0))) := ⟨h4_⟩
                  have n5_ : Aside0 (Below w.heap.size w w73) := ⟨h5_⟩
                  clear BK150
                  clear BK151
                  clear BK160
                  clear HB
                  clear h0_ h1_ h2_ h3_ h4_ h5_
                  have HO171 := n0_
                  have HO174 := n1_
                  have BK150 := n2_
                  have BK151 := n3_
                  have BK160 := n4_
                  have HB := n5_
                  clear n0_ n1_ n2_ n3_ n4_ n5_
                  have hHeld : w73.cell? ⟨gb150, 0, none⟩ = some (.int .i64 p) ∧ w73.cell? ⟨gb150, 1, none⟩ = some (.slice A l.length c) ∧ w73.cell? ⟨gb160, 0, none⟩ = some (.int .i64 y0) ∧ w73.cell? ⟨gb160, 1, none⟩ = some (.int .i64 y1) ∧ w73.cell? ⟨gb160, 2, none⟩ = some (.int .i64 y2) ∧ w73.cell? ⟨gb160, 3, none⟩ = some (.int .i64 y3) := hS_
                  obtain ⟨Ao74, co74, eo74⟩ := Kd.R_slice HO174.out
                  (first | subst eo74 | (injection eo74 with f1_ f2_ f3_; have f4_ := f1_.symm; have f5_ := f3_.symm; clear f1_ f2_ f3_; subst f4_; subst f5_))
                  refine norm_ (a' := ?_) ?_ ?_
                  rotate_left
                  ·simp only [putAll, Act.put, List.setIfInBounds_toArray, List.set_cons_zero, List.set_cons_succ]
                   rfl
                  refine one_ (i := 10) (N := some 8) #[true, true, true, true, true, true, true, true, true, true, true, false] rfl rfl (one_of HT_.out (by kernel_rfl)) (by decide) (fun K hK => ?_)
                  refine box_step ?hg (N := 8) ?hd (cs := #[.int .i64 0, .slice none 0 0]) (t := 24) ?hr ?_; (case hd => rfl); (case hg => rfl); (case hr => first | (go_simp; done) | (go_simp; rfl))
                  intro gb175 hg w75 hbox hb
                  have n0_ := Aside0.mk (Kd.R_below (HO171.out) hb)
                  have n1_ := Aside0.mk (Kd.R_below (HO174.out) hb)
                  have n2_ := Aside0.mk (blk_below (g := gb150) (o := .cells #[.int .i64 p, .slice A l.length c] 24 (0, 0)) BK150.out hb)
                  have n3_ := Aside0.mk (blk_below (g := gb151) (o := .cells #[.int .i64 0, .int .i64 0, .int .i64 0, .int .i64 0] 28 (0, 0)) BK151.out hb)
                  have n4_ := Aside0.mk (blk_below (g := gb160) (o := .cells #[.int .i64 y0, .int .i64 y1, .int .i64 y2, .int .i64 y3] 28 (0, 0)) BK160.out hb)
                  have n5_ := Aside0.mk (below_step HB.out hb)
                  have n6_ := Aside0.mk (hbox)
                  have n7_ := Aside0.mk ((by rw [hg]; exact (below_size HB.out) : w.heap.size ≤ gb175))
                  have n8_ := Aside0.mk ((by rw [hg]; exact (below_size HB.out) : w.heap.size ≤ gb175))
                  have n9_ := Aside0.mk ((by rw [hg]; exact Nat.ne_of_lt (blk_lt (g := gb150) (o := .cells #[.int .i64 p, .slice A l.length c] 24 (0, 0)) BK150.out) : gb150 ≠ gb175))
                  have n10_ := Aside0.mk ((by rw [hg]; exact Nat.ne_of_gt (blk_lt (g := gb150) (o := .cells #[.int .i64 p, .slice A l.length c] 24 (0, 0)) BK150.out) : gb175 ≠ gb150))
                  have n11_ := Aside0.mk ((by rw [hg]; exact Nat.ne_of_lt (blk_lt (g := gb151) (o := .cells #[.int .i64 0, .int .i64 0, .int .i64 0, .int .i64 0] 28 (0, 0)) BK151.out) : gb151 ≠ gb175))
                  have n12_ := Aside0.mk ((by rw [hg]; exact Nat.ne_of_gt (blk_lt (g := gb151) (o := .cells #[.int .i64 0, .int .i64 0, .int .i64 0, .int .i64 0] 28 (0, 0)) BK151.out) : gb175 ≠ gb151))
                  have n13_ := Aside0.mk ((by rw [hg]; exact Nat.ne_of_lt (blk_lt (g := gb160) (o := .cells #[.int .i64 y0, .int .i64 y1, .int .i64 y2, .int .i64 y3] 28 (0, 0)) BK160.out) : gb160 ≠ gb175))
                  have n14_ := Aside0.mk ((by rw [hg]; exact Nat.ne_of_gt (blk_lt (g := gb160) (o := .cells #[.int .i64 y0, .int .i64 y1, .int .i64 y2, .int .i64 y3] 28 (0, 0)) BK160.out) : gb175 ≠ gb160))
                  clear HO171
                  clear HO174
                  clear BK150
                  clear BK151
                  clear BK160
                  clear HB
                  have HO171 := n0_
                  have HO174 := n1_
                  have BK150 := n2_
                  have BK151 := n3_
                  have BK160 := n4_
                  have HB := n5_
                  have BK175 := n6_
                  have GW175 := n7_
                  have GE175 := n8_
                  have NB150_175 := n9_
                  have NB175_150 := n10_
                  have NB151_175 := n11_
                  have NB175_151 := n12_
                  have NB160_175 := n13_
                  have NB175_160 := n14_
                  clear n0_ n1_ n2_ n3_ n4_ n5_ n6_ n7_ n8_ n9_ n10_ n11_ n12_ n13_ n14_
                  clear hb hbox hg
                  refine hK.out _ _ ⟨(blk_cell BK150.out 0).trans rfl, (blk_cell BK150.out 1).trans rfl, (blk_cell BK160.out 0).trans rfl, (blk_cell BK160.out 1).trans rfl, (blk_cell BK160.out 2).trans rfl, (blk_cell BK160.out 3).trans rfl⟩ (fun hHeld => ?_)
                  clear hK K
                  refine norm_ (a' := ?_) ?_ ?_
                  rotate_left
                  ·show Act.put _ (some 8) _ = _
                   simp only [Act.put, List.setIfInBounds_toArray, List.set_cons_zero, List.set_cons_succ, i64_w, i32_w]
                   rfl
                  exact norm_ (by first | (simp only [putAll, Act.put, List.setIfInBounds_toArray, List.set_cons_zero, List.set_cons_succ]; done) | (simp only [putAll, Act.put, List.setIfInBounds_toArray, List.set_cons_zero, List.set_cons_succ]; rfl)) (hJ2_5_7_8_10 (v164, v167, v170, .slice Ao74 y172.length co74, gb175) _ ⟨hHeld, (HO171.out), (HO174.out), BK150.out, BK151.out, BK160.out, BK175.out, GW175.out, GE175.out, NB150_175.out, NB175_150.out, NB151_175.out, NB175_151.out, NB160_175.out, NB175_160.out, HB.out⟩)
                rintro ⟨v164, v167, v170, v173, gb175⟩ w74 ⟨hS_, h0_, h1_, h2_, h3_, h4_, h5_, h6_, h7_, h8_, h9_, h10_, h11_, h12_, h13_, h14_⟩
                have n0_ : Aside0 (Kd.R k28 28 w74 w.heap.size (fun k_ => some k_ ≠ (v173 : Value).ownBlock ∧ k_ ≠ gb151 ∧ k_ ≠ gb160) v170 y169) := ⟨h0_⟩
                have n1_ : Aside0 (Kd.R k28 28 w74 w.heap.size (fun k_ => some k_ ≠ (v170 : Value).ownBlock ∧ k_ ≠ gb151 ∧ k_ ≠ gb160) v173 y172) := ⟨h1_⟩
                have n2_ : Aside0 (w74.heap[gb150]? = some (.cells #[.int .i64 p, .slice A l.length c] 24 (0, 0))) := ⟨h2_⟩
                have n3_ : Aside0 (w74.heap[gb151]? = some (.cells #[.int .i64 0, .int .i64 0, .int .i64 0, .int .i64 0] 28 (0, 0))) := ⟨h3_⟩
                have n4_ : Aside0 (w74.heap[gb160]? = some (.cells #[.int .i64 y0, .int .i64 y1, .int .i64 y2, .int .i64 y3] 28 (0, 0))) := ⟨h4_⟩
                have n5_ : Aside0 (w74.heap[gb175]? = some (.cells #[.int .i64 0, .slice none 0 0] 24 (0, 0))) := ⟨h5_⟩
                have n6_ : Aside0 (w.heap.size ≤ gb175) := ⟨h6_⟩
                have n7_ : Aside0 (w.heap.size ≤ gb175) := ⟨h7_⟩
                have n8_ : Aside0 (gb150 ≠ gb175) := ⟨h8_⟩
                have n9_ : Aside0 (gb175 ≠ gb150) := ⟨h9_⟩
                have n10_ : Aside0 (gb151 ≠ gb175) := ⟨h10_⟩
                have n11_ : Aside0 (gb175 ≠ gb151) := ⟨h11_⟩
                have n12_ : Aside0 (gb160 ≠ gb175) := ⟨h12_⟩
                have n13_ : Aside0 (gb175 ≠ gb160) := ⟨h13_⟩
                have n14_ : Aside0 (Below w.heap.size w w74) := ⟨h14_⟩
                clear BK150
                clear BK151
                clear BK160
                clear HB
                clear h0_ h1_ h2_ h3_ h4_ h5_ h6_ h7_ h8_ h9_ h10_ h11_ h12_ h13_ h14_
                have HO171 := n0_
                have HO174 := n1_
                have BK150 := n2_
                have BK151 := n3_
                have BK160 := n4_
                have BK175 := n5_
                have GW175 := n6_
                have GE175 := n7_
                have NB150_175 := n8_
                have NB175_150 := n9_
                have NB151_175 := n10_
                have NB175_151 := n11_
                have NB160_175 := n12_
                have NB175_160 := n13_
                have HB := n14_
                clear n0_ n1_ n2_ n3_ n4_ n5_ n6_ n7_ n8_ n9_ n10_ n11_ n12_ n13_ n14_
                have hHeld : w74.cell? ⟨gb150, 0, none⟩ = some (.int .i64 p) ∧ w74.cell? ⟨gb150, 1, none⟩ = some (.slice A l.length c) ∧ w74.cell? ⟨gb160, 0, none⟩ = some (.int .i64 y0) ∧ w74.cell? ⟨gb160, 1, none⟩ = some (.int .i64 y1) ∧ w74.cell? ⟨gb160, 2, none⟩ = some (.int .i64 y2) ∧ w74.cell? ⟨gb160, 3, none⟩ = some (.int .i64 y3) := hS_
                obtain ⟨Ao75, co75, eo75⟩ := Kd.R_slice HO174.out
                (first | subst eo75 | (injection eo75 with f1_ f2_ f3_; have f4_ := f1_.symm; have f5_ := f3_.symm; clear f1_ f2_ f3_; subst f4_; subst f5_))
                refine norm_ (a' := ?_) ?_ ?_
                rotate_left
                ·simp only [putAll, Act.put, List.setIfInBounds_toArray, List.set_cons_zero, List.set_cons_succ]
                 rfl
                refine one_ (i := 11) (N := none) #[true, true, true, true, true, true, true, true, true, true, true, true] rfl rfl (one_of HT_.out (by kernel_rfl)) (by decide) (fun K hK => ?_)
                have hs76 : w74.cell? ⟨gb175, 0, none⟩ = some (.int .i64 0) := (blk_cell BK175.out 0).trans rfl
                have hfs76 := blk_frozen BK175.out 0
                have hns76_0 := NB150_175.out
                have hns76_1 := NB151_175.out
                have hns76_2 := NB160_175.out
                have hms76_0 := NB175_150.out
                have hms76_1 := NB175_151.out
                have hms76_2 := NB175_160.out
                have hs77 : w74.cell? ⟨gb175, 1, none⟩ = some (.slice none 0 0) := (blk_cell BK175.out 1).trans rfl
                have hfs77 := blk_frozen BK175.out 1
                have hns77_0 := NB150_175.out
                have hns77_1 := NB151_175.out
                have hns77_2 := NB160_175.out
                have hms77_0 := NB175_150.out
                have hms77_1 := NB175_151.out
                have hms77_2 := NB175_160.out
                refine skip_ (w1 := ?_) (by rfl) rfl ?_ ?_
                rotate_left
                ·go_simp
                 rfl
                refine hK.out _ _ ⟨((cell_far (p := ⟨gb175, _, none⟩) NB150_175.out _).trans (((cell_far (p := ⟨gb175, _, none⟩) NB150_175.out _).trans (hHeld.1)))), ((cell_far (p := ⟨gb175, _, none⟩) NB150_175.out _).trans (((cell_far (p := ⟨gb175, _, none⟩) NB150_175.out _).trans (hHeld.2.1)))), ((cell_far (p := ⟨gb175, _, none⟩) NB160_175.out _).trans (((cell_far (p := ⟨gb175, _, none⟩) NB160_175.out _).trans (hHeld.2.2.1)))), ((cell_far (p := ⟨gb175, _, none⟩) NB160_175.out _).trans (((cell_far (p := ⟨gb175, _, none⟩) NB160_175.out _).trans (hHeld.2.2.2.1)))), ((cell_far (p := ⟨gb175, _, none⟩) NB160_175.out _).trans (((cell_far (p := ⟨gb175, _, none⟩) NB160_175.out _).trans (hHeld.2.2.2.2.1)))), ((cell_far (p := ⟨gb175, _, none⟩) NB160_175.out _).trans (((cell_far (p := ⟨gb175, _, none⟩) NB160_175.out _).trans (hHeld.2.2.2.2.2))))⟩ (fun hHeld => ?_)
                clear hK K
                refine done_ (done_of HT_.out (by kernel_rfl)) ?_
                go_wp2
                go_meet
                case rel =>
                 refine ⟨gb175, Ao75, co75, rfl, ⟨?_, ?_⟩, ⟨?_⟩, ⟨?_⟩, ⟨?_⟩, ⟨?_⟩, ⟨?_⟩⟩
                 · exact (Kd.R_reads' (Kd.R_far (p := ⟨gb175, 1, none⟩) (Kd.R_far (p := ⟨gb175, 0, none⟩) (Kd.R_types HO174.out BK175.out (by decide)) (fun _ hk => hk.2) (.int .i64 p)) (fun _ hk => hk.2) (.slice Ao75 y172.length co75))).2.2
                 · exact (Kd.R_reads' HO174.out).2.1
                 · refine blk_far ?_ NB150_175.out _; refine blk_far ?_ NB150_175.out _; exact BK150.out
                 · refine blk_far ?_ NB151_175.out _; refine blk_far ?_ NB151_175.out _; exact BK151.out
                 · refine blk_far ?_ NB160_175.out _; refine blk_far ?_ NB160_175.out _; exact BK160.out
                 · refine blk_put (cs := #[.int .i64 p, .slice none 0 0]) ?_ 1 _ rfl; refine blk_put (cs := #[.int .i64 0, .slice none 0 0]) ?_ 0 _ rfl; exact BK175.out
                 · refine below_set (below_set HB.out GE175.out) GE175.out
               case rest =>
                clear BK150 BK151 BK160 HB
                obtain ⟨gb175, Ao75, co75, rfl, HC175, BK150, BK151, BK160, BK175, HB⟩ := hcut
                have d0 : wc.cell? ⟨gb175, 0, none⟩ = some (.int .i64 p) := blk_cell BK175.out 0
                have d1 : wc.cell? ⟨gb175, 1, none⟩ = some (.slice Ao75 y172.length co75) := blk_cell BK175.out 1
                have HH := Aside0.mk H
                clear H
                go_wp2_with fail
                refine (spileref36_open.calls kj47 p Ao75 co75 y172 t176 wc HC175.out.1 HC175.out.2 A62.out).mono ?_
                rintro e w82 ⟨v177, rfl, ho0, hb⟩
                obtain ⟨Ao83, co83, rfl⟩ := Kd.R_slice ho0
                replace BK151 := Aside0.mk (blk_below BK151.out hb)
                replace BK160 := Aside0.mk (blk_below BK160.out hb)
                replace HB := Aside0.mk (below_step HB.out hb)
                clear hb ho0 d0 d1
                have hnb84 := NB151_160.out
                have hnc84 := NB160_151.out
                have hcz86_0 : w82.cell? ⟨gb151, 0, none⟩ = some (.int .i64 0) := blk_cell BK151.out 0
                have hcz86_1 : w82.cell? ⟨gb151, 1, none⟩ = some (.int .i64 0) := blk_cell BK151.out 1
                have hcz86_2 : w82.cell? ⟨gb151, 2, none⟩ = some (.int .i64 0) := blk_cell BK151.out 2
                have hcz86_3 : w82.cell? ⟨gb151, 3, none⟩ = some (.int .i64 0) := blk_cell BK151.out 3
                have hfz86_0 := blk_frozen BK151.out 0
                have hfz86_1 := blk_frozen BK151.out 1
                have hfz86_2 := blk_frozen BK151.out 2
                have hfz86_3 := blk_frozen BK151.out 3
                have hcz87_0 : w82.cell? ⟨gb160, 0, none⟩ = some (.int .i64 y0) := blk_cell BK160.out 0
                have hcz87_1 : w82.cell? ⟨gb160, 1, none⟩ = some (.int .i64 y1) := blk_cell BK160.out 1
                have hcz87_2 : w82.cell? ⟨gb160, 2, none⟩ = some (.int .i64 y2) := blk_cell BK160.out 2
                have hcz87_3 : w82.cell? ⟨gb160, 3, none⟩ = some (.int .i64 y3) := blk_cell BK160.out 3
                have H := HH.out
                clear HH
                by_cases c63 : (t176.length : Int) > 0
                · rw [if_pos c63] at H
                  have c63b0 : decide (0 < (t176.length : Int)) = true := decide_eq_true c63
                  have c63b1 : decide (0 < t176.length) = true := decide_eq_true (by omega)
                  clear c63
                  simp only [Option.some.injEq, Prod.mk.injEq] at H
                  obtain ⟨rfl, rfl, rfl, rfl, rfl⟩ := H
                  go_wp2
                  refine bodyPost_ret (results_ct rfl _ _ gb151 28 #[.int .i64 0, .int .i64 0, .int .i64 0, .int .i64 0] (0, 0) _ rfl (by refine blk_put (cs := #[.int .i64 0, .int .i64 0, .int .i64 0, .int .i64 0]) ?_ 3 _ rfl; refine blk_put (cs := #[.int .i64 0, .int .i64 0, .int .i64 0, .int .i64 0]) ?_ 2 _ rfl; refine blk_put (cs := #[.int .i64 0, .int .i64 0, .int .i64 0, .int .i64 0]) ?_ 1 _ rfl; refine blk_put (cs := #[.int .i64 0, .int .i64 0, .int .i64 0, .int .i64 0]) ?_ 0 _ rfl; exact BK151.out) Try.underlying28 rfl (by kernel_rfl)) rfl ?_
                  exact ⟨by first | rfl | simp, below_set (below_set (below_set (below_set HB.out GE151.out) GE151.out) GE151.out) GE151.out⟩
                rw [if_neg c63] at H
                have c63b0 : decide (0 < (t176.length : Int)) = false := decide_eq_false c63
                have c63b1 : decide (0 < t176.length) = false := decide_eq_false (by omega)
                clear c63
                by_cases c87 : y2 > 10737418240000
                · rw [if_pos c87] at H
                  have c87b0 : decide (10737418240000 < y2) = true := decide_eq_true c87
                  clear c87
                  simp only [Option.some.injEq, Prod.mk.injEq] at H
                  obtain ⟨rfl, rfl, rfl, rfl, rfl⟩ := H
                  go_wp2
                  refine bodyPost_ret (results_ct rfl _ _ gb151 28 #[.int .i64 0, .int .i64 0, .int .i64 0, .int .i64 0] (0, 0) _ rfl (by refine blk_put (cs := #[.int .i64 0, .int .i64 0, .int .i64 0, .int .i64 0]) ?_ 3 _ rfl; refine blk_put (cs := #[.int .i64 0, .int .i64 0, .int .i64 0, .int .i64 0]) ?_ 2 _ rfl; refine blk_put (cs := #[.int .i64 0, .int .i64 0, .int .i64 0, .int .i64 0]) ?_ 1 _ rfl; refine blk_put (cs := #[.int .i64 0, .int .i64 0, .int .i64 0, .int .i64 0]) ?_ 0 _ rfl; exact BK151.out) Try.underlying28 rfl (by kernel_rfl)) rfl ?_
                  exact ⟨by first | rfl | simp, below_set (below_set (below_set (below_set HB.out GE151.out) GE151.out) GE151.out) GE151.out⟩
                rw [if_neg c87] at H
                have c87b0 : decide (10737418240000 < y2) = false := decide_eq_false c87
                clear c87
                by_cases c88 : y3 > 128849018880000
                · rw [if_pos c88] at H
                  have c88b0 : decide (128849018880000 < y3) = true := decide_eq_true c88
                  clear c88
                  simp only [Option.some.injEq, Prod.mk.injEq] at H
                  obtain ⟨rfl, rfl, rfl, rfl, rfl⟩ := H
                  go_wp2
                  refine bodyPost_ret (results_ct rfl _ _ gb151 28 #[.int .i64 0, .int .i64 0, .int .i64 0, .int .i64 0] (0, 0) _ rfl (by refine blk_put (cs := #[.int .i64 0, .int .i64 0, .int .i64 0, .int .i64 0]) ?_ 3 _ rfl; refine blk_put (cs := #[.int .i64 0, .int .i64 0, .int .i64 0, .int .i64 0]) ?_ 2 _ rfl; refine blk_put (cs := #[.int .i64 0, .int .i64 0, .int .i64 0, .int .i64 0]) ?_ 1 _ rfl; refine blk_put (cs := #[.int .i64 0, .int .i64 0, .int .i64 0, .int .i64 0]) ?_ 0 _ rfl; exact BK151.out) Try.underlying28 rfl (by kernel_rfl)) rfl ?_
                  exact ⟨by first | rfl | simp, below_set (below_set (below_set (below_set HB.out GE151.out) GE151.out) GE151.out) GE151.out⟩
                rw [if_neg c88] at H
                have c88b0 : decide (128849018880000 < y3) = false := decide_eq_false c88
                clear c88
                simp only [Option.some.injEq, Prod.mk.injEq] at H
                obtain ⟨rfl, rfl, rfl, rfl, rfl⟩ := H
                go_wp2
                refine bodyPost_ret (results_ct rfl _ _ gb151 28 #[.int .i64 y0, .int .i64 y1, .int .i64 y2, .int .i64 y3] (0, 0) _ rfl (by refine blk_put (cs := #[.int .i64 y0, .int .i64 y1, .int .i64 y2, .int .i64 0]) ?_ 3 _ rfl; refine blk_put (cs := #[.int .i64 y0, .int .i64 y1, .int .i64 0, .int .i64 0]) ?_ 2 _ rfl; refine blk_put (cs := #[.int .i64 y0, .int .i64 0, .int .i64 0, .int .i64 0]) ?_ 1 _ rfl; refine blk_put (cs := #[.int .i64 0, .int .i64 0, .int .i64 0, .int .i64 0]) ?_ 0 _ rfl; exact BK151.out) Try.underlying28 rfl (by kernel_rfl)) rfl ?_
                exact ⟨by first | rfl | simp, below_set (below_set (below_set (below_set HB.out GE151.out) GE151.out) GE151.out) GE151.out⟩
              ·rw [if_neg c61] at H
               exact absurd H (by simp)
             ·rw [if_neg c60] at H
              exact absurd H (by simp)
   ·rw [if_neg c15] at H
    exact absurd H (by simp)
 ·replace c3 := Bool.eq_false_iff.mpr c3
  subst c3
  have H1 : (some (0, 0, 0, 0, 1)) = some (r1, r2, r3, r4, r5) := by rw [if_neg (show ¬ (false = true) by decide)] at H; exact H
  clear H
  have H := H1
  clear H1
  simp only [Option.some.injEq, Prod.mk.injEq] at H
  obtain ⟨rfl, rfl, rfl, rfl, rfl⟩ := H
  go_enter Try.func14, Try.ntmps14
  go_wp2_with (first | ((with_reducible refine gate_dst (N := 1) rfl ?_); refine box_event ?hg (N := 1) ?hd (cs := #[.int .i64 p, .slice A l.length c]) (t := 24) ?hr ?_; (case hd => rfl); (case hg => rfl); (case hr => first | (go_simp; done) | (go_simp; rfl)); intro gb150 hg w164 hbox hb; have n0_ := Aside0.mk (below_step (by repeat (first | (with_reducible first | exact HB.out | apply below_alloc | apply pw_below_drewN | apply below_drew1) | exact HB.out)) hb); have n1_ := Aside0.mk (hbox); have n2_ := Aside0.mk ((by rw [hg]; exact (below_size (by repeat (first | (with_reducible first | exact HB.out | apply below_alloc | apply pw_below_drewN | apply below_drew1) | exact HB.out))) : w.heap.size ≤ gb150)); have n3_ := Aside0.mk ((by rw [hg]; exact (below_size (by repeat (first | (with_reducible first | exact HB.out | apply below_alloc | apply pw_below_drewN | apply below_drew1) | exact HB.out))) : w.heap.size ≤ gb150)); clear HB; have HB := n0_; have BK150 := n1_; have GW150 := n2_; have GE150 := n3_; clear n0_ n1_ n2_ n3_; clear hb hbox hg) | ((with_reducible refine gate_dst (N := 2) rfl ?_); refine box_event ?hg (N := 2) ?hd (cs := #[.int .i64 0, .int .i64 0, .int .i64 0, .int .i64 0]) (t := 28) ?hr ?_; (case hd => rfl); (case hg => rfl); (case hr => first | (go_simp; done) | (go_simp; rfl)); intro gb151 hg w165 hbox hb; have n0_ := Aside0.mk (blk_below (g := gb150) (o := .cells #[.int .i64 p, .slice A l.length c] 24 (0, 0)) (by (with_reducible repeat (first | refine blk_drewN ?_ _ | refine blk_drew ?_ | refine blk_alloc ?_ _)); exact BK150.out) hb); have n1_ := Aside0.mk (below_step (by repeat (first | (with_reducible first | exact HB.out | apply below_alloc | apply pw_below_drewN | apply below_drew1 | refine below_set ?_ GE150.out) | exact HB.out)) hb); have n2_ := Aside0.mk (hbox); have n3_ := Aside0.mk ((by rw [hg]; exact (below_size (by repeat (first | (with_reducible first | exact HB.out | apply below_alloc | apply pw_below_drewN | apply below_drew1 | refine below_set ?_ GE150.out) | exact HB.out))) : w.heap.size ≤ gb151)); have n4_ := Aside0.mk ((by rw [hg]; exact (below_size (by repeat (first | (with_reducible first | exact HB.out | apply below_alloc | apply pw_below_drewN | apply below_drew1 | refine below_set ?_ GE150.out) | exact HB.out))) : w.heap.size ≤ gb151)); have n5_ := Aside0.mk ((by rw [hg]; exact Nat.ne_of_lt (blk_lt (g := gb150) (o := .cells #[.int .i64 p, .slice A l.length c] 24 (0, 0)) (by (with_reducible repeat (first | refine blk_drewN ?_ _ | refine blk_drew ?_ | refine blk_alloc ?_ _)); exact BK150.out)) : gb150 ≠ gb151)); have n6_ := Aside0.mk ((by rw [hg]; exact Nat.ne_of_gt (blk_lt (g := gb150) (o := .cells #[.int .i64 p, .slice A l.length c] 24 (0, 0)) (by (with_reducible repeat (first | refine blk_drewN ?_ _ | refine blk_drew ?_ | refine blk_alloc ?_ _)); exact BK150.out)) : gb151 ≠ gb150)); clear BK150; clear HB; have BK150 := n0_; have HB := n1_; have BK151 := n2_; have GW151 := n3_; have GE151 := n4_; have NB150_151 := n5_; have NB151_150 := n6_; clear n0_ n1_ n2_ n3_ n4_ n5_ n6_; clear hb hbox hg; have hnb166 := NB150_151.out; have hnc166 := NB151_150.out; have hcz167_0 : w165.cell? ⟨gb150, 0, none⟩ = some (.int .i64 p) := (blk_cell BK150.out 0).trans rfl; have hcz167_1 : w165.cell? ⟨gb150, 1, none⟩ = some (.slice A l.length c) := (blk_cell BK150.out 1).trans rfl; have hfz167_0 := blk_frozen BK150.out 0; have hfz167_1 := blk_frozen BK150.out 1) | ((with_reducible refine gate_callee (f := 36) rfl ?_); refine goesL_ (some 10) rfl rfl Try.func36 (by kernel_rfl) rfl #[.agg #[.int .i64 p, .slice A l.length c]] rfl (by (try simp only [List.map_toArray, List.map_cons, List.map_nil]); first | done | rfl | (simp only [List.length_drop, List.length_take]; rfl)) ?_; (with_reducible refine (spileref36_right.calls k p _ _ l false _ ?side1 ?side2 A2.out).mono ?_); (case side1 => repeat (first | exact (Kd.C_below HR0_1.out HB.out) | (with_reducible refine Kd.C_alloc ?_ _) | (with_reducible refine Kd.C_drewN ?_ _) | (with_reducible refine Kd.C_drew ?_))); (case side2 => exact HC0_1.out); rintro e w168 ⟨rfl, hb⟩; refine ⟨_, rfl, ?_⟩; have n0_ := Aside0.mk (blk_below (g := gb150) (o := .cells #[.int .i64 p, .slice A l.length c] 24 (0, 0)) (by (with_reducible repeat (first | refine blk_drewN ?_ _ | refine blk_drew ?_ | refine blk_alloc ?_ _)); exact BK150.out) hb); have n1_ := Aside0.mk (blk_below (g := gb151) (o := .cells #[.int .i64 0, .int .i64 0, .int .i64 0, .int .i64 0] 28 (0, 0)) (by (with_reducible repeat (first | refine blk_drewN ?_ _ | refine blk_drew ?_ | refine blk_alloc ?_ _)); exact BK151.out) hb); have n2_ := Aside0.mk (below_step (by repeat (first | (with_reducible first | exact HB.out | apply below_alloc | apply pw_below_drewN | apply below_drew1 | refine below_set ?_ GE150.out | refine below_set ?_ GE151.out) | exact HB.out)) hb); clear BK150; clear BK151; clear HB; have BK150 := n0_; have BK151 := n1_; have HB := n2_; clear n0_ n1_ n2_; (try clear hb); (try clear hb2); (try clear hk); (try clear hi); have hcz169_0 : w168.cell? ⟨gb151, 0, none⟩ = some (.int .i64 0) := (blk_cell BK151.out 0).trans rfl; have hcz169_1 : w168.cell? ⟨gb151, 1, none⟩ = some (.int .i64 0) := (blk_cell BK151.out 1).trans rfl; have hcz169_2 : w168.cell? ⟨gb151, 2, none⟩ = some (.int .i64 0) := (blk_cell BK151.out 2).trans rfl; have hcz169_3 : w168.cell? ⟨gb151, 3, none⟩ = some (.int .i64 0) := (blk_cell BK151.out 3).trans rfl; have hfz169_0 := blk_frozen BK151.out 0; have hfz169_1 := blk_frozen BK151.out 1; have hfz169_2 := blk_frozen BK151.out 2; have hfz169_3 := blk_frozen BK151.out 3))
  refine bodyPost_ret (results_ct rfl _ _ gb151 28 #[.int .i64 0, .int .i64 0, .int .i64 0, .int .i64 0] (0, 0) _ rfl (by (with_reducible repeat (first | refine blk_drewN ?_ _ | refine blk_drew ?_ | refine blk_alloc ?_ _)); refine blk_put (cs := #[.int .i64 0, .int .i64 0, .int .i64 0, .int .i64 0]) ?_ 3 _ rfl; (with_reducible repeat (first | refine blk_drewN ?_ _ | refine blk_drew ?_ | refine blk_alloc ?_ _)); refine blk_put (cs := #[.int .i64 0, .int .i64 0, .int .i64 0, .int .i64 0]) ?_ 2 _ rfl; (with_reducible repeat (first | refine blk_drewN ?_ _ | refine blk_drew ?_ | refine blk_alloc ?_ _)); refine blk_put (cs := #[.int .i64 0, .int .i64 0, .int .i64 0, .int .i64 0]) ?_ 1 _ rfl; (with_reducible repeat (first | refine blk_drewN ?_ _ | refine blk_drew ?_ | refine blk_alloc ?_ _)); refine blk_put (cs := #[.int .i64 0, .int .i64 0, .int .i64 0, .int .i64 0]) ?_ 0 _ rfl; (with_reducible repeat (first | refine blk_drewN ?_ _ | refine blk_drew ?_ | refine blk_alloc ?_ _)); exact BK151.out) Try.underlying28 rfl (by kernel_rfl)) rfl ?_
  exact ⟨by first | rfl | (simp [errW_none, errW_some] <;> rfl) | (simp [*, errW_none, errW_some] <;> rfl), by repeat (first | (with_reducible first | exact HB.out | apply below_alloc | apply pw_below_drewN | apply below_drew1 | refine below_set ?_ GE150.out | refine below_set ?_ GE151.out) | exact HB.out)⟩

end Go.Proofs.Ytodfjkdgfjkifaa.PF
