-- Written by a program of this session (wip/pr.py) out of Lean's print of the translation; Lean checks it.
import Derived.Test.YtodfjkdgfjkifaaPF0
namespace Go.Proofs.Ytodfjkdgfjkifaa.PF
open Go.RowKit Go.Proofs.YtodfjkdgfjkifaaW.PrintWords Go.Proofs.YtodfjkdgfjkifaaW.PrintLast Go.Proofs.YtodfjkdgfjkifaaW.PrintMore
attribute [local go_sem] max2_int min2_int max_two min_two max_three min_three max_four min_four   -- for this text's walks alone
set_option linter.unusedVariables false
set_option linter.unusedSimpArgs false

/-! ### spileref36_Check: function 19 -/
mutual
def spileref36_Check.j0 : Nat → Bool → Int → List (S28) → Option (Int × Int)
 | 0, _, _, _ => none
 | k + 1, x14, x128000, x128001 => if x14 = true then (some ((-1), 2)) else (if (x128001.length : Int) > 64 then (some ((-1), 8)) else (spileref36_Check.l0 k 0 x128000 x128001))
def spileref36_Check.l0 : Nat → Int → Int → List (S28) → Option (Int × Int)
 | 0, _, _, _ => none
 | k + 1, x4, x128000, x128001 => if x4 < (x128001.length : Int) then (if 0 ≤ x4 then (if ((rd_T28 x128001 x4).f0) < 0 then (spileref36_Check.j2 k x4 true x128000 x128001 ((rd_T28 x128001 x4).f0) ((rd_T28 x128001 x4).f1) ((rd_T28 x128001 x4).f2) ((rd_T28 x128001 x4).f3)) else (if ((rd_T28 x128001 x4).f0) > x128000 then (spileref36_Check.j2 k x4 true x128000 x128001 ((rd_T28 x128001 x4).f0) ((rd_T28 x128001 x4).f1) ((rd_T28 x128001 x4).f2) ((rd_T28 x128001 x4).f3)) else (if ((rd_T28 x128001 x4).f1) < 0 then (spileref36_Check.j2 k x4 true x128000 x128001 ((rd_T28 x128001 x4).f0) ((rd_T28 x128001 x4).f1) ((rd_T28 x128001 x4).f2) ((rd_T28 x128001 x4).f3)) else (if ((rd_T28 x128001 x4).f1) > x128000 then (spileref36_Check.j2 k x4 true x128000 x128001 ((rd_T28 x128001 x4).f0) ((rd_T28 x128001 x4).f1) ((rd_T28 x128001 x4).f2) ((rd_T28 x128001 x4).f3)) else (if ((rd_T28 x128001 x4).f2) < 0 then (spileref36_Check.j2 k x4 true x128000 x128001 ((rd_T28 x128001 x4).f0) ((rd_T28 x128001 x4).f1) ((rd_T28 x128001 x4).f2) ((rd_T28 x128001 x4).f3)) else (if ((rd_T28 x128001 x4).f2) > 10737418240000 then (spileref36_Check.j2 k x4 true x128000 x128001 ((rd_T28 x128001 x4).f0) ((rd_T28 x128001 x4).f1) ((rd_T28 x128001 x4).f2) ((rd_T28 x128001 x4).f3)) else (if ((rd_T28 x128001 x4).f3) < 0 then (spileref36_Check.j2 k x4 true x128000 x128001 ((rd_T28 x128001 x4).f0) ((rd_T28 x128001 x4).f1) ((rd_T28 x128001 x4).f2) ((rd_T28 x128001 x4).f3)) else (spileref36_Check.j2 k x4 (decide (((rd_T28 x128001 x4).f3) > 128849018880000)) x128000 x128001 ((rd_T28 x128001 x4).f0) ((rd_T28 x128001 x4).f1) ((rd_T28 x128001 x4).f2) ((rd_T28 x128001 x4).f3))))))))) else (none)) else (some ((-1), 0))
def spileref36_Check.j2 : Nat → Int → Bool → Int → List (S28) → Int → Int → Int → Int → Option (Int × Int)
 | 0, _, _, _, _, _, _, _, _ => none
 | k + 1, x4, x72, x128000, x128001, x130000, x130001, x130002, x130003 => if x72 = true then (some (x4, 2)) else (if x130000 = x130001 then (spileref36_Check.j3 k x4 true x128000 x128001 x130000 x130001 x130002 x130003) else (if x130002 > 0 then (spileref36_Check.j3 k x4 (x130003 == 0) x128000 x128001 x130000 x130001 x130002 x130003) else (spileref36_Check.j3 k x4 false x128000 x128001 x130000 x130001 x130002 x130003)))
def spileref36_Check.j3 : Nat → Int → Bool → Int → List (S28) → Int → Int → Int → Int → Option (Int × Int)
 | 0, _, _, _, _, _, _, _, _ => none
 | k + 1, x4, x88, x128000, x128001, x130000, x130001, x130002, x130003 => if x88 = true then (some (x4, 10)) else (spileref36_Check.l1 k x4 0 x128000 x128001 x130000 x130001 x130002 x130003)
def spileref36_Check.l1 : Nat → Int → Int → Int → List (S28) → Int → Int → Int → Int → Option (Int × Int)
 | 0, _, _, _, _, _, _, _, _ => none
 | k + 1, x4, x6, x128000, x128001, x130000, x130001, x130002, x130003 => if x6 < x4 then (if 0 ≤ x6 then (if x6 < (x128001.length : Int) then (if ((rd_T28 x128001 x6).f0) = x130000 then (if ((rd_T28 x128001 x6).f1) = x130001 then (some (x4, 6)) else (spileref36_Check.l1 k x4 (wrap64 (x6 + 1)) x128000 x128001 x130000 x130001 x130002 x130003)) else (spileref36_Check.l1 k x4 (wrap64 (x6 + 1)) x128000 x128001 x130000 x130001 x130002 x130003)) else (none)) else (none)) else (spileref36_Check.l0 k (wrap64 (x4 + 1)) x128000 x128001)
end
def spileref36_Check.f (k : Nat) (a0_0 : Int) (l0_1 : List (S28)) : Option (Int × Int) := if a0_0 < 1 then (spileref36_Check.j0 k true a0_0 l0_1) else (spileref36_Check.j0 k (decide (a0_0 > 16)) a0_0 l0_1)
theorem spileref36_Check.mono_l : ∀ k, (∀ y0 y1 y2, LeO (spileref36_Check.j0 k y0 y1 y2) (spileref36_Check.j0 (k + 1) y0 y1 y2)) ∧ (∀ y0 y1 y2, LeO (spileref36_Check.l0 k y0 y1 y2) (spileref36_Check.l0 (k + 1) y0 y1 y2)) ∧ (∀ y0 y1 y2 y3 y4 y5 y6 y7, LeO (spileref36_Check.j2 k y0 y1 y2 y3 y4 y5 y6 y7) (spileref36_Check.j2 (k + 1) y0 y1 y2 y3 y4 y5 y6 y7)) ∧ (∀ y0 y1 y2 y3 y4 y5 y6 y7, LeO (spileref36_Check.j3 k y0 y1 y2 y3 y4 y5 y6 y7) (spileref36_Check.j3 (k + 1) y0 y1 y2 y3 y4 y5 y6 y7)) ∧ (∀ y0 y1 y2 y3 y4 y5 y6 y7, LeO (spileref36_Check.l1 k y0 y1 y2 y3 y4 y5 y6 y7) (spileref36_Check.l1 (k + 1) y0 y1 y2 y3 y4 y5 y6 y7))
 | 0 => ⟨fun _ _ _ r h => by simp [spileref36_Check.j0] at h, fun _ _ _ r h => by simp [spileref36_Check.l0] at h, fun _ _ _ _ _ _ _ _ r h => by simp [spileref36_Check.j2] at h, fun _ _ _ _ _ _ _ _ r h => by simp [spileref36_Check.j3] at h, fun _ _ _ _ _ _ _ _ r h => by simp [spileref36_Check.l1] at h⟩
 | k + 1 => by
  obtain ⟨ih0, ih1, ih2, ih3, ih4⟩ := spileref36_Check.mono_l k
  refine ⟨?_, ?_, ?_, ?_, ?_⟩
  ·intro y0 y1 y2
   unfold spileref36_Check.j0
   repeat' first
   | (with_reducible exact ih0 _ _ _)
   | (with_reducible exact ih1 _ _ _)
   | (with_reducible exact ih2 _ _ _ _ _ _ _ _)
   | (with_reducible exact ih3 _ _ _ _ _ _ _ _)
   | (with_reducible exact ih4 _ _ _ _ _ _ _ _)
   | (with_reducible exact LeO.refl _)
   | (with_reducible exact LeO.none _)
   | (with_reducible refine LeO.ite ?_ ?_)
   | (with_reducible refine LeO.bind ?_ (fun _ => ?_))
   | exact ih0 _ _ _
   | exact ih1 _ _ _
   | exact ih2 _ _ _ _ _ _ _ _
   | exact ih3 _ _ _ _ _ _ _ _
   | exact ih4 _ _ _ _ _ _ _ _
   | exact LeO.none _
   | refine LeO.ite ?_ ?_
   | refine LeO.bind ?_ (fun _ => ?_)
  ·intro y0 y1 y2
   unfold spileref36_Check.l0
   repeat' first
   | (with_reducible exact ih0 _ _ _)
   | (with_reducible exact ih1 _ _ _)
   | (with_reducible exact ih2 _ _ _ _ _ _ _ _)
   | (with_reducible exact ih3 _ _ _ _ _ _ _ _)
   | (with_reducible exact ih4 _ _ _ _ _ _ _ _)
   | (with_reducible exact LeO.refl _)
   | (with_reducible exact LeO.none _)
   | (with_reducible refine LeO.ite ?_ ?_)
   | (with_reducible refine LeO.bind ?_ (fun _ => ?_))
   | exact ih0 _ _ _
   | exact ih1 _ _ _
   | exact ih2 _ _ _ _ _ _ _ _
   | exact ih3 _ _ _ _ _ _ _ _
   | exact ih4 _ _ _ _ _ _ _ _
   | exact LeO.none _
   | refine LeO.ite ?_ ?_
   | refine LeO.bind ?_ (fun _ => ?_)
  ·intro y0 y1 y2 y3 y4 y5 y6 y7
   unfold spileref36_Check.j2
   repeat' first
   | (with_reducible exact ih0 _ _ _)
   | (with_reducible exact ih1 _ _ _)
   | (with_reducible exact ih2 _ _ _ _ _ _ _ _)
   | (with_reducible exact ih3 _ _ _ _ _ _ _ _)
   | (with_reducible exact ih4 _ _ _ _ _ _ _ _)
   | (with_reducible exact LeO.refl _)
   | (with_reducible exact LeO.none _)
   | (with_reducible refine LeO.ite ?_ ?_)
   | (with_reducible refine LeO.bind ?_ (fun _ => ?_))
   | exact ih0 _ _ _
   | exact ih1 _ _ _
   | exact ih2 _ _ _ _ _ _ _ _
   | exact ih3 _ _ _ _ _ _ _ _
   | exact ih4 _ _ _ _ _ _ _ _
   | exact LeO.none _
   | refine LeO.ite ?_ ?_
   | refine LeO.bind ?_ (fun _ => ?_)
  ·intro y0 y1 y2 y3 y4 y5 y6 y7
   unfold spileref36_Check.j3
   repeat' first
   | (with_reducible exact ih0 _ _ _)
   | (with_reducible exact ih1 _ _ _)
   | (with_reducible exact ih2 _ _ _ _ _ _ _ _)
   | (with_reducible exact ih3 _ _ _ _ _ _ _ _)
   | (with_reducible exact ih4 _ _ _ _ _ _ _ _)
   | (with_reducible exact LeO.refl _)
   | (with_reducible exact LeO.none _)
   | (with_reducible refine LeO.ite ?_ ?_)
   | (with_reducible refine LeO.bind ?_ (fun _ => ?_))
   | exact ih0 _ _ _
   | exact ih1 _ _ _
   | exact ih2 _ _ _ _ _ _ _ _
   | exact ih3 _ _ _ _ _ _ _ _
   | exact ih4 _ _ _ _ _ _ _ _
   | exact LeO.none _
   | refine LeO.ite ?_ ?_
   | refine LeO.bind ?_ (fun _ => ?_)
  ·intro y0 y1 y2 y3 y4 y5 y6 y7
   unfold spileref36_Check.l1
   repeat' first
   | (with_reducible exact ih0 _ _ _)
   | (with_reducible exact ih1 _ _ _)
   | (with_reducible exact ih2 _ _ _ _ _ _ _ _)
   | (with_reducible exact ih3 _ _ _ _ _ _ _ _)
   | (with_reducible exact ih4 _ _ _ _ _ _ _ _)
   | (with_reducible exact LeO.refl _)
   | (with_reducible exact LeO.none _)
   | (with_reducible refine LeO.ite ?_ ?_)
   | (with_reducible refine LeO.bind ?_ (fun _ => ?_))
   | exact ih0 _ _ _
   | exact ih1 _ _ _
   | exact ih2 _ _ _ _ _ _ _ _
   | exact ih3 _ _ _ _ _ _ _ _
   | exact ih4 _ _ _ _ _ _ _ _
   | exact LeO.none _
   | refine LeO.ite ?_ ?_
   | refine LeO.bind ?_ (fun _ => ?_)
theorem spileref36_Check.mono : ∀ a0 a1 k, LeO (spileref36_Check.f k a0 a1) (spileref36_Check.f (k + 1) a0 a1) := by
 intro a0 a1 k
 obtain ⟨ih0, ih1, ih2, ih3, ih4⟩ := spileref36_Check.mono_l k
 unfold spileref36_Check.f
 repeat' first
   | (with_reducible exact ih0 _ _ _)
   | (with_reducible exact ih1 _ _ _)
   | (with_reducible exact ih2 _ _ _ _ _ _ _ _)
   | (with_reducible exact ih3 _ _ _ _ _ _ _ _)
   | (with_reducible exact ih4 _ _ _ _ _ _ _ _)
   | (with_reducible exact LeO.refl _)
   | (with_reducible exact LeO.none _)
   | (with_reducible refine LeO.ite ?_ ?_)
   | (with_reducible refine LeO.bind ?_ (fun _ => ?_))
   | exact ih0 _ _ _
   | exact ih1 _ _ _
   | exact ih2 _ _ _ _ _ _ _ _
   | exact ih3 _ _ _ _ _ _ _ _
   | exact ih4 _ _ _ _ _ _ _ _
   | exact LeO.none _
   | refine LeO.ite ?_ ?_
   | refine LeO.bind ?_ (fun _ => ?_)
set_option maxHeartbeats 8000000 in
set_option maxRecDepth 100000 in
theorem spileref36_Check.calls (k : Nat) (a0_0 : Int) (A0_1 : Option Addr) (c0_1 : Nat) (l0_1 : List (S28)) (r1 : Int) (r2 : Int) (w : World) (hr0_1 : Kd.C k28 w A0_1 l0_1.length l0_1) (hc0_1 : l0_1.length ≤ c0_1) (h : spileref36_Check.f k a0_0 l0_1 = some (r1, r2)) :
  Calls Try.prog 19 #[.agg #[.int .i64 a0_0, .slice A0_1 l0_1.length c0_1]] w fun e w' => e = .returned (.tuple #[.int .i64 r1, .int .i64 r2]) ∧ Below w.heap.size w w' := by
 have hu24 := Try.underlying24
 have hu28 := Try.underlying28
 have HR0_1 := Aside0.mk hr0_1
 have HC0_1 := Aside0.mk hc0_1
 clear hr0_1 hc0_1
 have HB := Aside0.mk (Below.refl w.heap.size w)
 have H : (if a0_0 < 1 then (spileref36_Check.j0 k true a0_0 l0_1) else (spileref36_Check.j0 k (decide (a0_0 > 16)) a0_0 l0_1)) = some (r1, r2) := h
 clear h
 have HC2 := Aside0.mk H
 clear H
 go_enter Try.func19, Try.ntmps19
 go_upto_region 1 with (first | ((with_reducible refine gate_dst (N := 1) rfl ?_); refine box_event ?hg (N := 1) ?hd (cs := #[.int .i64 a0_0, .slice A0_1 l0_1.length c0_1]) (t := 24) ?hr ?_; (case hd => rfl); (case hg => rfl); (case hr => first | (go_simp; done) | (go_simp; rfl)); intro gb127 hg w3 hbox hb; have n0_ := Aside0.mk (below_step (by repeat (first | (with_reducible first | exact HB.out | apply below_alloc | apply pw_below_drewN | apply below_drew1) | exact HB.out)) hb); have n1_ := Aside0.mk (hbox); have n2_ := Aside0.mk ((by rw [hg]; exact (below_size (by repeat (first | (with_reducible first | exact HB.out | apply below_alloc | apply pw_below_drewN | apply below_drew1) | exact HB.out))) : w.heap.size ≤ gb127)); have n3_ := Aside0.mk ((by rw [hg]; exact (below_size (by repeat (first | (with_reducible first | exact HB.out | apply below_alloc | apply pw_below_drewN | apply below_drew1) | exact HB.out))) : w.heap.size ≤ gb127)); clear HB; have HB := n0_; have BK127 := n1_; have GW127 := n2_; have GE127 := n3_; clear n0_ n1_ n2_ n3_; clear hb hbox hg))
 repeat (go_quiet (first | ((with_reducible refine gate_dst (N := 1) rfl ?_); refine box_event ?hg (N := 1) ?hd (cs := #[.int .i64 a0_0, .slice A0_1 l0_1.length c0_1]) (t := 24) ?hr ?_; (case hd => rfl); (case hg => rfl); (case hr => first | (go_simp; done) | (go_simp; rfl)); intro gb127 hg w3 hbox hb; have n0_ := Aside0.mk (below_step (by repeat (first | (with_reducible first | exact HB.out | apply below_alloc | apply pw_below_drewN | apply below_drew1) | exact HB.out)) hb); have n1_ := Aside0.mk (hbox); have n2_ := Aside0.mk ((by rw [hg]; exact (below_size (by repeat (first | (with_reducible first | exact HB.out | apply below_alloc | apply pw_below_drewN | apply below_drew1) | exact HB.out))) : w.heap.size ≤ gb127)); have n3_ := Aside0.mk ((by rw [hg]; exact (below_size (by repeat (first | (with_reducible first | exact HB.out | apply below_alloc | apply pw_below_drewN | apply below_drew1) | exact HB.out))) : w.heap.size ≤ gb127)); clear HB; have HB := n0_; have BK127 := n1_; have GW127 := n2_; have GE127 := n3_; clear n0_ n1_ n2_ n3_; clear hb hbox hg)); go_upto_region 1 with (first | ((with_reducible refine gate_dst (N := 1) rfl ?_); refine box_event ?hg (N := 1) ?hd (cs := #[.int .i64 a0_0, .slice A0_1 l0_1.length c0_1]) (t := 24) ?hr ?_; (case hd => rfl); (case hg => rfl); (case hr => first | (go_simp; done) | (go_simp; rfl)); intro gb127 hg w3 hbox hb; have n0_ := Aside0.mk (below_step (by repeat (first | (with_reducible first | exact HB.out | apply below_alloc | apply pw_below_drewN | apply below_drew1) | exact HB.out)) hb); have n1_ := Aside0.mk (hbox); have n2_ := Aside0.mk ((by rw [hg]; exact (below_size (by repeat (first | (with_reducible first | exact HB.out | apply below_alloc | apply pw_below_drewN | apply below_drew1) | exact HB.out))) : w.heap.size ≤ gb127)); have n3_ := Aside0.mk ((by rw [hg]; exact (below_size (by repeat (first | (with_reducible first | exact HB.out | apply below_alloc | apply pw_below_drewN | apply below_drew1) | exact HB.out))) : w.heap.size ≤ gb127)); clear HB; have HB := n0_; have BK127 := n1_; have GW127 := n2_; have GE127 := n3_; clear n0_ n1_ n2_ n3_; clear hb hbox hg)))
 (try simp only [Act.put, List.setIfInBounds_toArray, List.set_cons_zero, List.set_cons_succ])
 go_cut [14] (fun v14 wc => ∃ (kq : Nat) (x14_1 : Bool), v14 = .bool x14_1 ∧ Aside0 (spileref36_Check.j0 kq x14_1 a0_0 l0_1 = some (r1, r2)) ∧ Aside0 (kq ≤ k) ∧ Aside0 (wc.heap[gb127]? = some (.cells #[.int .i64 a0_0, (.slice A0_1 l0_1.length c0_1)] 24 (0, 0))) ∧ Aside0 (Below w.heap.size w wc))
 case first =>
  have H := HC2.out
  clear HC2
  by_cases c4 : a0_0 < 1
  ·rw [if_pos c4] at H
   have c4b0 : decide (a0_0 < 1) = true := decide_eq_true c4
   clear c4
   (first | rw [c4b0] | (simp only [i64_w, i32_w]; rw [c4b0]) | skip)
   have H' := Aside0.mk H
   clear H
   have hcz5_0 : w3.cell? ⟨gb127, 0, none⟩ = some (.int .i64 a0_0) := (blk_cell BK127.out 0).trans rfl
   have hcz5_1 : w3.cell? ⟨gb127, 1, none⟩ = some (.slice A0_1 l0_1.length c0_1) := (blk_cell BK127.out 1).trans rfl
   have hfz5_0 := blk_frozen BK127.out 0
   have hfz5_1 := blk_frozen BK127.out 1
   go_wp2
   repeat (go_quiet (fail); try go_wp2)
   go_meet
   case rel => exact ⟨_, (true), (by first | rfl | (simp; done) | (simp [*]; done)), H', ⟨by first | omega | exact Nat.le_refl _⟩, ⟨by (with_reducible repeat (first | refine blk_drewN ?_ _ | refine blk_drew ?_ | refine blk_alloc ?_ _)); exact BK127.out⟩, ⟨by repeat (first | (with_reducible first | exact HB.out | apply below_alloc | apply pw_below_drewN | apply below_drew1 | refine below_set ?_ GE127.out) | exact HB.out)⟩⟩
  ·rw [if_neg c4] at H
   have c4b0 : decide (a0_0 < 1) = false := decide_eq_false c4
   clear c4
   (first | rw [c4b0] | (simp only [i64_w, i32_w]; rw [c4b0]) | skip)
   have H' := Aside0.mk H
   clear H
   have hcz6_0 : w3.cell? ⟨gb127, 0, none⟩ = some (.int .i64 a0_0) := (blk_cell BK127.out 0).trans rfl
   have hcz6_1 : w3.cell? ⟨gb127, 1, none⟩ = some (.slice A0_1 l0_1.length c0_1) := (blk_cell BK127.out 1).trans rfl
   have hfz6_0 := blk_frozen BK127.out 0
   have hfz6_1 := blk_frozen BK127.out 1
   go_wp2
   repeat (go_quiet (fail); try go_wp2)
   go_meet
   case rel => exact ⟨_, (decide (a0_0 > 16)), (by first | rfl | (simp; done) | (simp [*]; done)), H', ⟨by first | omega | exact Nat.le_refl _⟩, ⟨by (with_reducible repeat (first | refine blk_drewN ?_ _ | refine blk_drew ?_ | refine blk_alloc ?_ _)); exact BK127.out⟩, ⟨by repeat (first | (with_reducible first | exact HB.out | apply below_alloc | apply pw_below_drewN | apply below_drew1 | refine below_set ?_ GE127.out) | exact HB.out)⟩⟩
 case rest =>
  clear HC2
  try clear c1
  try clear p2
  try clear c4
  try clear c4b0
  try clear hcz5_0
  try clear hcz5_1
  try clear hcz6_0
  try clear hcz6_1
  try clear hfz5_0
  try clear hfz5_1
  try clear hfz6_0
  try clear hfz6_1
  obtain ⟨kq, x14_1, rfl, HA, HJ1, BK127, HB⟩ := hcut
  cases kq with
  | zero => exact absurd HA.out (by simp [spileref36_Check.j0])
  | succ kj1 =>
   have H := HA.out
   clear HA
   simp only [spileref36_Check.j0] at H
   by_cases c7 : x14_1 = true
   ·subst c7
    have H1 : (some ((-1), 2)) = some (r1, r2) := by rw [if_pos rfl] at H; exact H
    clear H
    have H := H1
    clear H1
    simp only [Option.some.injEq, Prod.mk.injEq] at H
    obtain ⟨rfl, rfl⟩ := H
    go_wp2
    repeat (go_quiet (fail); try go_wp2)
    go_ret2
    exact ⟨by first | rfl | (simp [errW_none, errW_some] <;> rfl) | (simp [*, errW_none, errW_some] <;> rfl), by repeat (first | (with_reducible first | exact HB.out | apply below_alloc | apply pw_below_drewN | apply below_drew1 | refine below_set ?_ GE127.out) | exact HB.out)⟩
   ·replace c7 := Bool.eq_false_iff.mpr c7
    subst c7
    have H1 : (if (l0_1.length : Int) > 64 then (some ((-1), 8)) else (spileref36_Check.l0 kj1 0 a0_0 l0_1)) = some (r1, r2) := by rw [if_neg (show ¬ (false = true) by decide)] at H; exact H
    clear H
    have H := H1
    clear H1
    by_cases c8 : (l0_1.length : Int) > 64
    ·rw [if_pos c8] at H
     have c8b0 : decide (64 < (l0_1.length : Int)) = true := decide_eq_true c8
     have c8b1 : decide (64 < l0_1.length) = true := decide_eq_true (by omega)
     clear c8
     simp only [Option.some.injEq, Prod.mk.injEq] at H
     obtain ⟨rfl, rfl⟩ := H
     have hcz9_0 : wc.cell? ⟨gb127, 0, none⟩ = some (.int .i64 a0_0) := (blk_cell BK127.out 0).trans rfl
     have hcz9_1 : wc.cell? ⟨gb127, 1, none⟩ = some (.slice A0_1 l0_1.length c0_1) := (blk_cell BK127.out 1).trans rfl
     have hfz9_0 := blk_frozen BK127.out 0
     have hfz9_1 := blk_frozen BK127.out 1
     go_wp2
     repeat (go_quiet (fail); try go_wp2)
     go_ret2
     exact ⟨by first | rfl | (simp [errW_none, errW_some] <;> rfl) | (simp [*, errW_none, errW_some] <;> rfl), by repeat (first | (with_reducible first | exact HB.out | apply below_alloc | apply pw_below_drewN | apply below_drew1 | refine below_set ?_ GE127.out) | exact HB.out)⟩
    ·rw [if_neg c8] at H
     have c8b0 : decide (64 < (l0_1.length : Int)) = false := decide_eq_false c8
     have c8b1 : decide (64 < l0_1.length) = false := decide_eq_false (by omega)
     clear c8
     have H' := Aside0.mk H
     clear H
     have hcz10_0 : wc.cell? ⟨gb127, 0, none⟩ = some (.int .i64 a0_0) := (blk_cell BK127.out 0).trans rfl
     have hcz10_1 : wc.cell? ⟨gb127, 1, none⟩ = some (.slice A0_1 l0_1.length c0_1) := (blk_cell BK127.out 1).trans rfl
     have hfz10_0 := blk_frozen BK127.out 0
     have hfz10_1 := blk_frozen BK127.out 1
     go_wp2
     repeat (go_quiet (fail); try go_wp2)
     go_loopg [4] kj1 (fun kq v4 w' => ∃ (x4_2 : Int), v4 = .int .i64 x4_2 ∧ Aside0 (spileref36_Check.l0 kq x4_2 a0_0 l0_1 = some (r1, r2)) ∧ Aside0 (kq ≤ kj1) ∧ Aside0 (w'.heap[gb127]? = some (.cells #[.int .i64 a0_0, (.slice A0_1 l0_1.length c0_1)] 24 (0, 0))) ∧ Aside0 (Below w.heap.size w w'))
     case atStart => exact ⟨(0), (by first | rfl | (simp; done) | (simp [*]; done)), H', ⟨Nat.le_refl _⟩, ⟨by (with_reducible repeat (first | refine blk_drewN ?_ _ | refine blk_drew ?_ | refine blk_alloc ?_ _)); exact BK127.out⟩, ⟨by repeat (first | (with_reducible first | exact HB.out | apply below_alloc | apply pw_below_drewN | apply below_drew1 | refine below_set ?_ GE127.out) | exact HB.out)⟩⟩
     case round =>
      clear H'
      try clear c1
      try clear p2
      try clear c4
      try clear c4b0
      try clear c7
      try clear c8
      try clear c8b0
      try clear c8b1
      try clear hcz10_0
      try clear hcz10_1
      try clear hcz5_0
      try clear hcz5_1
      try clear hcz6_0
      try clear hcz6_1
      try clear hcz9_0
      try clear hcz9_1
      try clear hfz10_0
      try clear hfz10_1
      try clear hfz5_0
      try clear hfz5_1
      try clear hfz6_0
      try clear hfz6_1
      try clear hfz9_0
      try clear hfz9_1
      try clear p2
      obtain ⟨x4_2, rfl, HA, HK2, BK127, HB⟩ := hrel
      cases gk with
      | zero => exact absurd HA.out (by simp [spileref36_Check.l0])
      | succ k2 =>
       have H := HA.out
       clear HA
       simp only [spileref36_Check.l0] at H
       by_cases c11 : x4_2 < (l0_1.length : Int)
       ·rw [if_pos c11] at H
        have c11b0 : decide (x4_2 < (l0_1.length : Int)) = true := decide_eq_true c11
        clear c11
        by_cases c12 : 0 ≤ x4_2
        ·rw [if_pos c12] at H
         have c12b0 : decide (0 ≤ x4_2) = true := decide_eq_true c12
         clear c12
         have HC13 := Aside0.mk H
         clear H
         have hcz14_0 : wr.cell? ⟨gb127, 0, none⟩ = some (.int .i64 a0_0) := (blk_cell BK127.out 0).trans rfl
         have hcz14_1 : wr.cell? ⟨gb127, 1, none⟩ = some (.slice A0_1 l0_1.length c0_1) := (blk_cell BK127.out 1).trans rfl
         have hfz14_0 := blk_frozen BK127.out 0
         have hfz14_1 := blk_frozen BK127.out 1
         have p128 : 0 ≤ (x4_2 : Int) := of_decide_eq_true (by first | (with_reducible assumption) | assumption)
         have q128 : x4_2 < (l0_1.length : Int) := of_decide_eq_true (by first | (with_reducible assumption) | assumption)
         obtain ⟨ad128, e128, hx128_0, hx128_1, hx128_2, hx128_3⟩ := at_T28 HR0_1.out x4_2 p128 q128
         cases e128
         replace hx128_0 := (HB.out.cell (World.block_lt_of_cell? w _ hx128_0)).trans hx128_0
         replace hx128_1 := (HB.out.cell (World.block_lt_of_cell? w _ hx128_1)).trans hx128_1
         replace hx128_2 := (HB.out.cell (World.block_lt_of_cell? w _ hx128_2)).trans hx128_2
         replace hx128_3 := (HB.out.cell (World.block_lt_of_cell? w _ hx128_3)).trans hx128_3
         replace p128 := eq_true p128
         replace q128 := eq_true q128
         go_upto_region 9 with (first | ((with_reducible refine gate_dst (N := 5) rfl ?_); refine box_event ?hg (N := 5) ?hd (cs := #[.int .i64 0, .int .i64 0, .int .i64 0, .int .i64 0]) (t := 28) ?hr ?_; (case hd => rfl); (case hg => rfl); (case hr => first | (go_simp; done) | (go_simp; rfl)); intro gb129 hg w15 hbox hb; have n0_ := Aside0.mk (blk_below (g := gb127) (o := .cells #[.int .i64 a0_0, .slice (some ad128) l0_1.length c0_1] 24 (0, 0)) (by (with_reducible repeat (first | refine blk_drewN ?_ _ | refine blk_drew ?_ | refine blk_alloc ?_ _)); exact BK127.out) hb); have n1_ := Aside0.mk (below_step (by repeat (first | (with_reducible first | exact HB.out | apply below_alloc | apply pw_below_drewN | apply below_drew1 | refine below_set ?_ GE127.out) | exact HB.out)) hb); have n2_ := Aside0.mk (hbox); have n3_ := Aside0.mk ((by rw [hg]; exact (below_size (by repeat (first | (with_reducible first | exact HB.out | apply below_alloc | apply pw_below_drewN | apply below_drew1 | refine below_set ?_ GE127.out) | exact HB.out))) : w.heap.size ≤ gb129)); have n4_ := Aside0.mk ((by rw [hg]; exact (below_size (by repeat (first | (with_reducible first | exact HB.out | apply below_alloc | apply pw_below_drewN | apply below_drew1 | refine below_set ?_ GE127.out) | exact HB.out))) : w.heap.size ≤ gb129)); have n5_ := Aside0.mk ((by rw [hg]; exact Nat.ne_of_lt (blk_lt (g := gb127) (o := .cells #[.int .i64 a0_0, .slice (some ad128) l0_1.length c0_1] 24 (0, 0)) (by (with_reducible repeat (first | refine blk_drewN ?_ _ | refine blk_drew ?_ | refine blk_alloc ?_ _)); exact BK127.out)) : gb127 ≠ gb129)); have n6_ := Aside0.mk ((by rw [hg]; exact Nat.ne_of_gt (blk_lt (g := gb127) (o := .cells #[.int .i64 a0_0, .slice (some ad128) l0_1.length c0_1] 24 (0, 0)) (by (with_reducible repeat (first | refine blk_drewN ?_ _ | refine blk_drew ?_ | refine blk_alloc ?_ _)); exact BK127.out)) : gb129 ≠ gb127)); clear BK127; clear HB; have BK127 := n0_; have HB := n1_; have BK129 := n2_; have GW129 := n3_; have GE129 := n4_; have NB127_129 := n5_; have NB129_127 := n6_; clear n0_ n1_ n2_ n3_ n4_ n5_ n6_; clear hb hbox hg; have hnb16 := NB129_127.out; have hnc16 := NB127_129.out; have hcz17_0 : w15.cell? ⟨gb129, 0, none⟩ = some (.int .i64 0) := (blk_cell BK129.out 0).trans rfl; have hcz17_1 : w15.cell? ⟨gb129, 1, none⟩ = some (.int .i64 0) := (blk_cell BK129.out 1).trans rfl; have hcz17_2 : w15.cell? ⟨gb129, 2, none⟩ = some (.int .i64 0) := (blk_cell BK129.out 2).trans rfl; have hcz17_3 : w15.cell? ⟨gb129, 3, none⟩ = some (.int .i64 0) := (blk_cell BK129.out 3).trans rfl; have hfz17_0 := blk_frozen BK129.out 0; have hfz17_1 := blk_frozen BK129.out 1; have hfz17_2 := blk_frozen BK129.out 2; have hfz17_3 := blk_frozen BK129.out 3))
         repeat (go_quiet (first | ((with_reducible refine gate_dst (N := 5) rfl ?_); refine box_event ?hg (N := 5) ?hd (cs := #[.int .i64 0, .int .i64 0, .int .i64 0, .int .i64 0]) (t := 28) ?hr ?_; (case hd => rfl); (case hg => rfl); (case hr => first | (go_simp; done) | (go_simp; rfl)); intro gb129 hg w15 hbox hb; have n0_ := Aside0.mk (blk_below (g := gb127) (o := .cells #[.int .i64 a0_0, .slice (some ad128) l0_1.length c0_1] 24 (0, 0)) (by (with_reducible repeat (first | refine blk_drewN ?_ _ | refine blk_drew ?_ | refine blk_alloc ?_ _)); exact BK127.out) hb); have n1_ := Aside0.mk (below_step (by repeat (first | (with_reducible first | exact HB.out | apply below_alloc | apply pw_below_drewN | apply below_drew1 | refine below_set ?_ GE127.out) | exact HB.out)) hb); have n2_ := Aside0.mk (hbox); have n3_ := Aside0.mk ((by rw [hg]; exact (below_size (by repeat (first | (with_reducible first | exact HB.out | apply below_alloc | apply pw_below_drewN | apply below_drew1 | refine below_set ?_ GE127.out) | exact HB.out))) : w.heap.size ≤ gb129)); have n4_ := Aside0.mk ((by rw [hg]; exact (below_size (by repeat (first | (with_reducible first | exact HB.out | apply below_alloc | apply pw_below_drewN | apply below_drew1 | refine below_set ?_ GE127.out) | exact HB.out))) : w.heap.size ≤ gb129)); have n5_ := Aside0.mk ((by rw [hg]; exact Nat.ne_of_lt (blk_lt (g := gb127) (o := .cells #[.int .i64 a0_0, .slice (some ad128) l0_1.length c0_1] 24 (0, 0)) (by (with_reducible repeat (first | refine blk_drewN ?_ _ | refine blk_drew ?_ | refine blk_alloc ?_ _)); exact BK127.out)) : gb127 ≠ gb129)); have n6_ := Aside0.mk ((by rw [hg]; exact Nat.ne_of_gt (blk_lt (g := gb127) (o := .cells #[.int .i64 a0_0, .slice (some ad128) l0_1.length c0_1] 24 (0, 0)) (by (with_reducible repeat (first | refine blk_drewN ?_ _ | refine blk_drew ?_ | refine blk_alloc ?_ _)); exact BK127.out)) : gb129 ≠ gb127)); clear BK127; clear HB; have BK127 := n0_; have HB := n1_; have BK129 := n2_; have GW129 := n3_; have GE129 := n4_; have NB127_129 := n5_; have NB129_127 := n6_; clear n0_ n1_ n2_ n3_ n4_ n5_ n6_; clear hb hbox hg; have hnb16 := NB129_127.out; have hnc16 := NB127_129.out; have hcz17_0 : w15.cell? ⟨gb129, 0, none⟩ = some (.int .i64 0) := (blk_cell BK129.out 0).trans rfl; have hcz17_1 : w15.cell? ⟨gb129, 1, none⟩ = some (.int .i64 0) := (blk_cell BK129.out 1).trans rfl; have hcz17_2 : w15.cell? ⟨gb129, 2, none⟩ = some (.int .i64 0) := (blk_cell BK129.out 2).trans rfl; have hcz17_3 : w15.cell? ⟨gb129, 3, none⟩ = some (.int .i64 0) := (blk_cell BK129.out 3).trans rfl; have hfz17_0 := blk_frozen BK129.out 0; have hfz17_1 := blk_frozen BK129.out 1; have hfz17_2 := blk_frozen BK129.out 2; have hfz17_3 := blk_frozen BK129.out 3)); go_upto_region 9 with (first | ((with_reducible refine gate_dst (N := 5) rfl ?_); refine box_event ?hg (N := 5) ?hd (cs := #[.int .i64 0, .int .i64 0, .int .i64 0, .int .i64 0]) (t := 28) ?hr ?_; (case hd => rfl); (case hg => rfl); (case hr => first | (go_simp; done) | (go_simp; rfl)); intro gb129 hg w15 hbox hb; have n0_ := Aside0.mk (blk_below (g := gb127) (o := .cells #[.int .i64 a0_0, .slice (some ad128) l0_1.length c0_1] 24 (0, 0)) (by (with_reducible repeat (first | refine blk_drewN ?_ _ | refine blk_drew ?_ | refine blk_alloc ?_ _)); exact BK127.out) hb); have n1_ := Aside0.mk (below_step (by repeat (first | (with_reducible first | exact HB.out | apply below_alloc | apply pw_below_drewN | apply below_drew1 | refine below_set ?_ GE127.out) | exact HB.out)) hb); have n2_ := Aside0.mk (hbox); have n3_ := Aside0.mk ((by rw [hg]; exact (below_size (by repeat (first | (with_reducible first | exact HB.out | apply below_alloc | apply pw_below_drewN | apply below_drew1 | refine below_set ?_ GE127.out) | exact HB.out))) : w.heap.size ≤ gb129)); have n4_ := Aside0.mk ((by rw [hg]; exact (below_size (by repeat (first | (with_reducible first | exact HB.out | apply below_alloc | apply pw_below_drewN | apply below_drew1 | refine below_set ?_ GE127.out) | exact HB.out))) : w.heap.size ≤ gb129)); have n5_ := Aside0.mk ((by rw [hg]; exact Nat.ne_of_lt (blk_lt (g := gb127) (o := .cells #[.int .i64 a0_0, .slice (some ad128) l0_1.length c0_1] 24 (0, 0)) (by (with_reducible repeat (first | refine blk_drewN ?_ _ | refine blk_drew ?_ | refine blk_alloc ?_ _)); exact BK127.out)) : gb127 ≠ gb129)); have n6_ := Aside0.mk ((by rw [hg]; exact Nat.ne_of_gt (blk_lt (g := gb127) (o := .cells #[.int .i64 a0_0, .slice (some ad128) l0_1.length c0_1] 24 (0, 0)) (by (with_reducible repeat (first | refine blk_drewN ?_ _ | refine blk_drew ?_ | refine blk_alloc ?_ _)); exact BK127.out)) : gb129 ≠ gb127)); clear BK127; clear HB; have BK127 := n0_; have HB := n1_; have BK129 := n2_; have GW129 := n3_; have GE129 := n4_; have NB127_129 := n5_; have NB129_127 := n6_; clear n0_ n1_ n2_ n3_ n4_ n5_ n6_; clear hb hbox hg; have hnb16 := NB129_127.out; have hnc16 := NB127_129.out; have hcz17_0 : w15.cell? ⟨gb129, 0, none⟩ = some (.int .i64 0) := (blk_cell BK129.out 0).trans rfl; have hcz17_1 : w15.cell? ⟨gb129, 1, none⟩ = some (.int .i64 0) := (blk_cell BK129.out 1).trans rfl; have hcz17_2 : w15.cell? ⟨gb129, 2, none⟩ = some (.int .i64 0) := (blk_cell BK129.out 2).trans rfl; have hcz17_3 : w15.cell? ⟨gb129, 3, none⟩ = some (.int .i64 0) := (blk_cell BK129.out 3).trans rfl; have hfz17_0 := blk_frozen BK129.out 0; have hfz17_1 := blk_frozen BK129.out 1; have hfz17_2 := blk_frozen BK129.out 2; have hfz17_3 := blk_frozen BK129.out 3)))
         (try simp only [Act.put, List.setIfInBounds_toArray, List.set_cons_zero, List.set_cons_succ])
         go_cut [72] (fun v72 wc => ∃ (kq : Nat) (x72_12 : Bool), v72 = .bool x72_12 ∧ Aside0 (spileref36_Check.j2 kq x4_2 x72_12 a0_0 l0_1 ((rd_T28 l0_1 x4_2).f0) ((rd_T28 l0_1 x4_2).f1) ((rd_T28 l0_1 x4_2).f2) ((rd_T28 l0_1 x4_2).f3) = some (r1, r2)) ∧ Aside0 (kq ≤ k2) ∧ Aside0 (wc.heap[gb127]? = some (.cells #[.int .i64 a0_0, (.slice (some ad128) l0_1.length c0_1)] 24 (0, 0))) ∧ Aside0 (wc.heap[gb129]? = some (.cells #[.int .i64 ((rd_T28 l0_1 x4_2).f0), .int .i64 ((rd_T28 l0_1 x4_2).f1), .int .i64 ((rd_T28 l0_1 x4_2).f2), .int .i64 ((rd_T28 l0_1 x4_2).f3)] 28 (0, 0))) ∧ Aside0 (Below w.heap.size w wc))
         case first =>
          have H := HC13.out
          clear HC13
          by_cases c18 : ((rd_T28 l0_1 x4_2).f0) < 0
          ·rw [if_pos c18] at H
           have c18b0 : decide (((rd_T28 l0_1 x4_2).f0) < 0) = true := decide_eq_true c18
           clear c18
           (first | rw [c18b0] | (simp only [i64_w, i32_w]; rw [c18b0]) | skip)
           have H' := Aside0.mk H
           clear H
           have hnb19 := NB129_127.out
           have hnc19 := NB127_129.out
           have hcz20_0 : w15.cell? ⟨gb129, 0, none⟩ = some (.int .i64 0) := (blk_cell BK129.out 0).trans rfl
           have hcz20_1 : w15.cell? ⟨gb129, 1, none⟩ = some (.int .i64 0) := (blk_cell BK129.out 1).trans rfl
           have hcz20_2 : w15.cell? ⟨gb129, 2, none⟩ = some (.int .i64 0) := (blk_cell BK129.out 2).trans rfl
           have hcz20_3 : w15.cell? ⟨gb129, 3, none⟩ = some (.int .i64 0) := (blk_cell BK129.out 3).trans rfl
           have hfz20_0 := blk_frozen BK129.out 0
           have hfz20_1 := blk_frozen BK129.out 1
           have hfz20_2 := blk_frozen BK129.out 2
           have hfz20_3 := blk_frozen BK129.out 3
           go_wp2
           repeat (go_quiet (fail); try go_wp2)
           go_meet
           case rel => exact ⟨_, (true), (by first | rfl | (simp; done) | (simp [*]; done)), H', ⟨by have := HJ1.out; have := HK2.out; first | omega | exact Nat.le_refl _⟩, ⟨by (with_reducible repeat (first | refine blk_drewN ?_ _ | refine blk_drew ?_ | refine blk_alloc ?_ _)); refine blk_far ?_ NB127_129.out _; (with_reducible repeat (first | refine blk_drewN ?_ _ | refine blk_drew ?_ | refine blk_alloc ?_ _)); refine blk_far ?_ NB127_129.out _; (with_reducible repeat (first | refine blk_drewN ?_ _ | refine blk_drew ?_ | refine blk_alloc ?_ _)); refine blk_far ?_ NB127_129.out _; (with_reducible repeat (first | refine blk_drewN ?_ _ | refine blk_drew ?_ | refine blk_alloc ?_ _)); refine blk_far ?_ NB127_129.out _; (with_reducible repeat (first | refine blk_drewN ?_ _ | refine blk_drew ?_ | refine blk_alloc ?_ _)); exact BK127.out⟩, ⟨by (with_reducible repeat (first | refine blk_drewN ?_ _ | refine blk_drew ?_ | refine blk_alloc ?_ _)); refine blk_put (cs := #[.int .i64 ((rd_T28 l0_1 x4_2).f0), .int .i64 ((rd_T28 l0_1 x4_2).f1), .int .i64 ((rd_T28 l0_1 x4_2).f2), .int .i64 0]) ?_ 3 _ rfl; (with_reducible repeat (first | refine blk_drewN ?_ _ | refine blk_drew ?_ | refine blk_alloc ?_ _)); refine blk_put (cs := #[.int .i64 ((rd_T28 l0_1 x4_2).f0), .int .i64 ((rd_T28 l0_1 x4_2).f1), .int .i64 0, .int .i64 0]) ?_ 2 _ rfl; (with_reducible repeat (first | refine blk_drewN ?_ _ | refine blk_drew ?_ | refine blk_alloc ?_ _)); refine blk_put (cs := #[.int .i64 ((rd_T28 l0_1 x4_2).f0), .int .i64 0, .int .i64 0, .int .i64 0]) ?_ 1 _ rfl; (with_reducible repeat (first | refine blk_drewN ?_ _ | refine blk_drew ?_ | refine blk_alloc ?_ _)); refine blk_put (cs := #[.int .i64 0, .int .i64 0, .int .i64 0, .int .i64 0]) ?_ 0 _ rfl; (with_reducible repeat (first | refine blk_drewN ?_ _ | refine blk_drew ?_ | refine blk_alloc ?_ _)); exact BK129.out⟩, ⟨by repeat (first | (with_reducible first | exact HB.out | apply below_alloc | apply pw_below_drewN | apply below_drew1 | refine below_set ?_ GE127.out | refine below_set ?_ GE129.out) | exact HB.out)⟩⟩
          ·rw [if_neg c18] at H
           have c18b0 : decide (((rd_T28 l0_1 x4_2).f0) < 0) = false := decide_eq_false c18
           clear c18
           (first | rw [c18b0] | (simp only [i64_w, i32_w]; rw [c18b0]) | skip)
           by_cases c21 : ((rd_T28 l0_1 x4_2).f0) > a0_0
           ·rw [if_pos c21] at H
            have c21b0 : decide (a0_0 < ((rd_T28 l0_1 x4_2).f0)) = true := decide_eq_true c21
            clear c21
            have H' := Aside0.mk H
            clear H
            have hnb22 := NB129_127.out
            have hnc22 := NB127_129.out
            have hcz23_0 : w15.cell? ⟨gb129, 0, none⟩ = some (.int .i64 0) := (blk_cell BK129.out 0).trans rfl
            have hcz23_1 : w15.cell? ⟨gb129, 1, none⟩ = some (.int .i64 0) := (blk_cell BK129.out 1).trans rfl
            have hcz23_2 : w15.cell? ⟨gb129, 2, none⟩ = some (.int .i64 0) := (blk_cell BK129.out 2).trans rfl
            have hcz23_3 : w15.cell? ⟨gb129, 3, none⟩ = some (.int .i64 0) := (blk_cell BK129.out 3).trans rfl
            have hfz23_0 := blk_frozen BK129.out 0
            have hfz23_1 := blk_frozen BK129.out 1
            have hfz23_2 := blk_frozen BK129.out 2
            have hfz23_3 := blk_frozen BK129.out 3
            have hcz24_0 : w15.cell? ⟨gb127, 0, none⟩ = some (.int .i64 a0_0) := (blk_cell BK127.out 0).trans rfl
            have hcz24_1 : w15.cell? ⟨gb127, 1, none⟩ = some (.slice (some ad128) l0_1.length c0_1) := (blk_cell BK127.out 1).trans rfl
            have hfz24_0 := blk_frozen BK127.out 0
            have hfz24_1 := blk_frozen BK127.out 1
            go_wp2
            repeat (go_quiet (fail); try go_wp2)
            go_meet
            case rel => exact ⟨_, (true), (by first | rfl | (simp; done) | (simp [*]; done)), H', ⟨by have := HJ1.out; have := HK2.out; first | omega | exact Nat.le_refl _⟩, ⟨by (with_reducible repeat (first | refine blk_drewN ?_ _ | refine blk_drew ?_ | refine blk_alloc ?_ _)); refine blk_far ?_ NB127_129.out _; (with_reducible repeat (first | refine blk_drewN ?_ _ | refine blk_drew ?_ | refine blk_alloc ?_ _)); refine blk_far ?_ NB127_129.out _; (with_reducible repeat (first | refine blk_drewN ?_ _ | refine blk_drew ?_ | refine blk_alloc ?_ _)); refine blk_far ?_ NB127_129.out _; (with_reducible repeat (first | refine blk_drewN ?_ _ | refine blk_drew ?_ | refine blk_alloc ?_ _)); refine blk_far ?_ NB127_129.out _; (with_reducible repeat (first | refine blk_drewN ?_ _ | refine blk_drew ?_ | refine blk_alloc ?_ _)); exact BK127.out⟩, ⟨by (with_reducible repeat (first | refine blk_drewN ?_ _ | refine blk_drew ?_ | refine blk_alloc ?_ _)); refine blk_put (cs := #[.int .i64 ((rd_T28 l0_1 x4_2).f0), .int .i64 ((rd_T28 l0_1 x4_2).f1), .int .i64 ((rd_T28 l0_1 x4_2).f2), .int .i64 0]) ?_ 3 _ rfl; (with_reducible repeat (first | refine blk_drewN ?_ _ | refine blk_drew ?_ | refine blk_alloc ?_ _)); refine blk_put (cs := #[.int .i64 ((rd_T28 l0_1 x4_2).f0), .int .i64 ((rd_T28 l0_1 x4_2).f1), .int .i64 0, .int .i64 0]) ?_ 2 _ rfl; (with_reducible repeat (first | refine blk_drewN ?_ _ | refine blk_drew ?_ | refine blk_alloc ?_ _)); refine blk_put (cs := #[.int .i64 ((rd_T28 l0_1 x4_2).f0), .int .i64 0, .int .i64 0, .int .i64 0]) ?_ 1 _ rfl; (with_reducible repeat (first | refine blk_drewN ?_ _ | refine blk_drew ?_ | refine blk_alloc ?_ _)); refine blk_put (cs := #[.int .i64 0, .int .i64 0, .int .i64 0, .int .i64 0]) ?_ 0 _ rfl; (with_reducible repeat (first | refine blk_drewN ?_ _ | refine blk_drew ?_ | refine blk_alloc ?_ _)); exact BK129.out⟩, ⟨by repeat (first | (with_reducible first | exact HB.out | apply below_alloc | apply pw_below_drewN | apply below_drew1 | refine below_set ?_ GE127.out | refine below_set ?_ GE129.out) | exact HB.out)⟩⟩
           ·rw [if_neg c21] at H
            have c21b0 : decide (a0_0 < ((rd_T28 l0_1 x4_2).f0)) = false := decide_eq_false c21
            clear c21
            by_cases c25 : ((rd_T28 l0_1 x4_2).f1) < 0
            ·rw [if_pos c25] at H
             have c25b0 : decide (((rd_T28 l0_1 x4_2).f1) < 0) = true := decide_eq_true c25
             clear c25
             have H' := Aside0.mk H
             clear H
             have hnb26 := NB129_127.out
             have hnc26 := NB127_129.out
             have hcz27_0 : w15.cell? ⟨gb129, 0, none⟩ = some (.int .i64 0) := (blk_cell BK129.out 0).trans rfl
             have hcz27_1 : w15.cell? ⟨gb129, 1, none⟩ = some (.int .i64 0) := (blk_cell BK129.out 1).trans rfl
             have hcz27_2 : w15.cell? ⟨gb129, 2, none⟩ = some (.int .i64 0) := (blk_cell BK129.out 2).trans rfl
             have hcz27_3 : w15.cell? ⟨gb129, 3, none⟩ = some (.int .i64 0) := (blk_cell BK129.out 3).trans rfl
             have hfz27_0 := blk_frozen BK129.out 0
             have hfz27_1 := blk_frozen BK129.out 1
             have hfz27_2 := blk_frozen BK129.out 2
             have hfz27_3 := blk_frozen BK129.out 3
             have hcz28_0 : w15.cell? ⟨gb127, 0, none⟩ = some (.int .i64 a0_0) := (blk_cell BK127.out 0).trans rfl
             have hcz28_1 : w15.cell? ⟨gb127, 1, none⟩ = some (.slice (some ad128) l0_1.length c0_1) := (blk_cell BK127.out 1).trans rfl
             have hfz28_0 := blk_frozen BK127.out 0
             have hfz28_1 := blk_frozen BK127.out 1
             go_wp2
             repeat (go_quiet (fail); try go_wp2)
             go_meet
             case rel => exact ⟨_, (true), (by first | rfl | (simp; done) | (simp [*]; done)), H', ⟨by have := HJ1.out; have := HK2.out; first | omega | exact Nat.le_refl _⟩, ⟨by (with_reducible repeat (first | refine blk_drewN ?_ _ | refine blk_drew ?_ | refine blk_alloc ?_ _)); refine blk_far ?_ NB127_129.out _; (with_reducible repeat (first | refine blk_drewN ?_ _ | refine blk_drew ?_ | refine blk_alloc ?_ _)); refine blk_far ?_ NB127_129.out _; (with_reducible repeat (first | refine blk_drewN ?_ _ | refine blk_drew ?_ | refine blk_alloc ?_ _)); refine blk_far ?_ NB127_129.out _; (with_reducible repeat (first | refine blk_drewN ?_ _ | refine blk_drew ?_ | refine blk_alloc ?_ _)); refine blk_far ?_ NB127_129.out _; (with_reducible repeat (first | refine blk_drewN ?_ _ | refine blk_drew ?_ | refine blk_alloc ?_ _)); exact BK127.out⟩, ⟨by (with_reducible repeat (first | refine blk_drewN ?_ _ | refine blk_drew ?_ | refine blk_alloc ?_ _)); refine blk_put (cs := #[.int .i64 ((rd_T28 l0_1 x4_2).f0), .int .i64 ((rd_T28 l0_1 x4_2).f1), .int .i64 ((rd_T28 l0_1 x4_2).f2), .int .i64 0]) ?_ 3 _ rfl; (with_reducible repeat (first | refine blk_drewN ?_ _ | refine blk_drew ?_ | refine blk_alloc ?_ _)); refine blk_put (cs := #[.int .i64 ((rd_T28 l0_1 x4_2).f0), .int .i64 ((rd_T28 l0_1 x4_2).f1), .int .i64 0, .int .i64 0]) ?_ 2 _ rfl; (with_reducible repeat (first | refine blk_drewN ?_ _ | refine blk_drew ?_ | refine blk_alloc ?_ _)); refine blk_put (cs := #[.int .i64 ((rd_T28 l0_1 x4_2).f0), .int .i64 0, .int .i64 0, .int .i64 0]) ?_ 1 _ rfl; (with_reducible repeat (first | refine blk_drewN ?_ _ | refine blk_drew ?_ | refine blk_alloc ?_ _)); refine blk_put (cs := #[.int .i64 0, .int .i64 0, .int .i64 0, .int .i64 0]) ?_ 0 _ rfl; (with_reducible repeat (first | refine blk_drewN ?_ _ | refine blk_drew ?_ | refine blk_alloc ?_ _)); exact BK129.out⟩, ⟨by repeat (first | (with_reducible first | exact HB.out | apply below_alloc | apply pw_below_drewN | apply below_drew1 | refine below_set ?_ GE127.out | refine below_set ?_ GE129.out) | exact HB.out)⟩⟩
            ·rw [if_neg c25] at H
             have c25b0 : decide (((rd_T28 l0_1 x4_2).f1) < 0) = false := decide_eq_false c25
             clear c25
             by_cases c29 : ((rd_T28 l0_1 x4_2).f1) > a0_0
             ·rw [if_pos c29] at H
              have c29b0 : decide (a0_0 < ((rd_T28 l0_1 x4_2).f1)) = true := decide_eq_true c29
              clear c29
              have H' := Aside0.mk H
              clear H
              have hnb30 := NB129_127.out
              have hnc30 := NB127_129.out
              have hcz31_0 : w15.cell? ⟨gb129, 0, none⟩ = some (.int .i64 0) := (blk_cell BK129.out 0).trans rfl
              have hcz31_1 : w15.cell? ⟨gb129, 1, none⟩ = some (.int .i64 0) := (blk_cell BK129.out 1).trans rfl
              have hcz31_2 : w15.cell? ⟨gb129, 2, none⟩ = some (.int .i64 0) := (blk_cell BK129.out 2).trans rfl
              have hcz31_3 : w15.cell? ⟨gb129, 3, none⟩ = some (.int .i64 0) := (blk_cell BK129.out 3).trans rfl
              have hfz31_0 := blk_frozen BK129.out 0
              have hfz31_1 := blk_frozen BK129.out 1
              have hfz31_2 := blk_frozen BK129.out 2
              have hfz31_3 := blk_frozen BK129.out 3
              have hcz32_0 : w15.cell? ⟨gb127, 0, none⟩ = some (.int .i64 a0_0) := (blk_cell BK127.out 0).trans rfl
              have hcz32_1 : w15.cell? ⟨gb127, 1, none⟩ = some (.slice (some ad128) l0_1.length c0_1) := (blk_cell BK127.out 1).trans rfl
              have hfz32_0 := blk_frozen BK127.out 0
              have hfz32_1 := blk_frozen BK127.out 1
              go_wp2
              repeat (go_quiet (fail); try go_wp2)
              go_meet
              case rel => exact ⟨_, (true), (by first | rfl | (simp; done) | (simp [*]; done)), H', ⟨by have := HJ1.out; have := HK2.out; first | omega | exact Nat.le_refl _⟩, ⟨by (with_reducible repeat (first | refine blk_drewN ?_ _ | refine blk_drew ?_ | refine blk_alloc ?_ _)); refine blk_far ?_ NB127_129.out _; (with_reducible repeat (first | refine blk_drewN ?_ _ | refine blk_drew ?_ | refine blk_alloc ?_ _)); refine blk_far ?_ NB127_129.out _; (with_reducible repeat (first | refine blk_drewN ?_ _ | refine blk_drew ?_ | refine blk_alloc ?_ _)); refine blk_far ?_ NB127_129.out _; (with_reducible repeat (first | refine blk_drewN ?_ _ | refine blk_drew ?_ | refine blk_alloc ?_ _)); refine blk_far ?_ NB127_129.out _; (with_reducible repeat (first | refine blk_drewN ?_ _ | refine blk_drew ?_ | refine blk_alloc ?_ _)); exact BK127.out⟩, ⟨by (with_reducible repeat (first | refine blk_drewN ?_ _ | refine blk_drew ?_ | refine blk_alloc ?_ _)); refine blk_put (cs := #[.int .i64 ((rd_T28 l0_1 x4_2).f0), .int .i64 ((rd_T28 l0_1 x4_2).f1), .int .i64 ((rd_T28 l0_1 x4_2).f2), .int .i64 0]) ?_ 3 _ rfl; (with_reducible repeat (first | refine blk_drewN ?_ _ | refine blk_drew ?_ | refine blk_alloc ?_ _)); refine blk_put (cs := #[.int .i64 ((rd_T28 l0_1 x4_2).f0), .int .i64 ((rd_T28 l0_1 x4_2).f1), .int .i64 0, .int .i64 0]) ?_ 2 _ rfl; (with_reducible repeat (first | refine blk_drewN ?_ _ | refine blk_drew ?_ | refine blk_alloc ?_ _)); refine blk_put (cs := #[.int .i64 ((rd_T28 l0_1 x4_2).f0), .int .i64 0, .int .i64 0, .int .i64 0]) ?_ 1 _ rfl; (with_reducible repeat (first | refine blk_drewN ?_ _ | refine blk_drew ?_ | refine blk_alloc ?_ _)); refine blk_put (cs := #[.int .i64 0, .int .i64 0, .int .i64 0, .int .i64 0]) ?_ 0 _ rfl; (with_reducible repeat (first | refine blk_drewN ?_ _ | refine blk_drew ?_ | refine blk_alloc ?_ _)); exact BK129.out⟩, ⟨by repeat (first | (with_reducible first | exact HB.out | apply below_alloc | apply pw_below_drewN | apply below_drew1 | refine below_set ?_ GE127.out | refine below_set ?_ GE129.out) | exact HB.out)⟩⟩
             ·rw [if_neg c29] at H
              have c29b0 : decide (a0_0 < ((rd_T28 l0_1 x4_2).f1)) = false := decide_eq_false c29
              clear c29
              by_cases c33 : ((rd_T28 l0_1 x4_2).f2) < 0
              ·rw [if_pos c33] at H
               have c33b0 : decide (((rd_T28 l0_1 x4_2).f2) < 0) = true := decide_eq_true c33
               clear c33
               have H' := Aside0.mk H
               clear H
               have hnb34 := NB129_127.out
               have hnc34 := NB127_129.out
               have hcz35_0 : w15.cell? ⟨gb129, 0, none⟩ = some (.int .i64 0) := (blk_cell BK129.out 0).trans rfl
               have hcz35_1 : w15.cell? ⟨gb129, 1, none⟩ = some (.int .i64 0) := (blk_cell BK129.out 1).trans rfl
               have hcz35_2 : w15.cell? ⟨gb129, 2, none⟩ = some (.int .i64 0) := (blk_cell BK129.out 2).trans rfl
               have hcz35_3 : w15.cell? ⟨gb129, 3, none⟩ = some (.int .i64 0) := (blk_cell BK129.out 3).trans rfl
               have hfz35_0 := blk_frozen BK129.out 0
               have hfz35_1 := blk_frozen BK129.out 1
               have hfz35_2 := blk_frozen BK129.out 2
               have hfz35_3 := blk_frozen BK129.out 3
               have hcz36_0 : w15.cell? ⟨gb127, 0, none⟩ = some (.int .i64 a0_0) := (blk_cell BK127.out 0).trans rfl
               have hcz36_1 : w15.cell? ⟨gb127, 1, none⟩ = some (.slice (some ad128) l0_1.length c0_1) := (blk_cell BK127.out 1).trans rfl
               have hfz36_0 := blk_frozen BK127.out 0
               have hfz36_1 := blk_frozen BK127.out 1
               go_wp2
               repeat (go_quiet (fail); try go_wp2)
               go_meet
               case rel => exact ⟨_, (true), (by first | rfl | (simp; done) | (simp [*]; done)), H', ⟨by have := HJ1.out; have := HK2.out; first | omega | exact Nat.le_refl _⟩, ⟨by (with_reducible repeat (first | refine blk_drewN ?_ _ | refine blk_drew ?_ | refine blk_alloc ?_ _)); refine blk_far ?_ NB127_129.out _; (with_reducible repeat (first | refine blk_drewN ?_ _ | refine blk_drew ?_ | refine blk_alloc ?_ _)); refine blk_far ?_ NB127_129.out _; (with_reducible repeat (first | refine blk_drewN ?_ _ | refine blk_drew ?_ | refine blk_alloc ?_ _)); refine blk_far ?_ NB127_129.out _; (with_reducible repeat (first | refine blk_drewN ?_ _ | refine blk_drew ?_ | refine blk_alloc ?_ _)); refine blk_far ?_ NB127_129.out _; (with_reducible repeat (first | refine blk_drewN ?_ _ | refine blk_drew ?_ | refine blk_alloc ?_ _)); exact BK127.out⟩, ⟨by (with_reducible repeat (first | refine blk_drewN ?_ _ | refine blk_drew ?_ | refine blk_alloc ?_ _)); refine blk_put (cs := #[.int .i64 ((rd_T28 l0_1 x4_2).f0), .int .i64 ((rd_T28 l0_1 x4_2).f1), .int .i64 ((rd_T28 l0_1 x4_2).f2), .int .i64 0]) ?_ 3 _ rfl; (with_reducible repeat (first | refine blk_drewN ?_ _ | refine blk_drew ?_ | refine blk_alloc ?_ _)); refine blk_put (cs := #[.int .i64 ((rd_T28 l0_1 x4_2).f0), .int .i64 ((rd_T28 l0_1 x4_2).f1), .int .i64 0, .int .i64 0]) ?_ 2 _ rfl; (with_reducible repeat (first | refine blk_drewN ?_ _ | refine blk_drew ?_ | refine blk_alloc ?_ _)); refine blk_put (cs := #[.int .i64 ((rd_T28 l0_1 x4_2).f0), .int .i64 0, .int .i64 0, .int .i64 0]) ?_ 1 _ rfl; (with_reducible repeat (first | refine blk_drewN ?_ _ | refine blk_drew ?_ | refine blk_alloc ?_ _)); refine blk_put (cs := #[.int .i64 0, .int .i64 0, .int .i64 0, .int .i64 0]) ?_ 0 _ rfl; (with_reducible repeat (first | refine blk_drewN ?_ _ | refine blk_drew ?_ | refine blk_alloc ?_ _)); exact BK129.out⟩, ⟨by repeat (first | (with_reducible first | exact HB.out | apply below_alloc | apply pw_below_drewN | apply below_drew1 | refine below_set ?_ GE127.out | refine below_set ?_ GE129.out) | exact HB.out)⟩⟩
              ·rw [if_neg c33] at H
               have c33b0 : decide (((rd_T28 l0_1 x4_2).f2) < 0) = false := decide_eq_false c33
               clear c33
               by_cases c37 : ((rd_T28 l0_1 x4_2).f2) > 10737418240000
               ·rw [if_pos c37] at H
                have c37b0 : decide (10737418240000 < ((rd_T28 l0_1 x4_2).f2)) = true := decide_eq_true c37
                clear c37
                have H' := Aside0.mk H
                clear H
                have hnb38 := NB129_127.out
                have hnc38 := NB127_129.out
                have hcz39_0 : w15.cell? ⟨gb129, 0, none⟩ = some (.int .i64 0) := (blk_cell BK129.out 0).trans rfl
                have hcz39_1 : w15.cell? ⟨gb129, 1, none⟩ = some (.int .i64 0) := (blk_cell BK129.out 1).trans rfl
                have hcz39_2 : w15.cell? ⟨gb129, 2, none⟩ = some (.int .i64 0) := (blk_cell BK129.out 2).trans rfl
                have hcz39_3 : w15.cell? ⟨gb129, 3, none⟩ = some (.int .i64 0) := (blk_cell BK129.out 3).trans rfl
                have hfz39_0 := blk_frozen BK129.out 0
                have hfz39_1 := blk_frozen BK129.out 1
                have hfz39_2 := blk_frozen BK129.out 2
                have hfz39_3 := blk_frozen BK129.out 3
                have hcz40_0 : w15.cell? ⟨gb127, 0, none⟩ = some (.int .i64 a0_0) := (blk_cell BK127.out 0).trans rfl
                have hcz40_1 : w15.cell? ⟨gb127, 1, none⟩ = some (.slice (some ad128) l0_1.length c0_1) := (blk_cell BK127.out 1).trans rfl
                have hfz40_0 := blk_frozen BK127.out 0
                have hfz40_1 := blk_frozen BK127.out 1
                go_wp2
                repeat (go_quiet (fail); try go_wp2)
                go_meet
                case rel => exact ⟨_, (true), (by first | rfl | (simp; done) | (simp [*]; done)), H', ⟨by have := HJ1.out; have := HK2.out; first | omega | exact Nat.le_refl _⟩, ⟨by (with_reducible repeat (first | refine blk_drewN ?_ _ | refine blk_drew ?_ | refine blk_alloc ?_ _)); refine blk_far ?_ NB127_129.out _; (with_reducible repeat (first | refine blk_drewN ?_ _ | refine blk_drew ?_ | refine blk_alloc ?_ _)); refine blk_far ?_ NB127_129.out _; (with_reducible repeat (first | refine blk_drewN ?_ _ | refine blk_drew ?_ | refine blk_alloc ?_ _)); refine blk_far ?_ NB127_129.out _; (with_reducible repeat (first | refine blk_drewN ?_ _ | refine blk_drew ?_ | refine blk_alloc ?_ _)); refine blk_far ?_ NB127_129.out _; (with_reducible repeat (first | refine blk_drewN ?_ _ | refine blk_drew ?_ | refine blk_alloc ?_ _)); exact BK127.out⟩, ⟨by (with_reducible repeat (first | refine blk_drewN ?_ _ | refine blk_drew ?_ | refine blk_alloc ?_ _)); refine blk_put (cs := #[.int .i64 ((rd_T28 l0_1 x4_2).f0), .int .i64 ((rd_T28 l0_1 x4_2).f1), .int .i64 ((rd_T28 l0_1 x4_2).f2), .int .i64 0]) ?_ 3 _ rfl; (with_reducible repeat (first | refine blk_drewN ?_ _ | refine blk_drew ?_ | refine blk_alloc ?_ _)); refine blk_put (cs := #[.int .i64 ((rd_T28 l0_1 x4_2).f0), .int .i64 ((rd_T28 l0_1 x4_2).f1), .int .i64 0, .int .i64 0]) ?_ 2 _ rfl; (with_reducible repeat (first | refine blk_drewN ?_ _ | refine blk_drew ?_ | refine blk_alloc ?_ _)); refine blk_put (cs := #[.int .i64 ((rd_T28 l0_1 x4_2).f0), .int .i64 0, .int .i64 0, .int .i64 0]) ?_ 1 _ rfl; (with_reducible repeat (first | refine blk_drewN ?_ _ | refine blk_drew ?_ | refine blk_alloc ?_ _)); refine blk_put (cs := #[.int .i64 0, .int .i64 0, .int .i64 0, .int .i64 0]) ?_ 0 _ rfl; (with_reducible repeat (first | refine blk_drewN ?_ _ | refine blk_drew ?_ | refine blk_alloc ?_ _)); exact BK129.out⟩, ⟨by repeat (first | (with_reducible first | exact HB.out | apply below_alloc | apply pw_below_drewN | apply below_drew1 | refine below_set ?_ GE127.out | refine below_set ?_ GE129.out) | exact HB.out)⟩⟩
               ·rw [if_neg c37] at H
                have c37b0 : decide (10737418240000 < ((rd_T28 l0_1 x4_2).f2)) = false := decide_eq_false c37
                clear c37
                by_cases c41 : ((rd_T28 l0_1 x4_2).f3) < 0
                ·rw [if_pos c41] at H
                 have c41b0 : decide (((rd_T28 l0_1 x4_2).f3) < 0) = true := decide_eq_true c41
                 clear c41
                 have H' := Aside0.mk H
                 clear H
                 have hnb42 := NB129_127.out
                 have hnc42 := NB127_129.out
                 have hcz43_0 : w15.cell? ⟨gb129, 0, none⟩ = some (.int .i64 0) := (blk_cell BK129.out 0).trans rfl
                 have hcz43_1 : w15.cell? ⟨gb129, 1, none⟩ = some (.int .i64 0) := (blk_cell BK129.out 1).trans rfl
                 have hcz43_2 : w15.cell? ⟨gb129, 2, none⟩ = some (.int .i64 0) := (blk_cell BK129.out 2).trans rfl
                 have hcz43_3 : w15.cell? ⟨gb129, 3, none⟩ = some (.int .i64 0) := (blk_cell BK129.out 3).trans rfl
                 have hfz43_0 := blk_frozen BK129.out 0
                 have hfz43_1 := blk_frozen BK129.out 1
                 have hfz43_2 := blk_frozen BK129.out 2
                 have hfz43_3 := blk_frozen BK129.out 3
                 have hcz44_0 : w15.cell? ⟨gb127, 0, none⟩ = some (.int .i64 a0_0) := (blk_cell BK127.out 0).trans rfl
                 have hcz44_1 : w15.cell? ⟨gb127, 1, none⟩ = some (.slice (some ad128) l0_1.length c0_1) := (blk_cell BK127.out 1).trans rfl
                 have hfz44_0 := blk_frozen BK127.out 0
                 have hfz44_1 := blk_frozen BK127.out 1
                 go_wp2
                 repeat (go_quiet (fail); try go_wp2)
                 go_meet
                 case rel => exact ⟨_, (true), (by first | rfl | (simp; done) | (simp [*]; done)), H', ⟨by have := HJ1.out; have := HK2.out; first | omega | exact Nat.le_refl _⟩, ⟨by (with_reducible repeat (first | refine blk_drewN ?_ _ | refine blk_drew ?_ | refine blk_alloc ?_ _)); refine blk_far ?_ NB127_129.out _; (with_reducible repeat (first | refine blk_drewN ?_ _ | refine blk_drew ?_ | refine blk_alloc ?_ _)); refine blk_far ?_ NB127_129.out _; (with_reducible repeat (first | refine blk_drewN ?_ _ | refine blk_drew ?_ | refine blk_alloc ?_ _)); refine blk_far ?_ NB127_129.out _; (with_reducible repeat (first | refine blk_drewN ?_ _ | refine blk_drew ?_ | refine blk_alloc ?_ _)); refine blk_far ?_ NB127_129.out _; (with_reducible repeat (first | refine blk_drewN ?_ _ | refine blk_drew ?_ | refine blk_alloc ?_ _)); exact BK127.out⟩, ⟨by (with_reducible repeat (first | refine blk_drewN ?_ _ | refine blk_drew ?_ | refine blk_alloc ?_ _)); refine blk_put (cs := #[.int .i64 ((rd_T28 l0_1 x4_2).f0), .int .i64 ((rd_T28 l0_1 x4_2).f1), .int .i64 ((rd_T28 l0_1 x4_2).f2), .int .i64 0]) ?_ 3 _ rfl; (with_reducible repeat (first | refine blk_drewN ?_ _ | refine blk_drew ?_ | refine blk_alloc ?_ _)); refine blk_put (cs := #[.int .i64 ((rd_T28 l0_1 x4_2).f0), .int .i64 ((rd_T28 l0_1 x4_2).f1), .int .i64 0, .int .i64 0]) ?_ 2 _ rfl; (with_reducible repeat (first | refine blk_drewN ?_ _ | refine blk_drew ?_ | refine blk_alloc ?_ _)); refine blk_put (cs := #[.int .i64 ((rd_T28 l0_1 x4_2).f0), .int .i64 0, .int .i64 0, .int .i64 0]) ?_ 1 _ rfl; (with_reducible repeat (first | refine blk_drewN ?_ _ | refine blk_drew ?_ | refine blk_alloc ?_ _)); refine blk_put (cs := #[.int .i64 0, .int .i64 0, .int .i64 0, .int .i64 0]) ?_ 0 _ rfl; (with_reducible repeat (first | refine blk_drewN ?_ _ | refine blk_drew ?_ | refine blk_alloc ?_ _)); exact BK129.out⟩, ⟨by repeat (first | (with_reducible first | exact HB.out | apply below_alloc | apply pw_below_drewN | apply below_drew1 | refine below_set ?_ GE127.out | refine below_set ?_ GE129.out) | exact HB.out)⟩⟩
                ·rw [if_neg c41] at H
                 have c41b0 : decide (((rd_T28 l0_1 x4_2).f3) < 0) = false := decide_eq_false c41
                 clear c41
                 have H' := Aside0.mk H
                 clear H
                 have hnb45 := NB129_127.out
                 have hnc45 := NB127_129.out
                 have hcz46_0 : w15.cell? ⟨gb129, 0, none⟩ = some (.int .i64 0) := (blk_cell BK129.out 0).trans rfl
                 have hcz46_1 : w15.cell? ⟨gb129, 1, none⟩ = some (.int .i64 0) := (blk_cell BK129.out 1).trans rfl
                 have hcz46_2 : w15.cell? ⟨gb129, 2, none⟩ = some (.int .i64 0) := (blk_cell BK129.out 2).trans rfl
                 have hcz46_3 : w15.cell? ⟨gb129, 3, none⟩ = some (.int .i64 0) := (blk_cell BK129.out 3).trans rfl
                 have hfz46_0 := blk_frozen BK129.out 0
                 have hfz46_1 := blk_frozen BK129.out 1
                 have hfz46_2 := blk_frozen BK129.out 2
                 have hfz46_3 := blk_frozen BK129.out 3
                 have hcz47_0 : w15.cell? ⟨gb127, 0, none⟩ = some (.int .i64 a0_0) := (blk_cell BK127.out 0).trans rfl
                 have hcz47_1 : w15.cell? ⟨gb127, 1, none⟩ = some (.slice (some ad128) l0_1.length c0_1) := (blk_cell BK127.out 1).trans rfl
                 have hfz47_0 := blk_frozen BK127.out 0
                 have hfz47_1 := blk_frozen BK127.out 1
                 go_wp2
                 repeat (go_quiet (fail); try go_wp2)
                 go_meet
                 case rel => exact ⟨_, (decide (((rd_T28 l0_1 x4_2).f3) > 128849018880000)), (by first | rfl | (simp; done) | (simp [*]; done)), H', ⟨by have := HJ1.out; have := HK2.out; first | omega | exact Nat.le_refl _⟩, ⟨by (with_reducible repeat (first | refine blk_drewN ?_ _ | refine blk_drew ?_ | refine blk_alloc ?_ _)); refine blk_far ?_ NB127_129.out _; (with_reducible repeat (first | refine blk_drewN ?_ _ | refine blk_drew ?_ | refine blk_alloc ?_ _)); refine blk_far ?_ NB127_129.out _; (with_reducible repeat (first | refine blk_drewN ?_ _ | refine blk_drew ?_ | refine blk_alloc ?_ _)); refine blk_far ?_ NB127_129.out _; (with_reducible repeat (first | refine blk_drewN ?_ _ | refine blk_drew ?_ | refine blk_alloc ?_ _)); refine blk_far ?_ NB127_129.out _; (with_reducible repeat (first | refine blk_drewN ?_ _ | refine blk_drew ?_ | refine blk_alloc ?_ _)); exact BK127.out⟩, ⟨by (with_reducible repeat (first | refine blk_drewN ?_ _ | refine blk_drew ?_ | refine blk_alloc ?_ _)); refine blk_put (cs := #[.int .i64 ((rd_T28 l0_1 x4_2).f0), .int .i64 ((rd_T28 l0_1 x4_2).f1), .int .i64 ((rd_T28 l0_1 x4_2).f2), .int .i64 0]) ?_ 3 _ rfl; (with_reducible repeat (first | refine blk_drewN ?_ _ | refine blk_drew ?_ | refine blk_alloc ?_ _)); refine blk_put (cs := #[.int .i64 ((rd_T28 l0_1 x4_2).f0), .int .i64 ((rd_T28 l0_1 x4_2).f1), .int .i64 0, .int .i64 0]) ?_ 2 _ rfl; (with_reducible repeat (first | refine blk_drewN ?_ _ | refine blk_drew ?_ | refine blk_alloc ?_ _)); refine blk_put (cs := #[.int .i64 ((rd_T28 l0_1 x4_2).f0), .int .i64 0, .int .i64 0, .int .i64 0]) ?_ 1 _ rfl; (with_reducible repeat (first | refine blk_drewN ?_ _ | refine blk_drew ?_ | refine blk_alloc ?_ _)); refine blk_put (cs := #[.int .i64 0, .int .i64 0, .int .i64 0, .int .i64 0]) ?_ 0 _ rfl; (with_reducible repeat (first | refine blk_drewN ?_ _ | refine blk_drew ?_ | refine blk_alloc ?_ _)); exact BK129.out⟩, ⟨by repeat (first | (with_reducible first | exact HB.out | apply below_alloc | apply pw_below_drewN | apply below_drew1 | refine below_set ?_ GE127.out | refine below_set ?_ GE129.out) | exact HB.out)⟩⟩
         case rest =>
          clear HC13
          try clear c1
          try clear p1
          try clear q1
          try clear hx1
          try clear c2
          try clear p2
          try clear c3
          try clear c4
          try clear c4b0
          try clear c7
          try clear c8
          try clear c8b0
          try clear c8b1
          try clear c11
          try clear c11b0
          try clear c12
          try clear c12b0
          try clear p12
          try clear q12
          try clear hx12
          try clear c16
          try clear c18
          try clear c18b0
          try clear c19
          try clear c21
          try clear c21b0
          try clear c22
          try clear c25
          try clear c25b0
          try clear c26
          try clear c29
          try clear c29b0
          try clear c30
          try clear c33
          try clear c33b0
          try clear c34
          try clear c37
          try clear c37b0
          try clear c38
          try clear c41
          try clear c41b0
          try clear c42
          try clear c45
          try clear hcz10_0
          try clear hcz10_1
          try clear hcz14_0
          try clear hcz14_1
          try clear hcz17_0
          try clear hcz17_1
          try clear hcz17_2
          try clear hcz17_3
          try clear hcz20_0
          try clear hcz20_1
          try clear hcz20_2
          try clear hcz20_3
          try clear hcz23_0
          try clear hcz23_1
          try clear hcz23_2
          try clear hcz23_3
          try clear hcz24_0
          try clear hcz24_1
          try clear hcz27_0
          try clear hcz27_1
          try clear hcz27_2
          try clear hcz27_3
          try clear hcz28_0
          try clear hcz28_1
          try clear hcz31_0
          try clear hcz31_1
          try clear hcz31_2
          try clear hcz31_3
          try clear hcz32_0
          try clear hcz32_1
          try clear hcz35_0
          try clear hcz35_1
          try clear hcz35_2
          try clear hcz35_3
          try clear hcz36_0
          try clear hcz36_1
          try clear hcz39_0
          try clear hcz39_1
          try clear hcz39_2
          try clear hcz39_3
          try clear hcz40_0
          try clear hcz40_1
          try clear hcz43_0
          try clear hcz43_1
          try clear hcz43_2
          try clear hcz43_3
          try clear hcz44_0
          try clear hcz44_1
          try clear hcz46_0
          try clear hcz46_1
          try clear hcz46_2
          try clear hcz46_3
          try clear hcz47_0
          try clear hcz47_1
          try clear hcz5_0
          try clear hcz5_1
          try clear hcz6_0
          try clear hcz6_1
          try clear hcz9_0
          try clear hcz9_1
          try clear hfz10_0
          try clear hfz10_1
          try clear hfz14_0
          try clear hfz14_1
          try clear hfz17_0
          try clear hfz17_1
          try clear hfz17_2
          try clear hfz17_3
          try clear hfz20_0
          try clear hfz20_1
          try clear hfz20_2
          try clear hfz20_3
          try clear hfz23_0
          try clear hfz23_1
          try clear hfz23_2
          try clear hfz23_3
          try clear hfz24_0
          try clear hfz24_1
          try clear hfz27_0
          try clear hfz27_1
          try clear hfz27_2
          try clear hfz27_3
          try clear hfz28_0
          try clear hfz28_1
          try clear hfz31_0
          try clear hfz31_1
          try clear hfz31_2
          try clear hfz31_3
          try clear hfz32_0
          try clear hfz32_1
          try clear hfz35_0
          try clear hfz35_1
          try clear hfz35_2
          try clear hfz35_3
          try clear hfz36_0
          try clear hfz36_1
          try clear hfz39_0
          try clear hfz39_1
          try clear hfz39_2
          try clear hfz39_3
          try clear hfz40_0
          try clear hfz40_1
          try clear hfz43_0
          try clear hfz43_1
          try clear hfz43_2
          try clear hfz43_3
          try clear hfz44_0
          try clear hfz44_1
          try clear hfz46_0
          try clear hfz46_1
          try clear hfz46_2
          try clear hfz46_3
          try clear hfz47_0
          try clear hfz47_1
          try clear hfz5_0
          try clear hfz5_1
          try clear hfz6_0
          try clear hfz6_1
          try clear hfz9_0
          try clear hfz9_1
          try clear hx128_0
          try clear hx128_1
          try clear hx128_2
          try clear hx128_3
          try clear p128
          try clear p2
          try clear q128
          obtain ⟨kq, x72_12, rfl, HA, HJ12, BK127, BK129, HB⟩ := hcut
          cases kq with
          | zero => exact absurd HA.out (by simp [spileref36_Check.j2])
          | succ kj12 =>
           have H := HA.out
           clear HA
           simp only [spileref36_Check.j2] at H
           by_cases c48 : x72_12 = true
           ·subst c48
            have H1 : (some (x4_2, 2)) = some (r1, r2) := by rw [if_pos rfl] at H; exact H
            clear H
            have H := H1
            clear H1
            simp only [Option.some.injEq, Prod.mk.injEq] at H
            obtain ⟨rfl, rfl⟩ := H
            go_wp2
            repeat (go_quiet (fail); try go_wp2)
            go_ret2
            exact ⟨by first | rfl | (simp [errW_none, errW_some] <;> rfl) | (simp [*, errW_none, errW_some] <;> rfl), by repeat (first | (with_reducible first | exact HB.out | apply below_alloc | apply pw_below_drewN | apply below_drew1 | refine below_set ?_ GE127.out | refine below_set ?_ GE129.out) | exact HB.out)⟩
           ·replace c48 := Bool.eq_false_iff.mpr c48
            subst c48
            have H1 : (if ((rd_T28 l0_1 x4_2).f0) = ((rd_T28 l0_1 x4_2).f1) then (spileref36_Check.j3 kj12 x4_2 true a0_0 l0_1 ((rd_T28 l0_1 x4_2).f0) ((rd_T28 l0_1 x4_2).f1) ((rd_T28 l0_1 x4_2).f2) ((rd_T28 l0_1 x4_2).f3)) else (if ((rd_T28 l0_1 x4_2).f2) > 0 then (spileref36_Check.j3 kj12 x4_2 (((rd_T28 l0_1 x4_2).f3) == 0) a0_0 l0_1 ((rd_T28 l0_1 x4_2).f0) ((rd_T28 l0_1 x4_2).f1) ((rd_T28 l0_1 x4_2).f2) ((rd_T28 l0_1 x4_2).f3)) else (spileref36_Check.j3 kj12 x4_2 false a0_0 l0_1 ((rd_T28 l0_1 x4_2).f0) ((rd_T28 l0_1 x4_2).f1) ((rd_T28 l0_1 x4_2).f2) ((rd_T28 l0_1 x4_2).f3)))) = some (r1, r2) := by rw [if_neg (show ¬ (false = true) by decide)] at H; exact H
            clear H
            have H := H1
            clear H1
            have HC49 := Aside0.mk H
            clear H
            go_upto_region 11 with (fail)
            repeat (go_quiet (fail); go_upto_region 11 with (fail))
            go_cut [88] (fun v88 wc => ∃ (kq : Nat) (x88_48 : Bool), v88 = .bool x88_48 ∧ Aside0 (spileref36_Check.j3 kq x4_2 x88_48 a0_0 l0_1 ((rd_T28 l0_1 x4_2).f0) ((rd_T28 l0_1 x4_2).f1) ((rd_T28 l0_1 x4_2).f2) ((rd_T28 l0_1 x4_2).f3) = some (r1, r2)) ∧ Aside0 (kq ≤ kj12) ∧ Aside0 (wc.heap[gb127]? = some (.cells #[.int .i64 a0_0, (.slice (some ad128) l0_1.length c0_1)] 24 (0, 0))) ∧ Aside0 (wc.heap[gb129]? = some (.cells #[.int .i64 ((rd_T28 l0_1 x4_2).f0), .int .i64 ((rd_T28 l0_1 x4_2).f1), .int .i64 ((rd_T28 l0_1 x4_2).f2), .int .i64 ((rd_T28 l0_1 x4_2).f3)] 28 (0, 0))) ∧ Aside0 (Below w.heap.size w wc))
            case first =>
             have H := HC49.out
             clear HC49
             by_cases c50 : ((rd_T28 l0_1 x4_2).f0) = ((rd_T28 l0_1 x4_2).f1)
             ·rw [if_pos c50] at H
              have c50b0 : (((rd_T28 l0_1 x4_2).f0) == ((rd_T28 l0_1 x4_2).f1)) = true := beq_iff_eq.mpr c50
              have c50b1 : (((rd_T28 l0_1 x4_2).f0) != ((rd_T28 l0_1 x4_2).f1)) = false := bne_eq_false_iff_eq.mpr c50
              clear c50
              (first | rw [c50b0] | (simp only [i64_w, i32_w]; rw [c50b0]) | skip)
              have H' := Aside0.mk H
              clear H
              have hnb51 := NB129_127.out
              have hnc51 := NB127_129.out
              have hcz52_0 : wc.cell? ⟨gb129, 0, none⟩ = some (.int .i64 ((rd_T28 l0_1 x4_2).f0)) := (blk_cell BK129.out 0).trans rfl
              have hcz52_1 : wc.cell? ⟨gb129, 1, none⟩ = some (.int .i64 ((rd_T28 l0_1 x4_2).f1)) := (blk_cell BK129.out 1).trans rfl
              have hcz52_2 : wc.cell? ⟨gb129, 2, none⟩ = some (.int .i64 ((rd_T28 l0_1 x4_2).f2)) := (blk_cell BK129.out 2).trans rfl
              have hcz52_3 : wc.cell? ⟨gb129, 3, none⟩ = some (.int .i64 ((rd_T28 l0_1 x4_2).f3)) := (blk_cell BK129.out 3).trans rfl
              have hfz52_0 := blk_frozen BK129.out 0
              have hfz52_1 := blk_frozen BK129.out 1
              have hfz52_2 := blk_frozen BK129.out 2
              have hfz52_3 := blk_frozen BK129.out 3
              go_wp2
              repeat (go_quiet (fail); try go_wp2)
              go_meet
              case rel => exact ⟨_, (true), (by first | rfl | (simp; done) | (simp [*]; done)), H', ⟨by have := HJ1.out; have := HK2.out; have := HJ12.out; first | omega | exact Nat.le_refl _⟩, ⟨by (with_reducible repeat (first | refine blk_drewN ?_ _ | refine blk_drew ?_ | refine blk_alloc ?_ _)); exact BK127.out⟩, ⟨by (with_reducible repeat (first | refine blk_drewN ?_ _ | refine blk_drew ?_ | refine blk_alloc ?_ _)); exact BK129.out⟩, ⟨by repeat (first | (with_reducible first | exact HB.out | apply below_alloc | apply pw_below_drewN | apply below_drew1 | refine below_set ?_ GE127.out | refine below_set ?_ GE129.out) | exact HB.out)⟩⟩
             ·rw [if_neg c50] at H
              have c50b0 : (((rd_T28 l0_1 x4_2).f0) == ((rd_T28 l0_1 x4_2).f1)) = false := beq_eq_false_iff_ne.mpr c50
              have c50b1 : (((rd_T28 l0_1 x4_2).f0) != ((rd_T28 l0_1 x4_2).f1)) = true := bne_iff_ne.mpr c50
              (first | rw [c50b0] | (simp only [i64_w, i32_w]; rw [c50b0]) | skip)
              by_cases c53 : ((rd_T28 l0_1 x4_2).f2) > 0
              ·rw [if_pos c53] at H
               have c53b0 : decide (0 < ((rd_T28 l0_1 x4_2).f2)) = true := decide_eq_true c53
               clear c53
               have H' := Aside0.mk H
               clear H
               have hnb54 := NB129_127.out
               have hnc54 := NB127_129.out
               have hcz55_0 : wc.cell? ⟨gb129, 0, none⟩ = some (.int .i64 ((rd_T28 l0_1 x4_2).f0)) := (blk_cell BK129.out 0).trans rfl
               have hcz55_1 : wc.cell? ⟨gb129, 1, none⟩ = some (.int .i64 ((rd_T28 l0_1 x4_2).f1)) := (blk_cell BK129.out 1).trans rfl
               have hcz55_2 : wc.cell? ⟨gb129, 2, none⟩ = some (.int .i64 ((rd_T28 l0_1 x4_2).f2)) := (blk_cell BK129.out 2).trans rfl
               have hcz55_3 : wc.cell? ⟨gb129, 3, none⟩ = some (.int .i64 ((rd_T28 l0_1 x4_2).f3)) := (blk_cell BK129.out 3).trans rfl
               have hfz55_0 := blk_frozen BK129.out 0
               have hfz55_1 := blk_frozen BK129.out 1
               have hfz55_2 := blk_frozen BK129.out 2
               have hfz55_3 := blk_frozen BK129.out 3
               go_wp2
               repeat (go_quiet (fail); try go_wp2)
               go_meet
               case rel => exact ⟨_, ((((rd_T28 l0_1 x4_2).f3) == 0)), (by first | rfl | (simp; done) | (simp [*]; done)), H', ⟨by have := HJ1.out; have := HK2.out; have := HJ12.out; first | omega | exact Nat.le_refl _⟩, ⟨by (with_reducible repeat (first | refine blk_drewN ?_ _ | refine blk_drew ?_ | refine blk_alloc ?_ _)); exact BK127.out⟩, ⟨by (with_reducible repeat (first | refine blk_drewN ?_ _ | refine blk_drew ?_ | refine blk_alloc ?_ _)); exact BK129.out⟩, ⟨by repeat (first | (with_reducible first | exact HB.out | apply below_alloc | apply pw_below_drewN | apply below_drew1 | refine below_set ?_ GE127.out | refine below_set ?_ GE129.out) | exact HB.out)⟩⟩
              ·rw [if_neg c53] at H
               have c53b0 : decide (0 < ((rd_T28 l0_1 x4_2).f2)) = false := decide_eq_false c53
               clear c53
               have H' := Aside0.mk H
               clear H
               have hnb56 := NB129_127.out
               have hnc56 := NB127_129.out
               have hcz57_0 : wc.cell? ⟨gb129, 0, none⟩ = some (.int .i64 ((rd_T28 l0_1 x4_2).f0)) := (blk_cell BK129.out 0).trans rfl
               have hcz57_1 : wc.cell? ⟨gb129, 1, none⟩ = some (.int .i64 ((rd_T28 l0_1 x4_2).f1)) := (blk_cell BK129.out 1).trans rfl
               have hcz57_2 : wc.cell? ⟨gb129, 2, none⟩ = some (.int .i64 ((rd_T28 l0_1 x4_2).f2)) := (blk_cell BK129.out 2).trans rfl
               have hcz57_3 : wc.cell? ⟨gb129, 3, none⟩ = some (.int .i64 ((rd_T28 l0_1 x4_2).f3)) := (blk_cell BK129.out 3).trans rfl
               have hfz57_0 := blk_frozen BK129.out 0
               have hfz57_1 := blk_frozen BK129.out 1
               have hfz57_2 := blk_frozen BK129.out 2
               have hfz57_3 := blk_frozen BK129.out 3
               go_wp2
               repeat (go_quiet (fail); try go_wp2)
               go_meet
               case rel => exact ⟨_, (false), (by first | rfl | (simp; done) | (simp [*]; done)), H', ⟨by have := HJ1.out; have := HK2.out; have := HJ12.out; first | omega | exact Nat.le_refl _⟩, ⟨by (with_reducible repeat (first | refine blk_drewN ?_ _ | refine blk_drew ?_ | refine blk_alloc ?_ _)); exact BK127.out⟩, ⟨by (with_reducible repeat (first | refine blk_drewN ?_ _ | refine blk_drew ?_ | refine blk_alloc ?_ _)); exact BK129.out⟩, ⟨by repeat (first | (with_reducible first | exact HB.out | apply below_alloc | apply pw_below_drewN | apply below_drew1 | refine below_set ?_ GE127.out | refine below_set ?_ GE129.out) | exact HB.out)⟩⟩
            case rest =>
             clear HC49
             try clear c1
             try clear p1
             try clear q1
             try clear hx1
             try clear c2
             try clear p2
             try clear c3
             try clear c4
             try clear c4b0
             try clear c5
             try clear c7
             try clear c8
             try clear c8b0
             try clear c8b1
             try clear c11
             try clear c11b0
             try clear c12
             try clear c12b0
             try clear p12
             try clear q12
             try clear hx12
             try clear c16
             try clear c18
             try clear c18b0
             try clear c19
             try clear c21
             try clear c21b0
             try clear c22
             try clear c25
             try clear c25b0
             try clear c26
             try clear c29
             try clear c29b0
             try clear c30
             try clear c33
             try clear c33b0
             try clear c34
             try clear c37
             try clear c37b0
             try clear c38
             try clear c41
             try clear c41b0
             try clear c42
             try clear c45
             try clear c48
             try clear c50
             try clear c50b0
             try clear c50b1
             try clear c51
             try clear c53
             try clear c53b0
             try clear c54
             try clear c56
             try clear hcz10_0
             try clear hcz10_1
             try clear hcz14_0
             try clear hcz14_1
             try clear hcz17_0
             try clear hcz17_1
             try clear hcz17_2
             try clear hcz17_3
             try clear hcz20_0
             try clear hcz20_1
             try clear hcz20_2
             try clear hcz20_3
             try clear hcz23_0
             try clear hcz23_1
             try clear hcz23_2
             try clear hcz23_3
             try clear hcz24_0
             try clear hcz24_1
             try clear hcz27_0
             try clear hcz27_1
             try clear hcz27_2
             try clear hcz27_3
             try clear hcz28_0
             try clear hcz28_1
             try clear hcz31_0
             try clear hcz31_1
             try clear hcz31_2
             try clear hcz31_3
             try clear hcz32_0
             try clear hcz32_1
             try clear hcz35_0
             try clear hcz35_1
             try clear hcz35_2
             try clear hcz35_3
             try clear hcz36_0
             try clear hcz36_1
             try clear hcz39_0
             try clear hcz39_1
             try clear hcz39_2
             try clear hcz39_3
             try clear hcz40_0
             try clear hcz40_1
             try clear hcz43_0
             try clear hcz43_1
             try clear hcz43_2
             try clear hcz43_3
             try clear hcz44_0
             try clear hcz44_1
             try clear hcz46_0
             try clear hcz46_1
             try clear hcz46_2
             try clear hcz46_3
             try clear hcz47_0
             try clear hcz47_1
             try clear hcz52_0
             try clear hcz52_1
             try clear hcz52_2
             try clear hcz52_3
             try clear hcz55_0
             try clear hcz55_1
             try clear hcz55_2
             try clear hcz55_3
             try clear hcz57_0
             try clear hcz57_1
             try clear hcz57_2
             try clear hcz57_3
             try clear hcz5_0
             try clear hcz5_1
             try clear hcz6_0
             try clear hcz6_1
             try clear hcz9_0
             try clear hcz9_1
             try clear hfz10_0
             try clear hfz10_1
             try clear hfz14_0
             try clear hfz14_1
             try clear hfz17_0
             try clear hfz17_1
             try clear hfz17_2
             try clear hfz17_3
             try clear hfz20_0
             try clear hfz20_1
             try clear hfz20_2
             try clear hfz20_3
             try clear hfz23_0
             try clear hfz23_1
             try clear hfz23_2
             try clear hfz23_3
             try clear hfz24_0
             try clear hfz24_1
             try clear hfz27_0
             try clear hfz27_1
             try clear hfz27_2
             try clear hfz27_3
             try clear hfz28_0
             try clear hfz28_1
             try clear hfz31_0
             try clear hfz31_1
             try clear hfz31_2
             try clear hfz31_3
             try clear hfz32_0
             try clear hfz32_1
             try clear hfz35_0
             try clear hfz35_1
             try clear hfz35_2
             try clear hfz35_3
             try clear hfz36_0
             try clear hfz36_1
             try clear hfz39_0
             try clear hfz39_1
             try clear hfz39_2
             try clear hfz39_3
             try clear hfz40_0
             try clear hfz40_1
             try clear hfz43_0
             try clear hfz43_1
             try clear hfz43_2
             try clear hfz43_3
             try clear hfz44_0
             try clear hfz44_1
             try clear hfz46_0
             try clear hfz46_1
             try clear hfz46_2
             try clear hfz46_3
             try clear hfz47_0
             try clear hfz47_1
             try clear hfz52_0
             try clear hfz52_1
             try clear hfz52_2
             try clear hfz52_3
             try clear hfz55_0
             try clear hfz55_1
             try clear hfz55_2
             try clear hfz55_3
             try clear hfz57_0
             try clear hfz57_1
             try clear hfz57_2
             try clear hfz57_3
             try clear hfz5_0
             try clear hfz5_1
             try clear hfz6_0
             try clear hfz6_1
             try clear hfz9_0
             try clear hfz9_1
             try clear hx128_0
             try clear hx128_1
             try clear hx128_2
             try clear hx128_3
             try clear p1
             try clear p12
             try clear p128
             try clear p2
             try clear q1
             try clear q12
             try clear q128
             obtain ⟨kq, x88_48, rfl, HA, HJ48, BK127, BK129, HB⟩ := hcut
             cases kq with
             | zero => exact absurd HA.out (by simp [spileref36_Check.j3])
             | succ kj48 =>
              have H := HA.out
              clear HA
              simp only [spileref36_Check.j3] at H
              by_cases c58 : x88_48 = true
              ·subst c58
               have H1 : (some (x4_2, 10)) = some (r1, r2) := by rw [if_pos rfl] at H; exact H
               clear H
               have H := H1
               clear H1
               simp only [Option.some.injEq, Prod.mk.injEq] at H
               obtain ⟨rfl, rfl⟩ := H
               go_wp2
               repeat (go_quiet (fail); try go_wp2)
               go_ret2
               exact ⟨by first | rfl | (simp [errW_none, errW_some] <;> rfl) | (simp [*, errW_none, errW_some] <;> rfl), by repeat (first | (with_reducible first | exact HB.out | apply below_alloc | apply pw_below_drewN | apply below_drew1 | refine below_set ?_ GE127.out | refine below_set ?_ GE129.out) | exact HB.out)⟩
              ·replace c58 := Bool.eq_false_iff.mpr c58
               subst c58
               have H1 : (spileref36_Check.l1 kj48 x4_2 0 a0_0 l0_1 ((rd_T28 l0_1 x4_2).f0) ((rd_T28 l0_1 x4_2).f1) ((rd_T28 l0_1 x4_2).f2) ((rd_T28 l0_1 x4_2).f3)) = some (r1, r2) := by rw [if_neg (show ¬ (false = true) by decide)] at H; exact H
               clear H
               have H := H1
               clear H1
               have H' := Aside0.mk H
               clear H
               go_wp2
               repeat (go_quiet (fail); try go_wp2)
               go_loopg [6] kj48 (fun kq v6 w' => ∃ (x6_5 : Int), v6 = .int .i64 x6_5 ∧ Aside0 (spileref36_Check.l1 kq x4_2 x6_5 a0_0 l0_1 ((rd_T28 l0_1 x4_2).f0) ((rd_T28 l0_1 x4_2).f1) ((rd_T28 l0_1 x4_2).f2) ((rd_T28 l0_1 x4_2).f3) = some (r1, r2)) ∧ Aside0 (kq ≤ kj48) ∧ Aside0 (w'.heap[gb127]? = some (.cells #[.int .i64 a0_0, (.slice (some ad128) l0_1.length c0_1)] 24 (0, 0))) ∧ Aside0 (w'.heap[gb129]? = some (.cells #[.int .i64 ((rd_T28 l0_1 x4_2).f0), .int .i64 ((rd_T28 l0_1 x4_2).f1), .int .i64 ((rd_T28 l0_1 x4_2).f2), .int .i64 ((rd_T28 l0_1 x4_2).f3)] 28 (0, 0))) ∧ Aside0 (Below w.heap.size w w'))
               case atStart => exact ⟨(0), (by first | rfl | (simp; done) | (simp [*]; done)), H', ⟨Nat.le_refl _⟩, ⟨by (with_reducible repeat (first | refine blk_drewN ?_ _ | refine blk_drew ?_ | refine blk_alloc ?_ _)); exact BK127.out⟩, ⟨by (with_reducible repeat (first | refine blk_drewN ?_ _ | refine blk_drew ?_ | refine blk_alloc ?_ _)); exact BK129.out⟩, ⟨by repeat (first | (with_reducible first | exact HB.out | apply below_alloc | apply pw_below_drewN | apply below_drew1 | refine below_set ?_ GE127.out | refine below_set ?_ GE129.out) | exact HB.out)⟩⟩
               case round =>
                clear H'
                try clear c1
                try clear p1
                try clear q1
                try clear hx1
                try clear c2
                try clear p2
                try clear c3
                try clear c4
                try clear c4b0
                try clear c5
                try clear c7
                try clear c8
                try clear c8b0
                try clear c8b1
                try clear c11
                try clear c11b0
                try clear c12
                try clear c12b0
                try clear p12
                try clear q12
                try clear hx12
                try clear c16
                try clear c18
                try clear c18b0
                try clear c19
                try clear c21
                try clear c21b0
                try clear c22
                try clear c25
                try clear c25b0
                try clear c26
                try clear c29
                try clear c29b0
                try clear c30
                try clear c33
                try clear c33b0
                try clear c34
                try clear c37
                try clear c37b0
                try clear c38
                try clear c41
                try clear c41b0
                try clear c42
                try clear c45
                try clear c48
                try clear c50
                try clear c50b0
                try clear c50b1
                try clear c51
                try clear c53
                try clear c53b0
                try clear c54
                try clear c56
                try clear c58
                try clear hcz10_0
                try clear hcz10_1
                try clear hcz14_0
                try clear hcz14_1
                try clear hcz17_0
                try clear hcz17_1
                try clear hcz17_2
                try clear hcz17_3
                try clear hcz20_0
                try clear hcz20_1
                try clear hcz20_2
                try clear hcz20_3
                try clear hcz23_0
                try clear hcz23_1
                try clear hcz23_2
                try clear hcz23_3
                try clear hcz24_0
                try clear hcz24_1
                try clear hcz27_0
                try clear hcz27_1
                try clear hcz27_2
                try clear hcz27_3
                try clear hcz28_0
                try clear hcz28_1
                try clear hcz31_0
                try clear hcz31_1
                try clear hcz31_2
                try clear hcz31_3
                try clear hcz32_0
                try clear hcz32_1
                try clear hcz35_0
                try clear hcz35_1
                try clear hcz35_2
                try clear hcz35_3
                try clear hcz36_0
                try clear hcz36_1
                try clear hcz39_0
                try clear hcz39_1
                try clear hcz39_2
                try clear hcz39_3
                try clear hcz40_0
                try clear hcz40_1
                try clear hcz43_0
                try clear hcz43_1
                try clear hcz43_2
                try clear hcz43_3
                try clear hcz44_0
                try clear hcz44_1
                try clear hcz46_0
                try clear hcz46_1
                try clear hcz46_2
                try clear hcz46_3
                try clear hcz47_0
                try clear hcz47_1
                try clear hcz52_0
                try clear hcz52_1
                try clear hcz52_2
                try clear hcz52_3
                try clear hcz55_0
                try clear hcz55_1
                try clear hcz55_2
                try clear hcz55_3
                try clear hcz57_0
                try clear hcz57_1
                try clear hcz57_2
                try clear hcz57_3
                try clear hcz5_0
                try clear hcz5_1
                try clear hcz6_0
                try clear hcz6_1
                try clear hcz9_0
                try clear hcz9_1
                try clear hfz10_0
                try clear hfz10_1
                try clear hfz14_0
                try clear hfz14_1
                try clear hfz17_0
                try clear hfz17_1
                try clear hfz17_2
                try clear hfz17_3
                try clear hfz20_0
                try clear hfz20_1
                try clear hfz20_2
                try clear hfz20_3
                try clear hfz23_0
                try clear hfz23_1
                try clear hfz23_2
                try clear hfz23_3
                try clear hfz24_0
                try clear hfz24_1
                try clear hfz27_0
                try clear hfz27_1
                try clear hfz27_2
                try clear hfz27_3
                try clear hfz28_0
                try clear hfz28_1
                try clear hfz31_0
                try clear hfz31_1
                try clear hfz31_2
                try clear hfz31_3
                try clear hfz32_0
                try clear hfz32_1
                try clear hfz35_0
                try clear hfz35_1
                try clear hfz35_2
                try clear hfz35_3
                try clear hfz36_0
                try clear hfz36_1
                try clear hfz39_0
                try clear hfz39_1
                try clear hfz39_2
                try clear hfz39_3
                try clear hfz40_0
                try clear hfz40_1
                try clear hfz43_0
                try clear hfz43_1
                try clear hfz43_2
                try clear hfz43_3
                try clear hfz44_0
                try clear hfz44_1
                try clear hfz46_0
                try clear hfz46_1
                try clear hfz46_2
                try clear hfz46_3
                try clear hfz47_0
                try clear hfz47_1
                try clear hfz52_0
                try clear hfz52_1
                try clear hfz52_2
                try clear hfz52_3
                try clear hfz55_0
                try clear hfz55_1
                try clear hfz55_2
                try clear hfz55_3
                try clear hfz57_0
                try clear hfz57_1
                try clear hfz57_2
                try clear hfz57_3
                try clear hfz5_0
                try clear hfz5_1
                try clear hfz6_0
                try clear hfz6_1
                try clear hfz9_0
                try clear hfz9_1
                try clear hx128_0
                try clear hx128_1
                try clear hx128_2
                try clear hx128_3
                try clear p1
                try clear p12
                try clear p128
                try clear p2
                try clear q1
                try clear q12
                try clear q128
                obtain ⟨x6_5, rfl, HA, HK5, BK127, BK129, HB⟩ := hrel
                cases gk with
                | zero => exact absurd HA.out (by simp [spileref36_Check.l1])
                | succ k5 =>
                 have H := HA.out
                 clear HA
                 simp only [spileref36_Check.l1] at H
                 by_cases c59 : x6_5 < x4_2
                 ·rw [if_pos c59] at H
                  have c59b0 : decide (x6_5 < x4_2) = true := decide_eq_true c59
                  clear c59
                  by_cases c60 : 0 ≤ x6_5
                  ·rw [if_pos c60] at H
                   have c60b0 : decide (0 ≤ x6_5) = true := decide_eq_true c60
                   clear c60
                   by_cases c61 : x6_5 < (l0_1.length : Int)
                   ·rw [if_pos c61] at H
                    have c61b0 : decide (x6_5 < (l0_1.length : Int)) = true := decide_eq_true c61
                    clear c61
                    by_cases c62 : ((rd_T28 l0_1 x6_5).f0) = ((rd_T28 l0_1 x4_2).f0)
                    ·rw [if_pos c62] at H
                     have c62b0 : (((rd_T28 l0_1 x6_5).f0) == ((rd_T28 l0_1 x4_2).f0)) = true := beq_iff_eq.mpr c62
                     have c62b1 : (((rd_T28 l0_1 x6_5).f0) != ((rd_T28 l0_1 x4_2).f0)) = false := bne_eq_false_iff_eq.mpr c62
                     clear c62
                     by_cases c63 : ((rd_T28 l0_1 x6_5).f1) = ((rd_T28 l0_1 x4_2).f1)
                     ·rw [if_pos c63] at H
                      have c63b0 : (((rd_T28 l0_1 x6_5).f1) == ((rd_T28 l0_1 x4_2).f1)) = true := beq_iff_eq.mpr c63
                      have c63b1 : (((rd_T28 l0_1 x6_5).f1) != ((rd_T28 l0_1 x4_2).f1)) = false := bne_eq_false_iff_eq.mpr c63
                      clear c63
                      simp only [Option.some.injEq, Prod.mk.injEq] at H
                      obtain ⟨rfl, rfl⟩ := H
                      have hnb64 := NB127_129.out
                      have hnc64 := NB129_127.out
                      have hcz65_0 : wr.cell? ⟨gb127, 0, none⟩ = some (.int .i64 a0_0) := (blk_cell BK127.out 0).trans rfl
                      have hcz65_1 : wr.cell? ⟨gb127, 1, none⟩ = some (.slice (some ad128) l0_1.length c0_1) := (blk_cell BK127.out 1).trans rfl
                      have hfz65_0 := blk_frozen BK127.out 0
                      have hfz65_1 := blk_frozen BK127.out 1
                      have p130 : 0 ≤ (x6_5 : Int) := of_decide_eq_true (by first | (with_reducible assumption) | assumption)
                      have q130 : x6_5 < (l0_1.length : Int) := of_decide_eq_true (by first | (with_reducible assumption) | assumption)
                      obtain ⟨ad130, e130, hx130_0, hx130_1, hx130_2, hx130_3⟩ := at_T28 HR0_1.out x6_5 p130 q130
                      obtain rfl : ad128 = ad130 := (by injection e130)
                      replace hx130_0 := (HB.out.cell (World.block_lt_of_cell? w _ hx130_0)).trans hx130_0
                      replace hx130_1 := (HB.out.cell (World.block_lt_of_cell? w _ hx130_1)).trans hx130_1
                      replace hx130_2 := (HB.out.cell (World.block_lt_of_cell? w _ hx130_2)).trans hx130_2
                      replace hx130_3 := (HB.out.cell (World.block_lt_of_cell? w _ hx130_3)).trans hx130_3
                      replace p130 := eq_true p130
                      replace q130 := eq_true q130
                      have hcz66_0 : wr.cell? ⟨gb129, 0, none⟩ = some (.int .i64 ((rd_T28 l0_1 x4_2).f0)) := (blk_cell BK129.out 0).trans rfl
                      have hcz66_1 : wr.cell? ⟨gb129, 1, none⟩ = some (.int .i64 ((rd_T28 l0_1 x4_2).f1)) := (blk_cell BK129.out 1).trans rfl
                      have hcz66_2 : wr.cell? ⟨gb129, 2, none⟩ = some (.int .i64 ((rd_T28 l0_1 x4_2).f2)) := (blk_cell BK129.out 2).trans rfl
                      have hcz66_3 : wr.cell? ⟨gb129, 3, none⟩ = some (.int .i64 ((rd_T28 l0_1 x4_2).f3)) := (blk_cell BK129.out 3).trans rfl
                      have hfz66_0 := blk_frozen BK129.out 0
                      have hfz66_1 := blk_frozen BK129.out 1
                      have hfz66_2 := blk_frozen BK129.out 2
                      have hfz66_3 := blk_frozen BK129.out 3
                      have p131 : 0 ≤ (x6_5 : Int) := of_decide_eq_true (by first | (with_reducible assumption) | assumption)
                      have q131 : x6_5 < (l0_1.length : Int) := of_decide_eq_true (by first | (with_reducible assumption) | assumption)
                      obtain ⟨ad131, e131, hx131_0, hx131_1, hx131_2, hx131_3⟩ := at_T28 HR0_1.out x6_5 p131 q131
                      obtain rfl : ad128 = ad131 := (by injection e131)
                      replace hx131_0 := (HB.out.cell (World.block_lt_of_cell? w _ hx131_0)).trans hx131_0
                      replace hx131_1 := (HB.out.cell (World.block_lt_of_cell? w _ hx131_1)).trans hx131_1
                      replace hx131_2 := (HB.out.cell (World.block_lt_of_cell? w _ hx131_2)).trans hx131_2
                      replace hx131_3 := (HB.out.cell (World.block_lt_of_cell? w _ hx131_3)).trans hx131_3
                      replace p131 := eq_true p131
                      replace q131 := eq_true q131
                      go_wp2
                      repeat (go_quiet (fail); try go_wp2)
                      go_ret2
                      exact ⟨by first | rfl | (simp [errW_none, errW_some] <;> rfl) | (simp [*, errW_none, errW_some] <;> rfl), by repeat (first | (with_reducible first | exact HB.out | apply below_alloc | apply pw_below_drewN | apply below_drew1 | refine below_set ?_ GE127.out | refine below_set ?_ GE129.out) | exact HB.out)⟩
                     ·rw [if_neg c63] at H
                      have c63b0 : (((rd_T28 l0_1 x6_5).f1) == ((rd_T28 l0_1 x4_2).f1)) = false := beq_eq_false_iff_ne.mpr c63
                      have c63b1 : (((rd_T28 l0_1 x6_5).f1) != ((rd_T28 l0_1 x4_2).f1)) = true := bne_iff_ne.mpr c63
                      have H' := Aside0.mk H
                      clear H
                      have hnb67 := NB127_129.out
                      have hnc67 := NB129_127.out
                      have hcz68_0 : wr.cell? ⟨gb127, 0, none⟩ = some (.int .i64 a0_0) := (blk_cell BK127.out 0).trans rfl
                      have hcz68_1 : wr.cell? ⟨gb127, 1, none⟩ = some (.slice (some ad128) l0_1.length c0_1) := (blk_cell BK127.out 1).trans rfl
                      have hfz68_0 := blk_frozen BK127.out 0
                      have hfz68_1 := blk_frozen BK127.out 1
                      have p130 : 0 ≤ (x6_5 : Int) := of_decide_eq_true (by first | (with_reducible assumption) | assumption)
                      have q130 : x6_5 < (l0_1.length : Int) := of_decide_eq_true (by first | (with_reducible assumption) | assumption)
                      obtain ⟨ad130, e130, hx130_0, hx130_1, hx130_2, hx130_3⟩ := at_T28 HR0_1.out x6_5 p130 q130
                      obtain rfl : ad128 = ad130 := (by injection e130)
                      replace hx130_0 := (HB.out.cell (World.block_lt_of_cell? w _ hx130_0)).trans hx130_0
                      replace hx130_1 := (HB.out.cell (World.block_lt_of_cell? w _ hx130_1)).trans hx130_1
                      replace hx130_2 := (HB.out.cell (World.block_lt_of_cell? w _ hx130_2)).trans hx130_2
                      replace hx130_3 := (HB.out.cell (World.block_lt_of_cell? w _ hx130_3)).trans hx130_3
                      replace p130 := eq_true p130
                      replace q130 := eq_true q130
                      have hcz69_0 : wr.cell? ⟨gb129, 0, none⟩ = some (.int .i64 ((rd_T28 l0_1 x4_2).f0)) := (blk_cell BK129.out 0).trans rfl
                      have hcz69_1 : wr.cell? ⟨gb129, 1, none⟩ = some (.int .i64 ((rd_T28 l0_1 x4_2).f1)) := (blk_cell BK129.out 1).trans rfl
                      have hcz69_2 : wr.cell? ⟨gb129, 2, none⟩ = some (.int .i64 ((rd_T28 l0_1 x4_2).f2)) := (blk_cell BK129.out 2).trans rfl
                      have hcz69_3 : wr.cell? ⟨gb129, 3, none⟩ = some (.int .i64 ((rd_T28 l0_1 x4_2).f3)) := (blk_cell BK129.out 3).trans rfl
                      have hfz69_0 := blk_frozen BK129.out 0
                      have hfz69_1 := blk_frozen BK129.out 1
                      have hfz69_2 := blk_frozen BK129.out 2
                      have hfz69_3 := blk_frozen BK129.out 3
                      have p131 : 0 ≤ (x6_5 : Int) := of_decide_eq_true (by first | (with_reducible assumption) | assumption)
                      have q131 : x6_5 < (l0_1.length : Int) := of_decide_eq_true (by first | (with_reducible assumption) | assumption)
                      obtain ⟨ad131, e131, hx131_0, hx131_1, hx131_2, hx131_3⟩ := at_T28 HR0_1.out x6_5 p131 q131
                      obtain rfl : ad128 = ad131 := (by injection e131)
                      replace hx131_0 := (HB.out.cell (World.block_lt_of_cell? w _ hx131_0)).trans hx131_0
                      replace hx131_1 := (HB.out.cell (World.block_lt_of_cell? w _ hx131_1)).trans hx131_1
                      replace hx131_2 := (HB.out.cell (World.block_lt_of_cell? w _ hx131_2)).trans hx131_2
                      replace hx131_3 := (HB.out.cell (World.block_lt_of_cell? w _ hx131_3)).trans hx131_3
                      replace p131 := eq_true p131
                      replace q131 := eq_true q131
                      go_wp2
                      repeat (go_quiet (fail); try go_wp2)
                      go_roundg k5
                      case measure => have := HJ1.out; have := HK2.out; have := HJ12.out; have := HJ48.out; have := HK5.out; omega
                      case rel => exact ⟨(wrap64 (x6_5 + 1)), (by first | rfl | (simp; done) | (simp [*]; done)), H', ⟨by have := HJ1.out; have := HK2.out; have := HJ12.out; have := HJ48.out; have := HK5.out; omega⟩, ⟨by (with_reducible repeat (first | refine blk_drewN ?_ _ | refine blk_drew ?_ | refine blk_alloc ?_ _)); exact BK127.out⟩, ⟨by (with_reducible repeat (first | refine blk_drewN ?_ _ | refine blk_drew ?_ | refine blk_alloc ?_ _)); exact BK129.out⟩, ⟨by repeat (first | (with_reducible first | exact HB.out | apply below_alloc | apply pw_below_drewN | apply below_drew1 | refine below_set ?_ GE127.out | refine below_set ?_ GE129.out) | exact HB.out)⟩⟩
                    ·rw [if_neg c62] at H
                     have c62b0 : (((rd_T28 l0_1 x6_5).f0) == ((rd_T28 l0_1 x4_2).f0)) = false := beq_eq_false_iff_ne.mpr c62
                     have c62b1 : (((rd_T28 l0_1 x6_5).f0) != ((rd_T28 l0_1 x4_2).f0)) = true := bne_iff_ne.mpr c62
                     have H' := Aside0.mk H
                     clear H
                     have hnb70 := NB127_129.out
                     have hnc70 := NB129_127.out
                     have hcz71_0 : wr.cell? ⟨gb127, 0, none⟩ = some (.int .i64 a0_0) := (blk_cell BK127.out 0).trans rfl
                     have hcz71_1 : wr.cell? ⟨gb127, 1, none⟩ = some (.slice (some ad128) l0_1.length c0_1) := (blk_cell BK127.out 1).trans rfl
                     have hfz71_0 := blk_frozen BK127.out 0
                     have hfz71_1 := blk_frozen BK127.out 1
                     have p130 : 0 ≤ (x6_5 : Int) := of_decide_eq_true (by first | (with_reducible assumption) | assumption)
                     have q130 : x6_5 < (l0_1.length : Int) := of_decide_eq_true (by first | (with_reducible assumption) | assumption)
                     obtain ⟨ad130, e130, hx130_0, hx130_1, hx130_2, hx130_3⟩ := at_T28 HR0_1.out x6_5 p130 q130
                     obtain rfl : ad128 = ad130 := (by injection e130)
                     replace hx130_0 := (HB.out.cell (World.block_lt_of_cell? w _ hx130_0)).trans hx130_0
                     replace hx130_1 := (HB.out.cell (World.block_lt_of_cell? w _ hx130_1)).trans hx130_1
                     replace hx130_2 := (HB.out.cell (World.block_lt_of_cell? w _ hx130_2)).trans hx130_2
                     replace hx130_3 := (HB.out.cell (World.block_lt_of_cell? w _ hx130_3)).trans hx130_3
                     replace p130 := eq_true p130
                     replace q130 := eq_true q130
                     have hcz72_0 : wr.cell? ⟨gb129, 0, none⟩ = some (.int .i64 ((rd_T28 l0_1 x4_2).f0)) := (blk_cell BK129.out 0).trans rfl
                     have hcz72_1 : wr.cell? ⟨gb129, 1, none⟩ = some (.int .i64 ((rd_T28 l0_1 x4_2).f1)) := (blk_cell BK129.out 1).trans rfl
                     have hcz72_2 : wr.cell? ⟨gb129, 2, none⟩ = some (.int .i64 ((rd_T28 l0_1 x4_2).f2)) := (blk_cell BK129.out 2).trans rfl
                     have hcz72_3 : wr.cell? ⟨gb129, 3, none⟩ = some (.int .i64 ((rd_T28 l0_1 x4_2).f3)) := (blk_cell BK129.out 3).trans rfl
                     have hfz72_0 := blk_frozen BK129.out 0
                     have hfz72_1 := blk_frozen BK129.out 1
                     have hfz72_2 := blk_frozen BK129.out 2
                     have hfz72_3 := blk_frozen BK129.out 3
                     go_wp2
                     repeat (go_quiet (fail); try go_wp2)
                     go_roundg k5
                     case measure => have := HJ1.out; have := HK2.out; have := HJ12.out; have := HJ48.out; have := HK5.out; omega
                     case rel => exact ⟨(wrap64 (x6_5 + 1)), (by first | rfl | (simp; done) | (simp [*]; done)), H', ⟨by have := HJ1.out; have := HK2.out; have := HJ12.out; have := HJ48.out; have := HK5.out; omega⟩, ⟨by (with_reducible repeat (first | refine blk_drewN ?_ _ | refine blk_drew ?_ | refine blk_alloc ?_ _)); exact BK127.out⟩, ⟨by (with_reducible repeat (first | refine blk_drewN ?_ _ | refine blk_drew ?_ | refine blk_alloc ?_ _)); exact BK129.out⟩, ⟨by repeat (first | (with_reducible first | exact HB.out | apply below_alloc | apply pw_below_drewN | apply below_drew1 | refine below_set ?_ GE127.out | refine below_set ?_ GE129.out) | exact HB.out)⟩⟩
                   ·rw [if_neg c61] at H
                    exact absurd H (by simp)
                  ·rw [if_neg c60] at H
                   exact absurd H (by simp)
                 ·rw [if_neg c59] at H
                  have c59b0 : decide (x6_5 < x4_2) = false := decide_eq_false c59
                  clear c59
                  have H' := Aside0.mk H
                  clear H
                  go_wp2
                  repeat (go_quiet (fail); try go_wp2)
                  go_roundg k5
                  case measure => have := HJ1.out; have := HK2.out; have := HJ12.out; have := HJ48.out; have := HK5.out; omega
                  case rel => exact ⟨(wrap64 (x4_2 + 1)), (by first | rfl | (simp; done) | (simp [*]; done)), H', ⟨by have := HJ1.out; have := HK2.out; have := HJ12.out; have := HJ48.out; have := HK5.out; omega⟩, ⟨by (with_reducible repeat (first | refine blk_drewN ?_ _ | refine blk_drew ?_ | refine blk_alloc ?_ _)); exact BK127.out⟩, ⟨by repeat (first | (with_reducible first | exact HB.out | apply below_alloc | apply pw_below_drewN | apply below_drew1 | refine below_set ?_ GE127.out | refine below_set ?_ GE129.out) | exact HB.out)⟩⟩
        ·rw [if_neg c12] at H
         exact absurd H (by simp)
       ·rw [if_neg c11] at H
        have c11b0 : decide (x4_2 < (l0_1.length : Int)) = false := decide_eq_false c11
        clear c11
        simp only [Option.some.injEq, Prod.mk.injEq] at H
        obtain ⟨rfl, rfl⟩ := H
        have hcz73_0 : wr.cell? ⟨gb127, 0, none⟩ = some (.int .i64 a0_0) := (blk_cell BK127.out 0).trans rfl
        have hcz73_1 : wr.cell? ⟨gb127, 1, none⟩ = some (.slice A0_1 l0_1.length c0_1) := (blk_cell BK127.out 1).trans rfl
        have hfz73_0 := blk_frozen BK127.out 0
        have hfz73_1 := blk_frozen BK127.out 1
        go_wp2
        repeat (go_quiet (fail); try go_wp2)
        go_ret2
        exact ⟨by first | rfl | (simp [errW_none, errW_some] <;> rfl) | (simp [*, errW_none, errW_some] <;> rfl), by repeat (first | (with_reducible first | exact HB.out | apply below_alloc | apply pw_below_drewN | apply below_drew1 | refine below_set ?_ GE127.out) | exact HB.out)⟩

end Go.Proofs.Ytodfjkdgfjkifaa.PF
