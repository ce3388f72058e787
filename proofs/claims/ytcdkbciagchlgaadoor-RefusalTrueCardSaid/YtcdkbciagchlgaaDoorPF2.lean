-- Written by a program of this session (wip/pr.py) out of Lean's print of the translation; Lean checks it.
import Derived.Test.YtcdkbciagchlgaaDoorPF0
import Derived.Test.YtcdkbciagchlgaaDoorPF1
namespace Go.Proofs.YtcdkbciagchlgaaDoor.PF
open Go.RowKit Go.Proofs.YtcdkbciagchlgaaDoorW.PrintWords Go.Proofs.YtcdkbciagchlgaaDoorW.PrintLast Go.Proofs.YtcdkbciagchlgaaDoorW.PrintMore
attribute [local go_sem] max2_int min2_int max_two min_two max_three min_three max_four min_four   
set_option linter.unusedVariables false
set_option linter.unusedSimpArgs false
mutual
def density_fault.j0 : Nat → List (S82) → Int → Bool → Int → Int → Option (Int)
 | 0, _, _, _, _, _ => none
 | k + 1, x0, x1, x10, x103000, x103001 => if x10 = true then (some 2) else (if x1 > 0 then (if 0 ≤ (wrap64 (x1 - 1)) then (if (wrap64 (x1 - 1)) < (x0.length : Int) then (density_fault.j1 k x0 x1 (decide (x103000 ≤ ((rd_T82 x0 (wrap64 (x1 - 1))).f0))) x103000 x103001) else (none)) else (none)) else (density_fault.j1 k x0 x1 false x103000 x103001))
def density_fault.j1 : Nat → List (S82) → Int → Bool → Int → Int → Option (Int)
 | 0, _, _, _, _, _ => none
 | k + 1, x0, x1, x29, x103000, x103001 => if x29 = true then (some 5) else (if x1 > 0 then (if 0 ≤ (wrap64 (x1 - 1)) then (if (wrap64 (x1 - 1)) < (x0.length : Int) then (if x103001 > ((rd_T82 x0 (wrap64 (x1 - 1))).f1) then (some 18) else (some 0)) else (none)) else (none)) else (some 0))
end
def density_fault.f (k : Nat) (l0 : List (S82)) (a1 : Int) : Option (Int) := if 0 ≤ a1 then (if a1 < (l0.length : Int) then (if ((rd_T82 l0 a1).f0) < 0 then (density_fault.j0 k l0 a1 true ((rd_T82 l0 a1).f0) ((rd_T82 l0 a1).f1)) else (if ((rd_T82 l0 a1).f0) > 10000 then (density_fault.j0 k l0 a1 true ((rd_T82 l0 a1).f0) ((rd_T82 l0 a1).f1)) else (if ((rd_T82 l0 a1).f1) < 50000 then (density_fault.j0 k l0 a1 true ((rd_T82 l0 a1).f0) ((rd_T82 l0 a1).f1)) else (density_fault.j0 k l0 a1 (decide (((rd_T82 l0 a1).f1) > 120000)) ((rd_T82 l0 a1).f0) ((rd_T82 l0 a1).f1))))) else (none)) else (none)
theorem density_fault.mono_l : ∀ k, (∀ y0 y1 y2 y3 y4, LeO (density_fault.j0 k y0 y1 y2 y3 y4) (density_fault.j0 (k + 1) y0 y1 y2 y3 y4)) ∧ (∀ y0 y1 y2 y3 y4, LeO (density_fault.j1 k y0 y1 y2 y3 y4) (density_fault.j1 (k + 1) y0 y1 y2 y3 y4))
 | 0 => ⟨fun _ _ _ _ _ r h => by simp [density_fault.j0] at h, fun _ _ _ _ _ r h => by simp [density_fault.j1] at h⟩
 | k + 1 => by
  obtain ⟨ih0, ih1⟩ := density_fault.mono_l k
  refine ⟨?_, ?_⟩
  ·intro y0 y1 y2 y3 y4
   unfold density_fault.j0
   repeat' first
   | (with_reducible exact ih0 _ _ _ _ _)
   | (with_reducible exact ih1 _ _ _ _ _)
   | (with_reducible exact LeO.refl _)
   | (with_reducible exact LeO.none _)
   | (with_reducible refine LeO.ite ?_ ?_)
   | (with_reducible refine LeO.bind ?_ (fun _ => ?_))
   | exact ih0 _ _ _ _ _
   | exact ih1 _ _ _ _ _
   | exact LeO.none _
   | refine LeO.ite ?_ ?_
   | refine LeO.bind ?_ (fun _ => ?_)
  ·intro y0 y1 y2 y3 y4
   unfold density_fault.j1
   repeat' first
   | (with_reducible exact ih0 _ _ _ _ _)
   | (with_reducible exact ih1 _ _ _ _ _)
   | (with_reducible exact LeO.refl _)
   | (with_reducible exact LeO.none _)
   | (with_reducible refine LeO.ite ?_ ?_)
   | (with_reducible refine LeO.bind ?_ (fun _ => ?_))
   | exact ih0 _ _ _ _ _
   | exact ih1 _ _ _ _ _
   | exact LeO.none _
   | refine LeO.ite ?_ ?_
   | refine LeO.bind ?_ (fun _ => ?_)
theorem density_fault.mono : ∀ a0 a1 k, LeO (density_fault.f k a0 a1) (density_fault.f (k + 1) a0 a1) := by
 intro a0 a1 k
 obtain ⟨ih0, ih1⟩ := density_fault.mono_l k
 unfold density_fault.f
 repeat' first
   | (with_reducible exact ih0 _ _ _ _ _)
   | (with_reducible exact ih1 _ _ _ _ _)
   | (with_reducible exact LeO.refl _)
   | (with_reducible exact LeO.none _)
   | (with_reducible refine LeO.ite ?_ ?_)
   | (with_reducible refine LeO.bind ?_ (fun _ => ?_))
   | exact ih0 _ _ _ _ _
   | exact ih1 _ _ _ _ _
   | exact LeO.none _
   | refine LeO.ite ?_ ?_
   | refine LeO.bind ?_ (fun _ => ?_)
set_option maxHeartbeats 8000000 in
set_option maxRecDepth 100000 in
theorem density_fault.calls (k : Nat) (A0 : Option Addr) (c0 : Nat) (l0 : List (S82)) (a1 : Int) (r : Int) (w : World) (hr0 : Kd.C k82 w A0 l0.length l0) (hc0 : l0.length ≤ c0) (h : density_fault.f k l0 a1 = some r) :
  Calls Tryd.prog 74 #[.slice A0 l0.length c0, .int .i64 a1] w fun e w' => e = .returned (.int .i64 r) ∧ Below w.heap.size w w' := by
 have hu82 := Tryd.underlying82
 have HR0 := Aside0.mk hr0
 have HC0 := Aside0.mk hc0
 clear hr0 hc0
 have HB := Aside0.mk (Below.refl w.heap.size w)
 have H : (if 0 ≤ a1 then (if a1 < (l0.length : Int) then (if ((rd_T82 l0 a1).f0) < 0 then (density_fault.j0 k l0 a1 true ((rd_T82 l0 a1).f0) ((rd_T82 l0 a1).f1)) else (if ((rd_T82 l0 a1).f0) > 10000 then (density_fault.j0 k l0 a1 true ((rd_T82 l0 a1).f0) ((rd_T82 l0 a1).f1)) else (if ((rd_T82 l0 a1).f1) < 50000 then (density_fault.j0 k l0 a1 true ((rd_T82 l0 a1).f0) ((rd_T82 l0 a1).f1)) else (density_fault.j0 k l0 a1 (decide (((rd_T82 l0 a1).f1) > 120000)) ((rd_T82 l0 a1).f0) ((rd_T82 l0 a1).f1))))) else (none)) else (none)) = some r := h
 clear h
 by_cases c3 : 0 ≤ a1
 ·rw [if_pos c3] at H
  have c3b0 : decide (0 ≤ a1) = true := decide_eq_true c3
  clear c3
  by_cases c4 : a1 < (l0.length : Int)
  ·rw [if_pos c4] at H
   have c4b0 : decide (a1 < (l0.length : Int)) = true := decide_eq_true c4
   clear c4
   have HC5 := Aside0.mk H
   clear H
   have p101 : 0 ≤ (a1 : Int) := of_decide_eq_true as_
   have q101 : a1 < (l0.length : Int) := of_decide_eq_true as_
   obtain ⟨ad101, e101, hx101_0, hx101_1⟩ := at_T82 HR0.out a1 p101 q101
   cases e101
   replace p101 := eq_true p101
   replace q101 := eq_true q101
   go_enter Tryd.func74, Tryd.ntmps74
   go_upto_region 2 with (first | ((with_reducible refine gate_dst (N := 5) rfl ?_); refine be_ (N := 5) (cs := #[.int .i64 0, .int .i64 0]) (t := 82) ?_; intro gb102 hg w6 hbox hb; have n0_ := Aside0.mk (below_step bl_ hb); have n1_ := Aside0.mk (hbox); have n2_ := Aside0.mk ((by rw [hg]; exact (below_size bl_) : w.heap.size ≤ gb102)); have n3_ := Aside0.mk ((by rw [hg]; exact (below_size bl_) : w.heap.size ≤ gb102)); clear HB; have HB := n0_; have BK102 := n1_; have GW102 := n2_; have GE102 := n3_; clear n0_ n1_ n2_ n3_; clear hb hbox hg; obtain ⟨hcz7_0, hcz7_1⟩ := bc2_ BK102; have hfz7_0 := blk_frozen BK102.out 0; have hfz7_1 := blk_frozen BK102.out 1))
   repeat (go_quiet (first | ((with_reducible refine gate_dst (N := 5) rfl ?_); refine be_ (N := 5) (cs := #[.int .i64 0, .int .i64 0]) (t := 82) ?_; intro gb102 hg w6 hbox hb; have n0_ := Aside0.mk (below_step bl_ hb); have n1_ := Aside0.mk (hbox); have n2_ := Aside0.mk ((by rw [hg]; exact (below_size bl_) : w.heap.size ≤ gb102)); have n3_ := Aside0.mk ((by rw [hg]; exact (below_size bl_) : w.heap.size ≤ gb102)); clear HB; have HB := n0_; have BK102 := n1_; have GW102 := n2_; have GE102 := n3_; clear n0_ n1_ n2_ n3_; clear hb hbox hg; obtain ⟨hcz7_0, hcz7_1⟩ := bc2_ BK102; have hfz7_0 := blk_frozen BK102.out 0; have hfz7_1 := blk_frozen BK102.out 1)); go_upto_region 2 with (first | ((with_reducible refine gate_dst (N := 5) rfl ?_); refine be_ (N := 5) (cs := #[.int .i64 0, .int .i64 0]) (t := 82) ?_; intro gb102 hg w6 hbox hb; have n0_ := Aside0.mk (below_step bl_ hb); have n1_ := Aside0.mk (hbox); have n2_ := Aside0.mk ((by rw [hg]; exact (below_size bl_) : w.heap.size ≤ gb102)); have n3_ := Aside0.mk ((by rw [hg]; exact (below_size bl_) : w.heap.size ≤ gb102)); clear HB; have HB := n0_; have BK102 := n1_; have GW102 := n2_; have GE102 := n3_; clear n0_ n1_ n2_ n3_; clear hb hbox hg; obtain ⟨hcz7_0, hcz7_1⟩ := bc2_ BK102; have hfz7_0 := blk_frozen BK102.out 0; have hfz7_1 := blk_frozen BK102.out 1)))
   (try simp only [Act.put, List.setIfInBounds_toArray, List.set_cons_zero, List.set_cons_succ])
   go_cut [10] (fun v10 wc => ∃ (kq : Nat) (x10_4 : Bool), v10 = .bool x10_4 ∧ Aside0 (density_fault.j0 kq l0 a1 x10_4 ((rd_T82 l0 a1).f0) ((rd_T82 l0 a1).f1) = some r) ∧ Aside0 (kq ≤ k) ∧ Aside0 (wc.heap[gb102]? = some (.cells #[.int .i64 ((rd_T82 l0 a1).f0), .int .i64 ((rd_T82 l0 a1).f1)] 82 (0, 0))) ∧ Aside0 (Below w.heap.size w wc))
   case first =>
    have H := HC5.out
    clear HC5
    by_cases c8 : ((rd_T82 l0 a1).f0) < 0
    ·rw [if_pos c8] at H
     have c8b0 : decide (((rd_T82 l0 a1).f0) < 0) = true := decide_eq_true c8
     clear c8
     (first | rw [c8b0] | (simp only [i64_w, i32_w]; rw [c8b0]) | skip)
     have H' := Aside0.mk H
     clear H
     obtain ⟨hcz9_0, hcz9_1⟩ := bc2_ BK102
     obtain ⟨hfz9_0, hfz9_1⟩ := bf2_ BK102
     go_wp2
     repeat (go_quiet (fail); try go_wp2)
     go_meet
     case rel => exact ⟨_, (true), sm_, H', ⟨by first | omega | exact Nat.le_refl _⟩, ⟨by (with_reducible repeat (first | refine blk_drewN ?_ _ | refine blk_drew ?_ | refine blk_alloc ?_ _)); refine blk_put (cs := #[.int .i64 ((rd_T82 l0 a1).f0), .int .i64 0]) ?_ 1 _ rfl; (with_reducible repeat (first | refine blk_drewN ?_ _ | refine blk_drew ?_ | refine blk_alloc ?_ _)); refine blk_put (cs := #[.int .i64 0, .int .i64 0]) ?_ 0 _ rfl; (with_reducible repeat (first | refine blk_drewN ?_ _ | refine blk_drew ?_ | refine blk_alloc ?_ _)); exact BK102.out⟩, ⟨bls_⟩⟩
    ·rw [if_neg c8] at H
     have c8b0 : decide (((rd_T82 l0 a1).f0) < 0) = false := decide_eq_false c8
     clear c8
     (first | rw [c8b0] | (simp only [i64_w, i32_w]; rw [c8b0]) | skip)
     by_cases c10 : ((rd_T82 l0 a1).f0) > 10000
     ·rw [if_pos c10] at H
      have c10b0 : decide (10000 < ((rd_T82 l0 a1).f0)) = true := decide_eq_true c10
      clear c10
      have H' := Aside0.mk H
      clear H
      obtain ⟨hcz11_0, hcz11_1⟩ := bc2_ BK102
      obtain ⟨hfz11_0, hfz11_1⟩ := bf2_ BK102
      go_wp2
      repeat (go_quiet (fail); try go_wp2)
      go_meet
      case rel => exact ⟨_, (true), sm_, H', ⟨by first | omega | exact Nat.le_refl _⟩, ⟨by (with_reducible repeat (first | refine blk_drewN ?_ _ | refine blk_drew ?_ | refine blk_alloc ?_ _)); refine blk_put (cs := #[.int .i64 ((rd_T82 l0 a1).f0), .int .i64 0]) ?_ 1 _ rfl; (with_reducible repeat (first | refine blk_drewN ?_ _ | refine blk_drew ?_ | refine blk_alloc ?_ _)); refine blk_put (cs := #[.int .i64 0, .int .i64 0]) ?_ 0 _ rfl; (with_reducible repeat (first | refine blk_drewN ?_ _ | refine blk_drew ?_ | refine blk_alloc ?_ _)); exact BK102.out⟩, ⟨bls_⟩⟩
     ·rw [if_neg c10] at H
      have c10b0 : decide (10000 < ((rd_T82 l0 a1).f0)) = false := decide_eq_false c10
      clear c10
      by_cases c12 : ((rd_T82 l0 a1).f1) < 50000
      ·rw [if_pos c12] at H
       have c12b0 : decide (((rd_T82 l0 a1).f1) < 50000) = true := decide_eq_true c12
       clear c12
       have H' := Aside0.mk H
       clear H
       obtain ⟨hcz13_0, hcz13_1⟩ := bc2_ BK102
       obtain ⟨hfz13_0, hfz13_1⟩ := bf2_ BK102
       go_wp2
       repeat (go_quiet (fail); try go_wp2)
       go_meet
       case rel => exact ⟨_, (true), sm_, H', ⟨by first | omega | exact Nat.le_refl _⟩, ⟨by (with_reducible repeat (first | refine blk_drewN ?_ _ | refine blk_drew ?_ | refine blk_alloc ?_ _)); refine blk_put (cs := #[.int .i64 ((rd_T82 l0 a1).f0), .int .i64 0]) ?_ 1 _ rfl; (with_reducible repeat (first | refine blk_drewN ?_ _ | refine blk_drew ?_ | refine blk_alloc ?_ _)); refine blk_put (cs := #[.int .i64 0, .int .i64 0]) ?_ 0 _ rfl; (with_reducible repeat (first | refine blk_drewN ?_ _ | refine blk_drew ?_ | refine blk_alloc ?_ _)); exact BK102.out⟩, ⟨bls_⟩⟩
      ·rw [if_neg c12] at H
       have c12b0 : decide (((rd_T82 l0 a1).f1) < 50000) = false := decide_eq_false c12
       clear c12
       have H' := Aside0.mk H
       clear H
       obtain ⟨hcz14_0, hcz14_1⟩ := bc2_ BK102
       obtain ⟨hfz14_0, hfz14_1⟩ := bf2_ BK102
       go_wp2
       repeat (go_quiet (fail); try go_wp2)
       go_meet
       case rel => exact ⟨_, (decide (((rd_T82 l0 a1).f1) > 120000)), sm_, H', ⟨by first | omega | exact Nat.le_refl _⟩, ⟨by (with_reducible repeat (first | refine blk_drewN ?_ _ | refine blk_drew ?_ | refine blk_alloc ?_ _)); refine blk_put (cs := #[.int .i64 ((rd_T82 l0 a1).f0), .int .i64 0]) ?_ 1 _ rfl; (with_reducible repeat (first | refine blk_drewN ?_ _ | refine blk_drew ?_ | refine blk_alloc ?_ _)); refine blk_put (cs := #[.int .i64 0, .int .i64 0]) ?_ 0 _ rfl; (with_reducible repeat (first | refine blk_drewN ?_ _ | refine blk_drew ?_ | refine blk_alloc ?_ _)); exact BK102.out⟩, ⟨bls_⟩⟩
   case rest =>
    clear HC5
    try clear c1
    try clear p1
    try clear q1
    try clear hx1
    try clear p2
    try clear c3
    try clear c3b0
    try clear c4
    try clear c4b0
    try clear c7
    try clear c8
    try clear c8b0
    try clear c10
    try clear c10b0
    try clear p10
    try clear q10
    try clear hx10
    try clear c12
    try clear c12b0
    try clear hcz11_0
    try clear hcz11_1
    try clear hcz13_0
    try clear hcz13_1
    try clear hcz14_0
    try clear hcz14_1
    try clear hcz7_0
    try clear hcz7_1
    try clear hcz9_0
    try clear hcz9_1
    try clear hfz11_0
    try clear hfz11_1
    try clear hfz13_0
    try clear hfz13_1
    try clear hfz14_0
    try clear hfz14_1
    try clear hfz7_0
    try clear hfz7_1
    try clear hfz9_0
    try clear hfz9_1
    try clear hx101_0
    try clear hx101_1
    try clear p101
    try clear q101
    obtain ⟨kq, x10_4, rfl, HA, HJ4, BK102, HB⟩ := hcut
    cases kq with
    | zero => exact absurd HA.out (by simp [density_fault.j0])
    | succ kj4 =>
     have H := HA.out
     clear HA
     simp only [density_fault.j0] at H
     by_cases c15 : x10_4 = true
     ·subst c15
      have H1 : (some 2) = some r := by rw [if_pos rfl] at H; exact H
      clear H
      have H := H1
      clear H1
      obtain rfl := Option.some.inj H
      go_wp2
      repeat (go_quiet (fail); try go_wp2)
      go_ret
      exact ⟨fin_, bls_⟩
     ·replace c15 := Bool.eq_false_iff.mpr c15
      subst c15
      have H1 : (if a1 > 0 then (if 0 ≤ (wrap64 (a1 - 1)) then (if (wrap64 (a1 - 1)) < (l0.length : Int) then (density_fault.j1 kj4 l0 a1 (decide (((rd_T82 l0 a1).f0) ≤ ((rd_T82 l0 (wrap64 (a1 - 1))).f0))) ((rd_T82 l0 a1).f0) ((rd_T82 l0 a1).f1)) else (none)) else (none)) else (density_fault.j1 kj4 l0 a1 false ((rd_T82 l0 a1).f0) ((rd_T82 l0 a1).f1))) = some r := by rw [if_neg (show ¬ (false = true) by decide)] at H; exact H
      clear H
      have H := H1
      clear H1
      have HC16 := Aside0.mk H
      clear H
      go_upto_region 4 with (fail)
      repeat (go_quiet (fail); go_upto_region 4 with (fail))
      go_cut [29] (fun v29 wc => ∃ (kq : Nat) (x29_15 : Bool), v29 = .bool x29_15 ∧ Aside0 (density_fault.j1 kq l0 a1 x29_15 ((rd_T82 l0 a1).f0) ((rd_T82 l0 a1).f1) = some r) ∧ Aside0 (kq ≤ kj4) ∧ Aside0 (wc.heap[gb102]? = some (.cells #[.int .i64 ((rd_T82 l0 a1).f0), .int .i64 ((rd_T82 l0 a1).f1)] 82 (0, 0))) ∧ Aside0 (Below w.heap.size w wc))
      case first =>
       have H := HC16.out
       clear HC16
       by_cases c17 : a1 > 0
       ·rw [if_pos c17] at H
        have c17b0 : decide (0 < a1) = true := decide_eq_true c17
        clear c17
        (first | rw [c17b0] | (simp only [i64_w, i32_w]; rw [c17b0]) | skip)
        obtain ⟨ji18, hji18⟩ : ∃ j_ : Int, (wrap64 (a1 - 1)) = j_ := ⟨_, rfl⟩
        replace H : (if 0 ≤ (ji18) then (if (ji18) < (l0.length : Int) then (density_fault.j1 kj4 l0 a1 (decide (((rd_T82 l0 a1).f0) ≤ ((rd_T82 l0 (ji18)).f0))) ((rd_T82 l0 a1).f0) ((rd_T82 l0 a1).f1)) else (none)) else (none)) = some r := by first | (rw [hji18] at H; exact H) | (simp only [hji18] at H ⊢; exact H)
        have hji18w : (IntKind.i64.wrap (a1 - 1)) = ji18 := (i64_w _).trans hji18
        by_cases c19 : 0 ≤ (ji18)
        ·rw [if_pos c19] at H
         have c19b0 : decide (0 ≤ (ji18)) = true := decide_eq_true c19
         clear c19
         by_cases c20 : (ji18) < (l0.length : Int)
         ·rw [if_pos c20] at H
          have c20b0 : decide ((ji18) < (l0.length : Int)) = true := decide_eq_true c20
          clear c20
          have H' := Aside0.mk H
          clear H
          have hcz21_0 : wc.cell? ⟨gb102, 0, none⟩ = some (.int .i64 ((rd_T82 l0 a1).f0)) := (blk_cell BK102.out 0).trans rfl
          have hcz21_1 : wc.cell? ⟨gb102, 1, none⟩ = some (.int .i64 ((rd_T82 l0 a1).f1)) := (blk_cell BK102.out 1).trans rfl
          obtain ⟨hfz21_0, hfz21_1⟩ := bf2_ BK102
          have p103 : 0 ≤ ((ji18) : Int) := of_decide_eq_true as_
          have q103 : (ji18) < (l0.length : Int) := of_decide_eq_true as_
          obtain ⟨ad103, e103, hx103_0, hx103_1⟩ := at_T82 HR0.out (ji18) p103 q103
          obtain rfl : ad101 = ad103 := (by injection e103)
          replace hx103_0 := (HB.out.cell (World.block_lt_of_cell? w _ hx103_0)).trans hx103_0
          replace hx103_1 := (HB.out.cell (World.block_lt_of_cell? w _ hx103_1)).trans hx103_1
          replace p103 := eq_true p103
          replace q103 := eq_true q103
          go_wp2
          repeat (go_quiet (fail); try go_wp2)
          go_meet
          case rel => exact ⟨_, (decide (((rd_T82 l0 a1).f0) ≤ ((rd_T82 l0 (ji18)).f0))), (by first | rfl | (simp; done) | (simp only [← hji18] <;> (first | rfl | simp)) | (simp [*]; done)), H', ⟨by have := HJ4.out; first | omega | exact Nat.le_refl _⟩, ⟨bkt_ BK102⟩, ⟨bls_⟩⟩
         ·rw [if_neg c20] at H
          exact absurd H (by simp)
        ·rw [if_neg c19] at H
         exact absurd H (by simp)
       ·rw [if_neg c17] at H
        have c17b0 : decide (0 < a1) = false := decide_eq_false c17
        clear c17
        (first | rw [c17b0] | (simp only [i64_w, i32_w]; rw [c17b0]) | skip)
        have H' := Aside0.mk H
        clear H
        go_wp2
        repeat (go_quiet (fail); try go_wp2)
        go_meet
        case rel => exact ⟨_, (false), sm_, H', ⟨by have := HJ4.out; first | omega | exact Nat.le_refl _⟩, ⟨bkt_ BK102⟩, ⟨bls_⟩⟩
      case rest =>
       clear HC16
       try clear c1
       try clear p1
       try clear q1
       try clear hx1
       try clear c2
       try clear p2
       try clear c3
       try clear c3b0
       try clear c4
       try clear c4b0
       try clear p6
       try clear c7
       try clear c8
       try clear c8b0
       try clear c10
       try clear c10b0
       try clear p10
       try clear q10
       try clear hx10
       try clear c12
       try clear c12b0
       try clear c15
       try clear c17
       try clear c17b0
       try clear c19
       try clear c19b0
       try clear c20
       try clear c20b0
       try clear hcz11_0
       try clear hcz11_1
       try clear hcz13_0
       try clear hcz13_1
       try clear hcz14_0
       try clear hcz14_1
       try clear hcz21_0
       try clear hcz21_1
       try clear hcz7_0
       try clear hcz7_1
       try clear hcz9_0
       try clear hcz9_1
       try clear hfz11_0
       try clear hfz11_1
       try clear hfz13_0
       try clear hfz13_1
       try clear hfz14_0
       try clear hfz14_1
       try clear hfz21_0
       try clear hfz21_1
       try clear hfz7_0
       try clear hfz7_1
       try clear hfz9_0
       try clear hfz9_1
       try clear hx101_0
       try clear hx101_1
       try clear hx103_0
       try clear hx103_1
       try clear p1
       try clear p10
       try clear p101
       try clear p103
       try clear p2
       try clear q1
       try clear q10
       try clear q101
       try clear q103
       obtain ⟨kq, x29_15, rfl, HA, HJ15, BK102, HB⟩ := hcut
       cases kq with
       | zero => exact absurd HA.out (by simp [density_fault.j1])
       | succ kj15 =>
        have H := HA.out
        clear HA
        simp only [density_fault.j1] at H
        by_cases c22 : x29_15 = true
        ·subst c22
         have H1 : (some 5) = some r := by rw [if_pos rfl] at H; exact H
         clear H
         have H := H1
         clear H1
         obtain rfl := Option.some.inj H
         go_wp2
         repeat (go_quiet (fail); try go_wp2)
         go_ret
         exact ⟨fin_, bls_⟩
        ·replace c22 := Bool.eq_false_iff.mpr c22
         subst c22
         have H1 : (if a1 > 0 then (if 0 ≤ (wrap64 (a1 - 1)) then (if (wrap64 (a1 - 1)) < (l0.length : Int) then (if ((rd_T82 l0 a1).f1) > ((rd_T82 l0 (wrap64 (a1 - 1))).f1) then (some 18) else (some 0)) else (none)) else (none)) else (some 0)) = some r := by rw [if_neg (show ¬ (false = true) by decide)] at H; exact H
         clear H
         have H := H1
         clear H1
         by_cases c23 : a1 > 0
         ·rw [if_pos c23] at H
          have c23b0 : decide (0 < a1) = true := decide_eq_true c23
          clear c23
          obtain ⟨ji24, hji24⟩ : ∃ j_ : Int, (wrap64 (a1 - 1)) = j_ := ⟨_, rfl⟩
          replace H : (if 0 ≤ (ji24) then (if (ji24) < (l0.length : Int) then (if ((rd_T82 l0 a1).f1) > ((rd_T82 l0 (ji24)).f1) then (some 18) else (some 0)) else (none)) else (none)) = some r := by first | (rw [hji24] at H; exact H) | (simp only [hji24] at H ⊢; exact H)
          have hji24w : (IntKind.i64.wrap (a1 - 1)) = ji24 := (i64_w _).trans hji24
          by_cases c25 : 0 ≤ (ji24)
          ·rw [if_pos c25] at H
           have c25b0 : decide (0 ≤ (ji24)) = true := decide_eq_true c25
           clear c25
           by_cases c26 : (ji24) < (l0.length : Int)
           ·rw [if_pos c26] at H
            have c26b0 : decide ((ji24) < (l0.length : Int)) = true := decide_eq_true c26
            clear c26
            by_cases c27 : ((rd_T82 l0 a1).f1) > ((rd_T82 l0 (ji24)).f1)
            ·rw [if_pos c27] at H
             have c27b0 : decide (((rd_T82 l0 (ji24)).f1) < ((rd_T82 l0 a1).f1)) = true := decide_eq_true c27
             clear c27
             obtain rfl := Option.some.inj H
             have hcz28_0 : wc.cell? ⟨gb102, 0, none⟩ = some (.int .i64 ((rd_T82 l0 a1).f0)) := (blk_cell BK102.out 0).trans rfl
             have hcz28_1 : wc.cell? ⟨gb102, 1, none⟩ = some (.int .i64 ((rd_T82 l0 a1).f1)) := (blk_cell BK102.out 1).trans rfl
             obtain ⟨hfz28_0, hfz28_1⟩ := bf2_ BK102
             have p104 : 0 ≤ ((ji24) : Int) := of_decide_eq_true as_
             have q104 : (ji24) < (l0.length : Int) := of_decide_eq_true as_
             obtain ⟨ad104, e104, hx104_0, hx104_1⟩ := at_T82 HR0.out (ji24) p104 q104
             obtain rfl : ad101 = ad104 := (by injection e104)
             replace hx104_0 := (HB.out.cell (World.block_lt_of_cell? w _ hx104_0)).trans hx104_0
             replace hx104_1 := (HB.out.cell (World.block_lt_of_cell? w _ hx104_1)).trans hx104_1
             replace p104 := eq_true p104
             replace q104 := eq_true q104
             go_wp2
             repeat (go_quiet (fail); try go_wp2)
             go_ret
             exact ⟨by first | rfl | (simp [errW_none, errW_some] <;> rfl) | (simp only [← hji24]; first | rfl | (simp [errW_none, errW_some] <;> rfl)) | (simp [*, errW_none, errW_some] <;> rfl), bls_⟩
            ·rw [if_neg c27] at H
             have c27b0 : decide (((rd_T82 l0 (ji24)).f1) < ((rd_T82 l0 a1).f1)) = false := decide_eq_false c27
             clear c27
             obtain rfl := Option.some.inj H
             have hcz29_0 : wc.cell? ⟨gb102, 0, none⟩ = some (.int .i64 ((rd_T82 l0 a1).f0)) := (blk_cell BK102.out 0).trans rfl
             have hcz29_1 : wc.cell? ⟨gb102, 1, none⟩ = some (.int .i64 ((rd_T82 l0 a1).f1)) := (blk_cell BK102.out 1).trans rfl
             obtain ⟨hfz29_0, hfz29_1⟩ := bf2_ BK102
             have p104 : 0 ≤ ((ji24) : Int) := of_decide_eq_true as_
             have q104 : (ji24) < (l0.length : Int) := of_decide_eq_true as_
             obtain ⟨ad104, e104, hx104_0, hx104_1⟩ := at_T82 HR0.out (ji24) p104 q104
             obtain rfl : ad101 = ad104 := (by injection e104)
             replace hx104_0 := (HB.out.cell (World.block_lt_of_cell? w _ hx104_0)).trans hx104_0
             replace hx104_1 := (HB.out.cell (World.block_lt_of_cell? w _ hx104_1)).trans hx104_1
             replace p104 := eq_true p104
             replace q104 := eq_true q104
             go_wp2
             repeat (go_quiet (fail); try go_wp2)
             go_ret
             exact ⟨by first | rfl | (simp [errW_none, errW_some] <;> rfl) | (simp only [← hji24]; first | rfl | (simp [errW_none, errW_some] <;> rfl)) | (simp [*, errW_none, errW_some] <;> rfl), bls_⟩
           ·rw [if_neg c26] at H
            exact absurd H (by simp)
          ·rw [if_neg c25] at H
           exact absurd H (by simp)
         ·rw [if_neg c23] at H
          have c23b0 : decide (0 < a1) = false := decide_eq_false c23
          clear c23
          obtain rfl := Option.some.inj H
          go_wp2
          repeat (go_quiet (fail); try go_wp2)
          go_ret
          exact ⟨fin_, bls_⟩
  ·rw [if_neg c4] at H
   exact absurd H (by simp)
 ·rw [if_neg c3] at H
  exact absurd H (by simp)
end Go.Proofs.YtcdkbciagchlgaaDoor.PF
