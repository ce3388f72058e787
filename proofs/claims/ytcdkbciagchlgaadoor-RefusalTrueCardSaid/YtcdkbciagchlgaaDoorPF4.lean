-- Written by a program of this session (wip/pr.py) out of Lean's print of the translation; Lean checks it.
import Derived.Test.YtcdkbciagchlgaaDoorPF0
import Derived.Test.YtcdkbciagchlgaaDoorPF1
import Derived.Test.YtcdkbciagchlgaaDoorPF3
namespace Go.Proofs.YtcdkbciagchlgaaDoor.PF
open Go.RowKit Go.Proofs.YtcdkbciagchlgaaDoorW.PrintWords Go.Proofs.YtcdkbciagchlgaaDoorW.PrintLast Go.Proofs.YtcdkbciagchlgaaDoorW.PrintMore
attribute [local go_sem] max2_int min2_int max_two min_two max_three min_three max_four min_four   
set_option linter.unusedVariables false
set_option linter.unusedSimpArgs false
def interpolate_Density.f (l0 : List (S82)) (a1 : Int) : Option (Int × Int) := (interpolate_right.f l0).bind fun t112 => (if t112 = true then (if a1 < 0 then (some (0, 2)) else (if a1 > 10000 then (some (0, 2)) else ((interpolate_at.f l0 a1).bind fun t113 => (some (t113, 0))))) else (some (0, 1)))
set_option maxHeartbeats 8000000 in
set_option maxRecDepth 100000 in
theorem interpolate_Density.calls (A0 : Option Addr) (c0 : Nat) (l0 : List (S82)) (a1 : Int) (r1 : Int) (r2 : Int) (w : World) (hr0 : Kd.C k82 w A0 l0.length l0) (hc0 : l0.length ≤ c0) (h : interpolate_Density.f l0 a1 = some (r1, r2)) :
  Calls Tryd.prog 66 #[.slice A0 l0.length c0, .int .i64 a1] w fun e w' => e = .returned (.tuple #[.int .i64 r1, .int .i64 r2]) ∧ Below w.heap.size w w' := by
 have HR0 := Aside0.mk hr0
 have HC0 := Aside0.mk hc0
 clear hr0 hc0
 have HB := Aside0.mk (Below.refl w.heap.size w)
 have H : ((interpolate_right.f l0).bind fun t112 => (if t112 = true then (if a1 < 0 then (some (0, 2)) else (if a1 > 10000 then (some (0, 2)) else ((interpolate_at.f l0 a1).bind fun t113 => (some (t113, 0))))) else (some (0, 1)))) = some (r1, r2) := h
 clear h
 replace H := Option.bind_eq_some_iff.mp H
 obtain ⟨t112, A30, H⟩ := H
 replace H : (if t112 = true then (if a1 < 0 then (some (0, 2)) else (if a1 > 10000 then (some (0, 2)) else ((interpolate_at.f l0 a1).bind fun t113 => (some (t113, 0))))) else (some (0, 1))) = some (r1, r2) := H
 have A3 := Aside0.mk A30
 clear A30
 by_cases c4 : t112 = true
 ·subst c4
  have H1 : (if a1 < 0 then (some (0, 2)) else (if a1 > 10000 then (some (0, 2)) else ((interpolate_at.f l0 a1).bind fun t113 => (some (t113, 0))))) = some (r1, r2) := by rw [if_pos rfl] at H; exact H
  clear H
  have H := H1
  clear H1
  by_cases c5 : a1 < 0
  ·rw [if_pos c5] at H
   have c5b0 : decide (a1 < 0) = true := decide_eq_true c5
   clear c5
   simp only [Option.some.injEq, Prod.mk.injEq] at H
   obtain ⟨rfl, rfl⟩ := H
   go_enter Tryd.func66, Tryd.ntmps66
   go_wp2_with (first | ((with_reducible refine gate_callee (f := 79) rfl ?_); refine gl_ (some 8) Tryd.func79 #[.slice A0 l0.length c0] ?_; (with_reducible refine (interpolate_right.calls _ _ l0 true _ ?side1 ?side2 A3.out).mono ?_); (case side1 => repeat (first | exact HR0.out | (with_reducible refine Kd.C_alloc ?_ _) | (with_reducible refine Kd.C_drewN ?_ _) | (with_reducible refine Kd.C_drew ?_))); (case side2 => exact HC0.out); rintro e w6 ⟨rfl, hb⟩; refine ⟨_, rfl, ?_⟩; have n0_ := Aside0.mk (below_step bl_ hb); clear HB; have HB := n0_; clear n0_; (try clear hb); (try clear hb2); (try clear hk); (try clear hi)))
   go_ret2
   exact ⟨fin_, bl_⟩
  ·rw [if_neg c5] at H
   have c5b0 : decide (a1 < 0) = false := decide_eq_false c5
   clear c5
   by_cases c7 : a1 > 10000
   ·rw [if_pos c7] at H
    have c7b0 : decide (10000 < a1) = true := decide_eq_true c7
    clear c7
    simp only [Option.some.injEq, Prod.mk.injEq] at H
    obtain ⟨rfl, rfl⟩ := H
    go_enter Tryd.func66, Tryd.ntmps66
    go_wp2_with (first | ((with_reducible refine gate_callee (f := 79) rfl ?_); refine gl_ (some 8) Tryd.func79 #[.slice A0 l0.length c0] ?_; (with_reducible refine (interpolate_right.calls _ _ l0 true _ ?side1 ?side2 A3.out).mono ?_); (case side1 => repeat (first | exact HR0.out | (with_reducible refine Kd.C_alloc ?_ _) | (with_reducible refine Kd.C_drewN ?_ _) | (with_reducible refine Kd.C_drew ?_))); (case side2 => exact HC0.out); rintro e w8 ⟨rfl, hb⟩; refine ⟨_, rfl, ?_⟩; have n0_ := Aside0.mk (below_step bl_ hb); clear HB; have HB := n0_; clear n0_; (try clear hb); (try clear hb2); (try clear hk); (try clear hi)))
    go_ret2
    exact ⟨fin_, bl_⟩
   ·rw [if_neg c7] at H
    have c7b0 : decide (10000 < a1) = false := decide_eq_false c7
    clear c7
    replace H := Option.bind_eq_some_iff.mp H
    obtain ⟨t113, A90, H⟩ := H
    replace H : (some (t113, 0)) = some (r1, r2) := H
    have A9 := Aside0.mk A90
    clear A90
    simp only [Option.some.injEq, Prod.mk.injEq] at H
    obtain ⟨rfl, rfl⟩ := H
    go_enter Tryd.func66, Tryd.ntmps66
    go_wp2_with (first | ((with_reducible refine gate_callee (f := 79) rfl ?_); refine gl_ (some 8) Tryd.func79 #[.slice A0 l0.length c0] ?_; (with_reducible refine (interpolate_right.calls _ _ l0 true _ ?side1 ?side2 A3.out).mono ?_); (case side1 => repeat (first | exact HR0.out | (with_reducible refine Kd.C_alloc ?_ _) | (with_reducible refine Kd.C_drewN ?_ _) | (with_reducible refine Kd.C_drew ?_))); (case side2 => exact HC0.out); rintro e w10 ⟨rfl, hb⟩; refine ⟨_, rfl, ?_⟩; have n0_ := Aside0.mk (below_step bl_ hb); clear HB; have HB := n0_; clear n0_; (try clear hb); (try clear hb2); (try clear hk); (try clear hi)) | ((with_reducible refine gate_callee (f := 80) rfl ?_); refine gl_ (some 19) Tryd.func80 #[.slice A0 l0.length c0, .int .i64 a1] ?_; (with_reducible refine (interpolate_at.calls _ _ l0 a1 t113 _ ?side1 ?side2 A9.out).mono ?_); (case side1 => exact kc_ HR0); (case side2 => exact HC0.out); rintro e w11 ⟨rfl, hb⟩; refine ⟨_, rfl, ?_⟩; have n0_ := Aside0.mk (below_step bl_ hb); clear HB; have HB := n0_; clear n0_; (try clear hb); (try clear hb2); (try clear hk); (try clear hi)))
    go_ret2
    exact ⟨fin_, bl_⟩
 ·replace c4 := Bool.eq_false_iff.mpr c4
  subst c4
  have H1 : (some (0, 1)) = some (r1, r2) := by rw [if_neg (show ¬ (false = true) by decide)] at H; exact H
  clear H
  have H := H1
  clear H1
  simp only [Option.some.injEq, Prod.mk.injEq] at H
  obtain ⟨rfl, rfl⟩ := H
  go_enter Tryd.func66, Tryd.ntmps66
  go_wp2_with (first | ((with_reducible refine gate_callee (f := 79) rfl ?_); refine gl_ (some 8) Tryd.func79 #[.slice A0 l0.length c0] ?_; (with_reducible refine (interpolate_right.calls _ _ l0 false _ ?side1 ?side2 A3.out).mono ?_); (case side1 => repeat (first | exact HR0.out | (with_reducible refine Kd.C_alloc ?_ _) | (with_reducible refine Kd.C_drewN ?_ _) | (with_reducible refine Kd.C_drew ?_))); (case side2 => exact HC0.out); rintro e w12 ⟨rfl, hb⟩; refine ⟨_, rfl, ?_⟩; have n0_ := Aside0.mk (below_step bl_ hb); clear HB; have HB := n0_; clear n0_; (try clear hb); (try clear hb2); (try clear hk); (try clear hi)))
  go_ret2
  exact ⟨fin_, bl_⟩
def alcohol_of.f (l0 : List (S82)) (a1 : Int) : Option (Int) := (interpolate_Density.f l0 a1).bind fun bt114 => (some bt114.1)
set_option maxHeartbeats 8000000 in
set_option maxRecDepth 100000 in
theorem alcohol_of.calls (A0 : Option Addr) (c0 : Nat) (l0 : List (S82)) (a1 : Int) (r : Int) (w : World) (hr0 : Kd.C k82 w A0 l0.length l0) (hc0 : l0.length ≤ c0) (h : alcohol_of.f l0 a1 = some r) :
  Calls Tryd.prog 43 #[.slice A0 l0.length c0, .int .i64 a1] w fun e w' => e = .returned (.int .i64 r) ∧ Below w.heap.size w w' := by
 have HR0 := Aside0.mk hr0
 have HC0 := Aside0.mk hc0
 clear hr0 hc0
 have HB := Aside0.mk (Below.refl w.heap.size w)
 have H : ((interpolate_Density.f l0 a1).bind fun bt114 => (some bt114.1)) = some r := h
 clear h
 replace H := Option.bind_eq_some_iff.mp H
 obtain ⟨⟨t114, t115⟩, A30, H⟩ := H
 replace H : (some t114) = some r := H
 have A3 := Aside0.mk A30
 clear A30
 obtain rfl := Option.some.inj H
 go_enter Tryd.func43, Tryd.ntmps43
 go_wp2_with (first | ((with_reducible refine gate_callee (f := 66) rfl ?_); refine gl_ (some 10) Tryd.func66 #[.slice A0 l0.length c0, .int .i64 a1] ?_; (with_reducible refine (interpolate_Density.calls _ _ l0 a1 t114 t115 _ ?side1 ?side2 A3.out).mono ?_); (case side1 => repeat (first | exact HR0.out | (with_reducible refine Kd.C_alloc ?_ _) | (with_reducible refine Kd.C_drewN ?_ _) | (with_reducible refine Kd.C_drew ?_))); (case side2 => exact HC0.out); rintro e w4 ⟨rfl, hb⟩; refine ⟨_, rfl, ?_⟩; have n0_ := Aside0.mk (below_step bl_ hb); clear HB; have HB := n0_; clear n0_; (try clear hb); (try clear hb2); (try clear hk); (try clear hi)))
 go_ret
 exact ⟨fin_, bl_⟩
def alcohol_Check.j0 : Nat → List (S82) → Bool → Int → Int → Option (Int)
 | 0, _, _, _, _ => none
 | k + 1, x0, x15, x117000, x117001 => if x15 = true then (some 2) else ((alcohol_of.f x0 10000).bind fun t119 => (if (wrap64 (x117000 * t119)) > (wrap64 (x117001 * 10000)) then (some 10) else (some 0)))
def alcohol_Check.f (k : Nat) (l0 : List (S82)) (a1_0 : Int) (a1_1 : Int) : Option (Int) := (density_Check_s.f l0).bind fun bt117 => (if bt117.2 = 0 then (if a1_0 < 0 then (alcohol_Check.j0 k l0 true a1_0 a1_1) else (if a1_0 > 10737418240000 then (alcohol_Check.j0 k l0 true a1_0 a1_1) else (if a1_1 < 0 then (alcohol_Check.j0 k l0 true a1_0 a1_1) else (alcohol_Check.j0 k l0 (decide (a1_1 > 128849018880000)) a1_0 a1_1)))) else (some 1))
theorem alcohol_Check.mono_l : ∀ k, (∀ y0 y1 y2 y3, LeO (alcohol_Check.j0 k y0 y1 y2 y3) (alcohol_Check.j0 (k + 1) y0 y1 y2 y3))
 | 0 => fun _ _ _ _ r h => by simp [alcohol_Check.j0] at h
 | k + 1 => by
  have ih0 := alcohol_Check.mono_l k
  ·intro y0 y1 y2 y3
   unfold alcohol_Check.j0
   repeat' first
   | (with_reducible exact ih0 _ _ _ _)
   | (with_reducible exact LeO.refl _)
   | (with_reducible exact LeO.none _)
   | (with_reducible refine LeO.ite ?_ ?_)
   | (with_reducible refine LeO.bind ?_ (fun _ => ?_))
   | exact ih0 _ _ _ _
   | exact LeO.none _
   | refine LeO.ite ?_ ?_
   | refine LeO.bind ?_ (fun _ => ?_)
theorem alcohol_Check.mono : ∀ a0 a1 a2 k, LeO (alcohol_Check.f k a0 a1 a2) (alcohol_Check.f (k + 1) a0 a1 a2) := by
 intro a0 a1 a2 k
 have ih0 := alcohol_Check.mono_l k
 unfold alcohol_Check.f
 repeat' first
   | (with_reducible exact ih0 _ _ _ _)
   | (with_reducible exact LeO.refl _)
   | (with_reducible exact LeO.none _)
   | (with_reducible refine LeO.ite ?_ ?_)
   | (with_reducible refine LeO.bind ?_ (fun _ => ?_))
   | exact ih0 _ _ _ _
   | exact LeO.none _
   | refine LeO.ite ?_ ?_
   | refine LeO.bind ?_ (fun _ => ?_)
def alcohol_Check.T6 : Bool × List (List Nat × List Nat) := (true, [([], []), ([0], [0]), ([], []), ([2], [2]), ([1, 3], [1, 3]), ([], []), ([5], [5]), ([6], [6]), ([4, 7], [4, 7]), ([8, 3], [8])])
def alcohol_Check.B6 : List Nat := [0, 1, 0, 4, 15, 0, 32, 96, 255, 511]
theorem alcohol_Check.tab6 : rtab .any (opsOf Tryd.f41 6) = alcohol_Check.T6 := by kernel_rfl
theorem alcohol_Check.bits6 : waitsOk alcohol_Check.T6.2 alcohol_Check.B6 = true := by kernel_rfl
set_option maxHeartbeats 8000000 in
set_option maxRecDepth 100000 in
theorem alcohol_Check.calls (k : Nat) (A0 : Option Addr) (c0 : Nat) (l0 : List (S82)) (a1_0 : Int) (a1_1 : Int) (r : Int) (w : World) (hr0 : Kd.C k82 w A0 l0.length l0) (hc0 : l0.length ≤ c0) (h : alcohol_Check.f k l0 a1_0 a1_1 = some r) :
  Calls Tryd.prog 41 #[.slice A0 l0.length c0, .agg #[.int .i64 a1_0, .int .i64 a1_1]] w fun e w' => e = .returned (.int .i64 r) ∧ Below w.heap.size w w' := by
 have hu45 := Tryd.underlying45
 have HR0 := Aside0.mk hr0
 have HC0 := Aside0.mk hc0
 clear hr0 hc0
 have HB := Aside0.mk (Below.refl w.heap.size w)
 have H : ((density_Check_s.f l0).bind fun bt117 => (if bt117.2 = 0 then (if a1_0 < 0 then (alcohol_Check.j0 k l0 true a1_0 a1_1) else (if a1_0 > 10737418240000 then (alcohol_Check.j0 k l0 true a1_0 a1_1) else (if a1_1 < 0 then (alcohol_Check.j0 k l0 true a1_0 a1_1) else (alcohol_Check.j0 k l0 (decide (a1_1 > 128849018880000)) a1_0 a1_1)))) else (some 1))) = some r := h
 clear h
 replace H := Option.bind_eq_some_iff.mp H
 obtain ⟨⟨t117, t118⟩, A30, H⟩ := H
 replace H : (if t118 = 0 then (if a1_0 < 0 then (alcohol_Check.j0 k l0 true a1_0 a1_1) else (if a1_0 > 10737418240000 then (alcohol_Check.j0 k l0 true a1_0 a1_1) else (if a1_1 < 0 then (alcohol_Check.j0 k l0 true a1_0 a1_1) else (alcohol_Check.j0 k l0 (decide (a1_1 > 128849018880000)) a1_0 a1_1)))) else (some 1)) = some r := H
 have A3 := Aside0.mk A30
 clear A30
 by_cases c4 : t118 = 0
 ·rw [if_pos c4] at H
  have c4b0 : (t118 == 0) = true := beq_iff_eq.mpr c4
  have c4b1 : (t118 != 0) = false := bne_eq_false_iff_eq.mpr c4
  clear c4
  have HC5 := Aside0.mk H
  clear H
  go_enter Tryd.func41, Tryd.ntmps41
  go_upto_region 4 with (first | ((with_reducible refine gate_dst (N := 3) rfl ?_); refine be_ (N := 3) (cs := #[.int .i64 a1_0, .int .i64 a1_1]) (t := 45) ?_; intro gb116 hg w6 hbox hb; have n0_ := Aside0.mk (below_step bl_ hb); have n1_ := Aside0.mk (hbox); have n2_ := Aside0.mk ((by rw [hg]; exact (below_size bl_) : w.heap.size ≤ gb116)); have n3_ := Aside0.mk ((by rw [hg]; exact (below_size bl_) : w.heap.size ≤ gb116)); clear HB; have HB := n0_; have BK116 := n1_; have GW116 := n2_; have GE116 := n3_; clear n0_ n1_ n2_ n3_; clear hb hbox hg) | ((with_reducible refine gate_callee (f := 55) rfl ?_); refine gl_ (some 9) Tryd.func55 #[.slice A0 l0.length c0] ?_; (with_reducible refine (density_Check_s.calls _ _ l0 t117 t118 _ ?side1 ?side2 A3.out).mono ?_); (case side1 => exact kc_ HR0); (case side2 => exact HC0.out); rintro e w7 ⟨rfl, hb⟩; refine ⟨_, rfl, ?_⟩; have n0_ := Aside0.mk (blk_below (bkt_ BK116) hb); have n1_ := Aside0.mk (below_step bls_ hb); clear BK116; clear HB; have BK116 := n0_; have HB := n1_; clear n0_ n1_; (try clear hb); (try clear hb2); (try clear hk); (try clear hi)))
  (try simp only [Act.put, List.setIfInBounds_toArray, List.set_cons_zero, List.set_cons_succ])
  go_cut [15] (fun v15 wc => ∃ (kq : Nat) (x15_4 : Bool), v15 = .bool x15_4 ∧ Aside0 (alcohol_Check.j0 kq l0 x15_4 a1_0 a1_1 = some r) ∧ Aside0 (kq ≤ k) ∧ Aside0 (wc.heap[gb116]? = some (.cells #[.int .i64 a1_0, .int .i64 a1_1] 45 (0, 0))) ∧ Aside0 (Below w.heap.size w wc))
  case first =>
   have H := HC5.out
   clear HC5
   by_cases c8 : a1_0 < 0
   ·rw [if_pos c8] at H
    have c8b0 : decide (a1_0 < 0) = true := decide_eq_true c8
    clear c8
    (first | rw [c8b0] | (simp only [i64_w, i32_w]; rw [c8b0]) | skip)
    have H' := Aside0.mk H
    clear H
    obtain ⟨hcz9_0, hcz9_1⟩ := bc2_ BK116
    obtain ⟨hfz9_0, hfz9_1⟩ := bf2_ BK116
    go_wp2
    go_meet
    case rel => exact ⟨_, (true), sm_, H', ⟨by first | omega | exact Nat.le_refl _⟩, ⟨bkt_ BK116⟩, ⟨bls_⟩⟩
   ·rw [if_neg c8] at H
    have c8b0 : decide (a1_0 < 0) = false := decide_eq_false c8
    clear c8
    (first | rw [c8b0] | (simp only [i64_w, i32_w]; rw [c8b0]) | skip)
    by_cases c10 : a1_0 > 10737418240000
    ·rw [if_pos c10] at H
     have c10b0 : decide (10737418240000 < a1_0) = true := decide_eq_true c10
     clear c10
     have H' := Aside0.mk H
     clear H
     obtain ⟨hcz11_0, hcz11_1⟩ := bc2_ BK116
     obtain ⟨hfz11_0, hfz11_1⟩ := bf2_ BK116
     go_wp2
     go_meet
     case rel => exact ⟨_, (true), sm_, H', ⟨by first | omega | exact Nat.le_refl _⟩, ⟨bkt_ BK116⟩, ⟨bls_⟩⟩
    ·rw [if_neg c10] at H
     have c10b0 : decide (10737418240000 < a1_0) = false := decide_eq_false c10
     clear c10
     by_cases c12 : a1_1 < 0
     ·rw [if_pos c12] at H
      have c12b0 : decide (a1_1 < 0) = true := decide_eq_true c12
      clear c12
      have H' := Aside0.mk H
      clear H
      obtain ⟨hcz13_0, hcz13_1⟩ := bc2_ BK116
      obtain ⟨hfz13_0, hfz13_1⟩ := bf2_ BK116
      go_wp2
      go_meet
      case rel => exact ⟨_, (true), sm_, H', ⟨by first | omega | exact Nat.le_refl _⟩, ⟨bkt_ BK116⟩, ⟨bls_⟩⟩
     ·rw [if_neg c12] at H
      have c12b0 : decide (a1_1 < 0) = false := decide_eq_false c12
      clear c12
      have H' := Aside0.mk H
      clear H
      obtain ⟨hcz14_0, hcz14_1⟩ := bc2_ BK116
      obtain ⟨hfz14_0, hfz14_1⟩ := bf2_ BK116
      go_wp2
      go_meet
      case rel => exact ⟨_, (decide (a1_1 > 128849018880000)), sm_, H', ⟨by first | omega | exact Nat.le_refl _⟩, ⟨bkt_ BK116⟩, ⟨bls_⟩⟩
  case rest =>
   clear HC5
   try clear c1
   try clear p2
   try clear c4
   try clear c4b0
   try clear c4b1
   try clear c5
   try clear c8
   try clear c8b0
   try clear c10
   try clear c10b0
   try clear c12
   try clear c12b0
   try clear hcz11_0
   try clear hcz11_1
   try clear hcz13_0
   try clear hcz13_1
   try clear hcz14_0
   try clear hcz14_1
   try clear hcz9_0
   try clear hcz9_1
   try clear hfz11_0
   try clear hfz11_1
   try clear hfz13_0
   try clear hfz13_1
   try clear hfz14_0
   try clear hfz14_1
   try clear hfz9_0
   try clear hfz9_1
   obtain ⟨kq, x15_4, rfl, HA, HJ4, BK116, HB⟩ := hcut
   cases kq with
   | zero => exact absurd HA.out (by simp [alcohol_Check.j0])
   | succ kj4 =>
    have H := HA.out
    clear HA
    simp only [alcohol_Check.j0] at H
    by_cases c15 : x15_4 = true
    ·subst c15
     have H1 : (some 2) = some r := by rw [if_pos rfl] at H; exact H
     clear H
     have H := H1
     clear H1
     obtain rfl := Option.some.inj H
     go_wp2
     go_ret
     exact ⟨fin_, bls_⟩
    ·replace c15 := Bool.eq_false_iff.mpr c15
     subst c15
     have H1 : ((alcohol_of.f l0 10000).bind fun t119 => (if (wrap64 (a1_0 * t119)) > (wrap64 (a1_1 * 10000)) then (some 10) else (some 0))) = some r := by rw [if_neg (show ¬ (false = true) by decide)] at H; exact H
     clear H
     have H := H1
     clear H1
     replace H := Option.bind_eq_some_iff.mp H
     obtain ⟨t119, A160, H⟩ := H
     replace H : (if (wrap64 (a1_0 * t119)) > (wrap64 (a1_1 * 10000)) then (some 10) else (some 0)) = some r := H
     have A16 := Aside0.mk A160
     clear A160
     by_cases c17 : (wrap64 (a1_0 * t119)) > (wrap64 (a1_1 * 10000))
     ·rw [if_pos c17] at H
      have c17b0 : decide ((wrap64 (a1_1 * 10000)) < (wrap64 (a1_0 * t119))) = true := decide_eq_true c17
      clear c17
      obtain rfl := Option.some.inj H
      try go_wp2
      have n0_ := Aside0.mk (blk_drew BK116.out)
      have n1_ := Aside0.mk (below_drew1 HB.out)
      clear BK116
      clear HB
      have BK116 := n0_
      have HB := n1_
      clear n0_ n1_
      refine start_ (n := 10) (S := fun w' => w'.cell? ⟨gb116, 0, none⟩ = some (.int .i64 a1_0) ∧ w'.cell? ⟨gb116, 1, none⟩ = some (.int .i64 a1_1)) (ds := []) #[false, false, false, false, false, false, false, false, false, false] (by kernel_rfl) rfl rfl ⟨(blk_cell BK116.out 0).trans rfl, (blk_cell BK116.out 1).trans rfl⟩ (fun hHeld => ?_); refine with_tabW alcohol_Check.tab6 alcohol_Check.bits6 (fun HT_ HW_ => ?_)
      generalize wc.drew = w18 at BK116 HB hHeld ⊢
      refine pure_ (i := 0) (N := some 35) (v := ?_) (a' := ?_) #[true, false, false, false, false, false, false, false, false, false] rfl rfl (any_of HT_.out (by kernel_rfl)) (fun _ _ _ h => h) (Or.inl ⟨by rfl, ?_⟩) ?_ ?_
      rotate_left
      ·intro w'
       go_simp
       with_reducible rfl
      rotate_left
      ·simp only [Act.put, List.setIfInBounds_toArray, List.set_cons_zero, List.set_cons_succ, i64_w, i32_w]
       rfl
      refine pure_ (i := 2) (N := some 37) (v := ?_) (a' := ?_) #[true, false, true, false, false, false, false, false, false, false] rfl rfl (any_of HT_.out (by kernel_rfl)) (fun _ _ _ h => h) (Or.inl ⟨by rfl, ?_⟩) ?_ ?_
      rotate_left
      ·intro w'
       go_simp
       with_reducible rfl
      rotate_left
      ·simp only [Act.put, List.setIfInBounds_toArray, List.set_cons_zero, List.set_cons_succ, i64_w, i32_w]
       rfl
      refine pure_ (i := 5) (N := some 40) (v := ?_) (a' := ?_) #[true, false, true, false, false, true, false, false, false, false] rfl rfl (any_of HT_.out (by kernel_rfl)) (fun _ _ _ h => h) (Or.inl ⟨by rfl, ?_⟩) ?_ ?_
      rotate_left
      ·intro w'
       go_simp
       with_reducible rfl
      rotate_left
      ·simp only [Act.put, List.setIfInBounds_toArray, List.set_cons_zero, List.set_cons_succ, i64_w, i32_w]
       rfl
      refine take_ (i := 1) (N := some 36) (v := ?_) (a' := ?_) #[true, true, true, false, false, true, false, false, false, false] rfl rfl (take_ofW HT_.out HW_.out (by kernel_rfl)) (fun _ _ _ h => h) (Or.inl ⟨by rfl, ?_⟩) hHeld ?_ ?_
      rotate_left
      ·rintro w' ⟨s0, s1⟩
       go_simp
       with_reducible rfl
      rotate_left
      ·simp only [Act.put, List.setIfInBounds_toArray, List.set_cons_zero, List.set_cons_succ, i64_w, i32_w]
       rfl
      refine take_ (i := 6) (N := some 41) (v := ?_) (a' := ?_) #[true, true, true, false, false, true, true, false, false, false] rfl rfl (take_ofW HT_.out HW_.out (by kernel_rfl)) (fun _ _ _ h => h) (Or.inl ⟨by rfl, ?_⟩) hHeld ?_ ?_
      rotate_left
      ·rintro w' ⟨s0, s1⟩
       go_simp
       with_reducible rfl
      rotate_left
      ·simp only [Act.put, List.setIfInBounds_toArray, List.set_cons_zero, List.set_cons_succ, i64_w, i32_w]
       rfl
      refine pure_ (i := 7) (N := some 42) (v := ?_) (a' := ?_) #[true, true, true, false, false, true, true, true, false, false] rfl rfl (any_of HT_.out (by kernel_rfl)) (fun _ _ _ h => h) (Or.inl ⟨by rfl, ?_⟩) ?_ ?_
      rotate_left
      ·intro w'
       go_simp
       with_reducible rfl
      rotate_left
      ·simp only [Act.put, List.setIfInBounds_toArray, List.set_cons_zero, List.set_cons_succ, i64_w, i32_w]
       rfl
      refine one_ (i := 3) (N := some 38) #[true, true, true, true, false, true, true, true, false, false] rfl rfl (one_of HT_.out (by kernel_rfl)) (by decide) (fun K hK => ?_)
      refine goes_ Tryd.func43 (by kernel_rfl) rfl #[.slice A0 l0.length c0, .int .i64 10000] (by rfl) rfl rfl (by (try simp only [List.map_toArray, List.map_cons, List.map_nil]); first | done | rfl | (simp only [List.length_drop, List.length_take]; rfl)) ?_
      with_reducible refine (alcohol_of.calls _ _ l0 10000 t119 _ ?side1 ?side2 A16.out).mono ?_
      (case side1 => exact kc_ HR0)
      (case side2 => exact HC0.out)
      rintro e w19 ⟨rfl, hb⟩
      refine ⟨_, rfl, ?_⟩
      have n0_ := Aside0.mk (blk_below (bkt_ BK116) hb)
      have n1_ := Aside0.mk (below_step bls_ hb)
      clear BK116
      clear HB
      have BK116 := n0_
      have HB := n1_
      clear n0_ n1_
      (try clear hb)
      (try clear hb2)
      (try clear hk)
      (try clear hi)
      refine hK.out _ _ ⟨(blk_cell BK116.out 0).trans rfl, (blk_cell BK116.out 1).trans rfl⟩ (fun hHeld => ?_)
      clear hK K
      refine norm_ (a' := ?_) ?_ ?_
      rotate_left
      ·show Act.put _ (some 38) _ = _
       simp only [Act.put, List.setIfInBounds_toArray, List.set_cons_zero, List.set_cons_succ, i64_w, i32_w]
       rfl
      refine pure_ (i := 4) (N := some 39) (v := ?_) (a' := ?_) #[true, true, true, true, true, true, true, true, false, false] rfl rfl (any_of HT_.out (by kernel_rfl)) (fun _ _ _ h => h) (Or.inl ⟨by rfl, ?_⟩) ?_ ?_
      rotate_left
      ·intro w'
       go_simp
       with_reducible rfl
      rotate_left
      ·simp only [Act.put, List.setIfInBounds_toArray, List.set_cons_zero, List.set_cons_succ, i64_w, i32_w]
       rfl
      refine pure_ (i := 8) (N := some 43) (v := ?_) (a' := ?_) #[true, true, true, true, true, true, true, true, true, false] rfl rfl (any_of HT_.out (by kernel_rfl)) (fun _ _ _ h => h) (Or.inl ⟨by rfl, ?_⟩) ?_ ?_
      rotate_left
      ·intro w'
       go_simp
       with_reducible rfl
      rotate_left
      ·simp only [Act.put, List.setIfInBounds_toArray, List.set_cons_zero, List.set_cons_succ, i64_w, i32_w]
       rfl
      refine pure_ (i := 9) (N := some 34) (v := ?_) (a' := ?_) #[true, true, true, true, true, true, true, true, true, true] rfl rfl (any_of HT_.out (by kernel_rfl)) (fun _ _ _ h => h) (Or.inl ⟨by rfl, ?_⟩) ?_ ?_
      rotate_left
      ·intro w'
       go_simp
       with_reducible rfl
      rotate_left
      ·simp only [Act.put, List.setIfInBounds_toArray, List.set_cons_zero, List.set_cons_succ, i64_w, i32_w]
       rfl
      refine done_ (done_of HT_.out (by kernel_rfl)) ?_
      try go_wp2
      go_ret
      exact ⟨fin_, bls_⟩
     ·rw [if_neg c17] at H
      have c17b0 : decide ((wrap64 (a1_1 * 10000)) < (wrap64 (a1_0 * t119))) = false := decide_eq_false c17
      clear c17
      obtain rfl := Option.some.inj H
      try go_wp2
      have n0_ := Aside0.mk (blk_drew BK116.out)
      have n1_ := Aside0.mk (below_drew1 HB.out)
      clear BK116
      clear HB
      have BK116 := n0_
      have HB := n1_
      clear n0_ n1_
      refine start_ (n := 10) (S := fun w' => w'.cell? ⟨gb116, 0, none⟩ = some (.int .i64 a1_0) ∧ w'.cell? ⟨gb116, 1, none⟩ = some (.int .i64 a1_1)) (ds := []) #[false, false, false, false, false, false, false, false, false, false] (by kernel_rfl) rfl rfl ⟨(blk_cell BK116.out 0).trans rfl, (blk_cell BK116.out 1).trans rfl⟩ (fun hHeld => ?_); refine with_tabW alcohol_Check.tab6 alcohol_Check.bits6 (fun HT_ HW_ => ?_)
      generalize wc.drew = w20 at BK116 HB hHeld ⊢
      refine pure_ (i := 0) (N := some 35) (v := ?_) (a' := ?_) #[true, false, false, false, false, false, false, false, false, false] rfl rfl (any_of HT_.out (by kernel_rfl)) (fun _ _ _ h => h) (Or.inl ⟨by rfl, ?_⟩) ?_ ?_
      rotate_left
      ·intro w'
       go_simp
       with_reducible rfl
      rotate_left
      ·simp only [Act.put, List.setIfInBounds_toArray, List.set_cons_zero, List.set_cons_succ, i64_w, i32_w]
       rfl
      refine pure_ (i := 2) (N := some 37) (v := ?_) (a' := ?_) #[true, false, true, false, false, false, false, false, false, false] rfl rfl (any_of HT_.out (by kernel_rfl)) (fun _ _ _ h => h) (Or.inl ⟨by rfl, ?_⟩) ?_ ?_
      rotate_left
      ·intro w'
       go_simp
       with_reducible rfl
      rotate_left
      ·simp only [Act.put, List.setIfInBounds_toArray, List.set_cons_zero, List.set_cons_succ, i64_w, i32_w]
       rfl
      refine pure_ (i := 5) (N := some 40) (v := ?_) (a' := ?_) #[true, false, true, false, false, true, false, false, false, false] rfl rfl (any_of HT_.out (by kernel_rfl)) (fun _ _ _ h => h) (Or.inl ⟨by rfl, ?_⟩) ?_ ?_
      rotate_left
      ·intro w'
       go_simp
       with_reducible rfl
      rotate_left
      ·simp only [Act.put, List.setIfInBounds_toArray, List.set_cons_zero, List.set_cons_succ, i64_w, i32_w]
       rfl
      refine take_ (i := 1) (N := some 36) (v := ?_) (a' := ?_) #[true, true, true, false, false, true, false, false, false, false] rfl rfl (take_ofW HT_.out HW_.out (by kernel_rfl)) (fun _ _ _ h => h) (Or.inl ⟨by rfl, ?_⟩) hHeld ?_ ?_
      rotate_left
      ·rintro w' ⟨s0, s1⟩
       go_simp
       with_reducible rfl
      rotate_left
      ·simp only [Act.put, List.setIfInBounds_toArray, List.set_cons_zero, List.set_cons_succ, i64_w, i32_w]
       rfl
      refine take_ (i := 6) (N := some 41) (v := ?_) (a' := ?_) #[true, true, true, false, false, true, true, false, false, false] rfl rfl (take_ofW HT_.out HW_.out (by kernel_rfl)) (fun _ _ _ h => h) (Or.inl ⟨by rfl, ?_⟩) hHeld ?_ ?_
      rotate_left
      ·rintro w' ⟨s0, s1⟩
       go_simp
       with_reducible rfl
      rotate_left
      ·simp only [Act.put, List.setIfInBounds_toArray, List.set_cons_zero, List.set_cons_succ, i64_w, i32_w]
       rfl
      refine pure_ (i := 7) (N := some 42) (v := ?_) (a' := ?_) #[true, true, true, false, false, true, true, true, false, false] rfl rfl (any_of HT_.out (by kernel_rfl)) (fun _ _ _ h => h) (Or.inl ⟨by rfl, ?_⟩) ?_ ?_
      rotate_left
      ·intro w'
       go_simp
       with_reducible rfl
      rotate_left
      ·simp only [Act.put, List.setIfInBounds_toArray, List.set_cons_zero, List.set_cons_succ, i64_w, i32_w]
       rfl
      refine one_ (i := 3) (N := some 38) #[true, true, true, true, false, true, true, true, false, false] rfl rfl (one_of HT_.out (by kernel_rfl)) (by decide) (fun K hK => ?_)
      refine goes_ Tryd.func43 (by kernel_rfl) rfl #[.slice A0 l0.length c0, .int .i64 10000] (by rfl) rfl rfl (by (try simp only [List.map_toArray, List.map_cons, List.map_nil]); first | done | rfl | (simp only [List.length_drop, List.length_take]; rfl)) ?_
      with_reducible refine (alcohol_of.calls _ _ l0 10000 t119 _ ?side1 ?side2 A16.out).mono ?_
      (case side1 => exact kc_ HR0)
      (case side2 => exact HC0.out)
      rintro e w21 ⟨rfl, hb⟩
      refine ⟨_, rfl, ?_⟩
      have n0_ := Aside0.mk (blk_below (bkt_ BK116) hb)
      have n1_ := Aside0.mk (below_step bls_ hb)
      clear BK116
      clear HB
      have BK116 := n0_
      have HB := n1_
      clear n0_ n1_
      (try clear hb)
      (try clear hb2)
      (try clear hk)
      (try clear hi)
      refine hK.out _ _ ⟨(blk_cell BK116.out 0).trans rfl, (blk_cell BK116.out 1).trans rfl⟩ (fun hHeld => ?_)
      clear hK K
      refine norm_ (a' := ?_) ?_ ?_
      rotate_left
      ·show Act.put _ (some 38) _ = _
       simp only [Act.put, List.setIfInBounds_toArray, List.set_cons_zero, List.set_cons_succ, i64_w, i32_w]
       rfl
      refine pure_ (i := 4) (N := some 39) (v := ?_) (a' := ?_) #[true, true, true, true, true, true, true, true, false, false] rfl rfl (any_of HT_.out (by kernel_rfl)) (fun _ _ _ h => h) (Or.inl ⟨by rfl, ?_⟩) ?_ ?_
      rotate_left
      ·intro w'
       go_simp
       with_reducible rfl
      rotate_left
      ·simp only [Act.put, List.setIfInBounds_toArray, List.set_cons_zero, List.set_cons_succ, i64_w, i32_w]
       rfl
      refine pure_ (i := 8) (N := some 43) (v := ?_) (a' := ?_) #[true, true, true, true, true, true, true, true, true, false] rfl rfl (any_of HT_.out (by kernel_rfl)) (fun _ _ _ h => h) (Or.inl ⟨by rfl, ?_⟩) ?_ ?_
      rotate_left
      ·intro w'
       go_simp
       with_reducible rfl
      rotate_left
      ·simp only [Act.put, List.setIfInBounds_toArray, List.set_cons_zero, List.set_cons_succ, i64_w, i32_w]
       rfl
      refine pure_ (i := 9) (N := some 34) (v := ?_) (a' := ?_) #[true, true, true, true, true, true, true, true, true, true] rfl rfl (any_of HT_.out (by kernel_rfl)) (fun _ _ _ h => h) (Or.inl ⟨by rfl, ?_⟩) ?_ ?_
      rotate_left
      ·intro w'
       go_simp
       with_reducible rfl
      rotate_left
      ·simp only [Act.put, List.setIfInBounds_toArray, List.set_cons_zero, List.set_cons_succ, i64_w, i32_w]
       rfl
      refine done_ (done_of HT_.out (by kernel_rfl)) ?_
      try go_wp2
      go_ret
      exact ⟨fin_, bls_⟩
 ·rw [if_neg c4] at H
  have c4b0 : (t118 == 0) = false := beq_eq_false_iff_ne.mpr c4
  have c4b1 : (t118 != 0) = true := bne_iff_ne.mpr c4
  obtain rfl := Option.some.inj H
  go_enter Tryd.func41, Tryd.ntmps41
  go_wp2_with (first | ((with_reducible refine gate_dst (N := 3) rfl ?_); refine be_ (N := 3) (cs := #[.int .i64 a1_0, .int .i64 a1_1]) (t := 45) ?_; intro gb116 hg w22 hbox hb; have n0_ := Aside0.mk (below_step bl_ hb); have n1_ := Aside0.mk (hbox); have n2_ := Aside0.mk ((by rw [hg]; exact (below_size bl_) : w.heap.size ≤ gb116)); have n3_ := Aside0.mk ((by rw [hg]; exact (below_size bl_) : w.heap.size ≤ gb116)); clear HB; have HB := n0_; have BK116 := n1_; have GW116 := n2_; have GE116 := n3_; clear n0_ n1_ n2_ n3_; clear hb hbox hg) | ((with_reducible refine gate_callee (f := 55) rfl ?_); refine gl_ (some 9) Tryd.func55 #[.slice A0 l0.length c0] ?_; (with_reducible refine (density_Check_s.calls _ _ l0 t117 t118 _ ?side1 ?side2 A3.out).mono ?_); (case side1 => exact kc_ HR0); (case side2 => exact HC0.out); rintro e w23 ⟨rfl, hb⟩; refine ⟨_, rfl, ?_⟩; have n0_ := Aside0.mk (blk_below (bkt_ BK116) hb); have n1_ := Aside0.mk (below_step bls_ hb); clear BK116; clear HB; have BK116 := n0_; have HB := n1_; clear n0_ n1_; (try clear hb); (try clear hb2); (try clear hk); (try clear hi)))
  go_ret
  exact ⟨fin_, bls_⟩
def lchk (l : List S82) (a m : Int) : Int :=
  if (dchk l).2 = 0 then (if a < 0 ∨ a > 10737418240000 ∨ m < 0 ∨ m > 128849018880000 then 2 else if a * dens l 10000 > m * 10000 then 10 else 0) else 1
theorem RightT.of_ {l : List S82} (h : RightT l) {s : Int} (h0 : 0 ≤ s) (h1 : s ≤ 10000) : alcohol_of.f l s = some (dens l s) := by
  unfold alcohol_of.f interpolate_Density.f interpolate_right.f density_Check_s.f
  simp only [Option.bind_some, (right_iff l).2 h, beq_self_eq_true, if_true]
  rw [if_neg (by omega), if_neg (by omega), h.at h0 h1]
  rfl
theorem alcohol_Check.plain (l : List S82) (a m : Int) : alcohol_Check.f 1 l a m = some (lchk l a m) := by
  unfold alcohol_Check.f lchk density_Check_s.f
  simp only [Option.bind_some]
  by_cases hr : (dchk l).2 = 0
  · have h := (right_iff l).1 hr
    simp only [if_pos hr, alcohol_Check.j0, h.of_ (show (0 : Int) ≤ 10000 by decide) (show (10000 : Int) ≤ 10000 by decide), Option.bind_some, if_true]
    by_cases h0 : a < 0
    · simp [h0]
    by_cases h1 : a > 10737418240000
    · simp [h0, h1]
    by_cases h2 : m < 0
    · simp [h0, h1, h2]
    by_cases h3 : m > 128849018880000
    · simp [h0, h1, h2, h3]
    have hd := h.dens_rng (show (0 : Int) ≤ 10000 by decide) (show (10000 : Int) ≤ 10000 by decide)
    have w1 : wrap64 (a * dens l 10000) = a * dens l 10000 := wmul (by omega) (show a ≤ 10737418240000 by omega) (by omega) hd.2 (by decide)
    have w2 : wrap64 (m * 10000) = m * 10000 := w64_ (by omega) (by omega)
    rw [w1, w2]
    generalize a * dens l 10000 = x
    by_cases h4 : x > m * 10000
    · simp [h0, h1, h2, h3, h4]
    · simp [h0, h1, h2, h3, h4]
  · simp only [if_neg hr]
def alcohol_Check_s.f (l0 : List S82) (a1_0 a1_1 : Int) : Option Int := some (lchk l0 a1_0 a1_1)
theorem alcohol_Check_s.calls (A0 : Option Addr) (c0 : Nat) (l0 : List S82) (a1_0 a1_1 : Int) (r : Int) (w : World) (hr0 : Kd.C k82 w A0 l0.length l0) (hc0 : l0.length ≤ c0) (h : alcohol_Check_s.f l0 a1_0 a1_1 = some r) :
    Calls Tryd.prog 41 #[.slice A0 l0.length c0, .agg #[.int .i64 a1_0, .int .i64 a1_1]] w fun e w' => e = .returned (.int .i64 r) ∧ Below w.heap.size w w' :=
  alcohol_Check.calls 1 A0 c0 l0 a1_0 a1_1 r w hr0 hc0 ((alcohol_Check.plain l0 a1_0 a1_1).trans h)
structure LiqOK (l : List S82) (a m : Int) : Prop where
  right : RightT l
  a0 : 0 ≤ a
  a1 : a ≤ 10737418240000
  m0 : 0 ≤ m
  m1 : m ≤ 128849018880000
  fit : a * dens l 10000 ≤ m * 10000
theorem lchk_iff (l : List S82) (a m : Int) : lchk l a m = 0 ↔ LiqOK l a m := by
  unfold lchk
  by_cases hr : (dchk l).2 = 0
  · rw [if_pos hr]
    split
    · constructor
      · intro h; exact absurd h (by decide)
      · intro h; have := h.a0; have := h.a1; have := h.m0; have := h.m1; omega
    split
    · constructor
      · intro h; exact absurd h (by decide)
      · intro h; have := h.fit; omega
    · exact ⟨fun _ => ⟨(right_iff l).1 hr, by omega, by omega, by omega, by omega, by omega⟩, fun _ => rfl⟩
  · rw [if_neg hr]
    constructor
    · intro h; exact absurd h (by decide)
    · intro h; exact absurd ((right_iff l).2 h.right) hr
def weak (l : List S82) (a m s : Int) : Bool := decide (a * dens l s < m * s)
def gradeS (l : List S82) (a m : Int) : Int := if m = 0 then 0 else ((List.range 10001).countP (fun (i : Nat) => !(weak l a m (i : Int))) : Nat) - 1
set_option maxHeartbeats 4000000 in
set_option maxRecDepth 1000000 in
theorem api_Liquid_67.below (g : Nat) (cb : Array Value) (A : Option Addr) (c : Nat) (l : List S45) (q : Nat → Bool) (w : World) (eg : ∀ args w, (callFunc g args).run Tryd.prog w = .ok (.enter g args) w) (hsz : l.length < 4611686018427387904) (hr : Kd.C k45 w A l.length l)
    (hf : ∀ (W : World) (i : Int), 0 ≤ i → i < l.length → Below w.heap.size w W → Calls Tryd.prog g (#[.agg #[.int .i64 (rd_T45 l i).f0, .int .i64 (rd_T45 l i).f1]] ++ cb) W fun e w' => e = .returned (.bool (q i.toNat)) ∧ Below W.heap.size W w') :
    Calls Tryd.prog 67 #[.slice A l.length c, .func (.func g) #[] cb] w fun e w' => e = .returned (.int .i64 (idxP q l.length 0)) ∧ Below w.heap.size w w' := by
  have hu := Tryd.underlying45
  have HF := Aside0.mk hf
  have HR := Aside0.mk hr
  clear hf hr
  obtain ⟨res, hres⟩ : ∃ res, idxP q l.length 0 = res := ⟨_, rfl⟩
  rw [hres]
  have HS := Aside0.mk hres
  clear hres
  go_enter Tryd.func67, Tryd.ntmps67
  go_wp2
  go_loopg [5, 8] l.length (fun kx s5 s8 wr => ∃ x : Int, s8 = .int .i64 x ∧ Aside0 (0 ≤ x ∧ x ≤ l.length ∧ l.length - x.toNat ≤ kx ∧ ∀ j, j < x.toNat → q j = false) ∧ Aside0 (Below w.heap.size w wr))
  case atStart => exact ⟨0, rfl, ⟨by omega, by omega, by omega, fun j hj => by simp at hj⟩, ⟨Below.refl _ _⟩⟩
  case round =>
    obtain ⟨x, rfl, HX, HB⟩ := hrel
    by_cases hlt : x < (l.length : Int)
    · have hltb : decide (x < (l.length : Int)) = true := decide_eq_true hlt
      have p1 : 0 ≤ x := HX.out.1
      obtain ⟨ad, e, h1, h2⟩ := at_T45 HR.out x p1 hlt
      cases e
      replace h1 := pw_cell_below HB.out h1
      replace h2 := pw_cell_below HB.out h2
      have hc := Aside0.mk (HF.out _ x p1 hlt HB.out)
      have HLT := Aside0.mk hlt
      clear hlt
      replace p1 := eq_true p1
      have p2 : (x < (l.length : Int)) = True := eq_true HLT.out
      generalize (rd_T45 l x).f0 = y0 at h1 hc
      generalize (rd_T45 l x).f1 = y1 at h2 hc
      have hw : wrap64 (x + 1) = x + 1 := by have := HX.out.1; have := HLT.out; unfold wrap64; omega
      have HW := Aside0.mk hw
      clear hw
      cases hq : q x.toNat
      · rw [hq] at hc
        have HQ := Aside0.mk hq
        clear hq
        go_wp2_with (refine hc.out.mono ?_; rintro e w' ⟨rfl, hb2⟩)
        have HB2 := Aside0.mk (below_then HB.out HB.out.size hb2)
        go_roundg (l.length - (x + 1).toNat)
        case measure => have := HX.out; have := HLT.out; omega
        case rel => exact ⟨x + 1, by rw [HW.out], ⟨by have := HX.out; omega, by have := HLT.out; omega, Nat.le_refl _, fun j hj => by
          rcases Nat.lt_or_ge j x.toNat with h | h
          · exact HX.out.2.2.2 j h
          · have e : j = x.toNat := by have := HX.out.1; omega
            rw [e]; exact HQ.out⟩, HB2⟩
      · rw [hq] at hc
        have er : x = res := by
          rw [← HS.out, idxP_found q x.toNat l.length 0 hq (fun j _ hj => HX.out.2.2.2 j hj) (Nat.zero_le _) (by have := HX.out; have := HLT.out; omega)]
          have := HX.out.1; omega
        have ER := Aside0.mk er
        clear hq er
        go_wp2_with (refine hc.out.mono ?_; rintro e w' ⟨rfl, hb2⟩)
        have HB2 := Aside0.mk (below_then HB.out HB.out.size hb2)
        go_ret
        exact ⟨by rw [← ER.out]; rfl, HB2.out⟩
    · have hltb : decide (x < (l.length : Int)) = false := decide_eq_false hlt
      have er : -1 = res := by
        rw [← HS.out]
        exact (idxP_none q l.length 0 (fun j _ hj => HX.out.2.2.2 j (by have := HX.out; omega))).symm
      have ER := Aside0.mk er
      clear hlt er
      go_wp2
      go_ret
      exact ⟨by rw [← ER.out]; rfl, HB.out⟩
set_option maxHeartbeats 4000000 in
set_option maxRecDepth 1000000 in
theorem api_Liquid_45.below (g : Nat) (cb : Array Value) (A : Option Addr) (c : Nat) (l : List S45) (q : Nat → Bool) (w : World) (eg : ∀ args w, (callFunc g args).run Tryd.prog w = .ok (.enter g args) w) (hsz : l.length < 4611686018427387904) (hr : Kd.C k45 w A l.length l)
    (hf : ∀ (W : World) (i : Int), 0 ≤ i → i < l.length → Below w.heap.size w W → Calls Tryd.prog g (#[.agg #[.int .i64 (rd_T45 l i).f0, .int .i64 (rd_T45 l i).f1]] ++ cb) W fun e w' => e = .returned (.bool (q i.toNat)) ∧ Below W.heap.size W w') :
    Calls Tryd.prog 45 #[.slice A l.length c, .func (.func g) #[] cb] w fun e w' => e = .returned (.bool (decide (0 ≤ idxP q l.length 0))) ∧ Below w.heap.size w w' := by
  have HC := Aside0.mk (api_Liquid_67.below g cb A c l q w eg hsz hr hf)
  clear hf hr eg
  generalize idxP q l.length 0 = r at HC ⊢
  go_enter Tryd.func45, Tryd.ntmps45
  go_wp2_with (refine HC.out.mono ?_; rintro e w' ⟨rfl, hb⟩)
  go_ret
  exact ⟨rfl, hb⟩
theorem slices_IndexFunc_int_int.at_ {w : World} {A : Option Addr} {n : Nat} {xs : List Int} (h : Kd.C (Kd.int .i64) w A n xs) (i : Int) (h0 : 0 ≤ i) (h1 : i < n) : ∃ ad, A = some ad ∧ w.cell? (ad.add i.toNat) = some (.int .i64 (rd xs i)) :=
  ReadsOf.at_ (enc := Value.int .i64) (d := 0) (Kd.reads_of_C h) i h0 h1
set_option maxHeartbeats 4000000 in
set_option maxRecDepth 1000000 in
theorem slices_IndexFunc_int_int.below (g : Nat) (cb : Array Value) (A : Option Addr) (c : Nat) (l : List Int) (q : Nat → Bool) (w : World) (eg : ∀ args w, (callFunc g args).run Tryd.prog w = .ok (.enter g args) w) (hsz : l.length < 4611686018427387904) (hr : Kd.C (Kd.int .i64) w A l.length l)
    (hf : ∀ (W : World) (i : Int), 0 ≤ i → i < l.length → Below w.heap.size w W → Calls Tryd.prog g (#[.int .i64 (rd l i)] ++ cb) W fun e w' => e = .returned (.bool (q i.toNat)) ∧ Below W.heap.size W w') :
    Calls Tryd.prog 69 #[.slice A l.length c, .func (.func g) #[] cb] w fun e w' => e = .returned (.int .i64 (idxP q l.length 0)) ∧ Below w.heap.size w w' := by
  have HF := Aside0.mk hf
  have HR := Aside0.mk hr
  clear hf hr
  obtain ⟨res, hres⟩ : ∃ res, idxP q l.length 0 = res := ⟨_, rfl⟩
  rw [hres]
  have HS := Aside0.mk hres
  clear hres
  go_enter Tryd.func69, Tryd.ntmps69
  go_wp2
  go_loopg [5, 8] l.length (fun kx s5 s8 wr => ∃ x : Int, s8 = .int .i64 x ∧ Aside0 (0 ≤ x ∧ x ≤ l.length ∧ l.length - x.toNat ≤ kx ∧ ∀ j, j < x.toNat → q j = false) ∧ Aside0 (Below w.heap.size w wr))
  case atStart => exact ⟨0, rfl, ⟨by omega, by omega, by omega, fun j hj => by simp at hj⟩, ⟨Below.refl _ _⟩⟩
  case round =>
    obtain ⟨x, rfl, HX, HB⟩ := hrel
    by_cases hlt : x < (l.length : Int)
    · have hltb : decide (x < (l.length : Int)) = true := decide_eq_true hlt
      have p1 : 0 ≤ x := HX.out.1
      obtain ⟨ad, e, h1⟩ := slices_IndexFunc_int_int.at_ HR.out x p1 hlt
      cases e
      replace h1 := pw_cell_below HB.out h1
      have hc := Aside0.mk (HF.out _ x p1 hlt HB.out)
      have HLT := Aside0.mk hlt
      clear hlt
      replace p1 := eq_true p1
      have p2 : (x < (l.length : Int)) = True := eq_true HLT.out
      generalize rd l x = y0 at h1 hc
      have hw : wrap64 (x + 1) = x + 1 := by have := HX.out.1; have := HLT.out; unfold wrap64; omega
      have HW := Aside0.mk hw
      clear hw
      cases hq : q x.toNat
      · rw [hq] at hc
        have HQ := Aside0.mk hq
        clear hq
        go_wp2_with (refine hc.out.mono ?_; rintro e w' ⟨rfl, hb2⟩)
        have HB2 := Aside0.mk (below_then HB.out HB.out.size hb2)
        go_roundg (l.length - (x + 1).toNat)
        case measure => have := HX.out; have := HLT.out; omega
        case rel => exact ⟨x + 1, by rw [HW.out], ⟨by have := HX.out; omega, by have := HLT.out; omega, Nat.le_refl _, fun j hj => by
          rcases Nat.lt_or_ge j x.toNat with h | h
          · exact HX.out.2.2.2 j h
          · have e : j = x.toNat := by have := HX.out.1; omega
            rw [e]; exact HQ.out⟩, HB2⟩
      · rw [hq] at hc
        have er : x = res := by
          rw [← HS.out, idxP_found q x.toNat l.length 0 hq (fun j _ hj => HX.out.2.2.2 j hj) (Nat.zero_le _) (by have := HX.out; have := HLT.out; omega)]
          have := HX.out.1; omega
        have ER := Aside0.mk er
        clear hq er
        go_wp2_with (refine hc.out.mono ?_; rintro e w' ⟨rfl, hb2⟩)
        have HB2 := Aside0.mk (below_then HB.out HB.out.size hb2)
        go_ret
        exact ⟨by rw [← ER.out]; rfl, HB2.out⟩
    · have hltb : decide (x < (l.length : Int)) = false := decide_eq_false hlt
      have er : -1 = res := by
        rw [← HS.out]
        exact (idxP_none q l.length 0 (fun j _ hj => HX.out.2.2.2 j (by have := HX.out; omega))).symm
      have ER := Aside0.mk er
      clear hlt er
      go_wp2
      go_ret
      exact ⟨by rw [← ER.out]; rfl, HB.out⟩
set_option maxHeartbeats 4000000 in
set_option maxRecDepth 1000000 in
theorem slices_ContainsFunc_int_int.below (g : Nat) (cb : Array Value) (A : Option Addr) (c : Nat) (l : List Int) (q : Nat → Bool) (w : World) (eg : ∀ args w, (callFunc g args).run Tryd.prog w = .ok (.enter g args) w) (hsz : l.length < 4611686018427387904) (hr : Kd.C (Kd.int .i64) w A l.length l)
    (hf : ∀ (W : World) (i : Int), 0 ≤ i → i < l.length → Below w.heap.size w W → Calls Tryd.prog g (#[.int .i64 (rd l i)] ++ cb) W fun e w' => e = .returned (.bool (q i.toNat)) ∧ Below W.heap.size W w') :
    Calls Tryd.prog 49 #[.slice A l.length c, .func (.func g) #[] cb] w fun e w' => e = .returned (.bool (decide (0 ≤ idxP q l.length 0))) ∧ Below w.heap.size w w' := by
  have HC := Aside0.mk (slices_IndexFunc_int_int.below g cb A c l q w eg hsz hr hf)
  clear hf hr eg
  generalize idxP q l.length 0 = r at HC ⊢
  go_enter Tryd.func49, Tryd.ntmps49
  go_wp2_with (refine HC.out.mono ?_; rintro e w' ⟨rfl, hb⟩)
  go_ret
  exact ⟨rfl, hb⟩
end Go.Proofs.YtcdkbciagchlgaaDoor.PF
