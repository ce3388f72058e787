-- Written by a program of this session (wip/pr.py) out of Lean's print of the translation; Lean checks it.
import Derived.Test.YtdggkgkbjgigmaaPF0
import Derived.Test.YtdggkgkbjgigmaaPF7
import Derived.Test.YtdggkgkbjgigmaaPF10
import Derived.Test.YtdggkgkbjgigmaaPF11
import Derived.Test.YtdggkgkbjgigmaaPF22
namespace Go.Proofs.Ytdggkgkbjgigmaa.PF
open Go.RowKit Go.Proofs.YtdggkgkbjgigmaaW.PrintWords Go.Proofs.YtdggkgkbjgigmaaW.PrintLast Go.Proofs.YtdggkgkbjgigmaaW.PrintMore
attribute [local go_sem] max2_int min2_int max_two min_two max_three min_three max_four min_four   -- for this text's walks alone
set_option linter.unusedVariables false
set_option linter.unusedSimpArgs false

/-! ### spilelaw28_ReduceSteps: function 8 -/
mutual
def spilelaw28_ReduceSteps.j0 : Nat → List (S50) → List Int → Int → Bool → Int → Int → Option (Bool)
 | 0, _, _, _, _, _, _ => none
 | k + 1, x0, x2, x3, x31, x295000, x295001 => if x31 = true then (some true) else ((reduce_Plan.f x0 x295000 x295001 x2).bind fun bt297 => (if bt297.2 = 0 then ((reduce_Check.f k x0 x295000 x295001 x2 bt297.1).bind fun bt301 => (if (bt297.1.length : Int) = (x2.length : Int) then (if bt301.1 = (-1) then (spilelaw28_ReduceSteps.j1 k x0 x2 x3 bt297.1 (bt301.2 != 0) x295000 x295001) else (spilelaw28_ReduceSteps.j1 k x0 x2 x3 bt297.1 true x295000 x295001)) else (spilelaw28_ReduceSteps.j1 k x0 x2 x3 bt297.1 true x295000 x295001))) else (some ((bt297.1.length : Int) == 0))))
def spilelaw28_ReduceSteps.j1 : Nat → List (S50) → List Int → Int → List Int → Bool → Int → Int → Option (Bool)
 | 0, _, _, _, _, _, _, _ => none
 | k + 1, x0, x2, x3, x9, x64, x295000, x295001 => if x64 = true then (some false) else (if (x9.length : Int) = 0 then (some true) else (spilelaw28_ReduceSteps.l0 k x0 x2 x3 x9 0 x9 (x9.length : Int) 0 x295000 x295001))
def spilelaw28_ReduceSteps.l0 : Nat → List (S50) → List Int → Int → List Int → Int → List Int → Int → Int → Int → Int → Option (Bool)
 | 0, _, _, _, _, _, _, _, _, _, _ => none
 | k + 1, x0, x2, x3, x9, x13, x68, x69, x70, x295000, x295001 => if x70 < x69 then (if 0 ≤ x70 then (if x70 < (x68.length : Int) then (spilelaw28_ReduceSteps.l0 k x0 x2 x3 x9 (wrap64 (x13 + (rd x68 x70))) x68 x69 (wrap64 (x70 + 1)) x295000 x295001) else (none)) else (none)) else (if 0 ≤ (wrap64 ((x2.length : Int) - 1)) then (if (wrap64 ((x2.length : Int) - 1)) < (x2.length : Int) then ((reduce_Water.f x0 x295000 x295001 (rd x2 (wrap64 ((x2.length : Int) - 1)))).bind fun bt305 => (if bt305.2 = 0 then (spilelaw28_ReduceSteps.j3 k x0 x2 x3 x9 (bt305.1 != x13) x295000 x295001) else (spilelaw28_ReduceSteps.j3 k x0 x2 x3 x9 true x295000 x295001))) else (none)) else (none))
def spilelaw28_ReduceSteps.j3 : Nat → List (S50) → List Int → Int → List Int → Bool → Int → Int → Option (Bool)
 | 0, _, _, _, _, _, _, _ => none
 | k + 1, x0, x2, x3, x9, x96, x295000, x295001 => if x96 = true then (some false) else (if (x9.length : Int) = 0 then (none) else ((slices_Clone_int_int.f x9).bind fun t307 => (if 0 ≤ (Int.tmod (wrap64 (x3)) (x9.length : Int)) then (if (Int.tmod (wrap64 (x3)) (x9.length : Int)) < (t307.length : Int) then ((reduce_Check.f k x0 x295000 x295001 x2 (t307.set ((Int.tmod (wrap64 (x3)) (x9.length : Int)) : Int).toNat (wrap64 ((rd t307 (Int.tmod (wrap64 (x3)) (x9.length : Int))) + 1)))).bind fun bt312 => (if bt312.1 = (Int.tmod (wrap64 (x3)) (x9.length : Int)) then (some (bt312.2 == 14)) else (some false))) else (none)) else (none))))
end
def spilelaw28_ReduceSteps.f (k : Nat) (l0 : List (S50)) (a1_0 : Int) (a1_1 : Int) (l2 : List Int) (a3 : Int) : Option (Bool) := (spilelaw28_awake.f).bind fun t295 => (if t295 = true then ((spileref16_Few.f l0).bind fun t296 => (if t296 = true then (spilelaw28_ReduceSteps.j0 k l0 l2 a3 (decide ((l2.length : Int) > 12)) a1_0 a1_1) else (spilelaw28_ReduceSteps.j0 k l0 l2 a3 true a1_0 a1_1))) else (some false))
theorem spilelaw28_ReduceSteps.mono_l : ∀ k, (∀ y0 y1 y2 y3 y4 y5, LeO (spilelaw28_ReduceSteps.j0 k y0 y1 y2 y3 y4 y5) (spilelaw28_ReduceSteps.j0 (k + 1) y0 y1 y2 y3 y4 y5)) ∧ (∀ y0 y1 y2 y3 y4 y5 y6, LeO (spilelaw28_ReduceSteps.j1 k y0 y1 y2 y3 y4 y5 y6) (spilelaw28_ReduceSteps.j1 (k + 1) y0 y1 y2 y3 y4 y5 y6)) ∧ (∀ y0 y1 y2 y3 y4 y5 y6 y7 y8 y9, LeO (spilelaw28_ReduceSteps.l0 k y0 y1 y2 y3 y4 y5 y6 y7 y8 y9) (spilelaw28_ReduceSteps.l0 (k + 1) y0 y1 y2 y3 y4 y5 y6 y7 y8 y9)) ∧ (∀ y0 y1 y2 y3 y4 y5 y6, LeO (spilelaw28_ReduceSteps.j3 k y0 y1 y2 y3 y4 y5 y6) (spilelaw28_ReduceSteps.j3 (k + 1) y0 y1 y2 y3 y4 y5 y6))
 | 0 => ⟨fun _ _ _ _ _ _ r h => by simp [spilelaw28_ReduceSteps.j0] at h, fun _ _ _ _ _ _ _ r h => by simp [spilelaw28_ReduceSteps.j1] at h, fun _ _ _ _ _ _ _ _ _ _ r h => by simp [spilelaw28_ReduceSteps.l0] at h, fun _ _ _ _ _ _ _ r h => by simp [spilelaw28_ReduceSteps.j3] at h⟩
 | k + 1 => by
  obtain ⟨ih0, ih1, ih2, ih3⟩ := spilelaw28_ReduceSteps.mono_l k
  refine ⟨?_, ?_, ?_, ?_⟩
  ·intro y0 y1 y2 y3 y4 y5
   unfold spilelaw28_ReduceSteps.j0
   repeat' first
   | (with_reducible exact ih0 _ _ _ _ _ _)
   | (with_reducible exact ih1 _ _ _ _ _ _ _)
   | (with_reducible exact ih2 _ _ _ _ _ _ _ _ _ _)
   | (with_reducible exact ih3 _ _ _ _ _ _ _)
   | (with_reducible exact reduce_Check.mono _ _ _ _ _ _)
   | (with_reducible exact LeO.refl _)
   | (with_reducible exact LeO.none _)
   | (with_reducible refine LeO.ite ?_ ?_)
   | (with_reducible refine LeO.bind ?_ (fun _ => ?_))
   | exact ih0 _ _ _ _ _ _
   | exact ih1 _ _ _ _ _ _ _
   | exact ih2 _ _ _ _ _ _ _ _ _ _
   | exact ih3 _ _ _ _ _ _ _
   | exact reduce_Check.mono _ _ _ _ _ _
   | exact LeO.none _
   | refine LeO.ite ?_ ?_
   | refine LeO.bind ?_ (fun _ => ?_)
  ·intro y0 y1 y2 y3 y4 y5 y6
   unfold spilelaw28_ReduceSteps.j1
   repeat' first
   | (with_reducible exact ih0 _ _ _ _ _ _)
   | (with_reducible exact ih1 _ _ _ _ _ _ _)
   | (with_reducible exact ih2 _ _ _ _ _ _ _ _ _ _)
   | (with_reducible exact ih3 _ _ _ _ _ _ _)
   | (with_reducible exact reduce_Check.mono _ _ _ _ _ _)
   | (with_reducible exact LeO.refl _)
   | (with_reducible exact LeO.none _)
   | (with_reducible refine LeO.ite ?_ ?_)
   | (with_reducible refine LeO.bind ?_ (fun _ => ?_))
   | exact ih0 _ _ _ _ _ _
   | exact ih1 _ _ _ _ _ _ _
   | exact ih2 _ _ _ _ _ _ _ _ _ _
   | exact ih3 _ _ _ _ _ _ _
   | exact reduce_Check.mono _ _ _ _ _ _
   | exact LeO.none _
   | refine LeO.ite ?_ ?_
   | refine LeO.bind ?_ (fun _ => ?_)
  ·intro y0 y1 y2 y3 y4 y5 y6 y7 y8 y9
   unfold spilelaw28_ReduceSteps.l0
   repeat' first
   | (with_reducible exact ih0 _ _ _ _ _ _)
   | (with_reducible exact ih1 _ _ _ _ _ _ _)
   | (with_reducible exact ih2 _ _ _ _ _ _ _ _ _ _)
   | (with_reducible exact ih3 _ _ _ _ _ _ _)
   | (with_reducible exact reduce_Check.mono _ _ _ _ _ _)
   | (with_reducible exact LeO.refl _)
   | (with_reducible exact LeO.none _)
   | (with_reducible refine LeO.ite ?_ ?_)
   | (with_reducible refine LeO.bind ?_ (fun _ => ?_))
   | exact ih0 _ _ _ _ _ _
   | exact ih1 _ _ _ _ _ _ _
   | exact ih2 _ _ _ _ _ _ _ _ _ _
   | exact ih3 _ _ _ _ _ _ _
   | exact reduce_Check.mono _ _ _ _ _ _
   | exact LeO.none _
   | refine LeO.ite ?_ ?_
   | refine LeO.bind ?_ (fun _ => ?_)
  ·intro y0 y1 y2 y3 y4 y5 y6
   unfold spilelaw28_ReduceSteps.j3
   repeat' first
   | (with_reducible exact ih0 _ _ _ _ _ _)
   | (with_reducible exact ih1 _ _ _ _ _ _ _)
   | (with_reducible exact ih2 _ _ _ _ _ _ _ _ _ _)
   | (with_reducible exact ih3 _ _ _ _ _ _ _)
   | (with_reducible exact reduce_Check.mono _ _ _ _ _ _)
   | (with_reducible exact LeO.refl _)
   | (with_reducible exact LeO.none _)
   | (with_reducible refine LeO.ite ?_ ?_)
   | (with_reducible refine LeO.bind ?_ (fun _ => ?_))
   | exact ih0 _ _ _ _ _ _
   | exact ih1 _ _ _ _ _ _ _
   | exact ih2 _ _ _ _ _ _ _ _ _ _
   | exact ih3 _ _ _ _ _ _ _
   | exact reduce_Check.mono _ _ _ _ _ _
   | exact LeO.none _
   | refine LeO.ite ?_ ?_
   | refine LeO.bind ?_ (fun _ => ?_)
theorem spilelaw28_ReduceSteps.mono : ∀ a0 a1 a2 a3 a4 k, LeO (spilelaw28_ReduceSteps.f k a0 a1 a2 a3 a4) (spilelaw28_ReduceSteps.f (k + 1) a0 a1 a2 a3 a4) := by
 intro a0 a1 a2 a3 a4 k
 obtain ⟨ih0, ih1, ih2, ih3⟩ := spilelaw28_ReduceSteps.mono_l k
 unfold spilelaw28_ReduceSteps.f
 repeat' first
   | (with_reducible exact ih0 _ _ _ _ _ _)
   | (with_reducible exact ih1 _ _ _ _ _ _ _)
   | (with_reducible exact ih2 _ _ _ _ _ _ _ _ _ _)
   | (with_reducible exact ih3 _ _ _ _ _ _ _)
   | (with_reducible exact reduce_Check.mono _ _ _ _ _ _)
   | (with_reducible exact LeO.refl _)
   | (with_reducible exact LeO.none _)
   | (with_reducible refine LeO.ite ?_ ?_)
   | (with_reducible refine LeO.bind ?_ (fun _ => ?_))
   | exact ih0 _ _ _ _ _ _
   | exact ih1 _ _ _ _ _ _ _
   | exact ih2 _ _ _ _ _ _ _ _ _ _
   | exact ih3 _ _ _ _ _ _ _
   | exact reduce_Check.mono _ _ _ _ _ _
   | exact LeO.none _
   | refine LeO.ite ?_ ?_
   | refine LeO.bind ?_ (fun _ => ?_)
def spilelaw28_ReduceSteps.T19 : Bool × List (List Nat × List Nat) := (true, [([], []), ([], []), ([], []), ([], []), ([3], [3]), ([4], [4]), ([2, 5], [2, 5]), ([6], [6]), ([0, 1, 7], [0, 1, 7]), ([8], [8]), ([9], [9]), ([9], [9]), ([10, 8, 0, 1, 2, 3, 4, 5, 6, 7, 8, 9, 10], [10]), ([11, 12, 0, 1, 2, 3, 4, 5, 6, 7, 8, 9, 10, 11, 12], [11])])
def spilelaw28_ReduceSteps.B19 : List Nat := [0, 0, 0, 0, 8, 24, 60, 124, 255, 511, 1023, 1023, 2047, 8191]
theorem spilelaw28_ReduceSteps.tab19 : rtab .any (opsOf Try.f8 19) = spilelaw28_ReduceSteps.T19 := by kernel_rfl
theorem spilelaw28_ReduceSteps.bits19 : waitsOk spilelaw28_ReduceSteps.T19.2 spilelaw28_ReduceSteps.B19 = true := by kernel_rfl
set_option maxHeartbeats 8000000 in
set_option maxRecDepth 100000 in
theorem spilelaw28_ReduceSteps.calls (k : Nat) (A0 : Option Addr) (c0 : Nat) (l0 : List (S50)) (a1_0 : Int) (a1_1 : Int) (A2 : Option Addr) (c2 : Nat) (l2 : List Int) (a3 : Int) (r : Bool) (w : World) (hr0 : Kd.C k50 w A0 l0.length l0) (hc0 : l0.length ≤ c0) (hr2 : Kd.C (Kd.int .i64) w A2 l2.length l2) (hc2 : l2.length ≤ c2) (h : spilelaw28_ReduceSteps.f k l0 a1_0 a1_1 l2 a3 = some r) :
  Calls Try.prog 8 #[.slice A0 l0.length c0, .agg #[.int .i64 a1_0, .int .i64 a1_1], .slice A2 l2.length c2, .int .u8 a3] w fun e w' => e = .returned (.bool r) ∧ Below w.heap.size w w' := by
 have hu24 := Try.underlying24
 have HR0 := Aside0.mk hr0
 have HC0 := Aside0.mk hc0
 clear hr0 hc0
 have HR2 := Aside0.mk hr2
 have HC2 := Aside0.mk hc2
 clear hr2 hc2
 have HB := Aside0.mk (Below.refl w.heap.size w)
 have H : ((spilelaw28_awake.f).bind fun t295 => (if t295 = true then ((spileref16_Few.f l0).bind fun t296 => (if t296 = true then (spilelaw28_ReduceSteps.j0 k l0 l2 a3 (decide ((l2.length : Int) > 12)) a1_0 a1_1) else (spilelaw28_ReduceSteps.j0 k l0 l2 a3 true a1_0 a1_1))) else (some false))) = some r := h
 clear h
 replace H := Option.bind_eq_some_iff.mp H
 obtain ⟨t295, A50, H⟩ := H
 replace H : (if t295 = true then ((spileref16_Few.f l0).bind fun t296 => (if t296 = true then (spilelaw28_ReduceSteps.j0 k l0 l2 a3 (decide ((l2.length : Int) > 12)) a1_0 a1_1) else (spilelaw28_ReduceSteps.j0 k l0 l2 a3 true a1_0 a1_1))) else (some false)) = some r := H
 have A5 := Aside0.mk A50
 clear A50
 by_cases c6 : t295 = true
 ·subst c6
  have H1 : ((spileref16_Few.f l0).bind fun t296 => (if t296 = true then (spilelaw28_ReduceSteps.j0 k l0 l2 a3 (decide ((l2.length : Int) > 12)) a1_0 a1_1) else (spilelaw28_ReduceSteps.j0 k l0 l2 a3 true a1_0 a1_1))) = some r := by rw [if_pos rfl] at H; exact H
  clear H
  have H := H1
  clear H1
  have HC7 := Aside0.mk H
  clear H
  go_enter Try.func8, Try.ntmps8
  go_upto_region 3 with (first | ((with_reducible refine gate_dst (N := 5) rfl ?_); (try (refine gate_guard (by rfl) ?_; dsimp only)); refine box_event ?hg (N := 5) ?hd (cs := #[.int .i64 a1_0, .int .i64 a1_1]) (t := 24) ?hr ?_; (case hd => rfl); (case hg => rfl); (case hr => first | (go_simp; done) | (go_simp; rfl)); intro gb294 hg w8 hbox hb; have n0_ := Aside0.mk (below_step (by repeat (first | (with_reducible first | exact HB.out | apply below_alloc | apply pw_below_drewN | apply below_drew1) | exact HB.out)) hb); have n1_ := Aside0.mk (hbox); have n2_ := Aside0.mk ((by rw [hg]; exact (below_size (by repeat (first | (with_reducible first | exact HB.out | apply below_alloc | apply pw_below_drewN | apply below_drew1) | exact HB.out))) : w.heap.size ≤ gb294)); have n3_ := Aside0.mk ((by rw [hg]; exact (below_size (by repeat (first | (with_reducible first | exact HB.out | apply below_alloc | apply pw_below_drewN | apply below_drew1) | exact HB.out))) : w.heap.size ≤ gb294)); clear HB; have HB := n0_; have BK294 := n1_; have GW294 := n2_; have GE294 := n3_; clear n0_ n1_ n2_ n3_; clear hb hbox hg) | ((with_reducible refine gate_callee (f := 10) rfl ?_); refine goesL_ (some 22) rfl rfl Try.func10 (by kernel_rfl) rfl #[] rfl (by (try simp only [List.map_toArray, List.map_cons, List.map_nil]); first | done | rfl | (simp only [List.length_drop, List.length_take]; rfl)) ?_; (with_reducible refine (spilelaw28_awake.calls  true _ A5.out).mono ?_); rintro e w9 ⟨rfl, hb⟩; refine ⟨_, rfl, ?_⟩; have n0_ := Aside0.mk (blk_below (g := gb294) (o := .cells #[.int .i64 a1_0, .int .i64 a1_1] 24 (0, 0)) (by (with_reducible repeat (first | refine blk_drewN ?_ _ | refine blk_drew ?_ | refine blk_alloc ?_ _)); exact BK294.out) hb); have n1_ := Aside0.mk (below_step (by repeat (first | (with_reducible first | exact HB.out | apply below_alloc | apply pw_below_drewN | apply below_drew1 | refine below_set ?_ GE294.out) | exact HB.out)) hb); clear BK294; clear HB; have BK294 := n0_; have HB := n1_; clear n0_ n1_; (try clear hb); (try clear hb2); (try clear hk); (try clear hi)))
  (try simp only [Act.put, List.setIfInBounds_toArray, List.set_cons_zero, List.set_cons_succ])
  go_cut [31] (fun v31 wc => ∃ (kq : Nat) (x31_6 : Bool), v31 = .bool x31_6 ∧ Aside0 (spilelaw28_ReduceSteps.j0 kq l0 l2 a3 x31_6 a1_0 a1_1 = some r) ∧ Aside0 (kq ≤ k) ∧ Aside0 (wc.heap[gb294]? = some (.cells #[.int .i64 a1_0, .int .i64 a1_1] 24 (0, 0))) ∧ Aside0 (Below w.heap.size w wc))
  case first =>
   have H := HC7.out
   clear HC7
   replace H := Option.bind_eq_some_iff.mp H
   obtain ⟨t296, A100, H⟩ := H
   replace H : (if t296 = true then (spilelaw28_ReduceSteps.j0 k l0 l2 a3 (decide ((l2.length : Int) > 12)) a1_0 a1_1) else (spilelaw28_ReduceSteps.j0 k l0 l2 a3 true a1_0 a1_1)) = some r := H
   have A10 := Aside0.mk A100
   clear A100
   by_cases c11 : t296 = true
   ·subst c11
    have H1 : (spilelaw28_ReduceSteps.j0 k l0 l2 a3 (decide ((l2.length : Int) > 12)) a1_0 a1_1) = some r := by rw [if_pos rfl] at H; exact H
    clear H
    have H := H1
    clear H1
    have H' := Aside0.mk H
    clear H
    go_wp2_with (first | ((with_reducible refine gate_callee (f := 11) rfl ?_); refine goesL_ (some 25) rfl rfl Try.func11 (by kernel_rfl) rfl #[.slice A0 l0.length c0] rfl (by (try simp only [List.map_toArray, List.map_cons, List.map_nil]); first | done | rfl | (simp only [List.length_drop, List.length_take]; rfl)) ?_; (with_reducible refine (spileref16_Few.calls _ _ l0 true _ ?side1 ?side2 A10.out).mono ?_); (case side1 => repeat (first | exact (Kd.C_below HR0.out HB.out) | (with_reducible refine Kd.C_alloc ?_ _) | (with_reducible refine Kd.C_drewN ?_ _) | (with_reducible refine Kd.C_drew ?_))); (case side2 => exact HC0.out); rintro e w' ⟨rfl, ⟨nd, rfl⟩⟩; refine ⟨_, rfl, ?_⟩))
    go_meet
    case rel => exact ⟨_, (decide ((l2.length : Int) > 12)), (by first | rfl | (simp; done) | (simp [*]; done)), H', ⟨by first | omega | exact Nat.le_refl _⟩, ⟨by (with_reducible repeat (first | refine blk_drewN ?_ _ | refine blk_drew ?_ | refine blk_alloc ?_ _)); exact BK294.out⟩, ⟨by repeat (first | (with_reducible first | exact HB.out | apply below_alloc | apply pw_below_drewN | apply below_drew1 | refine below_set ?_ GE294.out) | exact HB.out)⟩⟩
   ·replace c11 := Bool.eq_false_iff.mpr c11
    subst c11
    have H1 : (spilelaw28_ReduceSteps.j0 k l0 l2 a3 true a1_0 a1_1) = some r := by rw [if_neg (show ¬ (false = true) by decide)] at H; exact H
    clear H
    have H := H1
    clear H1
    have H' := Aside0.mk H
    clear H
    go_wp2_with (first | ((with_reducible refine gate_callee (f := 11) rfl ?_); refine goesL_ (some 25) rfl rfl Try.func11 (by kernel_rfl) rfl #[.slice A0 l0.length c0] rfl (by (try simp only [List.map_toArray, List.map_cons, List.map_nil]); first | done | rfl | (simp only [List.length_drop, List.length_take]; rfl)) ?_; (with_reducible refine (spileref16_Few.calls _ _ l0 false _ ?side1 ?side2 A10.out).mono ?_); (case side1 => repeat (first | exact (Kd.C_below HR0.out HB.out) | (with_reducible refine Kd.C_alloc ?_ _) | (with_reducible refine Kd.C_drewN ?_ _) | (with_reducible refine Kd.C_drew ?_))); (case side2 => exact HC0.out); rintro e w' ⟨rfl, ⟨nd, rfl⟩⟩; refine ⟨_, rfl, ?_⟩))
    go_meet
    case rel => exact ⟨_, (true), (by first | rfl | (simp; done) | (simp [*]; done)), H', ⟨by first | omega | exact Nat.le_refl _⟩, ⟨by (with_reducible repeat (first | refine blk_drewN ?_ _ | refine blk_drew ?_ | refine blk_alloc ?_ _)); exact BK294.out⟩, ⟨by repeat (first | (with_reducible first | exact HB.out | apply below_alloc | apply pw_below_drewN | apply below_drew1 | refine below_set ?_ GE294.out) | exact HB.out)⟩⟩
  case rest =>
   clear HC7
   try clear c1
   try clear c2
   try clear p2
   try clear c6
   try clear c8
   try clear c10
   try clear c11
   obtain ⟨kq, x31_6, rfl, HA, HJ6, BK294, HB⟩ := hcut
   cases kq with
   | zero => exact absurd HA.out (by simp [spilelaw28_ReduceSteps.j0])
   | succ kj6 =>
    have H := HA.out
    clear HA
    simp only [spilelaw28_ReduceSteps.j0] at H
    by_cases c12 : x31_6 = true
    ·subst c12
     have H1 : (some true) = some r := by rw [if_pos rfl] at H; exact H
     clear H
     have H := H1
     clear H1
     obtain rfl := Option.some.inj H
     go_wp2
     go_ret
     exact ⟨by first | rfl | (simp [errW_none, errW_some] <;> rfl) | (simp [*, errW_none, errW_some] <;> rfl), by repeat (first | (with_reducible first | exact HB.out | apply below_alloc | apply pw_below_drewN | apply below_drew1 | refine below_set ?_ GE294.out) | exact HB.out)⟩
    ·replace c12 := Bool.eq_false_iff.mpr c12
     subst c12
     have H1 : ((reduce_Plan.f l0 a1_0 a1_1 l2).bind fun bt297 => (if bt297.2 = 0 then ((reduce_Check.f kj6 l0 a1_0 a1_1 l2 bt297.1).bind fun bt301 => (if (bt297.1.length : Int) = (l2.length : Int) then (if bt301.1 = (-1) then (spilelaw28_ReduceSteps.j1 kj6 l0 l2 a3 bt297.1 (bt301.2 != 0) a1_0 a1_1) else (spilelaw28_ReduceSteps.j1 kj6 l0 l2 a3 bt297.1 true a1_0 a1_1)) else (spilelaw28_ReduceSteps.j1 kj6 l0 l2 a3 bt297.1 true a1_0 a1_1))) else (some ((bt297.1.length : Int) == 0)))) = some r := by rw [if_neg (show ¬ (false = true) by decide)] at H; exact H
     clear H
     have H := H1
     clear H1
     replace H := Option.bind_eq_some_iff.mp H
     obtain ⟨⟨t297, t300⟩, A130, H⟩ := H
     replace H : (if t300 = 0 then ((reduce_Check.f kj6 l0 a1_0 a1_1 l2 t297).bind fun bt301 => (if (t297.length : Int) = (l2.length : Int) then (if bt301.1 = (-1) then (spilelaw28_ReduceSteps.j1 kj6 l0 l2 a3 t297 (bt301.2 != 0) a1_0 a1_1) else (spilelaw28_ReduceSteps.j1 kj6 l0 l2 a3 t297 true a1_0 a1_1)) else (spilelaw28_ReduceSteps.j1 kj6 l0 l2 a3 t297 true a1_0 a1_1))) else (some ((t297.length : Int) == 0))) = some r := H
     have A13 := Aside0.mk A130
     clear A130
     by_cases c14 : t300 = 0
     ·rw [if_pos c14] at H
      have c14b0 : (t300 == 0) = true := beq_iff_eq.mpr c14
      have c14b1 : (t300 != 0) = false := bne_eq_false_iff_eq.mpr c14
      clear c14
      replace H := Option.bind_eq_some_iff.mp H
      obtain ⟨⟨t301, t302⟩, A150, H⟩ := H
      replace H : (if (t297.length : Int) = (l2.length : Int) then (if t301 = (-1) then (spilelaw28_ReduceSteps.j1 kj6 l0 l2 a3 t297 (t302 != 0) a1_0 a1_1) else (spilelaw28_ReduceSteps.j1 kj6 l0 l2 a3 t297 true a1_0 a1_1)) else (spilelaw28_ReduceSteps.j1 kj6 l0 l2 a3 t297 true a1_0 a1_1)) = some r := H
      have A15 := Aside0.mk A150
      clear A150
      have HC16 := Aside0.mk H
      clear H
      have hcz17_0 : wc.cell? ⟨gb294, 0, none⟩ = some (.int .i64 a1_0) := (blk_cell BK294.out 0).trans rfl
      have hcz17_1 : wc.cell? ⟨gb294, 1, none⟩ = some (.int .i64 a1_1) := (blk_cell BK294.out 1).trans rfl
      have hfz17_0 := blk_frozen BK294.out 0
      have hfz17_1 := blk_frozen BK294.out 1
      go_upto_region 9 with (first | ((with_reducible refine gate_callee (f := 21) rfl ?_); refine goesL_ (some 36) rfl rfl Try.func21 (by kernel_rfl) rfl #[.slice A0 l0.length c0, .agg #[.int .i64 a1_0, .int .i64 a1_1], .slice A2 l2.length c2] rfl (by (try simp only [List.map_toArray, List.map_cons, List.map_nil]); first | done | rfl | (simp only [List.length_drop, List.length_take]; rfl)) ?_; (with_reducible refine (reduce_Plan.calls _ _ l0 a1_0 a1_1 _ _ l2 t297 t300 _ ?side1 ?side2 ?side3 ?side4 A13.out).mono ?_); (case side1 => repeat (first | exact (Kd.C_below HR0.out HB.out) | (with_reducible refine Kd.C_alloc ?_ _) | (with_reducible refine Kd.C_drewN ?_ _) | (with_reducible refine Kd.C_drew ?_))); (case side2 => exact HC0.out); (case side3 => repeat (first | exact (Kd.C_below HR2.out HB.out) | (with_reducible refine Kd.C_alloc ?_ _) | (with_reducible refine Kd.C_drewN ?_ _) | (with_reducible refine Kd.C_drew ?_))); (case side4 => exact HC2.out); rintro e w18 ⟨v298, rfl, ho0, hb⟩; refine ⟨_, rfl, ?_⟩; have n0_ := Aside0.mk (Kd.R_lower ho0 (below_size (by repeat (first | (with_reducible first | exact HB.out | apply below_alloc | apply pw_below_drewN | apply below_drew1 | refine below_set ?_ GE294.out) | exact HB.out)))); have n1_ := Aside0.mk (blk_below (g := gb294) (o := .cells #[.int .i64 a1_0, .int .i64 a1_1] 24 (0, 0)) (by (with_reducible repeat (first | refine blk_drewN ?_ _ | refine blk_drew ?_ | refine blk_alloc ?_ _)); exact BK294.out) hb); have n2_ := Aside0.mk (below_step (by repeat (first | (with_reducible first | exact HB.out | apply below_alloc | apply pw_below_drewN | apply below_drew1 | refine below_set ?_ GE294.out) | exact HB.out)) hb); clear BK294; clear HB; have HO299 := n0_; have BK294 := n1_; have HB := n2_; clear n0_ n1_ n2_; (try clear hb); (try clear hb2); (try clear hk); (try clear hi); (try clear ho0); have hcz19_0 : w18.cell? ⟨gb294, 0, none⟩ = some (.int .i64 a1_0) := (blk_cell BK294.out 0).trans rfl; have hcz19_1 : w18.cell? ⟨gb294, 1, none⟩ = some (.int .i64 a1_1) := (blk_cell BK294.out 1).trans rfl; have hfz19_0 := blk_frozen BK294.out 0; have hfz19_1 := blk_frozen BK294.out 1; obtain ⟨Ao20, co20, eo20⟩ := Kd.R_slice HO299.out; subst eo20) | ((with_reducible refine gate_callee (f := 22) rfl ?_); refine goesL_ (some 49) rfl rfl Try.func22 (by kernel_rfl) rfl #[.slice A0 l0.length c0, .agg #[.int .i64 a1_0, .int .i64 a1_1], .slice A2 l2.length c2, .slice Ao20 t297.length co20] rfl (by (try simp only [List.map_toArray, List.map_cons, List.map_nil]); first | done | rfl | (simp only [List.length_drop, List.length_take]; rfl)) ?_; (with_reducible refine (reduce_Check.calls kj6 _ _ l0 a1_0 a1_1 _ _ l2 _ _ t297 t301 t302 _ ?side1 ?side2 ?side3 ?side4 ?side5 ?side6 A15.out).mono ?_); (case side1 => repeat (first | exact (Kd.C_below HR0.out HB.out) | (with_reducible refine Kd.C_alloc ?_ _) | (with_reducible refine Kd.C_drewN ?_ _) | (with_reducible refine Kd.C_drew ?_))); (case side2 => exact HC0.out); (case side3 => repeat (first | exact (Kd.C_below HR2.out HB.out) | (with_reducible refine Kd.C_alloc ?_ _) | (with_reducible refine Kd.C_drewN ?_ _) | (with_reducible refine Kd.C_drew ?_))); (case side4 => exact HC2.out); (case side5 => repeat (first | exact (Kd.R_reads' HO299.out).2.2 | (with_reducible refine Kd.C_alloc ?_ _) | (with_reducible refine Kd.C_drewN ?_ _) | (with_reducible refine Kd.C_drew ?_))); (case side6 => exact (Kd.R_reads' HO299.out).2.1); rintro e w21 ⟨rfl, hb⟩; refine ⟨_, rfl, ?_⟩; have n0_ := Aside0.mk (Kd.R_below (by (with_reducible repeat (first | apply Kd.R_alloc | apply Kd.R_drewN | apply Kd.R_drew)); exact HO299.out) hb); have n1_ := Aside0.mk (blk_below (g := gb294) (o := .cells #[.int .i64 a1_0, .int .i64 a1_1] 24 (0, 0)) (by (with_reducible repeat (first | refine blk_drewN ?_ _ | refine blk_drew ?_ | refine blk_alloc ?_ _)); exact BK294.out) hb); have n2_ := Aside0.mk (below_step (by repeat (first | (with_reducible first | exact HB.out | apply below_alloc | apply pw_below_drewN | apply below_drew1 | refine below_set ?_ GE294.out) | exact HB.out)) hb); clear HO299; clear BK294; clear HB; have HO299 := n0_; have BK294 := n1_; have HB := n2_; clear n0_ n1_ n2_; (try clear hb); (try clear hb2); (try clear hk); (try clear hi)))
      (try simp only [Act.put, List.setIfInBounds_toArray, List.set_cons_zero, List.set_cons_succ])
      go_cut [64] (fun v64 wc => ∃ (kq : Nat) (x64_15 : Bool), v64 = .bool x64_15 ∧ Aside0 (spilelaw28_ReduceSteps.j1 kq l0 l2 a3 t297 x64_15 a1_0 a1_1 = some r) ∧ Aside0 (kq ≤ kj6) ∧ Aside0 (Kd.R (Kd.int .i64) 3 wc w.heap.size (fun _ => True) (.slice Ao20 t297.length co20) t297) ∧ Aside0 (wc.heap[gb294]? = some (.cells #[.int .i64 a1_0, .int .i64 a1_1] 24 (0, 0))) ∧ Aside0 (Below w.heap.size w wc))
      case first =>
       have H := HC16.out
       clear HC16
       by_cases c22 : (t297.length : Int) = (l2.length : Int)
       ·rw [if_pos c22] at H
        have c22b0 : ((t297.length : Int) == (l2.length : Int)) = true := beq_iff_eq.mpr c22
        have c22b1 : ((t297.length : Int) != (l2.length : Int)) = false := bne_eq_false_iff_eq.mpr c22
        have c22b2 : (t297.length == l2.length) = true := by first | simpa using c22 | (simp at c22 ⊢; omega)
        clear c22
        (first | rw [c22b0] | (simp only [i64_w, i32_w]; rw [c22b0]) | skip)
        by_cases c23 : t301 = (-1)
        ·rw [if_pos c23] at H
         have c23b0 : (t301 == (-1)) = true := beq_iff_eq.mpr c23
         have c23b1 : (t301 != (-1)) = false := bne_eq_false_iff_eq.mpr c23
         clear c23
         have H' := Aside0.mk H
         clear H
         go_wp2
         go_meet
         case rel => exact ⟨_, ((t302 != 0)), (by first | rfl | (simp; done) | (simp [*]; done)), H', ⟨by have := HJ6.out; first | omega | exact Nat.le_refl _⟩, ⟨by (with_reducible repeat (first | apply Kd.R_alloc | apply Kd.R_drewN | apply Kd.R_drew)); exact HO299.out⟩, ⟨by (with_reducible repeat (first | refine blk_drewN ?_ _ | refine blk_drew ?_ | refine blk_alloc ?_ _)); exact BK294.out⟩, ⟨by repeat (first | (with_reducible first | exact HB.out | apply below_alloc | apply pw_below_drewN | apply below_drew1 | refine below_set ?_ GE294.out) | exact HB.out)⟩⟩
        ·rw [if_neg c23] at H
         have c23b0 : (t301 == (-1)) = false := beq_eq_false_iff_ne.mpr c23
         have c23b1 : (t301 != (-1)) = true := bne_iff_ne.mpr c23
         have H' := Aside0.mk H
         clear H
         go_wp2
         go_meet
         case rel => exact ⟨_, (true), (by first | rfl | (simp; done) | (simp [*]; done)), H', ⟨by have := HJ6.out; first | omega | exact Nat.le_refl _⟩, ⟨by (with_reducible repeat (first | apply Kd.R_alloc | apply Kd.R_drewN | apply Kd.R_drew)); exact HO299.out⟩, ⟨by (with_reducible repeat (first | refine blk_drewN ?_ _ | refine blk_drew ?_ | refine blk_alloc ?_ _)); exact BK294.out⟩, ⟨by repeat (first | (with_reducible first | exact HB.out | apply below_alloc | apply pw_below_drewN | apply below_drew1 | refine below_set ?_ GE294.out) | exact HB.out)⟩⟩
       ·rw [if_neg c22] at H
        have c22b0 : ((t297.length : Int) == (l2.length : Int)) = false := beq_eq_false_iff_ne.mpr c22
        have c22b1 : ((t297.length : Int) != (l2.length : Int)) = true := bne_iff_ne.mpr c22
        have c22b2 : (t297.length == l2.length) = false := by first | simpa using c22 | (simp at c22 ⊢; omega)
        (first | rw [c22b0] | (simp only [i64_w, i32_w]; rw [c22b0]) | skip)
        have H' := Aside0.mk H
        clear H
        go_wp2
        go_meet
        case rel => exact ⟨_, (true), (by first | rfl | (simp; done) | (simp [*]; done)), H', ⟨by have := HJ6.out; first | omega | exact Nat.le_refl _⟩, ⟨by (with_reducible repeat (first | apply Kd.R_alloc | apply Kd.R_drewN | apply Kd.R_drew)); exact HO299.out⟩, ⟨by (with_reducible repeat (first | refine blk_drewN ?_ _ | refine blk_drew ?_ | refine blk_alloc ?_ _)); exact BK294.out⟩, ⟨by repeat (first | (with_reducible first | exact HB.out | apply below_alloc | apply pw_below_drewN | apply below_drew1 | refine below_set ?_ GE294.out) | exact HB.out)⟩⟩
      case rest =>
       clear HC16
       try clear c1
       try clear c2
       try clear p2
       try clear c6
       try clear c8
       try clear c10
       try clear c11
       try clear c12
       try clear c14
       try clear c14b0
       try clear c14b1
       try clear c21
       try clear c22
       try clear c22b0
       try clear c22b1
       try clear c22b2
       try clear c23
       try clear c23b0
       try clear c23b1
       try clear hcz17_0
       try clear hcz17_1
       try clear hcz19_0
       try clear hcz19_1
       try clear hfz17_0
       try clear hfz17_1
       try clear hfz19_0
       try clear hfz19_1
       try clear p2
       obtain ⟨kq, x64_15, rfl, HA, HJ15, HO_9, BK294, HB⟩ := hcut
       cases kq with
       | zero => exact absurd HA.out (by simp [spilelaw28_ReduceSteps.j1])
       | succ kj15 =>
        have H := HA.out
        clear HA
        simp only [spilelaw28_ReduceSteps.j1] at H
        by_cases c24 : x64_15 = true
        ·subst c24
         have H1 : (some false) = some r := by rw [if_pos rfl] at H; exact H
         clear H
         have H := H1
         clear H1
         obtain rfl := Option.some.inj H
         go_wp2
         go_ret
         exact ⟨by first | rfl | (simp [errW_none, errW_some] <;> rfl) | (simp [*, errW_none, errW_some] <;> rfl), by repeat (first | (with_reducible first | exact HB.out | apply below_alloc | apply pw_below_drewN | apply below_drew1 | refine below_set ?_ GE294.out) | exact HB.out)⟩
        ·replace c24 := Bool.eq_false_iff.mpr c24
         subst c24
         have H1 : (if (t297.length : Int) = 0 then (some true) else (spilelaw28_ReduceSteps.l0 kj15 l0 l2 a3 t297 0 t297 (t297.length : Int) 0 a1_0 a1_1)) = some r := by rw [if_neg (show ¬ (false = true) by decide)] at H; exact H
         clear H
         have H := H1
         clear H1
         by_cases c25 : (t297.length : Int) = 0
         ·rw [if_pos c25] at H
          have c25b0 : ((t297.length : Int) == 0) = true := beq_iff_eq.mpr c25
          have c25b1 : ((t297.length : Int) != 0) = false := bne_eq_false_iff_eq.mpr c25
          clear c25
          obtain rfl := Option.some.inj H
          go_wp2
          go_ret
          exact ⟨by first | rfl | (simp [errW_none, errW_some] <;> rfl) | (simp [*, errW_none, errW_some] <;> rfl), by repeat (first | (with_reducible first | exact HB.out | apply below_alloc | apply pw_below_drewN | apply below_drew1 | refine below_set ?_ GE294.out) | exact HB.out)⟩
         ·rw [if_neg c25] at H
          have c25b0 : ((t297.length : Int) == 0) = false := beq_eq_false_iff_ne.mpr c25
          have c25b1 : ((t297.length : Int) != 0) = true := bne_iff_ne.mpr c25
          have c25b2 : ¬ (t297 = []) := fun h_ => c25 (by rw [h_]; rfl)
          have H' := Aside0.mk H
          clear H
          go_wp2
          go_loopg [13, 70] kj15 (fun kq v13 v70 w' => ∃ (x13_3 : Int) (x70_3 : Int), v13 = .int .i64 x13_3 ∧ v70 = .int .i64 x70_3 ∧ Aside0 (spilelaw28_ReduceSteps.l0 kq l0 l2 a3 t297 x13_3 t297 (t297.length : Int) x70_3 a1_0 a1_1 = some r) ∧ Aside0 (kq ≤ kj15) ∧ Aside0 (Kd.R (Kd.int .i64) 3 w' w.heap.size (fun _ => True) (.slice Ao20 t297.length co20) t297) ∧ Aside0 (Kd.R (Kd.int .i64) 3 w' w.heap.size (fun _ => True) (.slice Ao20 t297.length co20) t297) ∧ Aside0 (w'.heap[gb294]? = some (.cells #[.int .i64 a1_0, .int .i64 a1_1] 24 (0, 0))) ∧ Aside0 (Below w.heap.size w w'))
          case atStart => exact ⟨(0), (0), (by first | rfl | (simp; done) | (simp [*]; done)), (by first | rfl | (simp; done) | (simp [*]; done)), H', ⟨Nat.le_refl _⟩, ⟨by (with_reducible repeat (first | apply Kd.R_alloc | apply Kd.R_drewN | apply Kd.R_drew)); exact HO_9.out⟩, ⟨by (with_reducible repeat (first | apply Kd.R_alloc | apply Kd.R_drewN | apply Kd.R_drew)); exact HO_9.out⟩, ⟨by (with_reducible repeat (first | refine blk_drewN ?_ _ | refine blk_drew ?_ | refine blk_alloc ?_ _)); exact BK294.out⟩, ⟨by repeat (first | (with_reducible first | exact HB.out | apply below_alloc | apply pw_below_drewN | apply below_drew1 | refine below_set ?_ GE294.out) | exact HB.out)⟩⟩
          case round =>
           clear H'
           try clear c1
           try clear c2
           try clear p2
           try clear c6
           try clear c8
           try clear c10
           try clear c11
           try clear c12
           try clear c14
           try clear c14b0
           try clear c14b1
           try clear c21
           try clear c22
           try clear c22b0
           try clear c22b1
           try clear c22b2
           try clear c23
           try clear c23b0
           try clear c23b1
           try clear c24
           try clear c25
           try clear c25b0
           try clear c25b1
           try clear c25b2
           try clear hcz17_0
           try clear hcz17_1
           try clear hcz19_0
           try clear hcz19_1
           try clear hfz17_0
           try clear hfz17_1
           try clear hfz19_0
           try clear hfz19_1
           try clear p2
           obtain ⟨x13_3, x70_3, rfl, rfl, HA, HK3, HO_9, HO_68, BK294, HB⟩ := hrel
           cases gk with
           | zero => exact absurd HA.out (by simp [spilelaw28_ReduceSteps.l0])
           | succ k3 =>
            have H := HA.out
            clear HA
            simp only [spilelaw28_ReduceSteps.l0] at H
            by_cases c26 : x70_3 < (t297.length : Int)
            ·rw [if_pos c26] at H
             have c26b0 : decide (x70_3 < (t297.length : Int)) = true := decide_eq_true c26
             clear c26
             by_cases c27 : 0 ≤ x70_3
             ·rw [if_pos c27] at H
              have c27b0 : decide (0 ≤ x70_3) = true := decide_eq_true c27
              clear c27
              by_cases c28 : x70_3 < (t297.length : Int)
              ·rw [if_pos c28] at H
               have c28b0 : decide (x70_3 < (t297.length : Int)) = true := decide_eq_true c28
               clear c28
               have H' := Aside0.mk H
               clear H
               have p303 : 0 ≤ (x70_3 : Int) := of_decide_eq_true (by first | (with_reducible assumption) | assumption)
               have q303 : x70_3 < (t297.length : Int) := of_decide_eq_true (by first | (with_reducible assumption) | assumption)
               obtain ⟨ad303, e303, hx303_0⟩ := Kd.at_int (Kd.R_reads' HO_68.out).2.2 x70_3 p303 q303
               cases e303
               replace p303 := eq_true p303
               replace q303 := eq_true q303
               go_wp2
               go_roundg k3
               case measure => have := HJ6.out; have := HJ15.out; have := HK3.out; omega
               case rel => exact ⟨(wrap64 (x13_3 + (rd t297 x70_3))), (wrap64 (x70_3 + 1)), (by first | rfl | (simp; done) | (simp [*]; done)), (by first | rfl | (simp; done) | (simp [*]; done)), H', ⟨by have := HJ6.out; have := HJ15.out; have := HK3.out; omega⟩, ⟨by (with_reducible repeat (first | apply Kd.R_alloc | apply Kd.R_drewN | apply Kd.R_drew)); exact HO_9.out⟩, ⟨by (with_reducible repeat (first | apply Kd.R_alloc | apply Kd.R_drewN | apply Kd.R_drew)); exact HO_68.out⟩, ⟨by (with_reducible repeat (first | refine blk_drewN ?_ _ | refine blk_drew ?_ | refine blk_alloc ?_ _)); exact BK294.out⟩, ⟨by repeat (first | (with_reducible first | exact HB.out | apply below_alloc | apply pw_below_drewN | apply below_drew1 | refine below_set ?_ GE294.out) | exact HB.out)⟩⟩
              ·rw [if_neg c28] at H
               exact absurd H (by simp)
             ·rw [if_neg c27] at H
              exact absurd H (by simp)
            ·rw [if_neg c26] at H
             have c26b0 : decide (x70_3 < (t297.length : Int)) = false := decide_eq_false c26
             clear c26
             obtain ⟨ji29, hji29⟩ : ∃ j_ : Int, (wrap64 ((l2.length : Int) - 1)) = j_ := ⟨_, rfl⟩
             replace H : (if 0 ≤ (ji29) then (if (ji29) < (l2.length : Int) then ((reduce_Water.f l0 a1_0 a1_1 (rd l2 (ji29))).bind fun bt305 => (if bt305.2 = 0 then (spilelaw28_ReduceSteps.j3 k3 l0 l2 a3 t297 (bt305.1 != x13_3) a1_0 a1_1) else (spilelaw28_ReduceSteps.j3 k3 l0 l2 a3 t297 true a1_0 a1_1))) else (none)) else (none)) = some r := by first | (rw [hji29] at H; exact H) | (simp only [hji29] at H ⊢; exact H)
             have hji29w : (IntKind.i64.wrap ((l2.length : Int) - 1)) = ji29 := (i64_w _).trans hji29
             by_cases c30 : 0 ≤ (ji29)
             ·rw [if_pos c30] at H
              have c30b0 : decide (0 ≤ (ji29)) = true := decide_eq_true c30
              clear c30
              by_cases c31 : (ji29) < (l2.length : Int)
              ·rw [if_pos c31] at H
               have c31b0 : decide ((ji29) < (l2.length : Int)) = true := decide_eq_true c31
               clear c31
               replace H := Option.bind_eq_some_iff.mp H
               obtain ⟨⟨t305, t306⟩, A320, H⟩ := H
               replace H : (if t306 = 0 then (spilelaw28_ReduceSteps.j3 k3 l0 l2 a3 t297 (t305 != x13_3) a1_0 a1_1) else (spilelaw28_ReduceSteps.j3 k3 l0 l2 a3 t297 true a1_0 a1_1)) = some r := H
               have A32 := Aside0.mk A320
               clear A320
               have HC33 := Aside0.mk H
               clear H
               try go_wp2
               have n0_ := Aside0.mk (Kd.R_drew HO_9.out)
               have n1_ := Aside0.mk (Kd.R_drew HO_68.out)
               have n2_ := Aside0.mk (blk_drew BK294.out)
               have n3_ := Aside0.mk (below_drew1 HB.out)
               clear HO_9
               clear HO_68
               clear BK294
               clear HB
               have HO_9 := n0_
               have HO_68 := n1_
               have BK294 := n2_
               have HB := n3_
               clear n0_ n1_ n2_ n3_
               have p304 : 0 ≤ ((ji29) : Int) := of_decide_eq_true (by first | (with_reducible assumption) | assumption)
               have q304 : (ji29) < (l2.length : Int) := of_decide_eq_true (by first | (with_reducible assumption) | assumption)
               obtain ⟨ad304, e304, hx304_0⟩ := Kd.at_int HR2.out (ji29) p304 q304
               have hw304_0 := hx304_0
               cases e304
               replace hx304_0 := (HB.out.cell (World.block_lt_of_cell? w _ hx304_0)).trans hx304_0
               replace p304 := eq_true p304
               replace q304 := eq_true q304
               refine start_ (n := 14) (S := fun w' => w'.cell? ⟨gb294, 0, none⟩ = some (.int .i64 a1_0) ∧ w'.cell? ⟨gb294, 1, none⟩ = some (.int .i64 a1_1) ∧ w'.cell? (ad304.add ((ji29)).toNat) = some (.int .i64 (rd l2 (ji29)))) (ds := []) #[false, false, false, false, false, false, false, false, false, false, false, false, false, false] (by kernel_rfl) rfl rfl ⟨(blk_cell BK294.out 0).trans rfl, (blk_cell BK294.out 1).trans rfl, ((HB.out.cell (World.block_lt_of_cell? w _ hw304_0)).trans hw304_0)⟩ (fun hHeld => ?_); refine with_tabW spilelaw28_ReduceSteps.tab19 spilelaw28_ReduceSteps.bits19 (fun HT_ HW_ => ?_)
               generalize wr.drew = w34 at HO_9 HO_68 BK294 HB hx304_0 hHeld ⊢
               refine pure_ (i := 0) (N := some 79) (v := ?_) (a' := ?_) #[true, false, false, false, false, false, false, false, false, false, false, false, false, false] rfl rfl (any_of HT_.out (by kernel_rfl)) (fun _ _ _ h => h) (Or.inl ⟨by rfl, ?_⟩) ?_ ?_
               rotate_left
               ·intro w'
                go_simp
                with_reducible rfl
               rotate_left
               ·simp only [Act.put, List.setIfInBounds_toArray, List.set_cons_zero, List.set_cons_succ, i64_w, i32_w]
                rfl
               refine pure_ (i := 2) (N := some 81) (v := ?_) (a' := ?_) #[true, false, true, false, false, false, false, false, false, false, false, false, false, false] rfl rfl (any_of HT_.out (by kernel_rfl)) (fun _ _ _ h => h) (Or.inl ⟨by rfl, ?_⟩) ?_ ?_
               rotate_left
               ·intro w'
                go_simp
                with_reducible rfl
               rotate_left
               ·simp only [Act.put, List.setIfInBounds_toArray, List.set_cons_zero, List.set_cons_succ, i64_w, i32_w]
                rfl
               refine pure_ (i := 3) (N := some 82) (v := ?_) (a' := ?_) #[true, false, true, true, false, false, false, false, false, false, false, false, false, false] rfl rfl (any_of HT_.out (by kernel_rfl)) (fun _ _ _ h => h) (Or.inl ⟨by rfl, ?_⟩) ?_ ?_
               rotate_left
               ·intro w'
                go_simp
                with_reducible rfl
               rotate_left
               ·simp only [Act.put, List.setIfInBounds_toArray, List.set_cons_zero, List.set_cons_succ, i64_w, i32_w]
                rfl
               refine pure_ (i := 4) (N := some 83) (v := ?_) (a' := ?_) #[true, false, true, true, true, false, false, false, false, false, false, false, false, false] rfl rfl (any_of HT_.out (by kernel_rfl)) (fun _ _ _ h => h) (Or.inl ⟨by rfl, ?_⟩) ?_ ?_
               rotate_left
               ·intro w'
                go_simp
                with_reducible rfl
               rotate_left
               ·simp only [Act.put, List.setIfInBounds_toArray, List.set_cons_zero, List.set_cons_succ, i64_w, i32_w]
                rfl
               refine pure_ (i := 5) (N := some 84) (v := ?_) (a' := ?_) #[true, false, true, true, true, true, false, false, false, false, false, false, false, false] rfl rfl (any_of HT_.out (by kernel_rfl)) (fun _ _ _ h => h) (Or.inl ⟨by rfl, ?_⟩) ?_ ?_
               rotate_left
               ·intro w'
                go_simp
                with_reducible rfl
               rotate_left
               ·simp only [Act.put, List.setIfInBounds_toArray, List.set_cons_zero, List.set_cons_succ, i64_w, i32_w]
                rfl
               refine pure_ (i := 6) (N := some 85) (v := ?_) (a' := ?_) #[true, false, true, true, true, true, true, false, false, false, false, false, false, false] rfl rfl (any_of HT_.out (by kernel_rfl)) (fun _ _ _ h => h) (Or.inl ⟨by rfl, ?_⟩) ?_ ?_
               rotate_left
               ·intro w'
                go_simp
                with_reducible rfl
               rotate_left
               ·simp only [Act.put, List.setIfInBounds_toArray, List.set_cons_zero, List.set_cons_succ, i64_w, i32_w]
                rfl
               refine take_ (i := 1) (N := some 80) (v := ?_) (a' := ?_) #[true, true, true, true, true, true, true, false, false, false, false, false, false, false] rfl rfl (take_ofW HT_.out HW_.out (by kernel_rfl)) (fun _ _ _ h => h) (Or.inl ⟨by rfl, ?_⟩) hHeld ?_ ?_
               rotate_left
               ·rintro w' ⟨s0, s1, s2⟩
                go_simp
                with_reducible rfl
               rotate_left
               ·simp only [Act.put, List.setIfInBounds_toArray, List.set_cons_zero, List.set_cons_succ, i64_w, i32_w]
                rfl
               refine take_ (i := 7) (N := some 86) (v := ?_) (a' := ?_) #[true, true, true, true, true, true, true, true, false, false, false, false, false, false] rfl rfl (take_ofW HT_.out HW_.out (by kernel_rfl)) (fun _ _ _ h => h) (Or.inl ⟨by rfl, ?_⟩) hHeld ?_ ?_
               rotate_left
               ·rintro w' ⟨s0, s1, s2⟩
                go_simp
                with_reducible rfl
               rotate_left
               ·simp only [Act.put, List.setIfInBounds_toArray, List.set_cons_zero, List.set_cons_succ, i64_w, i32_w]
                rfl
               refine one_ (i := 8) (N := some 87) #[true, true, true, true, true, true, true, true, true, false, false, false, false, false] rfl rfl (one_of HT_.out (by kernel_rfl)) (by decide) (fun K hK => ?_)
               refine goes_ Try.func12 (by kernel_rfl) rfl #[.slice A0 l0.length c0, .agg #[.int .i64 a1_0, .int .i64 a1_1], .int .i64 (rd l2 (ji29))] (by rfl) rfl rfl (by (try simp only [List.map_toArray, List.map_cons, List.map_nil]); first | done | (simp only [hji29]; rfl) | rfl | (simp only [List.length_drop, List.length_take]; rfl)) ?_
               with_reducible refine (reduce_Water.calls _ _ l0 a1_0 a1_1 (rd l2 (ji29)) t305 t306 _ ?side1 ?side2 A32.out).mono ?_
               (case side1 => repeat (first | exact (Kd.C_below HR0.out HB.out) | (with_reducible refine Kd.C_alloc ?_ _) | (with_reducible refine Kd.C_drewN ?_ _) | (with_reducible refine Kd.C_drew ?_)))
               (case side2 => exact HC0.out)
               rintro e w35 ⟨rfl, hb⟩
               refine ⟨_, rfl, ?_⟩
               have n0_ := Aside0.mk (Kd.R_below (by (with_reducible repeat (first | apply Kd.R_alloc | apply Kd.R_drewN | apply Kd.R_drew)); exact HO_9.out) hb)
               have n1_ := Aside0.mk (Kd.R_below (by (with_reducible repeat (first | apply Kd.R_alloc | apply Kd.R_drewN | apply Kd.R_drew)); exact HO_68.out) hb)
               have n2_ := Aside0.mk (blk_below (g := gb294) (o := .cells #[.int .i64 a1_0, .int .i64 a1_1] 24 (0, 0)) (by (with_reducible repeat (first | refine blk_drewN ?_ _ | refine blk_drew ?_ | refine blk_alloc ?_ _)); exact BK294.out) hb)
               have n3_ := Aside0.mk (below_step (by repeat (first | (with_reducible first | exact HB.out | apply below_alloc | apply pw_below_drewN | apply below_drew1 | refine below_set ?_ GE294.out) | exact HB.out)) hb)
               clear HO_9
               clear HO_68
               clear BK294
               clear HB
               have HO_9 := n0_
               have HO_68 := n1_
               have BK294 := n2_
               have HB := n3_
               clear n0_ n1_ n2_ n3_
               (try clear hb)
               (try clear hb2)
               (try clear hk)
               (try clear hi)
               refine hK.out _ _ ⟨(blk_cell BK294.out 0).trans rfl, (blk_cell BK294.out 1).trans rfl, ((HB.out.cell (World.block_lt_of_cell? w _ hw304_0)).trans hw304_0)⟩ (fun hHeld => ?_)
               clear hK K
               refine norm_ (a' := ?_) ?_ ?_
               rotate_left
               ·show Act.put _ (some 87) _ = _
                simp only [Act.put, List.setIfInBounds_toArray, List.set_cons_zero, List.set_cons_succ, i64_w, i32_w]
                rfl
               refine pure_ (i := 9) (N := some 78) (v := ?_) (a' := ?_) #[true, true, true, true, true, true, true, true, true, true, false, false, false, false] rfl rfl (any_of HT_.out (by kernel_rfl)) (fun _ _ _ h => h) (Or.inl ⟨by rfl, ?_⟩) ?_ ?_
               rotate_left
               ·intro w'
                go_simp
                with_reducible rfl
               rotate_left
               ·simp only [Act.put, List.setIfInBounds_toArray, List.set_cons_zero, List.set_cons_succ, i64_w, i32_w]
                rfl
               refine pure_ (i := 10) (N := some 88) (v := ?_) (a' := ?_) #[true, true, true, true, true, true, true, true, true, true, true, false, false, false] rfl rfl (any_of HT_.out (by kernel_rfl)) (fun _ _ _ h => h) (Or.inl ⟨by rfl, ?_⟩) ?_ ?_
               rotate_left
               ·intro w'
                go_simp
                with_reducible rfl
               rotate_left
               ·simp only [Act.put, List.setIfInBounds_toArray, List.set_cons_zero, List.set_cons_succ, i64_w, i32_w]
                rfl
               refine pure_ (i := 11) (N := some 89) (v := ?_) (a' := ?_) #[true, true, true, true, true, true, true, true, true, true, true, true, false, false] rfl rfl (any_of HT_.out (by kernel_rfl)) (fun _ _ _ h => h) (Or.inl ⟨by rfl, ?_⟩) ?_ ?_
               rotate_left
               ·intro w'
                go_simp
                with_reducible rfl
               rotate_left
               ·simp only [Act.put, List.setIfInBounds_toArray, List.set_cons_zero, List.set_cons_succ, i64_w, i32_w]
                rfl
               refine pure_ (i := 12) (N := some 16) (v := ?_) (a' := ?_) #[true, true, true, true, true, true, true, true, true, true, true, true, true, false] rfl rfl (any_of HT_.out (by kernel_rfl)) (fun _ _ _ h => h) (Or.inl ⟨by rfl, ?_⟩) ?_ ?_
               rotate_left
               ·intro w'
                go_simp
                with_reducible rfl
               rotate_left
               ·simp only [Act.put, List.setIfInBounds_toArray, List.set_cons_zero, List.set_cons_succ, i64_w, i32_w]
                rfl
               refine pure_ (i := 13) (N := some 17) (v := ?_) (a' := ?_) #[true, true, true, true, true, true, true, true, true, true, true, true, true, true] rfl rfl (any_of HT_.out (by kernel_rfl)) (fun _ _ _ h => h) (Or.inl ⟨by rfl, ?_⟩) ?_ ?_
               rotate_left
               ·intro w'
                go_simp
                with_reducible rfl
               rotate_left
               ·simp only [Act.put, List.setIfInBounds_toArray, List.set_cons_zero, List.set_cons_succ, i64_w, i32_w]
                rfl
               refine done_ (done_of HT_.out (by kernel_rfl)) ?_
               go_upto_region 20 with (fail)
               go_cut [96] (fun v96 wc => ∃ (kq : Nat) (x96_32 : Bool), v96 = .bool x96_32 ∧ Aside0 (spilelaw28_ReduceSteps.j3 kq l0 l2 a3 t297 x96_32 a1_0 a1_1 = some r) ∧ Aside0 (kq ≤ k3) ∧ Aside0 (Kd.R (Kd.int .i64) 3 wc w.heap.size (fun _ => True) (.slice Ao20 t297.length co20) t297) ∧ Aside0 (wc.heap[gb294]? = some (.cells #[.int .i64 a1_0, .int .i64 a1_1] 24 (0, 0))) ∧ Aside0 (Below w.heap.size w wc))
               case first =>
                have H := HC33.out
                clear HC33
                by_cases c36 : t306 = 0
                ·rw [if_pos c36] at H
                 have c36b0 : (t306 == 0) = true := beq_iff_eq.mpr c36
                 have c36b1 : (t306 != 0) = false := bne_eq_false_iff_eq.mpr c36
                 clear c36
                 (first | rw [c36b0] | (simp only [i64_w, i32_w]; rw [c36b0]) | skip)
                 have H' := Aside0.mk H
                 clear H
                 go_wp2
                 go_meet
                 case rel => exact ⟨_, ((t305 != x13_3)), (by first | rfl | (simp; done) | (simp [*]; done)), H', ⟨by have := HJ6.out; have := HJ15.out; have := HK3.out; first | omega | exact Nat.le_refl _⟩, ⟨by (with_reducible repeat (first | apply Kd.R_alloc | apply Kd.R_drewN | apply Kd.R_drew)); exact HO_9.out⟩, ⟨by (with_reducible repeat (first | refine blk_drewN ?_ _ | refine blk_drew ?_ | refine blk_alloc ?_ _)); exact BK294.out⟩, ⟨by repeat (first | (with_reducible first | exact HB.out | apply below_alloc | apply pw_below_drewN | apply below_drew1 | refine below_set ?_ GE294.out) | exact HB.out)⟩⟩
                ·rw [if_neg c36] at H
                 have c36b0 : (t306 == 0) = false := beq_eq_false_iff_ne.mpr c36
                 have c36b1 : (t306 != 0) = true := bne_iff_ne.mpr c36
                 (first | rw [c36b0] | (simp only [i64_w, i32_w]; rw [c36b0]) | skip)
                 have H' := Aside0.mk H
                 clear H
                 go_wp2
                 go_meet
                 case rel => exact ⟨_, (true), (by first | rfl | (simp; done) | (simp [*]; done)), H', ⟨by have := HJ6.out; have := HJ15.out; have := HK3.out; first | omega | exact Nat.le_refl _⟩, ⟨by (with_reducible repeat (first | apply Kd.R_alloc | apply Kd.R_drewN | apply Kd.R_drew)); exact HO_9.out⟩, ⟨by (with_reducible repeat (first | refine blk_drewN ?_ _ | refine blk_drew ?_ | refine blk_alloc ?_ _)); exact BK294.out⟩, ⟨by repeat (first | (with_reducible first | exact HB.out | apply below_alloc | apply pw_below_drewN | apply below_drew1 | refine below_set ?_ GE294.out) | exact HB.out)⟩⟩
               case rest =>
                clear HC33
                try clear c1
                try clear c2
                try clear p2
                try clear c3
                try clear p3
                try clear q3
                try clear hx3
                try clear c6
                try clear p6
                try clear c8
                try clear c10
                try clear c11
                try clear c12
                try clear c14
                try clear c14b0
                try clear c14b1
                try clear c21
                try clear c22
                try clear c22b0
                try clear c22b1
                try clear c22b2
                try clear c23
                try clear c23b0
                try clear c23b1
                try clear c24
                try clear c25
                try clear c25b0
                try clear c25b1
                try clear c25b2
                try clear c26
                try clear c26b0
                try clear c27
                try clear c27b0
                try clear c28
                try clear c28b0
                try clear c30
                try clear c30b0
                try clear p30
                try clear q30
                try clear hx30
                try clear c31
                try clear c31b0
                try clear c36
                try clear c36b0
                try clear c36b1
                try clear hcz17_0
                try clear hcz17_1
                try clear hcz19_0
                try clear hcz19_1
                try clear hfz17_0
                try clear hfz17_1
                try clear hfz19_0
                try clear hfz19_1
                try clear hx303_0
                try clear hx304_0
                try clear p2
                try clear p303
                try clear p304
                try clear q303
                try clear q304
                obtain ⟨kq, x96_32, rfl, HA, HJ32, HO_9, BK294, HB⟩ := hcut
                cases kq with
                | zero => exact absurd HA.out (by simp [spilelaw28_ReduceSteps.j3])
                | succ kj32 =>
                 have H := HA.out
                 clear HA
                 simp only [spilelaw28_ReduceSteps.j3] at H
                 by_cases c37 : x96_32 = true
                 ·subst c37
                  have H1 : (some false) = some r := by rw [if_pos rfl] at H; exact H
                  clear H
                  have H := H1
                  clear H1
                  obtain rfl := Option.some.inj H
                  go_wp2
                  go_ret
                  exact ⟨by first | rfl | (simp [errW_none, errW_some] <;> rfl) | (simp only [← hji29]; first | rfl | (simp [errW_none, errW_some] <;> rfl)) | (simp [*, errW_none, errW_some] <;> rfl), by repeat (first | (with_reducible first | exact HB.out | apply below_alloc | apply pw_below_drewN | apply below_drew1 | refine below_set ?_ GE294.out) | exact HB.out)⟩
                 ·replace c37 := Bool.eq_false_iff.mpr c37
                  subst c37
                  have H1 : (if (t297.length : Int) = 0 then (none) else ((slices_Clone_int_int.f t297).bind fun t307 => (if 0 ≤ (Int.tmod (wrap64 (a3)) (t297.length : Int)) then (if (Int.tmod (wrap64 (a3)) (t297.length : Int)) < (t307.length : Int) then ((reduce_Check.f kj32 l0 a1_0 a1_1 l2 (t307.set ((Int.tmod (wrap64 (a3)) (t297.length : Int)) : Int).toNat (wrap64 ((rd t307 (Int.tmod (wrap64 (a3)) (t297.length : Int))) + 1)))).bind fun bt312 => (if bt312.1 = (Int.tmod (wrap64 (a3)) (t297.length : Int)) then (some (bt312.2 == 14)) else (some false))) else (none)) else (none)))) = some r := by rw [if_neg (show ¬ (false = true) by decide)] at H; exact H
                  clear H
                  have H := H1
                  clear H1
                  by_cases c38 : (t297.length : Int) = 0
                  ·rw [if_pos c38] at H
                   exact absurd H (by simp)
                  ·rw [if_neg c38] at H
                   have c38b0 : ((t297.length : Int) == 0) = false := beq_eq_false_iff_ne.mpr c38
                   have c38b1 : ((t297.length : Int) != 0) = true := bne_iff_ne.mpr c38
                   have c38b2 : ¬ (t297 = []) := fun h_ => c38 (by rw [h_]; rfl)
                   replace H := Option.bind_eq_some_iff.mp H
                   obtain ⟨t307, A390, H⟩ := H
                   replace H : (if 0 ≤ (Int.tmod (wrap64 (a3)) (t297.length : Int)) then (if (Int.tmod (wrap64 (a3)) (t297.length : Int)) < (t307.length : Int) then ((reduce_Check.f kj32 l0 a1_0 a1_1 l2 (t307.set ((Int.tmod (wrap64 (a3)) (t297.length : Int)) : Int).toNat (wrap64 ((rd t307 (Int.tmod (wrap64 (a3)) (t297.length : Int))) + 1)))).bind fun bt312 => (if bt312.1 = (Int.tmod (wrap64 (a3)) (t297.length : Int)) then (some (bt312.2 == 14)) else (some false))) else (none)) else (none)) = some r := H
                   have A39 := Aside0.mk A390
                   clear A390
                   obtain ⟨ji40, hji40⟩ : ∃ j_ : Int, (Int.tmod (wrap64 (a3)) (t297.length : Int)) = j_ := ⟨_, rfl⟩
                   replace H : (if 0 ≤ (ji40) then (if (ji40) < (t307.length : Int) then ((reduce_Check.f kj32 l0 a1_0 a1_1 l2 (t307.set ((ji40) : Int).toNat (wrap64 ((rd t307 (ji40)) + 1)))).bind fun bt312 => (if bt312.1 = (ji40) then (some (bt312.2 == 14)) else (some false))) else (none)) else (none)) = some r := by first | (rw [hji40] at H; exact H) | (simp only [hji40] at H ⊢; exact H)
                   (try rw [hji40] at A39)
                   by_cases c41 : 0 ≤ (ji40)
                   ·rw [if_pos c41] at H
                    have c41b0 : decide (0 ≤ (ji40)) = true := decide_eq_true c41
                    clear c41
                    by_cases c42 : (ji40) < (t307.length : Int)
                    ·rw [if_pos c42] at H
                     have c42b0 : decide ((ji40) < (t307.length : Int)) = true := decide_eq_true c42
                     clear c42
                     obtain ⟨y311, hy311⟩ : ∃ y_ : List Int, y_ = (t307.set ((ji40) : Int).toNat (wrap64 ((rd t307 (ji40)) + 1))) := ⟨_, rfl⟩
                     replace H : ((reduce_Check.f kj32 l0 a1_0 a1_1 l2 y311).bind fun bt312 => (if bt312.1 = (ji40) then (some (bt312.2 == 14)) else (some false))) = some r := by first | (rw [hy311]; with_reducible exact H) | (have H2_ := (Option.bind_some _ _).symm.trans H; rw [hy311]; with_reducible exact H2_) | (have H2_ := (Option.bind_some _ _).symm.trans H; with_reducible exact H2_) | with_reducible exact H | (rw [hy311]; exact H) | exact H
                     have Ny311 := Aside0.mk hy311
                     clear hy311
                     replace H := Option.bind_eq_some_iff.mp H
                     obtain ⟨⟨t312, t313⟩, A440, H⟩ := H
                     replace H : (if t312 = (ji40) then (some (t313 == 14)) else (some false)) = some r := H
                     have A44 := Aside0.mk A440
                     clear A440
                     by_cases c45 : t312 = (ji40)
                     ·rw [if_pos c45] at H
                      have c45b0 : (t312 == (ji40)) = true := beq_iff_eq.mpr c45
                      have c45b1 : (t312 != (ji40)) = false := bne_eq_false_iff_eq.mpr c45
                      clear c45
                      obtain rfl := Option.some.inj H
                      go_wp2_with (first | ((with_reducible refine gate_callee (f := 23) rfl ?_); refine goesL_ (some 103) rfl rfl Try.func23 (by kernel_rfl) rfl #[.slice Ao20 t297.length co20] rfl (by (try simp only [List.map_toArray, List.map_cons, List.map_nil]); first | done | rfl | (simp only [List.length_drop, List.length_take]; rfl)) ?_; (with_reducible refine (slices_Clone_int_int.calls _ _ t297 t307 _ ?side1 ?side2 A39.out).mono ?_); (case side1 => repeat (first | exact (Kd.R_reads' HO_9.out).2.2 | (with_reducible refine Kd.C_alloc ?_ _) | (with_reducible refine Kd.C_drewN ?_ _) | (with_reducible refine Kd.C_drew ?_))); (case side2 => exact (Kd.R_reads' HO_9.out).2.1); rintro e w46 ⟨v308, rfl, ho0, hb⟩; refine ⟨_, rfl, ?_⟩; have n0_ := Aside0.mk (Kd.R_elder' (by (with_reducible repeat (first | apply Kd.R_alloc | apply Kd.R_drewN | apply Kd.R_drew)); exact HO_9.out) (Kd.R_base ho0) hb); have n1_ := Aside0.mk (Kd.R_lower (Kd.R_new' ho0 (Kd.R_lt (by (with_reducible repeat (first | apply Kd.R_alloc | apply Kd.R_drewN | apply Kd.R_drew)); exact HO_9.out))) (below_size (by repeat (first | (with_reducible first | exact HB.out | apply below_alloc | apply pw_below_drewN | apply below_drew1 | refine below_set ?_ GE294.out) | exact HB.out)))); have n2_ := Aside0.mk (blk_below (g := gb294) (o := .cells #[.int .i64 a1_0, .int .i64 a1_1] 24 (0, 0)) (by (with_reducible repeat (first | refine blk_drewN ?_ _ | refine blk_drew ?_ | refine blk_alloc ?_ _)); exact BK294.out) hb); have n3_ := Aside0.mk (below_step (by repeat (first | (with_reducible first | exact HB.out | apply below_alloc | apply pw_below_drewN | apply below_drew1 | refine below_set ?_ GE294.out) | exact HB.out)) hb); clear HO_9; clear BK294; clear HB; have HO_9 := n0_; have HO309 := n1_; have BK294 := n2_; have HB := n3_; clear n0_ n1_ n2_ n3_; (try clear hb); (try clear hb2); (try clear hk); (try clear hi); (try clear ho0); obtain ⟨Ao47, co47, eo47⟩ := Kd.R_slice HO309.out; subst eo47; have p310 : 0 ≤ ((ji40) : Int) := of_decide_eq_true (by first | (with_reducible assumption) | assumption); have q310 : (ji40) < (t307.length : Int) := of_decide_eq_true (by first | (with_reducible assumption) | assumption); obtain ⟨ad310, e310, hx310_0⟩ := Kd.at_int (Kd.R_reads' HO309.out).2.2 (ji40) p310 q310; cases e310; replace p310 := eq_true p310; replace q310 := eq_true q310; have p43 : 0 ≤ ((ji40) : Int) := of_decide_eq_true (by first | (with_reducible assumption) | assumption); have q43 : ((ji40) : Int) < ((t307.length : Int) : Int) := of_decide_eq_true (by first | (with_reducible assumption) | assumption); obtain ⟨go43, co43, eo43, gb43, gl43, cl43, HG43⟩ := Kd.R_form HO309.out (by omega); (first | cases eo43 | (injection eo43 with ea_ en_ ec_; (first | subst ea_ | (injection ea_ with ea_; subst ea_)); subst ec_; clear en_)); have GB43 := Aside0.mk gb43; have GG43 := Aside0.mk HG43; clear gb43 gl43 HG43; (first | simp only [add_plain] at hx310_0 | skip); obtain ⟨hx43_0, hf43_0⟩ := Kd.R_celln 0 HO309.out ((ji40) : Int) p43 q43; replace p43 := eq_true p43; replace q43 := eq_true q43; have n_ := Aside0.mk (Kd.R_mono (ok' := (fun k_ => some k_ ≠ (.slice Ao20 t297.length co20 : Value).ownBlock)) HO309.out (fun k_ hk => hk.2)); clear HO309; have HO309 := n_; clear n_; obtain ⟨hy48_, hz48_⟩ := Kd.R_celln 0 HO309.out ((ji40) : Int) (of_decide_eq_true (by first | (with_reducible assumption) | assumption)) (of_decide_eq_true (by first | (with_reducible assumption) | assumption)); have HP48 := Kd.R_putg HO309.out ((ji40) : Int) (wrap64 ((rd t307 (ji40)) + 1))) | ((with_reducible refine gate_store (t := 3) (p := 109) rfl ?_); refine store_event (t := 3) (p := 109) (v := ?vo_w49) (w1 := (w46.setCell ⟨go43, ((ji40) : Int).toNat, none⟩ (.int .i64 (wrap64 ((rd t307 (ji40)) + 1))))) ?hg ?ho ?hn ?hr ?_; (case ho => rfl); (case hg => rfl); (case hn => rfl); (case hr => first | (go_simp; done) | (go_simp; rfl)); intro w49 hw; have hg : w46.grownBy w49 (some go43) := (by rw [hw]; exact HP48.2); have hp_ : Kd.R (Kd.int .i64) 3 w49 w.heap.size (fun k_ => some k_ ≠ (.slice Ao20 t297.length co20 : Value).ownBlock) (.slice (some ⟨go43, 0, none⟩) t307.length co47) y311 := (by rw [hw, Ny311.out]; exact HP48.1); clear HP48; have n0_ := Aside0.mk (Kd.R_after (v := (.slice (some ⟨go43, 0, none⟩) t307.length co47)) (v1 := (.slice (some ⟨go43, 0, none⟩) t307.length co47)) (ok := (fun _ => True)) (by (with_reducible repeat (first | apply Kd.R_alloc | apply Kd.R_drewN | apply Kd.R_drew)); exact HO_9.out) hg (.inl rfl)); have n1_ := Aside0.mk (blk_grown (g := gb294) (o := .cells #[.int .i64 a1_0, .int .i64 a1_1] 24 (0, 0)) (by (with_reducible repeat (first | refine blk_drewN ?_ _ | refine blk_drew ?_ | refine blk_alloc ?_ _)); exact BK294.out) hg (Kd.R_ne HO309.out BK294.out (by decide))); have n2_ := Aside0.mk (hp_); have n3_ := Aside0.mk ((by rw [hw]; exact below_set (HB.out) GB43.out : Below w.heap.size w w49)); clear HO_9; clear BK294; clear HO309; clear HB; have HO_9 := n0_; have BK294 := n1_; have HO309 := n2_; have HB := n3_; clear n0_ n1_ n2_ n3_; clear hg hw hp_; have hcz50_0 : w49.cell? ⟨gb294, 0, none⟩ = some (.int .i64 a1_0) := (blk_cell BK294.out 0).trans rfl; have hcz50_1 : w49.cell? ⟨gb294, 1, none⟩ = some (.int .i64 a1_1) := (blk_cell BK294.out 1).trans rfl; have hfz50_0 := blk_frozen BK294.out 0; have hfz50_1 := blk_frozen BK294.out 1) | ((with_reducible refine gate_callee (f := 22) rfl ?_); refine goesL_ (some 115) rfl rfl Try.func22 (by kernel_rfl) rfl #[.slice A0 l0.length c0, .agg #[.int .i64 a1_0, .int .i64 a1_1], .slice (some ad304) l2.length c2, .slice (some ⟨go43, 0, none⟩) y311.length co47] rfl (by (try simp only [List.map_toArray, List.map_cons, List.map_nil]); first | done | (rw [show y311.length = t307.length from (Kd.R_reads' HO309.out).1.symm] <;> rfl) | rfl | (simp only [List.length_drop, List.length_take]; rfl)) ?_; (with_reducible refine (reduce_Check.calls kj32 _ _ l0 a1_0 a1_1 _ _ l2 _ _ y311 t312 t313 _ ?side1 ?side2 ?side3 ?side4 ?side5 ?side6 A44.out).mono ?_); (case side1 => repeat (first | exact (Kd.C_below HR0.out HB.out) | (with_reducible refine Kd.C_alloc ?_ _) | (with_reducible refine Kd.C_drewN ?_ _) | (with_reducible refine Kd.C_drew ?_))); (case side2 => exact HC0.out); (case side3 => repeat (first | exact (Kd.C_below HR2.out HB.out) | (with_reducible refine Kd.C_alloc ?_ _) | (with_reducible refine Kd.C_drewN ?_ _) | (with_reducible refine Kd.C_drew ?_))); (case side4 => exact HC2.out); (case side5 => repeat (first | exact (Kd.R_reads' HO309.out).2.2 | (with_reducible refine Kd.C_alloc ?_ _) | (with_reducible refine Kd.C_drewN ?_ _) | (with_reducible refine Kd.C_drew ?_))); (case side6 => rw [show y311.length = t307.length from (Kd.R_reads' HO309.out).1.symm]; exact (Kd.R_reads' HO309.out).2.1); rintro e w51 ⟨rfl, hb⟩; refine ⟨_, rfl, ?_⟩; have n0_ := Aside0.mk (Kd.R_below (by (with_reducible repeat (first | apply Kd.R_alloc | apply Kd.R_drewN | apply Kd.R_drew)); exact HO_9.out) hb); have n1_ := Aside0.mk (Kd.R_below (by (with_reducible repeat (first | apply Kd.R_alloc | apply Kd.R_drewN | apply Kd.R_drew)); exact HO309.out) hb); have n2_ := Aside0.mk (blk_below (g := gb294) (o := .cells #[.int .i64 a1_0, .int .i64 a1_1] 24 (0, 0)) (by (with_reducible repeat (first | refine blk_drewN ?_ _ | refine blk_drew ?_ | refine blk_alloc ?_ _)); exact BK294.out) hb); have n3_ := Aside0.mk (below_step (by repeat (first | (with_reducible first | exact HB.out | apply below_alloc | apply pw_below_drewN | apply below_drew1 | refine below_set ?_ GE294.out) | exact HB.out)) hb); clear HO_9; clear HO309; clear BK294; clear HB; have HO_9 := n0_; have HO309 := n1_; have BK294 := n2_; have HB := n3_; clear n0_ n1_ n2_ n3_; (try clear hb); (try clear hb2); (try clear hk); (try clear hi)))
                      go_ret
                      exact ⟨by first | rfl | (simp [errW_none, errW_some] <;> rfl) | (simp only [← hji29, ← hji40]; first | rfl | (simp [errW_none, errW_some] <;> rfl)) | (simp [*, errW_none, errW_some] <;> rfl), by repeat (first | (with_reducible first | exact HB.out | apply below_alloc | apply pw_below_drewN | apply below_drew1 | refine below_set ?_ GE294.out) | exact HB.out)⟩
                     ·rw [if_neg c45] at H
                      have c45b0 : (t312 == (ji40)) = false := beq_eq_false_iff_ne.mpr c45
                      have c45b1 : (t312 != (ji40)) = true := bne_iff_ne.mpr c45
                      obtain rfl := Option.some.inj H
                      go_wp2_with (first | ((with_reducible refine gate_callee (f := 23) rfl ?_); refine goesL_ (some 103) rfl rfl Try.func23 (by kernel_rfl) rfl #[.slice Ao20 t297.length co20] rfl (by (try simp only [List.map_toArray, List.map_cons, List.map_nil]); first | done | rfl | (simp only [List.length_drop, List.length_take]; rfl)) ?_; (with_reducible refine (slices_Clone_int_int.calls _ _ t297 t307 _ ?side1 ?side2 A39.out).mono ?_); (case side1 => repeat (first | exact (Kd.R_reads' HO_9.out).2.2 | (with_reducible refine Kd.C_alloc ?_ _) | (with_reducible refine Kd.C_drewN ?_ _) | (with_reducible refine Kd.C_drew ?_))); (case side2 => exact (Kd.R_reads' HO_9.out).2.1); rintro e w52 ⟨v308, rfl, ho0, hb⟩; refine ⟨_, rfl, ?_⟩; have n0_ := Aside0.mk (Kd.R_elder' (by (with_reducible repeat (first | apply Kd.R_alloc | apply Kd.R_drewN | apply Kd.R_drew)); exact HO_9.out) (Kd.R_base ho0) hb); have n1_ := Aside0.mk (Kd.R_lower (Kd.R_new' ho0 (Kd.R_lt (by (with_reducible repeat (first | apply Kd.R_alloc | apply Kd.R_drewN | apply Kd.R_drew)); exact HO_9.out))) (below_size (by repeat (first | (with_reducible first | exact HB.out | apply below_alloc | apply pw_below_drewN | apply below_drew1 | refine below_set ?_ GE294.out) | exact HB.out)))); have n2_ := Aside0.mk (blk_below (g := gb294) (o := .cells #[.int .i64 a1_0, .int .i64 a1_1] 24 (0, 0)) (by (with_reducible repeat (first | refine blk_drewN ?_ _ | refine blk_drew ?_ | refine blk_alloc ?_ _)); exact BK294.out) hb); have n3_ := Aside0.mk (below_step (by repeat (first | (with_reducible first | exact HB.out | apply below_alloc | apply pw_below_drewN | apply below_drew1 | refine below_set ?_ GE294.out) | exact HB.out)) hb); clear HO_9; clear BK294; clear HB; have HO_9 := n0_; have HO309 := n1_; have BK294 := n2_; have HB := n3_; clear n0_ n1_ n2_ n3_; (try clear hb); (try clear hb2); (try clear hk); (try clear hi); (try clear ho0); obtain ⟨Ao53, co53, eo53⟩ := Kd.R_slice HO309.out; subst eo53; have p310 : 0 ≤ ((ji40) : Int) := of_decide_eq_true (by first | (with_reducible assumption) | assumption); have q310 : (ji40) < (t307.length : Int) := of_decide_eq_true (by first | (with_reducible assumption) | assumption); obtain ⟨ad310, e310, hx310_0⟩ := Kd.at_int (Kd.R_reads' HO309.out).2.2 (ji40) p310 q310; cases e310; replace p310 := eq_true p310; replace q310 := eq_true q310; have p43 : 0 ≤ ((ji40) : Int) := of_decide_eq_true (by first | (with_reducible assumption) | assumption); have q43 : ((ji40) : Int) < ((t307.length : Int) : Int) := of_decide_eq_true (by first | (with_reducible assumption) | assumption); obtain ⟨go43, co43, eo43, gb43, gl43, cl43, HG43⟩ := Kd.R_form HO309.out (by omega); (first | cases eo43 | (injection eo43 with ea_ en_ ec_; (first | subst ea_ | (injection ea_ with ea_; subst ea_)); subst ec_; clear en_)); have GB43 := Aside0.mk gb43; have GG43 := Aside0.mk HG43; clear gb43 gl43 HG43; (first | simp only [add_plain] at hx310_0 | skip); obtain ⟨hx43_0, hf43_0⟩ := Kd.R_celln 0 HO309.out ((ji40) : Int) p43 q43; replace p43 := eq_true p43; replace q43 := eq_true q43; have n_ := Aside0.mk (Kd.R_mono (ok' := (fun k_ => some k_ ≠ (.slice Ao20 t297.length co20 : Value).ownBlock)) HO309.out (fun k_ hk => hk.2)); clear HO309; have HO309 := n_; clear n_; obtain ⟨hy54_, hz54_⟩ := Kd.R_celln 0 HO309.out ((ji40) : Int) (of_decide_eq_true (by first | (with_reducible assumption) | assumption)) (of_decide_eq_true (by first | (with_reducible assumption) | assumption)); have HP54 := Kd.R_putg HO309.out ((ji40) : Int) (wrap64 ((rd t307 (ji40)) + 1))) | ((with_reducible refine gate_store (t := 3) (p := 109) rfl ?_); refine store_event (t := 3) (p := 109) (v := ?vo_w55) (w1 := (w52.setCell ⟨go43, ((ji40) : Int).toNat, none⟩ (.int .i64 (wrap64 ((rd t307 (ji40)) + 1))))) ?hg ?ho ?hn ?hr ?_; (case ho => rfl); (case hg => rfl); (case hn => rfl); (case hr => first | (go_simp; done) | (go_simp; rfl)); intro w55 hw; have hg : w52.grownBy w55 (some go43) := (by rw [hw]; exact HP54.2); have hp_ : Kd.R (Kd.int .i64) 3 w55 w.heap.size (fun k_ => some k_ ≠ (.slice Ao20 t297.length co20 : Value).ownBlock) (.slice (some ⟨go43, 0, none⟩) t307.length co53) y311 := (by rw [hw, Ny311.out]; exact HP54.1); clear HP54; have n0_ := Aside0.mk (Kd.R_after (v := (.slice (some ⟨go43, 0, none⟩) t307.length co53)) (v1 := (.slice (some ⟨go43, 0, none⟩) t307.length co53)) (ok := (fun _ => True)) (by (with_reducible repeat (first | apply Kd.R_alloc | apply Kd.R_drewN | apply Kd.R_drew)); exact HO_9.out) hg (.inl rfl)); have n1_ := Aside0.mk (blk_grown (g := gb294) (o := .cells #[.int .i64 a1_0, .int .i64 a1_1] 24 (0, 0)) (by (with_reducible repeat (first | refine blk_drewN ?_ _ | refine blk_drew ?_ | refine blk_alloc ?_ _)); exact BK294.out) hg (Kd.R_ne HO309.out BK294.out (by decide))); have n2_ := Aside0.mk (hp_); have n3_ := Aside0.mk ((by rw [hw]; exact below_set (HB.out) GB43.out : Below w.heap.size w w55)); clear HO_9; clear BK294; clear HO309; clear HB; have HO_9 := n0_; have BK294 := n1_; have HO309 := n2_; have HB := n3_; clear n0_ n1_ n2_ n3_; clear hg hw hp_; have hcz56_0 : w55.cell? ⟨gb294, 0, none⟩ = some (.int .i64 a1_0) := (blk_cell BK294.out 0).trans rfl; have hcz56_1 : w55.cell? ⟨gb294, 1, none⟩ = some (.int .i64 a1_1) := (blk_cell BK294.out 1).trans rfl; have hfz56_0 := blk_frozen BK294.out 0; have hfz56_1 := blk_frozen BK294.out 1) | ((with_reducible refine gate_callee (f := 22) rfl ?_); refine goesL_ (some 115) rfl rfl Try.func22 (by kernel_rfl) rfl #[.slice A0 l0.length c0, .agg #[.int .i64 a1_0, .int .i64 a1_1], .slice (some ad304) l2.length c2, .slice (some ⟨go43, 0, none⟩) y311.length co53] rfl (by (try simp only [List.map_toArray, List.map_cons, List.map_nil]); first | done | (rw [show y311.length = t307.length from (Kd.R_reads' HO309.out).1.symm] <;> rfl) | rfl | (simp only [List.length_drop, List.length_take]; rfl)) ?_; (with_reducible refine (reduce_Check.calls kj32 _ _ l0 a1_0 a1_1 _ _ l2 _ _ y311 t312 t313 _ ?side1 ?side2 ?side3 ?side4 ?side5 ?side6 A44.out).mono ?_); (case side1 => repeat (first | exact (Kd.C_below HR0.out HB.out) | (with_reducible refine Kd.C_alloc ?_ _) | (with_reducible refine Kd.C_drewN ?_ _) | (with_reducible refine Kd.C_drew ?_))); (case side2 => exact HC0.out); (case side3 => repeat (first | exact (Kd.C_below HR2.out HB.out) | (with_reducible refine Kd.C_alloc ?_ _) | (with_reducible refine Kd.C_drewN ?_ _) | (with_reducible refine Kd.C_drew ?_))); (case side4 => exact HC2.out); (case side5 => repeat (first | exact (Kd.R_reads' HO309.out).2.2 | (with_reducible refine Kd.C_alloc ?_ _) | (with_reducible refine Kd.C_drewN ?_ _) | (with_reducible refine Kd.C_drew ?_))); (case side6 => rw [show y311.length = t307.length from (Kd.R_reads' HO309.out).1.symm]; exact (Kd.R_reads' HO309.out).2.1); rintro e w57 ⟨rfl, hb⟩; refine ⟨_, rfl, ?_⟩; have n0_ := Aside0.mk (Kd.R_below (by (with_reducible repeat (first | apply Kd.R_alloc | apply Kd.R_drewN | apply Kd.R_drew)); exact HO_9.out) hb); have n1_ := Aside0.mk (Kd.R_below (by (with_reducible repeat (first | apply Kd.R_alloc | apply Kd.R_drewN | apply Kd.R_drew)); exact HO309.out) hb); have n2_ := Aside0.mk (blk_below (g := gb294) (o := .cells #[.int .i64 a1_0, .int .i64 a1_1] 24 (0, 0)) (by (with_reducible repeat (first | refine blk_drewN ?_ _ | refine blk_drew ?_ | refine blk_alloc ?_ _)); exact BK294.out) hb); have n3_ := Aside0.mk (below_step (by repeat (first | (with_reducible first | exact HB.out | apply below_alloc | apply pw_below_drewN | apply below_drew1 | refine below_set ?_ GE294.out) | exact HB.out)) hb); clear HO_9; clear HO309; clear BK294; clear HB; have HO_9 := n0_; have HO309 := n1_; have BK294 := n2_; have HB := n3_; clear n0_ n1_ n2_ n3_; (try clear hb); (try clear hb2); (try clear hk); (try clear hi)))
                      go_ret
                      exact ⟨by first | rfl | (simp [errW_none, errW_some] <;> rfl) | (simp only [← hji29, ← hji40]; first | rfl | (simp [errW_none, errW_some] <;> rfl)) | (simp [*, errW_none, errW_some] <;> rfl), by repeat (first | (with_reducible first | exact HB.out | apply below_alloc | apply pw_below_drewN | apply below_drew1 | refine below_set ?_ GE294.out) | exact HB.out)⟩
                    ·rw [if_neg c42] at H
                     exact absurd H (by simp)
                   ·rw [if_neg c41] at H
                    exact absurd H (by simp)
              ·rw [if_neg c31] at H
               exact absurd H (by simp)
             ·rw [if_neg c30] at H
              exact absurd H (by simp)
     ·rw [if_neg c14] at H
      have c14b0 : (t300 == 0) = false := beq_eq_false_iff_ne.mpr c14
      have c14b1 : (t300 != 0) = true := bne_iff_ne.mpr c14
      obtain rfl := Option.some.inj H
      have hcz58_0 : wc.cell? ⟨gb294, 0, none⟩ = some (.int .i64 a1_0) := (blk_cell BK294.out 0).trans rfl
      have hcz58_1 : wc.cell? ⟨gb294, 1, none⟩ = some (.int .i64 a1_1) := (blk_cell BK294.out 1).trans rfl
      have hfz58_0 := blk_frozen BK294.out 0
      have hfz58_1 := blk_frozen BK294.out 1
      go_wp2_with (first | ((with_reducible refine gate_callee (f := 21) rfl ?_); refine goesL_ (some 36) rfl rfl Try.func21 (by kernel_rfl) rfl #[.slice A0 l0.length c0, .agg #[.int .i64 a1_0, .int .i64 a1_1], .slice A2 l2.length c2] rfl (by (try simp only [List.map_toArray, List.map_cons, List.map_nil]); first | done | rfl | (simp only [List.length_drop, List.length_take]; rfl)) ?_; (with_reducible refine (reduce_Plan.calls _ _ l0 a1_0 a1_1 _ _ l2 t297 t300 _ ?side1 ?side2 ?side3 ?side4 A13.out).mono ?_); (case side1 => repeat (first | exact (Kd.C_below HR0.out HB.out) | (with_reducible refine Kd.C_alloc ?_ _) | (with_reducible refine Kd.C_drewN ?_ _) | (with_reducible refine Kd.C_drew ?_))); (case side2 => exact HC0.out); (case side3 => repeat (first | exact (Kd.C_below HR2.out HB.out) | (with_reducible refine Kd.C_alloc ?_ _) | (with_reducible refine Kd.C_drewN ?_ _) | (with_reducible refine Kd.C_drew ?_))); (case side4 => exact HC2.out); rintro e w59 ⟨v298, rfl, ho0, hb⟩; refine ⟨_, rfl, ?_⟩; have n0_ := Aside0.mk (Kd.R_lower ho0 (below_size (by repeat (first | (with_reducible first | exact HB.out | apply below_alloc | apply pw_below_drewN | apply below_drew1 | refine below_set ?_ GE294.out) | exact HB.out)))); have n1_ := Aside0.mk (blk_below (g := gb294) (o := .cells #[.int .i64 a1_0, .int .i64 a1_1] 24 (0, 0)) (by (with_reducible repeat (first | refine blk_drewN ?_ _ | refine blk_drew ?_ | refine blk_alloc ?_ _)); exact BK294.out) hb); have n2_ := Aside0.mk (below_step (by repeat (first | (with_reducible first | exact HB.out | apply below_alloc | apply pw_below_drewN | apply below_drew1 | refine below_set ?_ GE294.out) | exact HB.out)) hb); clear BK294; clear HB; have HO299 := n0_; have BK294 := n1_; have HB := n2_; clear n0_ n1_ n2_; (try clear hb); (try clear hb2); (try clear hk); (try clear hi); (try clear ho0); obtain ⟨Ao60, co60, eo60⟩ := Kd.R_slice HO299.out; subst eo60))
      go_ret
      exact ⟨by first | rfl | (simp [errW_none, errW_some] <;> rfl) | (simp [*, errW_none, errW_some] <;> rfl), by repeat (first | (with_reducible first | exact HB.out | apply below_alloc | apply pw_below_drewN | apply below_drew1 | refine below_set ?_ GE294.out) | exact HB.out)⟩
 ·replace c6 := Bool.eq_false_iff.mpr c6
  subst c6
  have H1 : (some false) = some r := by rw [if_neg (show ¬ (false = true) by decide)] at H; exact H
  clear H
  have H := H1
  clear H1
  obtain rfl := Option.some.inj H
  go_enter Try.func8, Try.ntmps8
  go_wp2_with (first | ((with_reducible refine gate_dst (N := 5) rfl ?_); (try (refine gate_guard (by rfl) ?_; dsimp only)); refine box_event ?hg (N := 5) ?hd (cs := #[.int .i64 a1_0, .int .i64 a1_1]) (t := 24) ?hr ?_; (case hd => rfl); (case hg => rfl); (case hr => first | (go_simp; done) | (go_simp; rfl)); intro gb294 hg w61 hbox hb; have n0_ := Aside0.mk (below_step (by repeat (first | (with_reducible first | exact HB.out | apply below_alloc | apply pw_below_drewN | apply below_drew1) | exact HB.out)) hb); have n1_ := Aside0.mk (hbox); have n2_ := Aside0.mk ((by rw [hg]; exact (below_size (by repeat (first | (with_reducible first | exact HB.out | apply below_alloc | apply pw_below_drewN | apply below_drew1) | exact HB.out))) : w.heap.size ≤ gb294)); have n3_ := Aside0.mk ((by rw [hg]; exact (below_size (by repeat (first | (with_reducible first | exact HB.out | apply below_alloc | apply pw_below_drewN | apply below_drew1) | exact HB.out))) : w.heap.size ≤ gb294)); clear HB; have HB := n0_; have BK294 := n1_; have GW294 := n2_; have GE294 := n3_; clear n0_ n1_ n2_ n3_; clear hb hbox hg) | ((with_reducible refine gate_callee (f := 10) rfl ?_); refine goesL_ (some 22) rfl rfl Try.func10 (by kernel_rfl) rfl #[] rfl (by (try simp only [List.map_toArray, List.map_cons, List.map_nil]); first | done | rfl | (simp only [List.length_drop, List.length_take]; rfl)) ?_; (with_reducible refine (spilelaw28_awake.calls  false _ A5.out).mono ?_); rintro e w62 ⟨rfl, hb⟩; refine ⟨_, rfl, ?_⟩; have n0_ := Aside0.mk (blk_below (g := gb294) (o := .cells #[.int .i64 a1_0, .int .i64 a1_1] 24 (0, 0)) (by (with_reducible repeat (first | refine blk_drewN ?_ _ | refine blk_drew ?_ | refine blk_alloc ?_ _)); exact BK294.out) hb); have n1_ := Aside0.mk (below_step (by repeat (first | (with_reducible first | exact HB.out | apply below_alloc | apply pw_below_drewN | apply below_drew1 | refine below_set ?_ GE294.out) | exact HB.out)) hb); clear BK294; clear HB; have BK294 := n0_; have HB := n1_; clear n0_ n1_; (try clear hb); (try clear hb2); (try clear hk); (try clear hi)))
  go_ret
  exact ⟨by first | rfl | (simp [errW_none, errW_some] <;> rfl) | (simp [*, errW_none, errW_some] <;> rfl), by repeat (first | (with_reducible first | exact HB.out | apply below_alloc | apply pw_below_drewN | apply below_drew1 | refine below_set ?_ GE294.out) | exact HB.out)⟩

end Go.Proofs.Ytdggkgkbjgigmaa.PF
