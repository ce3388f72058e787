-- Written by a program of this session (wip/pr.py) out of Lean's print of the translation; Lean checks it.
import Derived.Test.YtodfjkdgfjkifaaPF0
import Derived.Test.YtodfjkdgfjkifaaPF5
namespace Go.Proofs.Ytodfjkdgfjkifaa.PF
open Go.RowKit Go.Proofs.YtodfjkdgfjkifaaW.PrintWords Go.Proofs.YtodfjkdgfjkifaaW.PrintLast Go.Proofs.YtodfjkdgfjkifaaW.PrintMore
attribute [local go_sem] max2_int min2_int max_two min_two max_three min_three max_four min_four   -- for this text's walks alone
set_option linter.unusedVariables false
set_option linter.unusedSimpArgs false

/-! ### spileref36_Merge: function 16 -/
mutual
def spileref36_Merge.j0 : Nat → Int → Bool → Int → List (S28) → Option (Int × (List (S28)) × Int)
 | 0, _, _, _, _ => none
 | k + 1, x1, x23, x181000, x181001 => if x23 = true then (some (0, ([] : List (S28)), 2)) else (spileref36_Merge.l0 k x1 0 x181000 x181001 (wrap64 (x181000 - 1)) (([] : List (S28))))
def spileref36_Merge.l0 : Nat → Int → Int → Int → List (S28) → Int → List (S28) → Option (Int × (List (S28)) × Int)
 | 0, _, _, _, _, _, _ => none
 | k + 1, x1, x7, x181000, x181001, x187000, x187001 => if x7 < (x181001.length : Int) then (if 0 ≤ x7 then (if ((rd_T28 x181001 x7).f0) > x1 then (spileref36_Merge.j2 k x1 x7 x181000 x181001 x187000 x187001 (wrap64 (((rd_T28 x181001 x7).f0) - 1)) ((rd_T28 x181001 x7).f1) ((rd_T28 x181001 x7).f2) ((rd_T28 x181001 x7).f3)) else (spileref36_Merge.j2 k x1 x7 x181000 x181001 x187000 x187001 ((rd_T28 x181001 x7).f0) ((rd_T28 x181001 x7).f1) ((rd_T28 x181001 x7).f2) ((rd_T28 x181001 x7).f3))) else (none)) else (spileref36_Merge.l2 k 0 x187000 x187001)
def spileref36_Merge.j2 : Nat → Int → Int → Int → List (S28) → Int → List (S28) → Int → Int → Int → Int → Option (Int × (List (S28)) × Int)
 | 0, _, _, _, _, _, _, _, _, _, _ => none
 | k + 1, x1, x7, x181000, x181001, x187000, x187001, x189000, x189001, x189002, x189003 => if x189001 > x1 then (spileref36_Merge.j3 k x1 x7 x181000 x181001 x187000 x187001 x189000 (wrap64 (x189001 - 1)) x189002 x189003) else (spileref36_Merge.j3 k x1 x7 x181000 x181001 x187000 x187001 x189000 x189001 x189002 x189003)
def spileref36_Merge.j3 : Nat → Int → Int → Int → List (S28) → Int → List (S28) → Int → Int → Int → Int → Option (Int × (List (S28)) × Int)
 | 0, _, _, _, _, _, _, _, _, _, _ => none
 | k + 1, x1, x7, x181000, x181001, x187000, x187001, x189000, x189001, x189002, x189003 => if x189000 = x189001 then (spileref36_Merge.l0 k x1 (wrap64 (x7 + 1)) x181000 x181001 x187000 x187001) else (spileref36_Merge.l1 k x1 x7 false 0 x181000 x181001 x187000 x187001 x189000 x189001 x189002 x189003)
def spileref36_Merge.l1 : Nat → Int → Int → Bool → Int → Int → List (S28) → Int → List (S28) → Int → Int → Int → Int → Option (Int × (List (S28)) × Int)
 | 0, _, _, _, _, _, _, _, _, _, _, _, _ => none
 | k + 1, x1, x7, x9, x10, x181000, x181001, x187000, x187001, x189000, x189001, x189002, x189003 => if x10 < (x187001.length : Int) then (if 0 ≤ x10 then (if ((rd_T28 x187001 x10).f0) = x189000 then (if ((rd_T28 x187001 x10).f1) = x189001 then ((some (x187001.set (x10 : Int).toNat (⟨(rd_T28 x187001 x10).f0, (rd_T28 x187001 x10).f1, wrap64 (((rd_T28 x187001 x10).f2) + x189002), (rd_T28 x187001 x10).f3⟩ : S28) : List (S28))).bind fun y192 => (spileref36_Merge.l1 k x1 x7 true (wrap64 (x10 + 1)) x181000 x181001 x187000 (y192.set (x10 : Int).toNat (⟨(rd_T28 y192 x10).f0, (rd_T28 y192 x10).f1, (rd_T28 y192 x10).f2, wrap64 (((rd_T28 y192 x10).f3) + x189003)⟩ : S28)) x189000 x189001 x189002 x189003)) else (spileref36_Merge.l1 k x1 x7 x9 (wrap64 (x10 + 1)) x181000 x181001 x187000 x187001 x189000 x189001 x189002 x189003)) else (spileref36_Merge.l1 k x1 x7 x9 (wrap64 (x10 + 1)) x181000 x181001 x187000 x187001 x189000 x189001 x189002 x189003)) else (none)) else (if x9 = true then (spileref36_Merge.l0 k x1 (wrap64 (x7 + 1)) x181000 x181001 x187000 x187001) else (if x187001.length < 4398046511104 then (spileref36_Merge.l0 k x1 (wrap64 (x7 + 1)) x181000 x181001 x187000 (x187001 ++ [(⟨x189000, x189001, x189002, x189003⟩ : S28)])) else (none)))
def spileref36_Merge.l2 : Nat → Int → Int → List (S28) → Option (Int × (List (S28)) × Int)
 | 0, _, _, _ => none
 | k + 1, x11, x187000, x187001 => if x11 < (x187001.length : Int) then (if 0 ≤ x11 then (if ((rd_T28 x187001 x11).f2) > 10737418240000 then (some (0, ([] : List (S28)), 15)) else (if ((rd_T28 x187001 x11).f3) > 128849018880000 then (some (0, ([] : List (S28)), 15)) else (spileref36_Merge.l2 k (wrap64 (x11 + 1)) x187000 x187001))) else (none)) else (some (x187000, x187001, 0))
end
def spileref36_Merge.f (k : Nat) (a0_0 : Int) (l0_1 : List (S28)) (a1 : Int) : Option (Int × (List (S28)) × Int) := (spileref36_right.f k a0_0 l0_1).bind fun t182 => (if t182 = true then (if a1 < 1 then (spileref36_Merge.j0 k a1 true a0_0 l0_1) else (spileref36_Merge.j0 k a1 (decide (a1 ≥ a0_0)) a0_0 l0_1)) else (some (0, ([] : List (S28)), 1)))
theorem spileref36_Merge.mono_l : ∀ k, (∀ y0 y1 y2 y3, LeO (spileref36_Merge.j0 k y0 y1 y2 y3) (spileref36_Merge.j0 (k + 1) y0 y1 y2 y3)) ∧ (∀ y0 y1 y2 y3 y4 y5, LeO (spileref36_Merge.l0 k y0 y1 y2 y3 y4 y5) (spileref36_Merge.l0 (k + 1) y0 y1 y2 y3 y4 y5)) ∧ (∀ y0 y1 y2 y3 y4 y5 y6 y7 y8 y9, LeO (spileref36_Merge.j2 k y0 y1 y2 y3 y4 y5 y6 y7 y8 y9) (spileref36_Merge.j2 (k + 1) y0 y1 y2 y3 y4 y5 y6 y7 y8 y9)) ∧ (∀ y0 y1 y2 y3 y4 y5 y6 y7 y8 y9, LeO (spileref36_Merge.j3 k y0 y1 y2 y3 y4 y5 y6 y7 y8 y9) (spileref36_Merge.j3 (k + 1) y0 y1 y2 y3 y4 y5 y6 y7 y8 y9)) ∧ (∀ y0 y1 y2 y3 y4 y5 y6 y7 y8 y9 y10 y11, LeO (spileref36_Merge.l1 k y0 y1 y2 y3 y4 y5 y6 y7 y8 y9 y10 y11) (spileref36_Merge.l1 (k + 1) y0 y1 y2 y3 y4 y5 y6 y7 y8 y9 y10 y11)) ∧ (∀ y0 y1 y2, LeO (spileref36_Merge.l2 k y0 y1 y2) (spileref36_Merge.l2 (k + 1) y0 y1 y2))
 | 0 => ⟨fun _ _ _ _ r h => by simp [spileref36_Merge.j0] at h, fun _ _ _ _ _ _ r h => by simp [spileref36_Merge.l0] at h, fun _ _ _ _ _ _ _ _ _ _ r h => by simp [spileref36_Merge.j2] at h, fun _ _ _ _ _ _ _ _ _ _ r h => by simp [spileref36_Merge.j3] at h, fun _ _ _ _ _ _ _ _ _ _ _ _ r h => by simp [spileref36_Merge.l1] at h, fun _ _ _ r h => by simp [spileref36_Merge.l2] at h⟩
 | k + 1 => by
  obtain ⟨ih0, ih1, ih2, ih3, ih4, ih5⟩ := spileref36_Merge.mono_l k
  refine ⟨?_, ?_, ?_, ?_, ?_, ?_⟩
  ·intro y0 y1 y2 y3
   unfold spileref36_Merge.j0
   repeat' first
   | (with_reducible exact ih0 _ _ _ _)
   | (with_reducible exact ih1 _ _ _ _ _ _)
   | (with_reducible exact ih2 _ _ _ _ _ _ _ _ _ _)
   | (with_reducible exact ih3 _ _ _ _ _ _ _ _ _ _)
   | (with_reducible exact ih4 _ _ _ _ _ _ _ _ _ _ _ _)
   | (with_reducible exact ih5 _ _ _)
   | (with_reducible exact spileref36_right.mono _ _ _)
   | (with_reducible exact LeO.refl _)
   | (with_reducible exact LeO.none _)
   | (with_reducible refine LeO.ite ?_ ?_)
   | (with_reducible refine LeO.bind ?_ (fun _ => ?_))
   | exact ih0 _ _ _ _
   | exact ih1 _ _ _ _ _ _
   | exact ih2 _ _ _ _ _ _ _ _ _ _
   | exact ih3 _ _ _ _ _ _ _ _ _ _
   | exact ih4 _ _ _ _ _ _ _ _ _ _ _ _
   | exact ih5 _ _ _
   | exact spileref36_right.mono _ _ _
   | exact LeO.none _
   | refine LeO.ite ?_ ?_
   | refine LeO.bind ?_ (fun _ => ?_)
  ·intro y0 y1 y2 y3 y4 y5
   unfold spileref36_Merge.l0
   repeat' first
   | (with_reducible exact ih0 _ _ _ _)
   | (with_reducible exact ih1 _ _ _ _ _ _)
   | (with_reducible exact ih2 _ _ _ _ _ _ _ _ _ _)
   | (with_reducible exact ih3 _ _ _ _ _ _ _ _ _ _)
   | (with_reducible exact ih4 _ _ _ _ _ _ _ _ _ _ _ _)
   | (with_reducible exact ih5 _ _ _)
   | (with_reducible exact spileref36_right.mono _ _ _)
   | (with_reducible exact LeO.refl _)
   | (with_reducible exact LeO.none _)
   | (with_reducible refine LeO.ite ?_ ?_)
   | (with_reducible refine LeO.bind ?_ (fun _ => ?_))
   | exact ih0 _ _ _ _
   | exact ih1 _ _ _ _ _ _
   | exact ih2 _ _ _ _ _ _ _ _ _ _
   | exact ih3 _ _ _ _ _ _ _ _ _ _
   | exact ih4 _ _ _ _ _ _ _ _ _ _ _ _
   | exact ih5 _ _ _
   | exact spileref36_right.mono _ _ _
   | exact LeO.none _
   | refine LeO.ite ?_ ?_
   | refine LeO.bind ?_ (fun _ => ?_)
  ·intro y0 y1 y2 y3 y4 y5 y6 y7 y8 y9
   unfold spileref36_Merge.j2
   repeat' first
   | (with_reducible exact ih0 _ _ _ _)
   | (with_reducible exact ih1 _ _ _ _ _ _)
   | (with_reducible exact ih2 _ _ _ _ _ _ _ _ _ _)
   | (with_reducible exact ih3 _ _ _ _ _ _ _ _ _ _)
   | (with_reducible exact ih4 _ _ _ _ _ _ _ _ _ _ _ _)
   | (with_reducible exact ih5 _ _ _)
   | (with_reducible exact spileref36_right.mono _ _ _)
   | (with_reducible exact LeO.refl _)
   | (with_reducible exact LeO.none _)
   | (with_reducible refine LeO.ite ?_ ?_)
   | (with_reducible refine LeO.bind ?_ (fun _ => ?_))
   | exact ih0 _ _ _ _
   | exact ih1 _ _ _ _ _ _
   | exact ih2 _ _ _ _ _ _ _ _ _ _
   | exact ih3 _ _ _ _ _ _ _ _ _ _
   | exact ih4 _ _ _ _ _ _ _ _ _ _ _ _
   | exact ih5 _ _ _
   | exact spileref36_right.mono _ _ _
   | exact LeO.none _
   | refine LeO.ite ?_ ?_
   | refine LeO.bind ?_ (fun _ => ?_)
  ·intro y0 y1 y2 y3 y4 y5 y6 y7 y8 y9
   unfold spileref36_Merge.j3
   repeat' first
   | (with_reducible exact ih0 _ _ _ _)
   | (with_reducible exact ih1 _ _ _ _ _ _)
   | (with_reducible exact ih2 _ _ _ _ _ _ _ _ _ _)
   | (with_reducible exact ih3 _ _ _ _ _ _ _ _ _ _)
   | (with_reducible exact ih4 _ _ _ _ _ _ _ _ _ _ _ _)
   | (with_reducible exact ih5 _ _ _)
   | (with_reducible exact spileref36_right.mono _ _ _)
   | (with_reducible exact LeO.refl _)
   | (with_reducible exact LeO.none _)
   | (with_reducible refine LeO.ite ?_ ?_)
   | (with_reducible refine LeO.bind ?_ (fun _ => ?_))
   | exact ih0 _ _ _ _
   | exact ih1 _ _ _ _ _ _
   | exact ih2 _ _ _ _ _ _ _ _ _ _
   | exact ih3 _ _ _ _ _ _ _ _ _ _
   | exact ih4 _ _ _ _ _ _ _ _ _ _ _ _
   | exact ih5 _ _ _
   | exact spileref36_right.mono _ _ _
   | exact LeO.none _
   | refine LeO.ite ?_ ?_
   | refine LeO.bind ?_ (fun _ => ?_)
  ·intro y0 y1 y2 y3 y4 y5 y6 y7 y8 y9 y10 y11
   unfold spileref36_Merge.l1
   repeat' first
   | (with_reducible exact ih0 _ _ _ _)
   | (with_reducible exact ih1 _ _ _ _ _ _)
   | (with_reducible exact ih2 _ _ _ _ _ _ _ _ _ _)
   | (with_reducible exact ih3 _ _ _ _ _ _ _ _ _ _)
   | (with_reducible exact ih4 _ _ _ _ _ _ _ _ _ _ _ _)
   | (with_reducible exact ih5 _ _ _)
   | (with_reducible exact spileref36_right.mono _ _ _)
   | (with_reducible exact LeO.refl _)
   | (with_reducible exact LeO.none _)
   | (with_reducible refine LeO.ite ?_ ?_)
   | (with_reducible refine LeO.bind ?_ (fun _ => ?_))
   | exact ih0 _ _ _ _
   | exact ih1 _ _ _ _ _ _
   | exact ih2 _ _ _ _ _ _ _ _ _ _
   | exact ih3 _ _ _ _ _ _ _ _ _ _
   | exact ih4 _ _ _ _ _ _ _ _ _ _ _ _
   | exact ih5 _ _ _
   | exact spileref36_right.mono _ _ _
   | exact LeO.none _
   | refine LeO.ite ?_ ?_
   | refine LeO.bind ?_ (fun _ => ?_)
  ·intro y0 y1 y2
   unfold spileref36_Merge.l2
   repeat' first
   | (with_reducible exact ih0 _ _ _ _)
   | (with_reducible exact ih1 _ _ _ _ _ _)
   | (with_reducible exact ih2 _ _ _ _ _ _ _ _ _ _)
   | (with_reducible exact ih3 _ _ _ _ _ _ _ _ _ _)
   | (with_reducible exact ih4 _ _ _ _ _ _ _ _ _ _ _ _)
   | (with_reducible exact ih5 _ _ _)
   | (with_reducible exact spileref36_right.mono _ _ _)
   | (with_reducible exact LeO.refl _)
   | (with_reducible exact LeO.none _)
   | (with_reducible refine LeO.ite ?_ ?_)
   | (with_reducible refine LeO.bind ?_ (fun _ => ?_))
   | exact ih0 _ _ _ _
   | exact ih1 _ _ _ _ _ _
   | exact ih2 _ _ _ _ _ _ _ _ _ _
   | exact ih3 _ _ _ _ _ _ _ _ _ _
   | exact ih4 _ _ _ _ _ _ _ _ _ _ _ _
   | exact ih5 _ _ _
   | exact spileref36_right.mono _ _ _
   | exact LeO.none _
   | refine LeO.ite ?_ ?_
   | refine LeO.bind ?_ (fun _ => ?_)
theorem spileref36_Merge.mono : ∀ a0 a1 a2 k, LeO (spileref36_Merge.f k a0 a1 a2) (spileref36_Merge.f (k + 1) a0 a1 a2) := by
 intro a0 a1 a2 k
 obtain ⟨ih0, ih1, ih2, ih3, ih4, ih5⟩ := spileref36_Merge.mono_l k
 unfold spileref36_Merge.f
 repeat' first
   | (with_reducible exact ih0 _ _ _ _)
   | (with_reducible exact ih1 _ _ _ _ _ _)
   | (with_reducible exact ih2 _ _ _ _ _ _ _ _ _ _)
   | (with_reducible exact ih3 _ _ _ _ _ _ _ _ _ _)
   | (with_reducible exact ih4 _ _ _ _ _ _ _ _ _ _ _ _)
   | (with_reducible exact ih5 _ _ _)
   | (with_reducible exact spileref36_right.mono _ _ _)
   | (with_reducible exact LeO.refl _)
   | (with_reducible exact LeO.none _)
   | (with_reducible refine LeO.ite ?_ ?_)
   | (with_reducible refine LeO.bind ?_ (fun _ => ?_))
   | exact ih0 _ _ _ _
   | exact ih1 _ _ _ _ _ _
   | exact ih2 _ _ _ _ _ _ _ _ _ _
   | exact ih3 _ _ _ _ _ _ _ _ _ _
   | exact ih4 _ _ _ _ _ _ _ _ _ _ _ _
   | exact ih5 _ _ _
   | exact spileref36_right.mono _ _ _
   | exact LeO.none _
   | refine LeO.ite ?_ ?_
   | refine LeO.bind ?_ (fun _ => ?_)
def spileref36_Merge.T19 : Bool × List (List Nat × List Nat) := (true, [([], []), ([0], [0]), ([], []), ([1, 2], [1, 2]), ([3], [3]), ([4], [4]), ([], []), ([6], [6]), ([5, 7], [5, 7]), ([8], [8]), ([9], [9]), ([10, 9], [9, 10]), ([9], [9]), ([11, 12, 9], [9, 11, 12]), ([13, 9], [9, 13]), ([14, 9], [9, 14]), ([9], [9]), ([16, 9], [9, 16]), ([15, 17, 9], [9, 15, 17]), ([9, 18], [9, 18])])
def spileref36_Merge.B19 : List Nat := [0, 1, 0, 7, 15, 31, 0, 64, 255, 511, 1023, 2047, 1023, 8191, 16383, 32767, 1023, 66559, 262143, 524287]
theorem spileref36_Merge.tab19 : rtab .any (opsOf Try.f16 19) = spileref36_Merge.T19 := by kernel_rfl
theorem spileref36_Merge.bits19 : waitsOk spileref36_Merge.T19.2 spileref36_Merge.B19 = true := by kernel_rfl
def spileref36_Merge.T20 : Bool × List (List Nat × List Nat) := (true, [([], []), ([0], [0]), ([], []), ([], []), ([3], [3]), ([], []), ([4, 5], [4, 5]), ([6], [6]), ([7], [7]), ([], []), ([9], [9]), ([8, 10], [8, 10]), ([1, 2, 0, 1, 2, 3, 4, 5, 6, 7, 8, 9, 10, 11], [1, 2]), ([12, 0, 1, 2, 3, 4, 5, 6, 7, 8, 9, 10, 11], [12]), ([13, 11, 0, 1, 2, 3, 4, 5, 6, 7, 8, 9, 10, 11], [11, 13])])
def spileref36_Merge.B20 : List Nat := [0, 1, 0, 0, 8, 0, 56, 120, 248, 0, 512, 2040, 4095, 8191, 16383]
theorem spileref36_Merge.tab20 : rtab .any (opsOf Try.f16 20) = spileref36_Merge.T20 := by kernel_rfl
theorem spileref36_Merge.bits20 : waitsOk spileref36_Merge.T20.2 spileref36_Merge.B20 = true := by kernel_rfl
def spileref36_Merge.T21 : Bool × List (List Nat × List Nat) := (true, [([], []), ([0], [0]), ([], []), ([], []), ([3], [3]), ([], []), ([4, 5], [4, 5]), ([6], [6]), ([7], [7]), ([], []), ([9], [9]), ([8, 10], [8, 10]), ([1, 2, 0, 1, 2, 3, 4, 5, 6, 7, 8, 9, 10, 11], [1, 2]), ([12, 0, 1, 2, 3, 4, 5, 6, 7, 8, 9, 10, 11], [12]), ([13, 11, 0, 1, 2, 3, 4, 5, 6, 7, 8, 9, 10, 11], [11, 13])])
def spileref36_Merge.B21 : List Nat := [0, 1, 0, 0, 8, 0, 56, 120, 248, 0, 512, 2040, 4095, 8191, 16383]
theorem spileref36_Merge.tab21 : rtab .any (opsOf Try.f16 21) = spileref36_Merge.T21 := by kernel_rfl
theorem spileref36_Merge.bits21 : waitsOk spileref36_Merge.T21.2 spileref36_Merge.B21 = true := by kernel_rfl
set_option maxHeartbeats 8000000 in
set_option maxRecDepth 100000 in
theorem spileref36_Merge.calls (k : Nat) (a0_0 : Int) (A0_1 : Option Addr) (c0_1 : Nat) (l0_1 : List (S28)) (a1 : Int) (r1 : Int) (r2 : List (S28)) (r3 : Int) (w : World) (hr0_1 : Kd.C k28 w A0_1 l0_1.length l0_1) (hc0_1 : l0_1.length ≤ c0_1) (h : spileref36_Merge.f k a0_0 l0_1 a1 = some (r1, r2, r3)) :
  Calls Try.prog 16 #[.agg #[.int .i64 a0_0, .slice A0_1 l0_1.length c0_1], .int .i64 a1] w fun e w' => ∃ v1_ : Value, e = .returned (.tuple #[.agg #[.int .i64 r1, v1_], .int .i64 r3]) ∧ Kd.R k28 28 w' w.heap.size (fun _ => True) v1_ r2 ∧ Below w.heap.size w w' := by
 have hu24 := Try.underlying24
 have hu28 := Try.underlying28
 have HR0_1 := Aside0.mk hr0_1
 have HC0_1 := Aside0.mk hc0_1
 clear hr0_1 hc0_1
 have HB := Aside0.mk (Below.refl w.heap.size w)
 have H : ((spileref36_right.f k a0_0 l0_1).bind fun t182 => (if t182 = true then (if a1 < 1 then (spileref36_Merge.j0 k a1 true a0_0 l0_1) else (spileref36_Merge.j0 k a1 (decide (a1 ≥ a0_0)) a0_0 l0_1)) else (some (0, ([] : List (S28)), 1)))) = some (r1, r2, r3) := h
 clear h
 replace H := Option.bind_eq_some_iff.mp H
 obtain ⟨t182, A30, H⟩ := H
 replace H : (if t182 = true then (if a1 < 1 then (spileref36_Merge.j0 k a1 true a0_0 l0_1) else (spileref36_Merge.j0 k a1 (decide (a1 ≥ a0_0)) a0_0 l0_1)) else (some (0, ([] : List (S28)), 1))) = some (r1, r2, r3) := H
 have A3 := Aside0.mk A30
 clear A30
 by_cases c4 : t182 = true
 ·subst c4
  have H1 : (if a1 < 1 then (spileref36_Merge.j0 k a1 true a0_0 l0_1) else (spileref36_Merge.j0 k a1 (decide (a1 ≥ a0_0)) a0_0 l0_1)) = some (r1, r2, r3) := by rw [if_pos rfl] at H; exact H
  clear H
  have H := H1
  clear H1
  have HC5 := Aside0.mk H
  clear H
  go_enter Try.func16, Try.ntmps16
  go_upto_region 3 with (first | ((with_reducible refine gate_dst (N := 2) rfl ?_); refine box_event ?hg (N := 2) ?hd (cs := #[.int .i64 a0_0, .slice A0_1 l0_1.length c0_1]) (t := 24) ?hr ?_; (case hd => rfl); (case hg => rfl); (case hr => first | (go_simp; done) | (go_simp; rfl)); intro gb180 hg w6 hbox hb; have n0_ := Aside0.mk (below_step (by repeat (first | (with_reducible first | exact HB.out | apply below_alloc | apply pw_below_drewN | apply below_drew1) | exact HB.out)) hb); have n1_ := Aside0.mk (hbox); have n2_ := Aside0.mk ((by rw [hg]; exact (below_size (by repeat (first | (with_reducible first | exact HB.out | apply below_alloc | apply pw_below_drewN | apply below_drew1) | exact HB.out))) : w.heap.size ≤ gb180)); have n3_ := Aside0.mk ((by rw [hg]; exact (below_size (by repeat (first | (with_reducible first | exact HB.out | apply below_alloc | apply pw_below_drewN | apply below_drew1) | exact HB.out))) : w.heap.size ≤ gb180)); clear HB; have HB := n0_; have BK180 := n1_; have GW180 := n2_; have GE180 := n3_; clear n0_ n1_ n2_ n3_; clear hb hbox hg) | ((with_reducible refine gate_dst (N := 4) rfl ?_); refine box_event ?hg (N := 4) ?hd (cs := #[.int .i64 0, .slice none 0 0]) (t := 24) ?hr ?_; (case hd => rfl); (case hg => rfl); (case hr => first | (go_simp; done) | (go_simp; rfl)); intro gb181 hg w7 hbox hb; have n0_ := Aside0.mk (blk_below (g := gb180) (o := .cells #[.int .i64 a0_0, .slice A0_1 l0_1.length c0_1] 24 (0, 0)) (by (with_reducible repeat (first | refine blk_drewN ?_ _ | refine blk_drew ?_ | refine blk_alloc ?_ _)); exact BK180.out) hb); have n1_ := Aside0.mk (below_step (by repeat (first | (with_reducible first | exact HB.out | apply below_alloc | apply pw_below_drewN | apply below_drew1 | refine below_set ?_ GE180.out) | exact HB.out)) hb); have n2_ := Aside0.mk (hbox); have n3_ := Aside0.mk ((by rw [hg]; exact (below_size (by repeat (first | (with_reducible first | exact HB.out | apply below_alloc | apply pw_below_drewN | apply below_drew1 | refine below_set ?_ GE180.out) | exact HB.out))) : w.heap.size ≤ gb181)); have n4_ := Aside0.mk ((by rw [hg]; exact (below_size (by repeat (first | (with_reducible first | exact HB.out | apply below_alloc | apply pw_below_drewN | apply below_drew1 | refine below_set ?_ GE180.out) | exact HB.out))) : w.heap.size ≤ gb181)); have n5_ := Aside0.mk ((by rw [hg]; exact Nat.ne_of_lt (blk_lt (g := gb180) (o := .cells #[.int .i64 a0_0, .slice A0_1 l0_1.length c0_1] 24 (0, 0)) (by (with_reducible repeat (first | refine blk_drewN ?_ _ | refine blk_drew ?_ | refine blk_alloc ?_ _)); exact BK180.out)) : gb180 ≠ gb181)); have n6_ := Aside0.mk ((by rw [hg]; exact Nat.ne_of_gt (blk_lt (g := gb180) (o := .cells #[.int .i64 a0_0, .slice A0_1 l0_1.length c0_1] 24 (0, 0)) (by (with_reducible repeat (first | refine blk_drewN ?_ _ | refine blk_drew ?_ | refine blk_alloc ?_ _)); exact BK180.out)) : gb181 ≠ gb180)); clear BK180; clear HB; have BK180 := n0_; have HB := n1_; have BK181 := n2_; have GW181 := n3_; have GE181 := n4_; have NB180_181 := n5_; have NB181_180 := n6_; clear n0_ n1_ n2_ n3_ n4_ n5_ n6_; clear hb hbox hg; have hnb8 := NB180_181.out; have hnc8 := NB181_180.out; have hcz9_0 : w7.cell? ⟨gb180, 0, none⟩ = some (.int .i64 a0_0) := (blk_cell BK180.out 0).trans rfl; have hcz9_1 : w7.cell? ⟨gb180, 1, none⟩ = some (.slice A0_1 l0_1.length c0_1) := (blk_cell BK180.out 1).trans rfl; have hfz9_0 := blk_frozen BK180.out 0; have hfz9_1 := blk_frozen BK180.out 1) | ((with_reducible refine gate_callee (f := 36) rfl ?_); refine goesL_ (some 13) rfl rfl Try.func36 (by kernel_rfl) rfl #[.agg #[.int .i64 a0_0, .slice A0_1 l0_1.length c0_1]] rfl (by (try simp only [List.map_toArray, List.map_cons, List.map_nil]); first | done | rfl | (simp only [List.length_drop, List.length_take]; rfl)) ?_; (with_reducible refine (spileref36_right.calls k a0_0 _ _ l0_1 true _ ?side1 ?side2 A3.out).mono ?_); (case side1 => repeat (first | exact (Kd.C_below HR0_1.out HB.out) | (with_reducible refine Kd.C_alloc ?_ _) | (with_reducible refine Kd.C_drewN ?_ _) | (with_reducible refine Kd.C_drew ?_))); (case side2 => exact HC0_1.out); rintro e w10 ⟨rfl, hb⟩; refine ⟨_, rfl, ?_⟩; have n0_ := Aside0.mk (blk_below (g := gb180) (o := .cells #[.int .i64 a0_0, .slice A0_1 l0_1.length c0_1] 24 (0, 0)) (by (with_reducible repeat (first | refine blk_drewN ?_ _ | refine blk_drew ?_ | refine blk_alloc ?_ _)); exact BK180.out) hb); have n1_ := Aside0.mk (blk_below (g := gb181) (o := .cells #[.int .i64 0, .slice none 0 0] 24 (0, 0)) (by (with_reducible repeat (first | refine blk_drewN ?_ _ | refine blk_drew ?_ | refine blk_alloc ?_ _)); exact BK181.out) hb); have n2_ := Aside0.mk (below_step (by repeat (first | (with_reducible first | exact HB.out | apply below_alloc | apply pw_below_drewN | apply below_drew1 | refine below_set ?_ GE180.out | refine below_set ?_ GE181.out) | exact HB.out)) hb); clear BK180; clear BK181; clear HB; have BK180 := n0_; have BK181 := n1_; have HB := n2_; clear n0_ n1_ n2_; (try clear hb); (try clear hb2); (try clear hk); (try clear hi)))
  (try simp only [Act.put, List.setIfInBounds_toArray, List.set_cons_zero, List.set_cons_succ])
  go_cut [23] (fun v23 wc => ∃ (kq : Nat) (x23_4 : Bool), v23 = .bool x23_4 ∧ Aside0 (spileref36_Merge.j0 kq a1 x23_4 a0_0 l0_1 = some (r1, r2, r3)) ∧ Aside0 (kq ≤ k) ∧ Aside0 (wc.heap[gb180]? = some (.cells #[.int .i64 a0_0, (.slice A0_1 l0_1.length c0_1)] 24 (0, 0))) ∧ Aside0 (wc.heap[gb181]? = some (.cells #[.int .i64 0, (.slice none 0 0)] 24 (0, 0))) ∧ Aside0 (Below w.heap.size w wc))
  case first =>
   have H := HC5.out
   clear HC5
   by_cases c11 : a1 < 1
   ·rw [if_pos c11] at H
    have c11b0 : decide (a1 < 1) = true := decide_eq_true c11
    clear c11
    (first | rw [c11b0] | (simp only [i64_w, i32_w]; rw [c11b0]) | skip)
    have H' := Aside0.mk H
    clear H
    go_wp2
    go_meet
    case rel => exact ⟨_, (true), (by first | rfl | (simp; done) | (simp [*]; done)), H', ⟨by first | omega | exact Nat.le_refl _⟩, ⟨by (with_reducible repeat (first | refine blk_drewN ?_ _ | refine blk_drew ?_ | refine blk_alloc ?_ _)); exact BK180.out⟩, ⟨by (with_reducible repeat (first | refine blk_drewN ?_ _ | refine blk_drew ?_ | refine blk_alloc ?_ _)); exact BK181.out⟩, ⟨by repeat (first | (with_reducible first | exact HB.out | apply below_alloc | apply pw_below_drewN | apply below_drew1 | refine below_set ?_ GE180.out | refine below_set ?_ GE181.out) | exact HB.out)⟩⟩
   ·rw [if_neg c11] at H
    have c11b0 : decide (a1 < 1) = false := decide_eq_false c11
    clear c11
    (first | rw [c11b0] | (simp only [i64_w, i32_w]; rw [c11b0]) | skip)
    have H' := Aside0.mk H
    clear H
    have hnb12 := NB180_181.out
    have hnc12 := NB181_180.out
    have hcz13_0 : w10.cell? ⟨gb180, 0, none⟩ = some (.int .i64 a0_0) := (blk_cell BK180.out 0).trans rfl
    have hcz13_1 : w10.cell? ⟨gb180, 1, none⟩ = some (.slice A0_1 l0_1.length c0_1) := (blk_cell BK180.out 1).trans rfl
    have hfz13_0 := blk_frozen BK180.out 0
    have hfz13_1 := blk_frozen BK180.out 1
    go_wp2
    go_meet
    case rel => exact ⟨_, (decide (a1 ≥ a0_0)), (by first | rfl | (simp; done) | (simp [*]; done)), H', ⟨by first | omega | exact Nat.le_refl _⟩, ⟨by (with_reducible repeat (first | refine blk_drewN ?_ _ | refine blk_drew ?_ | refine blk_alloc ?_ _)); exact BK180.out⟩, ⟨by (with_reducible repeat (first | refine blk_drewN ?_ _ | refine blk_drew ?_ | refine blk_alloc ?_ _)); exact BK181.out⟩, ⟨by repeat (first | (with_reducible first | exact HB.out | apply below_alloc | apply pw_below_drewN | apply below_drew1 | refine below_set ?_ GE180.out | refine below_set ?_ GE181.out) | exact HB.out)⟩⟩
  case rest =>
   clear HC5
   try clear c1
   try clear p2
   try clear c3
   try clear c4
   try clear c8
   try clear c11
   try clear c11b0
   try clear c12
   try clear hcz13_0
   try clear hcz13_1
   try clear hcz9_0
   try clear hcz9_1
   try clear hfz13_0
   try clear hfz13_1
   try clear hfz9_0
   try clear hfz9_1
   obtain ⟨kq, x23_4, rfl, HA, HJ4, BK180, BK181, HB⟩ := hcut
   cases kq with
   | zero => exact absurd HA.out (by simp [spileref36_Merge.j0])
   | succ kj4 =>
    have H := HA.out
    clear HA
    simp only [spileref36_Merge.j0] at H
    by_cases c14 : x23_4 = true
    ·subst c14
     have H1 : (some (0, ([] : List (S28)), 2)) = some (r1, r2, r3) := by rw [if_pos rfl] at H; exact H
     clear H
     have H := H1
     clear H1
     simp only [Option.some.injEq, Prod.mk.injEq] at H
     obtain ⟨rfl, rfl, rfl⟩ := H
     have hnb15 := NB181_180.out
     have hnc15 := NB180_181.out
     have hcz16_0 : wc.cell? ⟨gb181, 0, none⟩ = some (.int .i64 0) := (blk_cell BK181.out 0).trans rfl
     have hcz16_1 : wc.cell? ⟨gb181, 1, none⟩ = some (.slice none 0 0) := (blk_cell BK181.out 1).trans rfl
     have hfz16_0 := blk_frozen BK181.out 0
     have hfz16_1 := blk_frozen BK181.out 1
     go_wp2
     refine bodyPost_ret (results_ct rfl _ _ gb181 24 #[.int .i64 0, .slice none 0 0] (0, 0) _ rfl (by (with_reducible repeat (first | refine blk_drewN ?_ _ | refine blk_drew ?_ | refine blk_alloc ?_ _)); refine blk_put (cs := #[.int .i64 0, .slice none 0 0]) ?_ 1 _ rfl; (with_reducible repeat (first | refine blk_drewN ?_ _ | refine blk_drew ?_ | refine blk_alloc ?_ _)); refine blk_put (cs := #[.int .i64 0, .slice none 0 0]) ?_ 0 _ rfl; (with_reducible repeat (first | refine blk_drewN ?_ _ | refine blk_drew ?_ | refine blk_alloc ?_ _)); exact BK181.out) Try.underlying24 rfl (by kernel_rfl)) rfl ?_
     exact ⟨_, by first | rfl | (simp [errW_none, errW_some] <;> rfl) | (simp [*, errW_none, errW_some] <;> rfl), by first | exact Kd.R_nil _ _ _ _ _ | exact Kd.N_nil _ _ _ _ _ | exact Kd.V_nil _ _ _ _ _ | exact Kd.Q_nil _ _ _ _ _ | exact Kd.S_nil _ _ _ _ _, by repeat (first | (with_reducible first | exact HB.out | apply below_alloc | apply pw_below_drewN | apply below_drew1 | refine below_set ?_ GE180.out | refine below_set ?_ GE181.out) | exact HB.out)⟩
    ·replace c14 := Bool.eq_false_iff.mpr c14
     subst c14
     have H1 : (spileref36_Merge.l0 kj4 a1 0 a0_0 l0_1 (wrap64 (a0_0 - 1)) (([] : List (S28)))) = some (r1, r2, r3) := by rw [if_neg (show ¬ (false = true) by decide)] at H; exact H
     clear H
     have H := H1
     clear H1
     obtain ⟨y183, hy183⟩ : ∃ y_ : List (S28), y_ = (([] : List (S28))) := ⟨_, rfl⟩
     replace H : (spileref36_Merge.l0 kj4 a1 0 a0_0 l0_1 (wrap64 (a0_0 - 1)) y183) = some (r1, r2, r3) := by first | (rw [hy183]; with_reducible exact H) | (have H2_ := (Option.bind_some _ _).symm.trans H; rw [hy183]; with_reducible exact H2_) | (have H2_ := (Option.bind_some _ _).symm.trans H; with_reducible exact H2_) | with_reducible exact H | (rw [hy183]; exact H) | exact H
     have Ny183 := Aside0.mk hy183
     clear hy183
     have H' := Aside0.mk H
     clear H
     have hnb17 := NB180_181.out
     have hnc17 := NB181_180.out
     have hcz18_0 : wc.cell? ⟨gb180, 0, none⟩ = some (.int .i64 a0_0) := (blk_cell BK180.out 0).trans rfl
     have hcz18_1 : wc.cell? ⟨gb180, 1, none⟩ = some (.slice A0_1 l0_1.length c0_1) := (blk_cell BK180.out 1).trans rfl
     have hfz18_0 := blk_frozen BK180.out 0
     have hfz18_1 := blk_frozen BK180.out 1
     go_wp2_with (first | ((with_reducible refine gate_dst (N := 28) rfl ?_); refine Kd.R_lit k28 _ 28 ?hg (N := 28) ?hd (xs := ([] : List (S28))) (inner := []) (ok := fun _ => True) (okp := fun _ => True) ?hr ?hp (fun _ hk => hk) trivial (Below.refl _ _) (Nat.le_refl _) (by simp) ?_; (case hd => rfl); (case hg => rfl); (case hr => first | (go_simp; done) | (go_simp; rfl)); (case hp => exact (Reps.none _ _)); intro v184 w19 ho20 hb hg_ hnew_; clear hg_ hnew_; (first | rw [← Ny183.out] at ho20 | (simp only [Int.reduceToNat] at ho20; rw [← Ny183.out] at ho20)); have n0_ := Aside0.mk (Kd.R_lower ho20 (below_size (by repeat (first | (with_reducible first | exact HB.out | apply below_alloc | apply pw_below_drewN | apply below_drew1 | refine below_set ?_ GE180.out | refine below_set ?_ GE181.out) | exact HB.out)))); have n1_ := Aside0.mk (blk_below (g := gb180) (o := .cells #[.int .i64 a0_0, .slice A0_1 l0_1.length c0_1] 24 (0, 0)) (by (with_reducible repeat (first | refine blk_drewN ?_ _ | refine blk_drew ?_ | refine blk_alloc ?_ _)); exact BK180.out) hb); have n2_ := Aside0.mk (blk_below (g := gb181) (o := .cells #[.int .i64 0, .slice none 0 0] 24 (0, 0)) (by (with_reducible repeat (first | refine blk_drewN ?_ _ | refine blk_drew ?_ | refine blk_alloc ?_ _)); exact BK181.out) hb); have n3_ := Aside0.mk (below_step (by repeat (first | (with_reducible first | exact HB.out | apply below_alloc | apply pw_below_drewN | apply below_drew1 | refine below_set ?_ GE180.out | refine below_set ?_ GE181.out) | exact HB.out)) hb); clear BK180; clear BK181; clear HB; have HO185 := n0_; have BK180 := n1_; have BK181 := n2_; have HB := n3_; clear n0_ n1_ n2_ n3_; clear hb ho20; obtain ⟨Ao21, co21, eo21⟩ := Kd.R_slice HO185.out; subst eo21) | ((with_reducible refine gate_dst (N := 6) rfl ?_); refine box_event ?hg (N := 6) ?hd (cs := #[.int .i64 0, .slice none 0 0]) (t := 24) ?hr ?_; (case hd => rfl); (case hg => rfl); (case hr => first | (go_simp; done) | (go_simp; rfl)); intro gb186 hg w22 hbox hb; have n0_ := Aside0.mk (Kd.R_below (by (with_reducible repeat (first | apply Kd.R_alloc | apply Kd.R_drewN | apply Kd.R_drew)); exact HO185.out) hb); have n1_ := Aside0.mk (blk_below (g := gb180) (o := .cells #[.int .i64 a0_0, .slice A0_1 l0_1.length c0_1] 24 (0, 0)) (by (with_reducible repeat (first | refine blk_drewN ?_ _ | refine blk_drew ?_ | refine blk_alloc ?_ _)); exact BK180.out) hb); have n2_ := Aside0.mk (blk_below (g := gb181) (o := .cells #[.int .i64 0, .slice none 0 0] 24 (0, 0)) (by (with_reducible repeat (first | refine blk_drewN ?_ _ | refine blk_drew ?_ | refine blk_alloc ?_ _)); exact BK181.out) hb); have n3_ := Aside0.mk (below_step (by repeat (first | (with_reducible first | exact HB.out | apply below_alloc | apply pw_below_drewN | apply below_drew1 | refine below_set ?_ GE180.out | refine below_set ?_ GE181.out) | exact HB.out)) hb); have n4_ := Aside0.mk (hbox); have n5_ := Aside0.mk ((by rw [hg]; exact (below_size (by repeat (first | (with_reducible first | exact HB.out | apply below_alloc | apply pw_below_drewN | apply below_drew1 | refine below_set ?_ GE180.out | refine below_set ?_ GE181.out) | exact HB.out))) : w.heap.size ≤ gb186)); have n6_ := Aside0.mk ((by rw [hg]; exact (below_size (by repeat (first | (with_reducible first | exact HB.out | apply below_alloc | apply pw_below_drewN | apply below_drew1 | refine below_set ?_ GE180.out | refine below_set ?_ GE181.out) | exact HB.out))) : w.heap.size ≤ gb186)); have n7_ := Aside0.mk ((by rw [hg]; exact Nat.ne_of_lt (blk_lt (g := gb180) (o := .cells #[.int .i64 a0_0, .slice A0_1 l0_1.length c0_1] 24 (0, 0)) (by (with_reducible repeat (first | refine blk_drewN ?_ _ | refine blk_drew ?_ | refine blk_alloc ?_ _)); exact BK180.out)) : gb180 ≠ gb186)); have n8_ := Aside0.mk ((by rw [hg]; exact Nat.ne_of_gt (blk_lt (g := gb180) (o := .cells #[.int .i64 a0_0, .slice A0_1 l0_1.length c0_1] 24 (0, 0)) (by (with_reducible repeat (first | refine blk_drewN ?_ _ | refine blk_drew ?_ | refine blk_alloc ?_ _)); exact BK180.out)) : gb186 ≠ gb180)); have n9_ := Aside0.mk ((by rw [hg]; exact Nat.ne_of_lt (blk_lt (g := gb181) (o := .cells #[.int .i64 0, .slice none 0 0] 24 (0, 0)) (by (with_reducible repeat (first | refine blk_drewN ?_ _ | refine blk_drew ?_ | refine blk_alloc ?_ _)); exact BK181.out)) : gb181 ≠ gb186)); have n10_ := Aside0.mk ((by rw [hg]; exact Nat.ne_of_gt (blk_lt (g := gb181) (o := .cells #[.int .i64 0, .slice none 0 0] 24 (0, 0)) (by (with_reducible repeat (first | refine blk_drewN ?_ _ | refine blk_drew ?_ | refine blk_alloc ?_ _)); exact BK181.out)) : gb186 ≠ gb181)); clear HO185; clear BK180; clear BK181; clear HB; have HO185 := n0_; have BK180 := n1_; have BK181 := n2_; have HB := n3_; have BK186 := n4_; have GW186 := n5_; have GE186 := n6_; have NB180_186 := n7_; have NB186_180 := n8_; have NB181_186 := n9_; have NB186_181 := n10_; clear n0_ n1_ n2_ n3_ n4_ n5_ n6_ n7_ n8_ n9_ n10_; clear hb hbox hg; have hnb23 := NB186_180.out; have hnc23 := NB180_186.out; have hnb24 := NB186_181.out; have hnc24 := NB181_186.out; have hcz25_0 : w22.cell? ⟨gb186, 0, none⟩ = some (.int .i64 0) := (blk_cell BK186.out 0).trans rfl; have hcz25_1 : w22.cell? ⟨gb186, 1, none⟩ = some (.slice none 0 0) := (blk_cell BK186.out 1).trans rfl; have hfz25_0 := blk_frozen BK186.out 0; have hfz25_1 := blk_frozen BK186.out 1))
     go_loopg [7] kj4 (fun kq v7 w' => ∃ (x7_2 : Int) (x187001_2 : List (S28)) (u187001 : Value), v7 = .int .i64 x7_2 ∧ Aside0 (spileref36_Merge.l0 kq a1 x7_2 a0_0 l0_1 (wrap64 (a0_0 - 1)) x187001_2 = some (r1, r2, r3)) ∧ Aside0 (kq ≤ kj4) ∧ Aside0 (Kd.R k28 28 w' w.heap.size (fun _ => True) u187001 x187001_2) ∧ Aside0 (w'.heap[gb180]? = some (.cells #[.int .i64 a0_0, (.slice A0_1 l0_1.length c0_1)] 24 (0, 0))) ∧ Aside0 (w'.heap[gb181]? = some (.cells #[.int .i64 0, (.slice none 0 0)] 24 (0, 0))) ∧ Aside0 (w'.heap[gb186]? = some (.cells #[.int .i64 (wrap64 (a0_0 - 1)), u187001] 24 (0, 0))) ∧ Aside0 (Below w.heap.size w w'))
     case atStart => exact ⟨(0), (y183), (.slice Ao21 y183.length co21), (by first | rfl | (simp; done) | (simp [*]; done)), H', ⟨Nat.le_refl _⟩, ⟨by (with_reducible repeat (first | apply Kd.R_alloc | apply Kd.R_drewN | apply Kd.R_drew)); exact Kd.R_mono (Kd.R_far (p := ⟨gb186, 1, none⟩) (Kd.R_far (p := ⟨gb186, 0, none⟩) (Kd.R_types HO185.out BK186.out (by decide)) (fun _ hk => hk.2) (.int .i64 (wrap64 (a0_0 - 1)))) (fun _ hk => hk.2) (.slice Ao21 y183.length co21)) (fun _ hk => trivial)⟩, ⟨by (with_reducible repeat (first | refine blk_drewN ?_ _ | refine blk_drew ?_ | refine blk_alloc ?_ _)); refine blk_far ?_ NB180_186.out _; (with_reducible repeat (first | refine blk_drewN ?_ _ | refine blk_drew ?_ | refine blk_alloc ?_ _)); refine blk_far ?_ NB180_186.out _; (with_reducible repeat (first | refine blk_drewN ?_ _ | refine blk_drew ?_ | refine blk_alloc ?_ _)); exact BK180.out⟩, ⟨by (with_reducible repeat (first | refine blk_drewN ?_ _ | refine blk_drew ?_ | refine blk_alloc ?_ _)); refine blk_far ?_ NB181_186.out _; (with_reducible repeat (first | refine blk_drewN ?_ _ | refine blk_drew ?_ | refine blk_alloc ?_ _)); refine blk_far ?_ NB181_186.out _; (with_reducible repeat (first | refine blk_drewN ?_ _ | refine blk_drew ?_ | refine blk_alloc ?_ _)); exact BK181.out⟩, ⟨by (with_reducible repeat (first | refine blk_drewN ?_ _ | refine blk_drew ?_ | refine blk_alloc ?_ _)); refine blk_put (cs := #[.int .i64 (wrap64 (a0_0 - 1)), .slice none 0 0]) ?_ 1 _ rfl; (with_reducible repeat (first | refine blk_drewN ?_ _ | refine blk_drew ?_ | refine blk_alloc ?_ _)); refine blk_put (cs := #[.int .i64 0, .slice none 0 0]) ?_ 0 _ rfl; (with_reducible repeat (first | refine blk_drewN ?_ _ | refine blk_drew ?_ | refine blk_alloc ?_ _)); exact BK186.out⟩, ⟨by repeat (first | (with_reducible first | exact HB.out | apply below_alloc | apply pw_below_drewN | apply below_drew1 | refine below_set ?_ GE180.out | refine below_set ?_ GE181.out | refine below_set ?_ GE186.out) | exact HB.out)⟩⟩
     case round =>
      clear H'
      try clear c1
      try clear c2
      try clear p2
      try clear c3
      try clear c4
      try clear p6
      try clear c8
      try clear c11
      try clear c11b0
      try clear c12
      try clear c14
      try clear c15
      try clear c16
      try clear c17
      try clear c23
      try clear c24
      try clear hcz13_0
      try clear hcz13_1
      try clear hcz16_0
      try clear hcz16_1
      try clear hcz18_0
      try clear hcz18_1
      try clear hcz25_0
      try clear hcz25_1
      try clear hcz9_0
      try clear hcz9_1
      try clear hfz13_0
      try clear hfz13_1
      try clear hfz16_0
      try clear hfz16_1
      try clear hfz18_0
      try clear hfz18_1
      try clear hfz25_0
      try clear hfz25_1
      try clear hfz9_0
      try clear hfz9_1
      try clear p2
      obtain ⟨x7_2, x187001_2, u187001, rfl, HA, HK2, HO_187001, BK180, BK181, BK186, HB⟩ := hrel
      cases gk with
      | zero => exact absurd HA.out (by simp [spileref36_Merge.l0])
      | succ k2 =>
       have H := HA.out
       clear HA
       simp only [spileref36_Merge.l0] at H
       by_cases c26 : x7_2 < (l0_1.length : Int)
       ·rw [if_pos c26] at H
        have c26b0 : decide (x7_2 < (l0_1.length : Int)) = true := decide_eq_true c26
        clear c26
        by_cases c27 : 0 ≤ x7_2
        ·rw [if_pos c27] at H
         have c27b0 : decide (0 ≤ x7_2) = true := decide_eq_true c27
         clear c27
         have HC28 := Aside0.mk H
         clear H
         have hnb29 := NB180_181.out
         have hnc29 := NB181_180.out
         have hnb30 := NB180_186.out
         have hnc30 := NB186_180.out
         have hcz31_0 : wr.cell? ⟨gb180, 0, none⟩ = some (.int .i64 a0_0) := (blk_cell BK180.out 0).trans rfl
         have hcz31_1 : wr.cell? ⟨gb180, 1, none⟩ = some (.slice A0_1 l0_1.length c0_1) := (blk_cell BK180.out 1).trans rfl
         have hfz31_0 := blk_frozen BK180.out 0
         have hfz31_1 := blk_frozen BK180.out 1
         have p187 : 0 ≤ (x7_2 : Int) := of_decide_eq_true (by first | (with_reducible assumption) | assumption)
         have q187 : x7_2 < (l0_1.length : Int) := of_decide_eq_true (by first | (with_reducible assumption) | assumption)
         obtain ⟨ad187, e187, hx187_0, hx187_1, hx187_2, hx187_3⟩ := at_T28 HR0_1.out x7_2 p187 q187
         cases e187
         replace hx187_0 := (HB.out.cell (World.block_lt_of_cell? w _ hx187_0)).trans hx187_0
         replace hx187_1 := (HB.out.cell (World.block_lt_of_cell? w _ hx187_1)).trans hx187_1
         replace hx187_2 := (HB.out.cell (World.block_lt_of_cell? w _ hx187_2)).trans hx187_2
         replace hx187_3 := (HB.out.cell (World.block_lt_of_cell? w _ hx187_3)).trans hx187_3
         replace p187 := eq_true p187
         replace q187 := eq_true q187
         go_upto_if 45 with (first | ((with_reducible refine gate_dst (N := 8) rfl ?_); refine box_event ?hg (N := 8) ?hd (cs := #[.int .i64 0, .int .i64 0, .int .i64 0, .int .i64 0]) (t := 28) ?hr ?_; (case hd => rfl); (case hg => rfl); (case hr => first | (go_simp; done) | (go_simp; rfl)); intro gb188 hg w32 hbox hb; have n0_ := Aside0.mk (Kd.R_below (Kd.R_elderB (by (with_reducible repeat (first | apply Kd.R_alloc | apply Kd.R_drewN | apply Kd.R_drew)); exact HO_187001.out) gb188 (Nat.le_of_eq hg.symm)) hb); have n1_ := Aside0.mk (blk_below (g := gb180) (o := .cells #[.int .i64 a0_0, .slice (some ad187) l0_1.length c0_1] 24 (0, 0)) (by (with_reducible repeat (first | refine blk_drewN ?_ _ | refine blk_drew ?_ | refine blk_alloc ?_ _)); exact BK180.out) hb); have n2_ := Aside0.mk (blk_below (g := gb181) (o := .cells #[.int .i64 0, .slice none 0 0] 24 (0, 0)) (by (with_reducible repeat (first | refine blk_drewN ?_ _ | refine blk_drew ?_ | refine blk_alloc ?_ _)); exact BK181.out) hb); have n3_ := Aside0.mk (blk_below (g := gb186) (o := .cells #[.int .i64 (wrap64 (a0_0 - 1)), u187001] 24 (0, 0)) (by (with_reducible repeat (first | refine blk_drewN ?_ _ | refine blk_drew ?_ | refine blk_alloc ?_ _)); exact BK186.out) hb); have n4_ := Aside0.mk (below_step (by repeat (first | (with_reducible first | exact HB.out | apply below_alloc | apply pw_below_drewN | apply below_drew1 | refine below_set ?_ GE180.out | refine below_set ?_ GE181.out | refine below_set ?_ GE186.out) | exact HB.out)) hb); have n5_ := Aside0.mk (hbox); have n6_ := Aside0.mk ((by rw [hg]; exact (below_size (by repeat (first | (with_reducible first | exact HB.out | apply below_alloc | apply pw_below_drewN | apply below_drew1 | refine below_set ?_ GE180.out | refine below_set ?_ GE181.out | refine below_set ?_ GE186.out) | exact HB.out))) : w.heap.size ≤ gb188)); have n7_ := Aside0.mk ((by rw [hg]; exact (below_size (by repeat (first | (with_reducible first | exact HB.out | apply below_alloc | apply pw_below_drewN | apply below_drew1 | refine below_set ?_ GE180.out | refine below_set ?_ GE181.out | refine below_set ?_ GE186.out) | exact HB.out))) : w.heap.size ≤ gb188)); have n8_ := Aside0.mk ((by rw [hg]; exact Nat.ne_of_lt (blk_lt (g := gb180) (o := .cells #[.int .i64 a0_0, .slice (some ad187) l0_1.length c0_1] 24 (0, 0)) (by (with_reducible repeat (first | refine blk_drewN ?_ _ | refine blk_drew ?_ | refine blk_alloc ?_ _)); exact BK180.out)) : gb180 ≠ gb188)); have n9_ := Aside0.mk ((by rw [hg]; exact Nat.ne_of_gt (blk_lt (g := gb180) (o := .cells #[.int .i64 a0_0, .slice (some ad187) l0_1.length c0_1] 24 (0, 0)) (by (with_reducible repeat (first | refine blk_drewN ?_ _ | refine blk_drew ?_ | refine blk_alloc ?_ _)); exact BK180.out)) : gb188 ≠ gb180)); have n10_ := Aside0.mk ((by rw [hg]; exact Nat.ne_of_lt (blk_lt (g := gb181) (o := .cells #[.int .i64 0, .slice none 0 0] 24 (0, 0)) (by (with_reducible repeat (first | refine blk_drewN ?_ _ | refine blk_drew ?_ | refine blk_alloc ?_ _)); exact BK181.out)) : gb181 ≠ gb188)); have n11_ := Aside0.mk ((by rw [hg]; exact Nat.ne_of_gt (blk_lt (g := gb181) (o := .cells #[.int .i64 0, .slice none 0 0] 24 (0, 0)) (by (with_reducible repeat (first | refine blk_drewN ?_ _ | refine blk_drew ?_ | refine blk_alloc ?_ _)); exact BK181.out)) : gb188 ≠ gb181)); have n12_ := Aside0.mk ((by rw [hg]; exact Nat.ne_of_lt (blk_lt (g := gb186) (o := .cells #[.int .i64 (wrap64 (a0_0 - 1)), u187001] 24 (0, 0)) (by (with_reducible repeat (first | refine blk_drewN ?_ _ | refine blk_drew ?_ | refine blk_alloc ?_ _)); exact BK186.out)) : gb186 ≠ gb188)); have n13_ := Aside0.mk ((by rw [hg]; exact Nat.ne_of_gt (blk_lt (g := gb186) (o := .cells #[.int .i64 (wrap64 (a0_0 - 1)), u187001] 24 (0, 0)) (by (with_reducible repeat (first | refine blk_drewN ?_ _ | refine blk_drew ?_ | refine blk_alloc ?_ _)); exact BK186.out)) : gb188 ≠ gb186)); clear HO_187001; clear BK180; clear BK181; clear BK186; clear HB; have HO_187001 := n0_; have BK180 := n1_; have BK181 := n2_; have BK186 := n3_; have HB := n4_; have BK188 := n5_; have GW188 := n6_; have GE188 := n7_; have NB180_188 := n8_; have NB188_180 := n9_; have NB181_188 := n10_; have NB188_181 := n11_; have NB186_188 := n12_; have NB188_186 := n13_; clear n0_ n1_ n2_ n3_ n4_ n5_ n6_ n7_ n8_ n9_ n10_ n11_ n12_ n13_; clear hb hbox hg; have hnb33 := NB188_180.out; have hnc33 := NB180_188.out; have hnb34 := NB188_181.out; have hnc34 := NB181_188.out; have hnb35 := NB188_186.out; have hnc35 := NB186_188.out; have hcz36_0 : w32.cell? ⟨gb188, 0, none⟩ = some (.int .i64 0) := (blk_cell BK188.out 0).trans rfl; have hcz36_1 : w32.cell? ⟨gb188, 1, none⟩ = some (.int .i64 0) := (blk_cell BK188.out 1).trans rfl; have hcz36_2 : w32.cell? ⟨gb188, 2, none⟩ = some (.int .i64 0) := (blk_cell BK188.out 2).trans rfl; have hcz36_3 : w32.cell? ⟨gb188, 3, none⟩ = some (.int .i64 0) := (blk_cell BK188.out 3).trans rfl; have hfz36_0 := blk_frozen BK188.out 0; have hfz36_1 := blk_frozen BK188.out 1; have hfz36_2 := blk_frozen BK188.out 2; have hfz36_3 := blk_frozen BK188.out 3))
         (try simp only [Act.put, List.setIfInBounds_toArray, List.set_cons_zero, List.set_cons_succ])
         go_cut [] (fun wc => ∃ (kq : Nat) (x189000_27 : Int), Aside0 (spileref36_Merge.j2 kq a1 x7_2 a0_0 l0_1 (wrap64 (a0_0 - 1)) x187001_2 x189000_27 ((rd_T28 l0_1 x7_2).f1) ((rd_T28 l0_1 x7_2).f2) ((rd_T28 l0_1 x7_2).f3) = some (r1, r2, r3)) ∧ Aside0 (kq ≤ k2) ∧ Aside0 (Kd.R k28 28 wc w.heap.size (fun k_ => k_ ≠ gb188) u187001 x187001_2) ∧ Aside0 (wc.heap[gb180]? = some (.cells #[.int .i64 a0_0, (.slice (some ad187) l0_1.length c0_1)] 24 (0, 0))) ∧ Aside0 (wc.heap[gb181]? = some (.cells #[.int .i64 0, (.slice none 0 0)] 24 (0, 0))) ∧ Aside0 (wc.heap[gb186]? = some (.cells #[.int .i64 (wrap64 (a0_0 - 1)), u187001] 24 (0, 0))) ∧ Aside0 (wc.heap[gb188]? = some (.cells #[.int .i64 x189000_27, .int .i64 ((rd_T28 l0_1 x7_2).f1), .int .i64 ((rd_T28 l0_1 x7_2).f2), .int .i64 ((rd_T28 l0_1 x7_2).f3)] 28 (0, 0))) ∧ Aside0 (Below w.heap.size w wc))
         case first =>
          have H := HC28.out
          clear HC28
          by_cases c37 : ((rd_T28 l0_1 x7_2).f0) > a1
          ·rw [if_pos c37] at H
           have c37b0 : decide (a1 < ((rd_T28 l0_1 x7_2).f0)) = true := decide_eq_true c37
           clear c37
           (first | rw [c37b0] | (simp only [i64_w, i32_w]; rw [c37b0]) | skip)
           have H' := Aside0.mk H
           clear H
           have hnb38 := NB188_180.out
           have hnc38 := NB180_188.out
           have hnb39 := NB188_181.out
           have hnc39 := NB181_188.out
           have hnb40 := NB188_186.out
           have hnc40 := NB186_188.out
           have hcz41_0 : w32.cell? ⟨gb188, 0, none⟩ = some (.int .i64 0) := (blk_cell BK188.out 0).trans rfl
           have hcz41_1 : w32.cell? ⟨gb188, 1, none⟩ = some (.int .i64 0) := (blk_cell BK188.out 1).trans rfl
           have hcz41_2 : w32.cell? ⟨gb188, 2, none⟩ = some (.int .i64 0) := (blk_cell BK188.out 2).trans rfl
           have hcz41_3 : w32.cell? ⟨gb188, 3, none⟩ = some (.int .i64 0) := (blk_cell BK188.out 3).trans rfl
           have hfz41_0 := blk_frozen BK188.out 0
           have hfz41_1 := blk_frozen BK188.out 1
           have hfz41_2 := blk_frozen BK188.out 2
           have hfz41_3 := blk_frozen BK188.out 3
           go_wp2
           go_meet
           case rel => exact ⟨_, (wrap64 (((rd_T28 l0_1 x7_2).f0) - 1)), H', ⟨by have := HJ4.out; have := HK2.out; first | omega | exact Nat.le_refl _⟩, ⟨by (with_reducible repeat (first | apply Kd.R_alloc | apply Kd.R_drewN | apply Kd.R_drew)); exact Kd.R_mono (Kd.R_far (p := ⟨gb188, 0, none⟩) (Kd.R_far (p := ⟨gb188, 3, none⟩) (Kd.R_far (p := ⟨gb188, 2, none⟩) (Kd.R_far (p := ⟨gb188, 1, none⟩) (Kd.R_far (p := ⟨gb188, 0, none⟩) (Kd.R_mono HO_187001.out (fun k_ hk => (⟨hk, hk.2⟩ : _ ∧ k_ ≠ gb188))) (fun _ hk => hk.2) (.int .i64 ((rd_T28 l0_1 x7_2).f0))) (fun _ hk => hk.2) (.int .i64 ((rd_T28 l0_1 x7_2).f1))) (fun _ hk => hk.2) (.int .i64 ((rd_T28 l0_1 x7_2).f2))) (fun _ hk => hk.2) (.int .i64 ((rd_T28 l0_1 x7_2).f3))) (fun _ hk => hk.2) (.int .i64 (wrap64 (((rd_T28 l0_1 x7_2).f0) - 1)))) (fun _ hk => hk.1.2)⟩, ⟨by (with_reducible repeat (first | refine blk_drewN ?_ _ | refine blk_drew ?_ | refine blk_alloc ?_ _)); refine blk_far ?_ NB180_188.out _; (with_reducible repeat (first | refine blk_drewN ?_ _ | refine blk_drew ?_ | refine blk_alloc ?_ _)); refine blk_far ?_ NB180_188.out _; (with_reducible repeat (first | refine blk_drewN ?_ _ | refine blk_drew ?_ | refine blk_alloc ?_ _)); refine blk_far ?_ NB180_188.out _; (with_reducible repeat (first | refine blk_drewN ?_ _ | refine blk_drew ?_ | refine blk_alloc ?_ _)); refine blk_far ?_ NB180_188.out _; (with_reducible repeat (first | refine blk_drewN ?_ _ | refine blk_drew ?_ | refine blk_alloc ?_ _)); refine blk_far ?_ NB180_188.out _; (with_reducible repeat (first | refine blk_drewN ?_ _ | refine blk_drew ?_ | refine blk_alloc ?_ _)); exact BK180.out⟩, ⟨by (with_reducible repeat (first | refine blk_drewN ?_ _ | refine blk_drew ?_ | refine blk_alloc ?_ _)); refine blk_far ?_ NB181_188.out _; (with_reducible repeat (first | refine blk_drewN ?_ _ | refine blk_drew ?_ | refine blk_alloc ?_ _)); refine blk_far ?_ NB181_188.out _; (with_reducible repeat (first | refine blk_drewN ?_ _ | refine blk_drew ?_ | refine blk_alloc ?_ _)); refine blk_far ?_ NB181_188.out _; (with_reducible repeat (first | refine blk_drewN ?_ _ | refine blk_drew ?_ | refine blk_alloc ?_ _)); refine blk_far ?_ NB181_188.out _; (with_reducible repeat (first | refine blk_drewN ?_ _ | refine blk_drew ?_ | refine blk_alloc ?_ _)); refine blk_far ?_ NB181_188.out _; (with_reducible repeat (first | refine blk_drewN ?_ _ | refine blk_drew ?_ | refine blk_alloc ?_ _)); exact BK181.out⟩, ⟨by (with_reducible repeat (first | refine blk_drewN ?_ _ | refine blk_drew ?_ | refine blk_alloc ?_ _)); refine blk_far ?_ NB186_188.out _; (with_reducible repeat (first | refine blk_drewN ?_ _ | refine blk_drew ?_ | refine blk_alloc ?_ _)); refine blk_far ?_ NB186_188.out _; (with_reducible repeat (first | refine blk_drewN ?_ _ | refine blk_drew ?_ | refine blk_alloc ?_ _)); refine blk_far ?_ NB186_188.out _; (with_reducible repeat (first | refine blk_drewN ?_ _ | refine blk_drew ?_ | refine blk_alloc ?_ _)); refine blk_far ?_ NB186_188.out _; (with_reducible repeat (first | refine blk_drewN ?_ _ | refine blk_drew ?_ | refine blk_alloc ?_ _)); refine blk_far ?_ NB186_188.out _; (with_reducible repeat (first | refine blk_drewN ?_ _ | refine blk_drew ?_ | refine blk_alloc ?_ _)); exact BK186.out⟩, ⟨by (with_reducible repeat (first | refine blk_drewN ?_ _ | refine blk_drew ?_ | refine blk_alloc ?_ _)); refine blk_put (cs := #[.int .i64 ((rd_T28 l0_1 x7_2).f0), .int .i64 ((rd_T28 l0_1 x7_2).f1), .int .i64 ((rd_T28 l0_1 x7_2).f2), .int .i64 ((rd_T28 l0_1 x7_2).f3)]) ?_ 0 _ rfl; (with_reducible repeat (first | refine blk_drewN ?_ _ | refine blk_drew ?_ | refine blk_alloc ?_ _)); refine blk_put (cs := #[.int .i64 ((rd_T28 l0_1 x7_2).f0), .int .i64 ((rd_T28 l0_1 x7_2).f1), .int .i64 ((rd_T28 l0_1 x7_2).f2), .int .i64 0]) ?_ 3 _ rfl; (with_reducible repeat (first | refine blk_drewN ?_ _ | refine blk_drew ?_ | refine blk_alloc ?_ _)); refine blk_put (cs := #[.int .i64 ((rd_T28 l0_1 x7_2).f0), .int .i64 ((rd_T28 l0_1 x7_2).f1), .int .i64 0, .int .i64 0]) ?_ 2 _ rfl; (with_reducible repeat (first | refine blk_drewN ?_ _ | refine blk_drew ?_ | refine blk_alloc ?_ _)); refine blk_put (cs := #[.int .i64 ((rd_T28 l0_1 x7_2).f0), .int .i64 0, .int .i64 0, .int .i64 0]) ?_ 1 _ rfl; (with_reducible repeat (first | refine blk_drewN ?_ _ | refine blk_drew ?_ | refine blk_alloc ?_ _)); refine blk_put (cs := #[.int .i64 0, .int .i64 0, .int .i64 0, .int .i64 0]) ?_ 0 _ rfl; (with_reducible repeat (first | refine blk_drewN ?_ _ | refine blk_drew ?_ | refine blk_alloc ?_ _)); exact BK188.out⟩, ⟨by repeat (first | (with_reducible first | exact HB.out | apply below_alloc | apply pw_below_drewN | apply below_drew1 | refine below_set ?_ GE180.out | refine below_set ?_ GE181.out | refine below_set ?_ GE186.out | refine below_set ?_ GE188.out) | exact HB.out)⟩⟩
          ·rw [if_neg c37] at H
           have c37b0 : decide (a1 < ((rd_T28 l0_1 x7_2).f0)) = false := decide_eq_false c37
           clear c37
           (first | rw [c37b0] | (simp only [i64_w, i32_w]; rw [c37b0]) | skip)
           have H' := Aside0.mk H
           clear H
           go_wp2
           go_meet
           case rel => exact ⟨_, ((rd_T28 l0_1 x7_2).f0), H', ⟨by have := HJ4.out; have := HK2.out; first | omega | exact Nat.le_refl _⟩, ⟨by (with_reducible repeat (first | apply Kd.R_alloc | apply Kd.R_drewN | apply Kd.R_drew)); exact Kd.R_mono (Kd.R_far (p := ⟨gb188, 3, none⟩) (Kd.R_far (p := ⟨gb188, 2, none⟩) (Kd.R_far (p := ⟨gb188, 1, none⟩) (Kd.R_far (p := ⟨gb188, 0, none⟩) (Kd.R_mono HO_187001.out (fun k_ hk => (⟨hk, hk.2⟩ : _ ∧ k_ ≠ gb188))) (fun _ hk => hk.2) (.int .i64 ((rd_T28 l0_1 x7_2).f0))) (fun _ hk => hk.2) (.int .i64 ((rd_T28 l0_1 x7_2).f1))) (fun _ hk => hk.2) (.int .i64 ((rd_T28 l0_1 x7_2).f2))) (fun _ hk => hk.2) (.int .i64 ((rd_T28 l0_1 x7_2).f3))) (fun _ hk => hk.1.2)⟩, ⟨by (with_reducible repeat (first | refine blk_drewN ?_ _ | refine blk_drew ?_ | refine blk_alloc ?_ _)); refine blk_far ?_ NB180_188.out _; (with_reducible repeat (first | refine blk_drewN ?_ _ | refine blk_drew ?_ | refine blk_alloc ?_ _)); refine blk_far ?_ NB180_188.out _; (with_reducible repeat (first | refine blk_drewN ?_ _ | refine blk_drew ?_ | refine blk_alloc ?_ _)); refine blk_far ?_ NB180_188.out _; (with_reducible repeat (first | refine blk_drewN ?_ _ | refine blk_drew ?_ | refine blk_alloc ?_ _)); refine blk_far ?_ NB180_188.out _; (with_reducible repeat (first | refine blk_drewN ?_ _ | refine blk_drew ?_ | refine blk_alloc ?_ _)); exact BK180.out⟩, ⟨by (with_reducible repeat (first | refine blk_drewN ?_ _ | refine blk_drew ?_ | refine blk_alloc ?_ _)); refine blk_far ?_ NB181_188.out _; (with_reducible repeat (first | refine blk_drewN ?_ _ | refine blk_drew ?_ | refine blk_alloc ?_ _)); refine blk_far ?_ NB181_188.out _; (with_reducible repeat (first | refine blk_drewN ?_ _ | refine blk_drew ?_ | refine blk_alloc ?_ _)); refine blk_far ?_ NB181_188.out _; (with_reducible repeat (first | refine blk_drewN ?_ _ | refine blk_drew ?_ | refine blk_alloc ?_ _)); refine blk_far ?_ NB181_188.out _; (with_reducible repeat (first | refine blk_drewN ?_ _ | refine blk_drew ?_ | refine blk_alloc ?_ _)); exact BK181.out⟩, ⟨by (with_reducible repeat (first | refine blk_drewN ?_ _ | refine blk_drew ?_ | refine blk_alloc ?_ _)); refine blk_far ?_ NB186_188.out _; (with_reducible repeat (first | refine blk_drewN ?_ _ | refine blk_drew ?_ | refine blk_alloc ?_ _)); refine blk_far ?_ NB186_188.out _; (with_reducible repeat (first | refine blk_drewN ?_ _ | refine blk_drew ?_ | refine blk_alloc ?_ _)); refine blk_far ?_ NB186_188.out _; (with_reducible repeat (first | refine blk_drewN ?_ _ | refine blk_drew ?_ | refine blk_alloc ?_ _)); refine blk_far ?_ NB186_188.out _; (with_reducible repeat (first | refine blk_drewN ?_ _ | refine blk_drew ?_ | refine blk_alloc ?_ _)); exact BK186.out⟩, ⟨by (with_reducible repeat (first | refine blk_drewN ?_ _ | refine blk_drew ?_ | refine blk_alloc ?_ _)); refine blk_put (cs := #[.int .i64 ((rd_T28 l0_1 x7_2).f0), .int .i64 ((rd_T28 l0_1 x7_2).f1), .int .i64 ((rd_T28 l0_1 x7_2).f2), .int .i64 0]) ?_ 3 _ rfl; (with_reducible repeat (first | refine blk_drewN ?_ _ | refine blk_drew ?_ | refine blk_alloc ?_ _)); refine blk_put (cs := #[.int .i64 ((rd_T28 l0_1 x7_2).f0), .int .i64 ((rd_T28 l0_1 x7_2).f1), .int .i64 0, .int .i64 0]) ?_ 2 _ rfl; (with_reducible repeat (first | refine blk_drewN ?_ _ | refine blk_drew ?_ | refine blk_alloc ?_ _)); refine blk_put (cs := #[.int .i64 ((rd_T28 l0_1 x7_2).f0), .int .i64 0, .int .i64 0, .int .i64 0]) ?_ 1 _ rfl; (with_reducible repeat (first | refine blk_drewN ?_ _ | refine blk_drew ?_ | refine blk_alloc ?_ _)); refine blk_put (cs := #[.int .i64 0, .int .i64 0, .int .i64 0, .int .i64 0]) ?_ 0 _ rfl; (with_reducible repeat (first | refine blk_drewN ?_ _ | refine blk_drew ?_ | refine blk_alloc ?_ _)); exact BK188.out⟩, ⟨by repeat (first | (with_reducible first | exact HB.out | apply below_alloc | apply pw_below_drewN | apply below_drew1 | refine below_set ?_ GE180.out | refine below_set ?_ GE181.out | refine below_set ?_ GE186.out | refine below_set ?_ GE188.out) | exact HB.out)⟩⟩
         case rest =>
          clear HC28
          try clear c1
          try clear p1
          try clear q1
          try clear hx1
          try clear c2
          try clear p2
          try clear c3
          try clear c4
          try clear p6
          try clear c8
          try clear c11
          try clear c11b0
          try clear c12
          try clear c14
          try clear c15
          try clear c16
          try clear c17
          try clear p18
          try clear q18
          try clear hx18
          try clear c23
          try clear c24
          try clear c26
          try clear c26b0
          try clear c27
          try clear c27b0
          try clear c29
          try clear c30
          try clear c33
          try clear c34
          try clear c35
          try clear c36
          try clear c37
          try clear c37b0
          try clear c38
          try clear c39
          try clear c40
          try clear hcz13_0
          try clear hcz13_1
          try clear hcz16_0
          try clear hcz16_1
          try clear hcz18_0
          try clear hcz18_1
          try clear hcz25_0
          try clear hcz25_1
          try clear hcz31_0
          try clear hcz31_1
          try clear hcz36_0
          try clear hcz36_1
          try clear hcz36_2
          try clear hcz36_3
          try clear hcz41_0
          try clear hcz41_1
          try clear hcz41_2
          try clear hcz41_3
          try clear hcz9_0
          try clear hcz9_1
          try clear hfz13_0
          try clear hfz13_1
          try clear hfz16_0
          try clear hfz16_1
          try clear hfz18_0
          try clear hfz18_1
          try clear hfz25_0
          try clear hfz25_1
          try clear hfz31_0
          try clear hfz31_1
          try clear hfz36_0
          try clear hfz36_1
          try clear hfz36_2
          try clear hfz36_3
          try clear hfz41_0
          try clear hfz41_1
          try clear hfz41_2
          try clear hfz41_3
          try clear hfz9_0
          try clear hfz9_1
          try clear hx187_0
          try clear hx187_1
          try clear hx187_2
          try clear hx187_3
          try clear p187
          try clear p2
          try clear p6
          try clear q187
          obtain ⟨kq, x189000_27, HA, HJ27, HO_187001, BK180, BK181, BK186, BK188, HB⟩ := hcut
          cases kq with
          | zero => exact absurd HA.out (by simp [spileref36_Merge.j2])
          | succ kj27 =>
           have H := HA.out
           clear HA
           simp only [spileref36_Merge.j2] at H
           have HC42 := Aside0.mk H
           clear H
           have hnb43 := NB188_180.out
           have hnc43 := NB180_188.out
           have hnb44 := NB188_181.out
           have hnc44 := NB181_188.out
           have hnb45 := NB188_186.out
           have hnc45 := NB186_188.out
           have hcz46_0 : wc.cell? ⟨gb188, 0, none⟩ = some (.int .i64 x189000_27) := (blk_cell BK188.out 0).trans rfl
           have hcz46_1 : wc.cell? ⟨gb188, 1, none⟩ = some (.int .i64 ((rd_T28 l0_1 x7_2).f1)) := (blk_cell BK188.out 1).trans rfl
           have hcz46_2 : wc.cell? ⟨gb188, 2, none⟩ = some (.int .i64 ((rd_T28 l0_1 x7_2).f2)) := (blk_cell BK188.out 2).trans rfl
           have hcz46_3 : wc.cell? ⟨gb188, 3, none⟩ = some (.int .i64 ((rd_T28 l0_1 x7_2).f3)) := (blk_cell BK188.out 3).trans rfl
           have hfz46_0 := blk_frozen BK188.out 0
           have hfz46_1 := blk_frozen BK188.out 1
           have hfz46_2 := blk_frozen BK188.out 2
           have hfz46_3 := blk_frozen BK188.out 3
           go_upto_if 53 with (fail)
           go_cut [] (fun wc => ∃ (kq : Nat) (x189001_41 : Int), Aside0 (spileref36_Merge.j3 kq a1 x7_2 a0_0 l0_1 (wrap64 (a0_0 - 1)) x187001_2 x189000_27 x189001_41 ((rd_T28 l0_1 x7_2).f2) ((rd_T28 l0_1 x7_2).f3) = some (r1, r2, r3)) ∧ Aside0 (kq ≤ kj27) ∧ Aside0 (Kd.R k28 28 wc w.heap.size (fun k_ => k_ ≠ gb188) u187001 x187001_2) ∧ Aside0 (wc.heap[gb180]? = some (.cells #[.int .i64 a0_0, (.slice (some ad187) l0_1.length c0_1)] 24 (0, 0))) ∧ Aside0 (wc.heap[gb181]? = some (.cells #[.int .i64 0, (.slice none 0 0)] 24 (0, 0))) ∧ Aside0 (wc.heap[gb186]? = some (.cells #[.int .i64 (wrap64 (a0_0 - 1)), u187001] 24 (0, 0))) ∧ Aside0 (wc.heap[gb188]? = some (.cells #[.int .i64 x189000_27, .int .i64 x189001_41, .int .i64 ((rd_T28 l0_1 x7_2).f2), .int .i64 ((rd_T28 l0_1 x7_2).f3)] 28 (0, 0))) ∧ Aside0 (Below w.heap.size w wc))
           case first =>
            have H := HC42.out
            clear HC42
            by_cases c47 : ((rd_T28 l0_1 x7_2).f1) > a1
            ·rw [if_pos c47] at H
             have c47b0 : decide (a1 < ((rd_T28 l0_1 x7_2).f1)) = true := decide_eq_true c47
             clear c47
             (first | rw [c47b0] | (simp only [i64_w, i32_w]; rw [c47b0]) | skip)
             have H' := Aside0.mk H
             clear H
             have hnb48 := NB188_180.out
             have hnc48 := NB180_188.out
             have hnb49 := NB188_181.out
             have hnc49 := NB181_188.out
             have hnb50 := NB188_186.out
             have hnc50 := NB186_188.out
             have hcz51_0 : wc.cell? ⟨gb188, 0, none⟩ = some (.int .i64 x189000_27) := (blk_cell BK188.out 0).trans rfl
             have hcz51_1 : wc.cell? ⟨gb188, 1, none⟩ = some (.int .i64 ((rd_T28 l0_1 x7_2).f1)) := (blk_cell BK188.out 1).trans rfl
             have hcz51_2 : wc.cell? ⟨gb188, 2, none⟩ = some (.int .i64 ((rd_T28 l0_1 x7_2).f2)) := (blk_cell BK188.out 2).trans rfl
             have hcz51_3 : wc.cell? ⟨gb188, 3, none⟩ = some (.int .i64 ((rd_T28 l0_1 x7_2).f3)) := (blk_cell BK188.out 3).trans rfl
             have hfz51_0 := blk_frozen BK188.out 0
             have hfz51_1 := blk_frozen BK188.out 1
             have hfz51_2 := blk_frozen BK188.out 2
             have hfz51_3 := blk_frozen BK188.out 3
             go_wp2
             go_meet
             case rel => exact ⟨_, (wrap64 (((rd_T28 l0_1 x7_2).f1) - 1)), H', ⟨by have := HJ4.out; have := HK2.out; have := HJ27.out; first | omega | exact Nat.le_refl _⟩, ⟨by (with_reducible repeat (first | apply Kd.R_alloc | apply Kd.R_drewN | apply Kd.R_drew)); exact Kd.R_mono (Kd.R_far (p := ⟨gb188, 1, none⟩) (Kd.R_mono HO_187001.out (fun k_ hk => (⟨hk, hk⟩ : _ ∧ k_ ≠ gb188))) (fun _ hk => hk.2) (.int .i64 (wrap64 (((rd_T28 l0_1 x7_2).f1) - 1)))) (fun _ hk => hk.1)⟩, ⟨by (with_reducible repeat (first | refine blk_drewN ?_ _ | refine blk_drew ?_ | refine blk_alloc ?_ _)); refine blk_far ?_ NB180_188.out _; (with_reducible repeat (first | refine blk_drewN ?_ _ | refine blk_drew ?_ | refine blk_alloc ?_ _)); exact BK180.out⟩, ⟨by (with_reducible repeat (first | refine blk_drewN ?_ _ | refine blk_drew ?_ | refine blk_alloc ?_ _)); refine blk_far ?_ NB181_188.out _; (with_reducible repeat (first | refine blk_drewN ?_ _ | refine blk_drew ?_ | refine blk_alloc ?_ _)); exact BK181.out⟩, ⟨by (with_reducible repeat (first | refine blk_drewN ?_ _ | refine blk_drew ?_ | refine blk_alloc ?_ _)); refine blk_far ?_ NB186_188.out _; (with_reducible repeat (first | refine blk_drewN ?_ _ | refine blk_drew ?_ | refine blk_alloc ?_ _)); exact BK186.out⟩, ⟨by (with_reducible repeat (first | refine blk_drewN ?_ _ | refine blk_drew ?_ | refine blk_alloc ?_ _)); refine blk_put (cs := #[.int .i64 x189000_27, .int .i64 ((rd_T28 l0_1 x7_2).f1), .int .i64 ((rd_T28 l0_1 x7_2).f2), .int .i64 ((rd_T28 l0_1 x7_2).f3)]) ?_ 1 _ rfl; (with_reducible repeat (first | refine blk_drewN ?_ _ | refine blk_drew ?_ | refine blk_alloc ?_ _)); exact BK188.out⟩, ⟨by repeat (first | (with_reducible first | exact HB.out | apply below_alloc | apply pw_below_drewN | apply below_drew1 | refine below_set ?_ GE180.out | refine below_set ?_ GE181.out | refine below_set ?_ GE186.out | refine below_set ?_ GE188.out) | exact HB.out)⟩⟩
            ·rw [if_neg c47] at H
             have c47b0 : decide (a1 < ((rd_T28 l0_1 x7_2).f1)) = false := decide_eq_false c47
             clear c47
             (first | rw [c47b0] | (simp only [i64_w, i32_w]; rw [c47b0]) | skip)
             have H' := Aside0.mk H
             clear H
             go_wp2
             go_meet
             case rel => exact ⟨_, (((rd_T28 l0_1 x7_2).f1)), H', ⟨by have := HJ4.out; have := HK2.out; have := HJ27.out; first | omega | exact Nat.le_refl _⟩, ⟨by (with_reducible repeat (first | apply Kd.R_alloc | apply Kd.R_drewN | apply Kd.R_drew)); exact HO_187001.out⟩, ⟨by (with_reducible repeat (first | refine blk_drewN ?_ _ | refine blk_drew ?_ | refine blk_alloc ?_ _)); exact BK180.out⟩, ⟨by (with_reducible repeat (first | refine blk_drewN ?_ _ | refine blk_drew ?_ | refine blk_alloc ?_ _)); exact BK181.out⟩, ⟨by (with_reducible repeat (first | refine blk_drewN ?_ _ | refine blk_drew ?_ | refine blk_alloc ?_ _)); exact BK186.out⟩, ⟨by (with_reducible repeat (first | refine blk_drewN ?_ _ | refine blk_drew ?_ | refine blk_alloc ?_ _)); exact BK188.out⟩, ⟨by repeat (first | (with_reducible first | exact HB.out | apply below_alloc | apply pw_below_drewN | apply below_drew1 | refine below_set ?_ GE180.out | refine below_set ?_ GE181.out | refine below_set ?_ GE186.out | refine below_set ?_ GE188.out) | exact HB.out)⟩⟩
           case rest =>
            clear HC42
            try clear c1
            try clear p1
            try clear q1
            try clear hx1
            try clear c2
            try clear p2
            try clear c3
            try clear c4
            try clear c5
            try clear p6
            try clear c8
            try clear c11
            try clear c11b0
            try clear c12
            try clear c14
            try clear c15
            try clear c16
            try clear c17
            try clear p18
            try clear q18
            try clear hx18
            try clear c23
            try clear c24
            try clear c26
            try clear c26b0
            try clear c27
            try clear c27b0
            try clear c29
            try clear c30
            try clear c33
            try clear c34
            try clear c35
            try clear c36
            try clear c37
            try clear c37b0
            try clear c38
            try clear c39
            try clear c40
            try clear c43
            try clear c44
            try clear c45
            try clear c47
            try clear c47b0
            try clear c48
            try clear c49
            try clear c50
            try clear hcz13_0
            try clear hcz13_1
            try clear hcz16_0
            try clear hcz16_1
            try clear hcz18_0
            try clear hcz18_1
            try clear hcz25_0
            try clear hcz25_1
            try clear hcz31_0
            try clear hcz31_1
            try clear hcz36_0
            try clear hcz36_1
            try clear hcz36_2
            try clear hcz36_3
            try clear hcz41_0
            try clear hcz41_1
            try clear hcz41_2
            try clear hcz41_3
            try clear hcz46_0
            try clear hcz46_1
            try clear hcz46_2
            try clear hcz46_3
            try clear hcz51_0
            try clear hcz51_1
            try clear hcz51_2
            try clear hcz51_3
            try clear hcz9_0
            try clear hcz9_1
            try clear hfz13_0
            try clear hfz13_1
            try clear hfz16_0
            try clear hfz16_1
            try clear hfz18_0
            try clear hfz18_1
            try clear hfz25_0
            try clear hfz25_1
            try clear hfz31_0
            try clear hfz31_1
            try clear hfz36_0
            try clear hfz36_1
            try clear hfz36_2
            try clear hfz36_3
            try clear hfz41_0
            try clear hfz41_1
            try clear hfz41_2
            try clear hfz41_3
            try clear hfz46_0
            try clear hfz46_1
            try clear hfz46_2
            try clear hfz46_3
            try clear hfz51_0
            try clear hfz51_1
            try clear hfz51_2
            try clear hfz51_3
            try clear hfz9_0
            try clear hfz9_1
            try clear hx187_0
            try clear hx187_1
            try clear hx187_2
            try clear hx187_3
            try clear p1
            try clear p18
            try clear p187
            try clear p2
            try clear p6
            try clear q1
            try clear q18
            try clear q187
            obtain ⟨kq, x189001_41, HA, HJ41, HO_187001, BK180, BK181, BK186, BK188, HB⟩ := hcut
            cases kq with
            | zero => exact absurd HA.out (by simp [spileref36_Merge.j3])
            | succ kj41 =>
             have H := HA.out
             clear HA
             simp only [spileref36_Merge.j3] at H
             by_cases c52 : x189000_27 = x189001_41
             ·rw [if_pos c52] at H
              have c52b0 : (x189000_27 == x189001_41) = true := beq_iff_eq.mpr c52
              have c52b1 : (x189000_27 != x189001_41) = false := bne_eq_false_iff_eq.mpr c52
              clear c52
              have H' := Aside0.mk H
              clear H
              have hnb53 := NB188_180.out
              have hnc53 := NB180_188.out
              have hnb54 := NB188_181.out
              have hnc54 := NB181_188.out
              have hnb55 := NB188_186.out
              have hnc55 := NB186_188.out
              have hcz56_0 : wc.cell? ⟨gb188, 0, none⟩ = some (.int .i64 x189000_27) := (blk_cell BK188.out 0).trans rfl
              have hcz56_1 : wc.cell? ⟨gb188, 1, none⟩ = some (.int .i64 x189001_41) := (blk_cell BK188.out 1).trans rfl
              have hcz56_2 : wc.cell? ⟨gb188, 2, none⟩ = some (.int .i64 ((rd_T28 l0_1 x7_2).f2)) := (blk_cell BK188.out 2).trans rfl
              have hcz56_3 : wc.cell? ⟨gb188, 3, none⟩ = some (.int .i64 ((rd_T28 l0_1 x7_2).f3)) := (blk_cell BK188.out 3).trans rfl
              have hfz56_0 := blk_frozen BK188.out 0
              have hfz56_1 := blk_frozen BK188.out 1
              have hfz56_2 := blk_frozen BK188.out 2
              have hfz56_3 := blk_frozen BK188.out 3
              go_wp2
              go_roundg kj41
              case measure => have := HJ4.out; have := HK2.out; have := HJ27.out; have := HJ41.out; omega
              case rel => exact ⟨(wrap64 (x7_2 + 1)), (x187001_2), (u187001), (by first | rfl | (simp; done) | (simp [*]; done)), H', ⟨by have := HJ4.out; have := HK2.out; have := HJ27.out; have := HJ41.out; omega⟩, ⟨by (with_reducible repeat (first | apply Kd.R_alloc | apply Kd.R_drewN | apply Kd.R_drew)); exact Kd.R_mono HO_187001.out (fun _ hk => trivial)⟩, ⟨by (with_reducible repeat (first | refine blk_drewN ?_ _ | refine blk_drew ?_ | refine blk_alloc ?_ _)); exact BK180.out⟩, ⟨by (with_reducible repeat (first | refine blk_drewN ?_ _ | refine blk_drew ?_ | refine blk_alloc ?_ _)); exact BK181.out⟩, ⟨by (with_reducible repeat (first | refine blk_drewN ?_ _ | refine blk_drew ?_ | refine blk_alloc ?_ _)); exact BK186.out⟩, ⟨by repeat (first | (with_reducible first | exact HB.out | apply below_alloc | apply pw_below_drewN | apply below_drew1 | refine below_set ?_ GE180.out | refine below_set ?_ GE181.out | refine below_set ?_ GE186.out | refine below_set ?_ GE188.out) | exact HB.out)⟩⟩
             ·rw [if_neg c52] at H
              have c52b0 : (x189000_27 == x189001_41) = false := beq_eq_false_iff_ne.mpr c52
              have c52b1 : (x189000_27 != x189001_41) = true := bne_iff_ne.mpr c52
              have H' := Aside0.mk H
              clear H
              have hnb57 := NB188_180.out
              have hnc57 := NB180_188.out
              have hnb58 := NB188_181.out
              have hnc58 := NB181_188.out
              have hnb59 := NB188_186.out
              have hnc59 := NB186_188.out
              have hcz60_0 : wc.cell? ⟨gb188, 0, none⟩ = some (.int .i64 x189000_27) := (blk_cell BK188.out 0).trans rfl
              have hcz60_1 : wc.cell? ⟨gb188, 1, none⟩ = some (.int .i64 x189001_41) := (blk_cell BK188.out 1).trans rfl
              have hcz60_2 : wc.cell? ⟨gb188, 2, none⟩ = some (.int .i64 ((rd_T28 l0_1 x7_2).f2)) := (blk_cell BK188.out 2).trans rfl
              have hcz60_3 : wc.cell? ⟨gb188, 3, none⟩ = some (.int .i64 ((rd_T28 l0_1 x7_2).f3)) := (blk_cell BK188.out 3).trans rfl
              have hfz60_0 := blk_frozen BK188.out 0
              have hfz60_1 := blk_frozen BK188.out 1
              have hfz60_2 := blk_frozen BK188.out 2
              have hfz60_3 := blk_frozen BK188.out 3
              go_wp2
              go_loopg [9, 10] kj41 (fun kq v9 v10 w' => ∃ (x9_5 : Bool) (x10_5 : Int) (x187001_5 : List (S28)) (x189002_5 : Int) (x189003_5 : Int) (u187001 : Value), v9 = .bool x9_5 ∧ v10 = .int .i64 x10_5 ∧ Aside0 (spileref36_Merge.l1 kq a1 x7_2 x9_5 x10_5 a0_0 l0_1 (wrap64 (a0_0 - 1)) x187001_5 x189000_27 x189001_41 x189002_5 x189003_5 = some (r1, r2, r3)) ∧ Aside0 (kq ≤ kj41) ∧ Aside0 (Kd.R k28 28 w' w.heap.size (fun k_ => k_ ≠ gb188) u187001 x187001_5) ∧ Aside0 (w'.heap[gb180]? = some (.cells #[.int .i64 a0_0, (.slice (some ad187) l0_1.length c0_1)] 24 (0, 0))) ∧ Aside0 (w'.heap[gb181]? = some (.cells #[.int .i64 0, (.slice none 0 0)] 24 (0, 0))) ∧ Aside0 (w'.heap[gb186]? = some (.cells #[.int .i64 (wrap64 (a0_0 - 1)), u187001] 24 (0, 0))) ∧ Aside0 (w'.heap[gb188]? = some (.cells #[.int .i64 x189000_27, .int .i64 x189001_41, .int .i64 x189002_5, .int .i64 x189003_5] 28 (0, 0))) ∧ Aside0 (Below w.heap.size w w'))
              case atStart => exact ⟨(false), (0), (x187001_2), (((rd_T28 l0_1 x7_2).f2)), (((rd_T28 l0_1 x7_2).f3)), (u187001), (by first | rfl | (simp; done) | (simp [*]; done)), (by first | rfl | (simp; done) | (simp [*]; done)), H', ⟨Nat.le_refl _⟩, ⟨by (with_reducible repeat (first | apply Kd.R_alloc | apply Kd.R_drewN | apply Kd.R_drew)); exact HO_187001.out⟩, ⟨by (with_reducible repeat (first | refine blk_drewN ?_ _ | refine blk_drew ?_ | refine blk_alloc ?_ _)); exact BK180.out⟩, ⟨by (with_reducible repeat (first | refine blk_drewN ?_ _ | refine blk_drew ?_ | refine blk_alloc ?_ _)); exact BK181.out⟩, ⟨by (with_reducible repeat (first | refine blk_drewN ?_ _ | refine blk_drew ?_ | refine blk_alloc ?_ _)); exact BK186.out⟩, ⟨by (with_reducible repeat (first | refine blk_drewN ?_ _ | refine blk_drew ?_ | refine blk_alloc ?_ _)); exact BK188.out⟩, ⟨by repeat (first | (with_reducible first | exact HB.out | apply below_alloc | apply pw_below_drewN | apply below_drew1 | refine below_set ?_ GE180.out | refine below_set ?_ GE181.out | refine below_set ?_ GE186.out | refine below_set ?_ GE188.out) | exact HB.out)⟩⟩
              case round =>
               clear H'
               try clear c1
               try clear p1
               try clear q1
               try clear hx1
               try clear c2
               try clear p2
               try clear c3
               try clear c4
               try clear c5
               try clear p6
               try clear c8
               try clear c11
               try clear c11b0
               try clear c12
               try clear c14
               try clear c15
               try clear c16
               try clear c17
               try clear p18
               try clear q18
               try clear hx18
               try clear c23
               try clear c24
               try clear c26
               try clear c26b0
               try clear c27
               try clear c27b0
               try clear c29
               try clear c30
               try clear c33
               try clear c34
               try clear c35
               try clear c36
               try clear c37
               try clear c37b0
               try clear c38
               try clear c39
               try clear c40
               try clear c43
               try clear c44
               try clear c45
               try clear c47
               try clear c47b0
               try clear c48
               try clear c49
               try clear c50
               try clear c52
               try clear c52b0
               try clear c52b1
               try clear c53
               try clear c54
               try clear c55
               try clear c57
               try clear c58
               try clear c59
               try clear hcz13_0
               try clear hcz13_1
               try clear hcz16_0
               try clear hcz16_1
               try clear hcz18_0
               try clear hcz18_1
               try clear hcz25_0
               try clear hcz25_1
               try clear hcz31_0
               try clear hcz31_1
               try clear hcz36_0
               try clear hcz36_1
               try clear hcz36_2
               try clear hcz36_3
               try clear hcz41_0
               try clear hcz41_1
               try clear hcz41_2
               try clear hcz41_3
               try clear hcz46_0
               try clear hcz46_1
               try clear hcz46_2
               try clear hcz46_3
               try clear hcz51_0
               try clear hcz51_1
               try clear hcz51_2
               try clear hcz51_3
               try clear hcz56_0
               try clear hcz56_1
               try clear hcz56_2
               try clear hcz56_3
               try clear hcz60_0
               try clear hcz60_1
               try clear hcz60_2
               try clear hcz60_3
               try clear hcz9_0
               try clear hcz9_1
               try clear hfz13_0
               try clear hfz13_1
               try clear hfz16_0
               try clear hfz16_1
               try clear hfz18_0
               try clear hfz18_1
               try clear hfz25_0
               try clear hfz25_1
               try clear hfz31_0
               try clear hfz31_1
               try clear hfz36_0
               try clear hfz36_1
               try clear hfz36_2
               try clear hfz36_3
               try clear hfz41_0
               try clear hfz41_1
               try clear hfz41_2
               try clear hfz41_3
               try clear hfz46_0
               try clear hfz46_1
               try clear hfz46_2
               try clear hfz46_3
               try clear hfz51_0
               try clear hfz51_1
               try clear hfz51_2
               try clear hfz51_3
               try clear hfz56_0
               try clear hfz56_1
               try clear hfz56_2
               try clear hfz56_3
               try clear hfz60_0
               try clear hfz60_1
               try clear hfz60_2
               try clear hfz60_3
               try clear hfz9_0
               try clear hfz9_1
               try clear hx187_0
               try clear hx187_1
               try clear hx187_2
               try clear hx187_3
               try clear p1
               try clear p18
               try clear p187
               try clear p2
               try clear p6
               try clear q1
               try clear q18
               try clear q187
               obtain ⟨x9_5, x10_5, x187001_5, x189002_5, x189003_5, u187001, rfl, rfl, HA, HK5, HO_187001, BK180, BK181, BK186, BK188, HB⟩ := hrel
               cases gk with
               | zero => exact absurd HA.out (by simp [spileref36_Merge.l1])
               | succ k5 =>
                have H := HA.out
                clear HA
                simp only [spileref36_Merge.l1] at H
                by_cases c61 : x10_5 < (x187001_5.length : Int)
                ·rw [if_pos c61] at H
                 have c61b0 : decide (x10_5 < (x187001_5.length : Int)) = true := decide_eq_true c61
                 clear c61
                 by_cases c62 : 0 ≤ x10_5
                 ·rw [if_pos c62] at H
                  have c62b0 : decide (0 ≤ x10_5) = true := decide_eq_true c62
                  clear c62
                  by_cases c63 : ((rd_T28 x187001_5 x10_5).f0) = x189000_27
                  ·rw [if_pos c63] at H
                   have c63b0 : (((rd_T28 x187001_5 x10_5).f0) == x189000_27) = true := beq_iff_eq.mpr c63
                   have c63b1 : (((rd_T28 x187001_5 x10_5).f0) != x189000_27) = false := bne_eq_false_iff_eq.mpr c63
                   clear c63
                   by_cases c64 : ((rd_T28 x187001_5 x10_5).f1) = x189001_41
                   ·rw [if_pos c64] at H
                    have c64b0 : (((rd_T28 x187001_5 x10_5).f1) == x189001_41) = true := beq_iff_eq.mpr c64
                    have c64b1 : (((rd_T28 x187001_5 x10_5).f1) != x189001_41) = false := bne_eq_false_iff_eq.mpr c64
                    clear c64
                    obtain ⟨y192, hy192⟩ : ∃ y_ : List (S28), y_ = (x187001_5.set (x10_5 : Int).toNat (⟨(rd_T28 x187001_5 x10_5).f0, (rd_T28 x187001_5 x10_5).f1, wrap64 (((rd_T28 x187001_5 x10_5).f2) + x189002_5), (rd_T28 x187001_5 x10_5).f3⟩ : S28)) := ⟨_, rfl⟩
                    replace H : (spileref36_Merge.l1 k5 a1 x7_2 true (wrap64 (x10_5 + 1)) a0_0 l0_1 (wrap64 (a0_0 - 1)) (y192.set (x10_5 : Int).toNat (⟨(rd_T28 y192 x10_5).f0, (rd_T28 y192 x10_5).f1, (rd_T28 y192 x10_5).f2, wrap64 (((rd_T28 y192 x10_5).f3) + x189003_5)⟩ : S28)) x189000_27 x189001_41 x189002_5 x189003_5) = some (r1, r2, r3) := by first | (rw [hy192]; with_reducible exact H) | (have H2_ := (Option.bind_some _ _).symm.trans H; rw [hy192]; with_reducible exact H2_) | (have H2_ := (Option.bind_some _ _).symm.trans H; with_reducible exact H2_) | with_reducible exact H | (rw [hy192]; exact H) | exact H
                    have Ny192 := Aside0.mk hy192
                    clear hy192
                    obtain ⟨y194, hy194⟩ : ∃ y_ : List (S28), y_ = (y192.set (x10_5 : Int).toNat (⟨(rd_T28 y192 x10_5).f0, (rd_T28 y192 x10_5).f1, (rd_T28 y192 x10_5).f2, wrap64 (((rd_T28 y192 x10_5).f3) + x189003_5)⟩ : S28)) := ⟨_, rfl⟩
                    replace H : (spileref36_Merge.l1 k5 a1 x7_2 true (wrap64 (x10_5 + 1)) a0_0 l0_1 (wrap64 (a0_0 - 1)) y194 x189000_27 x189001_41 x189002_5 x189003_5) = some (r1, r2, r3) := by first | (rw [hy194]; with_reducible exact H) | (have H2_ := (Option.bind_some _ _).symm.trans H; rw [hy194]; with_reducible exact H2_) | (have H2_ := (Option.bind_some _ _).symm.trans H; with_reducible exact H2_) | with_reducible exact H | (rw [hy194]; exact H) | exact H
                    have Ny194 := Aside0.mk hy194
                    clear hy194
                    have H' := Aside0.mk H
                    clear H
                    have hnb67 := NB186_180.out
                    have hnc67 := NB180_186.out
                    have hnb68 := NB186_181.out
                    have hnc68 := NB181_186.out
                    have hnb69 := NB186_188.out
                    have hnc69 := NB188_186.out
                    have hcz70_0 : wr.cell? ⟨gb186, 0, none⟩ = some (.int .i64 (wrap64 (a0_0 - 1))) := (blk_cell BK186.out 0).trans rfl
                    have hcz70_1 : wr.cell? ⟨gb186, 1, none⟩ = some (u187001) := (blk_cell BK186.out 1).trans rfl
                    have hfz70_0 := blk_frozen BK186.out 0
                    have hfz70_1 := blk_frozen BK186.out 1
                    obtain ⟨Ao71, co71, eo71⟩ := Kd.R_slice HO_187001.out
                    subst eo71
                    try go_wp2
                    have n0_ := Aside0.mk (Kd.R_drew HO_187001.out)
                    have n1_ := Aside0.mk (blk_drew BK180.out)
                    have n2_ := Aside0.mk (blk_drew BK181.out)
                    have n3_ := Aside0.mk (blk_drew BK186.out)
                    have n4_ := Aside0.mk (blk_drew BK188.out)
                    have n5_ := Aside0.mk (below_drew1 HB.out)
                    clear HO_187001
                    clear BK180
                    clear BK181
                    clear BK186
                    clear BK188
                    clear HB
                    have HO_187001 := n0_
                    have BK180 := n1_
                    have BK181 := n2_
                    have BK186 := n3_
                    have BK188 := n4_
                    have HB := n5_
                    clear n0_ n1_ n2_ n3_ n4_ n5_
                    have p189 : 0 ≤ (x10_5 : Int) := of_decide_eq_true (by first | (with_reducible assumption) | assumption)
                    have q189 : x10_5 < (x187001_5.length : Int) := of_decide_eq_true (by first | (with_reducible assumption) | assumption)
                    obtain ⟨ad189, e189, hx189_0, hx189_1, hx189_2, hx189_3⟩ := at_T28 (Kd.R_reads' HO_187001.out).2.2 x10_5 p189 q189
                    cases e189
                    replace p189 := eq_true p189
                    replace q189 := eq_true q189
                    have p190 : 0 ≤ (x10_5 : Int) := of_decide_eq_true (by first | (with_reducible assumption) | assumption)
                    have q190 : x10_5 < (x187001_5.length : Int) := of_decide_eq_true (by first | (with_reducible assumption) | assumption)
                    obtain ⟨ad190, e190, hx190_0, hx190_1, hx190_2, hx190_3⟩ := at_T28 (Kd.R_reads' HO_187001.out).2.2 x10_5 p190 q190
                    obtain rfl : ad189 = ad190 := (by injection e190)
                    replace p190 := eq_true p190
                    replace q190 := eq_true q190
                    refine start_ (n := 20) (S := fun w' => w'.cell? ⟨gb186, 0, none⟩ = some (.int .i64 (wrap64 (a0_0 - 1))) ∧ w'.cell? ⟨gb186, 1, none⟩ = some (.slice (some ad189) x187001_5.length co71) ∧ w'.cell? ⟨gb188, 0, none⟩ = some (.int .i64 x189000_27) ∧ w'.cell? ⟨gb188, 1, none⟩ = some (.int .i64 x189001_41) ∧ w'.cell? ⟨gb188, 2, none⟩ = some (.int .i64 x189002_5) ∧ w'.cell? ⟨gb188, 3, none⟩ = some (.int .i64 x189003_5) ∧ w'.cell? (ad189.add ((x10_5).toNat * 4)) = some (.int .i64 ((rd_T28 x187001_5 x10_5).f0)) ∧ w'.cell? ⟨(ad189.add ((x10_5).toNat * 4)).block, (ad189.add ((x10_5).toNat * 4)).off + 1, none⟩ = some (.int .i64 ((rd_T28 x187001_5 x10_5).f1)) ∧ w'.cell? ⟨(ad189.add ((x10_5).toNat * 4)).block, (ad189.add ((x10_5).toNat * 4)).off + 2, none⟩ = some (.int .i64 ((rd_T28 x187001_5 x10_5).f2)) ∧ w'.cell? ⟨(ad189.add ((x10_5).toNat * 4)).block, (ad189.add ((x10_5).toNat * 4)).off + 3, none⟩ = some (.int .i64 ((rd_T28 x187001_5 x10_5).f3)) ∧ w'.cell? (ad189.add ((x10_5).toNat * 4)) = some (.int .i64 ((rd_T28 x187001_5 x10_5).f0)) ∧ w'.cell? ⟨(ad189.add ((x10_5).toNat * 4)).block, (ad189.add ((x10_5).toNat * 4)).off + 1, none⟩ = some (.int .i64 ((rd_T28 x187001_5 x10_5).f1)) ∧ w'.cell? ⟨(ad189.add ((x10_5).toNat * 4)).block, (ad189.add ((x10_5).toNat * 4)).off + 2, none⟩ = some (.int .i64 ((rd_T28 x187001_5 x10_5).f2)) ∧ w'.cell? ⟨(ad189.add ((x10_5).toNat * 4)).block, (ad189.add ((x10_5).toNat * 4)).off + 3, none⟩ = some (.int .i64 ((rd_T28 x187001_5 x10_5).f3))) (ds := []) #[false, false, false, false, false, false, false, false, false, false, false, false, false, false, false, false, false, false, false, false] (by kernel_rfl) rfl rfl ⟨(blk_cell BK186.out 0).trans rfl, (blk_cell BK186.out 1).trans rfl, (blk_cell BK188.out 0).trans rfl, (blk_cell BK188.out 1).trans rfl, (blk_cell BK188.out 2).trans rfl, (blk_cell BK188.out 3).trans rfl, hx189_0, hx189_1, hx189_2, hx189_3, hx190_0, hx190_1, hx190_2, hx190_3⟩ (fun hHeld => ?_); refine with_tabW spileref36_Merge.tab19 spileref36_Merge.bits19 (fun HT_ HW_ => ?_)
                    generalize wr.drew = w72 at HO_187001 BK180 BK181 BK186 BK188 HB hx189_0 hx189_1 hx189_2 hx189_3 hx190_0 hx190_1 hx190_2 hx190_3 hHeld ⊢
                    refine pure_ (i := 0) (N := some 70) (v := ?_) (a' := ?_) #[true, false, false, false, false, false, false, false, false, false, false, false, false, false, false, false, false, false, false, false] rfl rfl (any_of HT_.out (by kernel_rfl)) (fun _ _ _ h => h) (Or.inl ⟨by rfl, ?_⟩) ?_ ?_
                    rotate_left
                    ·intro w'
                     go_simp
                     with_reducible rfl
                    rotate_left
                    ·simp only [Act.put, List.setIfInBounds_toArray, List.set_cons_zero, List.set_cons_succ, i64_w, i32_w]
                     rfl
                    refine pure_ (i := 2) (N := some 72) (v := ?_) (a' := ?_) #[true, false, true, false, false, false, false, false, false, false, false, false, false, false, false, false, false, false, false, false] rfl rfl (any_of HT_.out (by kernel_rfl)) (fun _ _ _ h => h) (Or.inl ⟨by rfl, ?_⟩) ?_ ?_
                    rotate_left
                    ·intro w'
                     go_simp
                     with_reducible rfl
                    rotate_left
                    ·simp only [Act.put, List.setIfInBounds_toArray, List.set_cons_zero, List.set_cons_succ, i64_w, i32_w]
                     rfl
                    refine pure_ (i := 6) (N := some 76) (v := ?_) (a' := ?_) #[true, false, true, false, false, false, true, false, false, false, false, false, false, false, false, false, false, false, false, false] rfl rfl (any_of HT_.out (by kernel_rfl)) (fun _ _ _ h => h) (Or.inl ⟨by rfl, ?_⟩) ?_ ?_
                    rotate_left
                    ·intro w'
                     go_simp
                     with_reducible rfl
                    rotate_left
                    ·simp only [Act.put, List.setIfInBounds_toArray, List.set_cons_zero, List.set_cons_succ, i64_w, i32_w]
                     rfl
                    refine take_ (i := 1) (N := some 71) (v := ?_) (a' := ?_) #[true, true, true, false, false, false, true, false, false, false, false, false, false, false, false, false, false, false, false, false] rfl rfl (take_ofW HT_.out HW_.out (by kernel_rfl)) (fun _ _ _ h => h) (Or.inl ⟨by rfl, ?_⟩) hHeld ?_ ?_
                    rotate_left
                    ·rintro w' ⟨s0, s1, s2, s3, s4, s5, s6, s7, s8, s9, s10, s11, s12, s13⟩
                     go_simp
                     with_reducible rfl
                    rotate_left
                    ·simp only [Act.put, List.setIfInBounds_toArray, List.set_cons_zero, List.set_cons_succ, i64_w, i32_w]
                     rfl
                    refine pure_ (i := 3) (N := some 73) (v := ?_) (a' := ?_) #[true, true, true, true, false, false, true, false, false, false, false, false, false, false, false, false, false, false, false, false] rfl rfl (any_of HT_.out (by kernel_rfl)) (fun _ _ _ h => h) (Or.inl ⟨by rfl, ?_⟩) ?_ ?_
                    rotate_left
                    ·intro w'
                     go_simp
                     with_reducible rfl
                    rotate_left
                    ·simp only [Act.put, List.setIfInBounds_toArray, List.set_cons_zero, List.set_cons_succ, i64_w, i32_w]
                     rfl
                    refine pure_ (i := 4) (N := some 74) (v := ?_) (a' := ?_) #[true, true, true, true, true, false, true, false, false, false, false, false, false, false, false, false, false, false, false, false] rfl rfl (any_of HT_.out (by kernel_rfl)) (fun _ _ _ h => h) (Or.inl ⟨by rfl, ?_⟩) ?_ ?_
                    rotate_left
                    ·intro w'
                     go_simp
                     with_reducible rfl
                    rotate_left
                    ·simp only [Act.put, List.setIfInBounds_toArray, List.set_cons_zero, List.set_cons_succ, i64_w, i32_w]
                     rfl
                    refine take_ (i := 5) (N := some 75) (v := ?_) (a' := ?_) #[true, true, true, true, true, true, true, false, false, false, false, false, false, false, false, false, false, false, false, false] rfl rfl (take_ofW HT_.out HW_.out (by kernel_rfl)) (fun _ _ _ h => h) (Or.inl ⟨by rfl, ?_⟩) hHeld ?_ ?_
                    rotate_left
                    ·rintro w' ⟨s0, s1, s2, s3, s4, s5, s6, s7, s8, s9, s10, s11, s12, s13⟩
                     go_simp
                     with_reducible rfl
                    rotate_left
                    ·simp only [Act.put, List.setIfInBounds_toArray, List.set_cons_zero, List.set_cons_succ, i64_w, i32_w]
                     rfl
                    refine take_ (i := 7) (N := some 77) (v := ?_) (a' := ?_) #[true, true, true, true, true, true, true, true, false, false, false, false, false, false, false, false, false, false, false, false] rfl rfl (take_ofW HT_.out HW_.out (by kernel_rfl)) (fun _ _ _ h => h) (Or.inl ⟨by rfl, ?_⟩) hHeld ?_ ?_
                    rotate_left
                    ·rintro w' ⟨s0, s1, s2, s3, s4, s5, s6, s7, s8, s9, s10, s11, s12, s13⟩
                     go_simp
                     with_reducible rfl
                    rotate_left
                    ·simp only [Act.put, List.setIfInBounds_toArray, List.set_cons_zero, List.set_cons_succ, i64_w, i32_w]
                     rfl
                    refine pure_ (i := 8) (N := some 78) (v := ?_) (a' := ?_) #[true, true, true, true, true, true, true, true, true, false, false, false, false, false, false, false, false, false, false, false] rfl rfl (any_of HT_.out (by kernel_rfl)) (fun _ _ _ h => h) (Or.inl ⟨by rfl, ?_⟩) ?_ ?_
                    rotate_left
                    ·intro w'
                     go_simp
                     with_reducible rfl
                    rotate_left
                    ·simp only [Act.put, List.setIfInBounds_toArray, List.set_cons_zero, List.set_cons_succ, i64_w, i32_w]
                     rfl
                    refine pure_ (i := 9) (N := some 79) (v := ?_) (a' := ?_) #[true, true, true, true, true, true, true, true, true, true, false, false, false, false, false, false, false, false, false, false] rfl rfl (any_of HT_.out (by kernel_rfl)) (fun _ _ _ h => h) (Or.inl ⟨by rfl, ?_⟩) ?_ ?_
                    rotate_left
                    ·intro w'
                     go_simp
                     with_reducible rfl
                    rotate_left
                    ·simp only [Act.put, List.setIfInBounds_toArray, List.set_cons_zero, List.set_cons_succ, i64_w, i32_w]
                     rfl
                    refine pure_ (i := 10) (N := some 80) (v := ?_) (a' := ?_) #[true, true, true, true, true, true, true, true, true, true, true, false, false, false, false, false, false, false, false, false] rfl rfl (any_of HT_.out (by kernel_rfl)) (fun _ _ _ h => h) (Or.inl ⟨by rfl, ?_⟩) ?_ ?_
                    rotate_left
                    ·intro w'
                     go_simp
                     with_reducible rfl
                    rotate_left
                    ·simp only [Act.put, List.setIfInBounds_toArray, List.set_cons_zero, List.set_cons_succ, i64_w, i32_w]
                     rfl
                    refine pure_ (i := 12) (N := some 82) (v := ?_) (a' := ?_) #[true, true, true, true, true, true, true, true, true, true, true, false, true, false, false, false, false, false, false, false] rfl rfl (any_of HT_.out (by kernel_rfl)) (fun _ _ _ h => h) (Or.inl ⟨by rfl, ?_⟩) ?_ ?_
                    rotate_left
                    ·intro w'
                     go_simp
                     with_reducible rfl
                    rotate_left
                    ·simp only [Act.put, List.setIfInBounds_toArray, List.set_cons_zero, List.set_cons_succ, i64_w, i32_w]
                     rfl
                    refine pure_ (i := 16) (N := some 86) (v := ?_) (a' := ?_) #[true, true, true, true, true, true, true, true, true, true, true, false, true, false, false, false, true, false, false, false] rfl rfl (any_of HT_.out (by kernel_rfl)) (fun _ _ _ h => h) (Or.inl ⟨by rfl, ?_⟩) ?_ ?_
                    rotate_left
                    ·intro w'
                     go_simp
                     with_reducible rfl
                    rotate_left
                    ·simp only [Act.put, List.setIfInBounds_toArray, List.set_cons_zero, List.set_cons_succ, i64_w, i32_w]
                     rfl
                    refine take_ (i := 11) (N := some 81) (v := ?_) (a' := ?_) #[true, true, true, true, true, true, true, true, true, true, true, true, true, false, false, false, true, false, false, false] rfl rfl (take_ofW HT_.out HW_.out (by kernel_rfl)) (fun _ _ _ h => h) (Or.inl ⟨by rfl, ?_⟩) hHeld ?_ ?_
                    rotate_left
                    ·rintro w' ⟨s0, s1, s2, s3, s4, s5, s6, s7, s8, s9, s10, s11, s12, s13⟩
                     go_simp
                     with_reducible rfl
                    rotate_left
                    ·simp only [Act.put, List.setIfInBounds_toArray, List.set_cons_zero, List.set_cons_succ, i64_w, i32_w]
                     rfl
                    refine pure_ (i := 13) (N := some 83) (v := ?_) (a' := ?_) #[true, true, true, true, true, true, true, true, true, true, true, true, true, true, false, false, true, false, false, false] rfl rfl (any_of HT_.out (by kernel_rfl)) (fun _ _ _ h => h) (Or.inl ⟨by rfl, ?_⟩) ?_ ?_
                    rotate_left
                    ·intro w'
                     go_simp
                     with_reducible rfl
                    rotate_left
                    ·simp only [Act.put, List.setIfInBounds_toArray, List.set_cons_zero, List.set_cons_succ, i64_w, i32_w]
                     rfl
                    refine pure_ (i := 14) (N := some 84) (v := ?_) (a' := ?_) #[true, true, true, true, true, true, true, true, true, true, true, true, true, true, true, false, true, false, false, false] rfl rfl (any_of HT_.out (by kernel_rfl)) (fun _ _ _ h => h) (Or.inl ⟨by rfl, ?_⟩) ?_ ?_
                    rotate_left
                    ·intro w'
                     go_simp
                     with_reducible rfl
                    rotate_left
                    ·simp only [Act.put, List.setIfInBounds_toArray, List.set_cons_zero, List.set_cons_succ, i64_w, i32_w]
                     rfl
                    refine take_ (i := 15) (N := some 85) (v := ?_) (a' := ?_) #[true, true, true, true, true, true, true, true, true, true, true, true, true, true, true, true, true, false, false, false] rfl rfl (take_ofW HT_.out HW_.out (by kernel_rfl)) (fun _ _ _ h => h) (Or.inl ⟨by rfl, ?_⟩) hHeld ?_ ?_
                    rotate_left
                    ·rintro w' ⟨s0, s1, s2, s3, s4, s5, s6, s7, s8, s9, s10, s11, s12, s13⟩
                     go_simp
                     with_reducible rfl
                    rotate_left
                    ·simp only [Act.put, List.setIfInBounds_toArray, List.set_cons_zero, List.set_cons_succ, i64_w, i32_w]
                     rfl
                    refine take_ (i := 17) (N := some 87) (v := ?_) (a' := ?_) #[true, true, true, true, true, true, true, true, true, true, true, true, true, true, true, true, true, true, false, false] rfl rfl (take_ofW HT_.out HW_.out (by kernel_rfl)) (fun _ _ _ h => h) (Or.inl ⟨by rfl, ?_⟩) hHeld ?_ ?_
                    rotate_left
                    ·rintro w' ⟨s0, s1, s2, s3, s4, s5, s6, s7, s8, s9, s10, s11, s12, s13⟩
                     go_simp
                     with_reducible rfl
                    rotate_left
                    ·simp only [Act.put, List.setIfInBounds_toArray, List.set_cons_zero, List.set_cons_succ, i64_w, i32_w]
                     rfl
                    refine pure_ (i := 18) (N := some 88) (v := ?_) (a' := ?_) #[true, true, true, true, true, true, true, true, true, true, true, true, true, true, true, true, true, true, true, false] rfl rfl (any_of HT_.out (by kernel_rfl)) (fun _ _ _ h => h) (Or.inl ⟨by rfl, ?_⟩) ?_ ?_
                    rotate_left
                    ·intro w'
                     go_simp
                     with_reducible rfl
                    rotate_left
                    ·simp only [Act.put, List.setIfInBounds_toArray, List.set_cons_zero, List.set_cons_succ, i64_w, i32_w]
                     rfl
                    refine pure_ (i := 19) (N := some 89) (v := ?_) (a' := ?_) #[true, true, true, true, true, true, true, true, true, true, true, true, true, true, true, true, true, true, true, true] rfl rfl (any_of HT_.out (by kernel_rfl)) (fun _ _ _ h => h) (Or.inl ⟨by rfl, ?_⟩) ?_ ?_
                    rotate_left
                    ·intro w'
                     go_simp
                     with_reducible rfl
                    rotate_left
                    ·simp only [Act.put, List.setIfInBounds_toArray, List.set_cons_zero, List.set_cons_succ, i64_w, i32_w]
                     rfl
                    refine done_ (done_of HT_.out (by kernel_rfl)) ?_
                    try go_wp2
                    have n0_ := Aside0.mk (Kd.R_drew HO_187001.out)
                    have n1_ := Aside0.mk (blk_drew BK180.out)
                    have n2_ := Aside0.mk (blk_drew BK181.out)
                    have n3_ := Aside0.mk (blk_drew BK186.out)
                    have n4_ := Aside0.mk (blk_drew BK188.out)
                    have n5_ := Aside0.mk (below_drew1 HB.out)
                    clear HO_187001
                    clear BK180
                    clear BK181
                    clear BK186
                    clear BK188
                    clear HB
                    have HO_187001 := n0_
                    have BK180 := n1_
                    have BK181 := n2_
                    have BK186 := n3_
                    have BK188 := n4_
                    have HB := n5_
                    clear n0_ n1_ n2_ n3_ n4_ n5_
                    have p191 : 0 ≤ (x10_5 : Int) := of_decide_eq_true (by first | (with_reducible assumption) | assumption)
                    have q191 : x10_5 < (x187001_5.length : Int) := of_decide_eq_true (by first | (with_reducible assumption) | assumption)
                    obtain ⟨ad191, e191, hx191_0, hx191_1, hx191_2, hx191_3⟩ := at_T28 (Kd.R_reads' HO_187001.out).2.2 x10_5 p191 q191
                    obtain rfl : ad189 = ad191 := (by injection e191)
                    replace p191 := eq_true p191
                    replace q191 := eq_true q191
                    have p65 : 0 ≤ (x10_5 : Int) := of_decide_eq_true (by first | (with_reducible assumption) | assumption)
                    have q65 : (x10_5 : Int) < ((x187001_5.length : Int) : Int) := of_decide_eq_true (by first | (with_reducible assumption) | assumption)
                    obtain ⟨go65, co65, eo65, gb65, gl65, cl65, HG65⟩ := Kd.R_form HO_187001.out (by omega)
                    (first | cases eo65 | (injection eo65 with ea_ en_ ec_; (first | subst ea_ | (injection ea_ with ea_; subst ea_)); subst ec_; clear en_))
                    have GB65 := Aside0.mk gb65
                    have GG65 := Aside0.mk HG65
                    clear gb65 gl65 HG65
                    (first | simp only [add_plain] at hx189_0 | skip)
                    (first | simp only [add_plain] at hx189_1 | skip)
                    (first | simp only [add_plain] at hx189_2 | skip)
                    (first | simp only [add_plain] at hx189_3 | skip)
                    (first | simp only [add_plain] at hx190_0 | skip)
                    (first | simp only [add_plain] at hx190_1 | skip)
                    (first | simp only [add_plain] at hx190_2 | skip)
                    (first | simp only [add_plain] at hx190_3 | skip)
                    (first | simp only [add_plain] at hx191_0 | skip)
                    (first | simp only [add_plain] at hx191_1 | skip)
                    (first | simp only [add_plain] at hx191_2 | skip)
                    (first | simp only [add_plain] at hx191_3 | skip)
                    obtain ⟨ce65, hcl65, hM65, hcc65, hfr65⟩ := Kd.R_elem HO_187001.out z28 (x10_5 : Int) p65 q65
                    obtain rfl := k28_openM hM65
                    have hx65_0 : World.cell? _ ⟨go65, (x10_5 : Int).toNat * 4, none⟩ = some (.int .i64 ((rd_T28 x187001_5 x10_5).f0)) := hcc65 0 _ rfl
                    have hx65_1 : World.cell? _ ⟨go65, (x10_5 : Int).toNat * 4 + 1, none⟩ = some (.int .i64 ((rd_T28 x187001_5 x10_5).f1)) := hcc65 1 _ rfl
                    have hx65_2 : World.cell? _ ⟨go65, (x10_5 : Int).toNat * 4 + 2, none⟩ = some (.int .i64 ((rd_T28 x187001_5 x10_5).f2)) := hcc65 2 _ rfl
                    have hx65_3 : World.cell? _ ⟨go65, (x10_5 : Int).toNat * 4 + 3, none⟩ = some (.int .i64 ((rd_T28 x187001_5 x10_5).f3)) := hcc65 3 _ rfl
                    have hf65_0 : World.frozen? _ ⟨go65, (x10_5 : Int).toNat * 4, none⟩ = false := hfr65 0
                    have hf65_1 : World.frozen? _ ⟨go65, (x10_5 : Int).toNat * 4 + 1, none⟩ = false := hfr65 1
                    have hf65_2 : World.frozen? _ ⟨go65, (x10_5 : Int).toNat * 4 + 2, none⟩ = false := hfr65 2
                    have hf65_3 : World.frozen? _ ⟨go65, (x10_5 : Int).toNat * 4 + 3, none⟩ = false := hfr65 3
                    clear hcl65 hcc65 hfr65 hM65
                    replace p65 := eq_true p65
                    replace q65 := eq_true q65
                    obtain ⟨ce74, hcl74, hM74, hcc74, hfr74⟩ := Kd.R_elem HO_187001.out z28 (x10_5 : Int) (of_decide_eq_true (by first | (with_reducible assumption) | assumption)) (by have h_ : (x10_5 : Int) < ((x187001_5.length : Int) : Int) := of_decide_eq_true (by first | (with_reducible assumption) | assumption); first | exact h_ | (have e_ := (Kd.R_reads' HO_187001.out).1; omega) | simpa using h_)
                    obtain rfl := k28_openM hM74
                    have HP74 := (Kd.R_seg HO_187001.out (x10_5 : Int) (of_decide_eq_true (by first | (with_reducible assumption) | assumption)) (by have h_ : (x10_5 : Int) < ((x187001_5.length : Int) : Int) := of_decide_eq_true (by first | (with_reducible assumption) | assumption); first | exact h_ | (have e_ := (Kd.R_reads' HO_187001.out).1; omega) | simpa using h_) (seg := [.int .i64 (wrap64 (((rd_T28 x187001_5 x10_5).f2) + x189002_5))]) (j := 2) hcl74 hcc74 (show 3 ≤ 4 from by decide) (x' := (⟨(rd_T28 x187001_5 x10_5).f0, (rd_T28 x187001_5 x10_5).f1, wrap64 (((rd_T28 x187001_5 x10_5).f2) + x189002_5), (rd_T28 x187001_5 x10_5).f3⟩ : S28)) (k28_mkM _ _ _ (⟨(rd_T28 x187001_5 x10_5).f0, (rd_T28 x187001_5 x10_5).f1, wrap64 (((rd_T28 x187001_5 x10_5).f2) + x189002_5), (rd_T28 x187001_5 x10_5).f3⟩ : S28) ) (fun _ hk => hk)).1
                    rw [← Ny192.out] at HP74
                    have HQ74 := Aside0.mk HP74
                    clear hcl74 hcc74 hfr74 hM74 HP74
                    refine start_ (n := 15) (S := fun w' => w'.cell? ⟨gb186, 0, none⟩ = some (.int .i64 (wrap64 (a0_0 - 1))) ∧ w'.cell? ⟨gb186, 1, none⟩ = some (.slice (some ⟨go65, 0, none⟩) x187001_5.length co71) ∧ w'.cell? ⟨gb188, 0, none⟩ = some (.int .i64 x189000_27) ∧ w'.cell? ⟨gb188, 1, none⟩ = some (.int .i64 x189001_41) ∧ w'.cell? ⟨gb188, 2, none⟩ = some (.int .i64 x189002_5) ∧ w'.cell? ⟨gb188, 3, none⟩ = some (.int .i64 x189003_5) ∧ w'.cell? ⟨go65, ((x10_5).toNat * 4), none⟩ = some (.int .i64 ((rd_T28 x187001_5 x10_5).f0)) ∧ w'.cell? ⟨go65, ((x10_5).toNat * 4) + 1, none⟩ = some (.int .i64 ((rd_T28 x187001_5 x10_5).f1)) ∧ w'.cell? ⟨go65, ((x10_5).toNat * 4) + 2, none⟩ = some (.int .i64 ((rd_T28 x187001_5 x10_5).f2)) ∧ w'.cell? ⟨go65, ((x10_5).toNat * 4) + 3, none⟩ = some (.int .i64 ((rd_T28 x187001_5 x10_5).f3))) (ds := [14]) #[false, false, false, false, false, false, false, false, false, false, false, false, false, false, false] (by kernel_rfl) rfl rfl ⟨(blk_cell BK186.out 0).trans rfl, (blk_cell BK186.out 1).trans rfl, (blk_cell BK188.out 0).trans rfl, (blk_cell BK188.out 1).trans rfl, (blk_cell BK188.out 2).trans rfl, (blk_cell BK188.out 3).trans rfl, hx191_0, hx191_1, hx191_2, hx191_3⟩ (fun hHeld => ?_); refine with_tabW spileref36_Merge.tab20 spileref36_Merge.bits20 (fun HT_ HW_ => ?_)
                    generalize w72.drew = w73 at HO_187001 BK180 BK181 BK186 BK188 HB GG65 HQ74 hf65_0 hf65_1 hf65_2 hf65_3 hx189_0 hx189_1 hx189_2 hx189_3 hx190_0 hx190_1 hx190_2 hx190_3 hx191_0 hx191_1 hx191_2 hx191_3 hx65_0 hx65_1 hx65_2 hx65_3 hHeld ⊢
                    refine pure_ (i := 0) (N := some 90) (v := ?_) (a' := ?_) #[true, false, false, false, false, false, false, false, false, false, false, false, false, false, false] rfl rfl (any_of HT_.out (by kernel_rfl)) (fun _ _ _ h => h) (Or.inl ⟨by rfl, ?_⟩) ?_ ?_
                    rotate_left
                    ·intro w'
                     go_simp
                     with_reducible rfl
                    rotate_left
                    ·simp only [Act.put, List.setIfInBounds_toArray, List.set_cons_zero, List.set_cons_succ, i64_w, i32_w]
                     rfl
                    refine pure_ (i := 2) (N := some 92) (v := ?_) (a' := ?_) #[true, false, true, false, false, false, false, false, false, false, false, false, false, false, false] rfl rfl (any_of HT_.out (by kernel_rfl)) (fun _ _ _ h => h) (Or.inl ⟨by rfl, ?_⟩) ?_ ?_
                    rotate_left
                    ·intro w'
                     go_simp
                     with_reducible rfl
                    rotate_left
                    ·simp only [Act.put, List.setIfInBounds_toArray, List.set_cons_zero, List.set_cons_succ, i64_w, i32_w]
                     rfl
                    refine pure_ (i := 3) (N := some 93) (v := ?_) (a' := ?_) #[true, false, true, true, false, false, false, false, false, false, false, false, false, false, false] rfl rfl (any_of HT_.out (by kernel_rfl)) (fun _ _ _ h => h) (Or.inl ⟨by rfl, ?_⟩) ?_ ?_
                    rotate_left
                    ·intro w'
                     go_simp
                     with_reducible rfl
                    rotate_left
                    ·simp only [Act.put, List.setIfInBounds_toArray, List.set_cons_zero, List.set_cons_succ, i64_w, i32_w]
                     rfl
                    refine pure_ (i := 5) (N := some 95) (v := ?_) (a' := ?_) #[true, false, true, true, false, true, false, false, false, false, false, false, false, false, false] rfl rfl (any_of HT_.out (by kernel_rfl)) (fun _ _ _ h => h) (Or.inl ⟨by rfl, ?_⟩) ?_ ?_
                    rotate_left
                    ·intro w'
                     go_simp
                     with_reducible rfl
                    rotate_left
                    ·simp only [Act.put, List.setIfInBounds_toArray, List.set_cons_zero, List.set_cons_succ, i64_w, i32_w]
                     rfl
                    refine pure_ (i := 9) (N := some 99) (v := ?_) (a' := ?_) #[true, false, true, true, false, true, false, false, false, true, false, false, false, false, false] rfl rfl (any_of HT_.out (by kernel_rfl)) (fun _ _ _ h => h) (Or.inl ⟨by rfl, ?_⟩) ?_ ?_
                    rotate_left
                    ·intro w'
                     go_simp
                     with_reducible rfl
                    rotate_left
                    ·simp only [Act.put, List.setIfInBounds_toArray, List.set_cons_zero, List.set_cons_succ, i64_w, i32_w]
                     rfl
                    refine take_ (i := 1) (N := some 91) (v := ?_) (a' := ?_) #[true, true, true, true, false, true, false, false, false, true, false, false, false, false, false] rfl rfl (take_ofW HT_.out HW_.out (by kernel_rfl)) (fun _ _ _ h => h) (Or.inl ⟨by rfl, ?_⟩) hHeld ?_ ?_
                    rotate_left
                    ·rintro w' ⟨s0, s1, s2, s3, s4, s5, s6, s7, s8, s9⟩
                     go_simp
                     with_reducible rfl
                    rotate_left
                    ·simp only [Act.put, List.setIfInBounds_toArray, List.set_cons_zero, List.set_cons_succ, i64_w, i32_w]
                     rfl
                    refine take_ (i := 4) (N := some 94) (v := ?_) (a' := ?_) #[true, true, true, true, true, true, false, false, false, true, false, false, false, false, false] rfl rfl (take_ofW HT_.out HW_.out (by kernel_rfl)) (fun _ _ _ h => h) (Or.inl ⟨by rfl, ?_⟩) hHeld ?_ ?_
                    rotate_left
                    ·rintro w' ⟨s0, s1, s2, s3, s4, s5, s6, s7, s8, s9⟩
                     go_simp
                     with_reducible rfl
                    rotate_left
                    ·simp only [Act.put, List.setIfInBounds_toArray, List.set_cons_zero, List.set_cons_succ, i64_w, i32_w]
                     rfl
                    refine pure_ (i := 6) (N := some 96) (v := ?_) (a' := ?_) #[true, true, true, true, true, true, true, false, false, true, false, false, false, false, false] rfl rfl (any_of HT_.out (by kernel_rfl)) (fun _ _ _ h => h) (Or.inl ⟨by rfl, ?_⟩) ?_ ?_
                    rotate_left
                    ·intro w'
                     go_simp
                     with_reducible rfl
                    rotate_left
                    ·simp only [Act.put, List.setIfInBounds_toArray, List.set_cons_zero, List.set_cons_succ, i64_w, i32_w]
                     rfl
                    refine pure_ (i := 7) (N := some 97) (v := ?_) (a' := ?_) #[true, true, true, true, true, true, true, true, false, true, false, false, false, false, false] rfl rfl (any_of HT_.out (by kernel_rfl)) (fun _ _ _ h => h) (Or.inl ⟨by rfl, ?_⟩) ?_ ?_
                    rotate_left
                    ·intro w'
                     go_simp
                     with_reducible rfl
                    rotate_left
                    ·simp only [Act.put, List.setIfInBounds_toArray, List.set_cons_zero, List.set_cons_succ, i64_w, i32_w]
                     rfl
                    refine take_ (i := 8) (N := some 98) (v := ?_) (a' := ?_) #[true, true, true, true, true, true, true, true, true, true, false, false, false, false, false] rfl rfl (take_ofW HT_.out HW_.out (by kernel_rfl)) (fun _ _ _ h => h) (Or.inl ⟨by rfl, ?_⟩) hHeld ?_ ?_
                    rotate_left
                    ·rintro w' ⟨s0, s1, s2, s3, s4, s5, s6, s7, s8, s9⟩
                     go_simp
                     with_reducible rfl
                    rotate_left
                    ·simp only [Act.put, List.setIfInBounds_toArray, List.set_cons_zero, List.set_cons_succ, i64_w, i32_w]
                     rfl
                    refine take_ (i := 10) (N := some 100) (v := ?_) (a' := ?_) #[true, true, true, true, true, true, true, true, true, true, true, false, false, false, false] rfl rfl (take_ofW HT_.out HW_.out (by kernel_rfl)) (fun _ _ _ h => h) (Or.inl ⟨by rfl, ?_⟩) hHeld ?_ ?_
                    rotate_left
                    ·rintro w' ⟨s0, s1, s2, s3, s4, s5, s6, s7, s8, s9⟩
                     go_simp
                     with_reducible rfl
                    rotate_left
                    ·simp only [Act.put, List.setIfInBounds_toArray, List.set_cons_zero, List.set_cons_succ, i64_w, i32_w]
                     rfl
                    refine pure_ (i := 11) (N := some 101) (v := ?_) (a' := ?_) #[true, true, true, true, true, true, true, true, true, true, true, true, false, false, false] rfl rfl (any_of HT_.out (by kernel_rfl)) (fun _ _ _ h => h) (Or.inl ⟨by rfl, ?_⟩) ?_ ?_
                    rotate_left
                    ·intro w'
                     go_simp
                     with_reducible rfl
                    rotate_left
                    ·simp only [Act.put, List.setIfInBounds_toArray, List.set_cons_zero, List.set_cons_succ, i64_w, i32_w]
                     rfl
                    refine pure_ (i := 12) (N := some 102) (v := ?_) (a' := ?_) #[true, true, true, true, true, true, true, true, true, true, true, true, true, false, false] rfl rfl (any_of HT_.out (by kernel_rfl)) (fun _ _ _ h => h) (Or.inl ⟨by rfl, ?_⟩) ?_ ?_
                    rotate_left
                    ·intro w'
                     go_simp
                     with_reducible rfl
                    rotate_left
                    ·simp only [Act.put, List.setIfInBounds_toArray, List.set_cons_zero, List.set_cons_succ, i64_w, i32_w]
                     rfl
                    refine pure_ (i := 13) (N := some 103) (v := ?_) (a' := ?_) #[true, true, true, true, true, true, true, true, true, true, true, true, true, true, false] rfl rfl (any_of HT_.out (by kernel_rfl)) (fun _ _ _ h => h) (Or.inl ⟨by rfl, ?_⟩) ?_ ?_
                    rotate_left
                    ·intro w'
                     go_simp
                     with_reducible rfl
                    rotate_left
                    ·simp only [Act.put, List.setIfInBounds_toArray, List.set_cons_zero, List.set_cons_succ, i64_w, i32_w]
                     rfl
                    refine last_ (i := 14) (N := none) #[true, true, true, true, true, true, true, true, true, true, true, true, true, true, true] rfl rfl (one_of HT_.out (by kernel_rfl)) (by decide) (fun K hK => ?_)
                    refine skip_ (w1 := ?_) (by rfl) rfl ?_ ?_
                    rotate_left
                    ·go_simp
                     rfl
                    refine hK.out _ _ ?_
                    clear hK K
                    refine done_ (done_of HT_.out (by kernel_rfl)) ?_
                    try go_wp2
                    have n0_ : Aside0 (Kd.R k28 28 (w73.setCell ⟨go65, (x10_5 : Int).toNat * 4 + 2, none⟩ (.int .i64 (wrap64 (((rd_T28 x187001_5 x10_5).f2) + x189002_5)))) w.heap.size (fun k_ => k_ ≠ gb188) (.slice (some ⟨go65, 0, none⟩) x187001_5.length co71) y192) := ⟨by (with_reducible repeat (first | apply Kd.R_alloc | apply Kd.R_drewN | apply Kd.R_drew)); exact HQ74.out⟩
                    have n1_ : Aside0 ((w73.setCell ⟨go65, (x10_5 : Int).toNat * 4 + 2, none⟩ (.int .i64 (wrap64 (((rd_T28 x187001_5 x10_5).f2) + x189002_5)))).heap[gb180]? = some (.cells #[.int .i64 a0_0, .slice (some ad187) l0_1.length c0_1] 24 (0, 0))) := ⟨by (with_reducible repeat (first | refine blk_drewN ?_ _ | refine blk_drew ?_ | refine blk_alloc ?_ _)); refine blk_far ?_ (by have h_ := Kd.R_ne HO_187001.out BK180.out (by decide); intro e_; exact h_ (by rw [e_]; rfl)) _; (with_reducible repeat (first | refine blk_drewN ?_ _ | refine blk_drew ?_ | refine blk_alloc ?_ _)); exact BK180.out⟩
                    have n2_ : Aside0 ((w73.setCell ⟨go65, (x10_5 : Int).toNat * 4 + 2, none⟩ (.int .i64 (wrap64 (((rd_T28 x187001_5 x10_5).f2) + x189002_5)))).heap[gb181]? = some (.cells #[.int .i64 0, .slice none 0 0] 24 (0, 0))) := ⟨by (with_reducible repeat (first | refine blk_drewN ?_ _ | refine blk_drew ?_ | refine blk_alloc ?_ _)); refine blk_far ?_ (by have h_ := Kd.R_ne HO_187001.out BK181.out (by decide); intro e_; exact h_ (by rw [e_]; rfl)) _; (with_reducible repeat (first | refine blk_drewN ?_ _ | refine blk_drew ?_ | refine blk_alloc ?_ _)); exact BK181.out⟩
                    have n3_ : Aside0 ((w73.setCell ⟨go65, (x10_5 : Int).toNat * 4 + 2, none⟩ (.int .i64 (wrap64 (((rd_T28 x187001_5 x10_5).f2) + x189002_5)))).heap[gb186]? = some (.cells #[.int .i64 (wrap64 (a0_0 - 1)), .slice (some ⟨go65, 0, none⟩) x187001_5.length co71] 24 (0, 0))) := ⟨by (with_reducible repeat (first | refine blk_drewN ?_ _ | refine blk_drew ?_ | refine blk_alloc ?_ _)); refine blk_far ?_ (by have h_ := Kd.R_ne HO_187001.out BK186.out (by decide); intro e_; exact h_ (by rw [e_]; rfl)) _; (with_reducible repeat (first | refine blk_drewN ?_ _ | refine blk_drew ?_ | refine blk_alloc ?_ _)); exact BK186.out⟩
                    have n4_ : Aside0 ((w73.setCell ⟨go65, (x10_5 : Int).toNat * 4 + 2, none⟩ (.int .i64 (wrap64 (((rd_T28 x187001_5 x10_5).f2) + x189002_5)))).heap[gb188]? = some (.cells #[.int .i64 x189000_27, .int .i64 x189001_41, .int .i64 x189002_5, .int .i64 x189003_5] 28 (0, 0))) := ⟨by (with_reducible repeat (first | refine blk_drewN ?_ _ | refine blk_drew ?_ | refine blk_alloc ?_ _)); refine blk_far ?_ (by have h_ := Kd.R_away HO_187001.out (fun _ hk => hk); intro e_; exact h_ (by rw [e_]; rfl)) _; (with_reducible repeat (first | refine blk_drewN ?_ _ | refine blk_drew ?_ | refine blk_alloc ?_ _)); exact BK188.out⟩
                    have n5_ : Aside0 (Below w.heap.size w (w73.setCell ⟨go65, (x10_5 : Int).toNat * 4 + 2, none⟩ (.int .i64 (wrap64 (((rd_T28 x187001_5 x10_5).f2) + x189002_5))))) := ⟨by repeat (first | (with_reducible first | exact HB.out | apply below_alloc | apply pw_below_drewN | apply below_drew1 | refine below_set ?_ GB65.out | refine below_set ?_ GE180.out | refine below_set ?_ GE181.out | refine below_set ?_ GE186.out | refine below_set ?_ GE188.out) | exact HB.out)⟩
                    (try clear HO_187001)
                    (try clear BK180)
                    (try clear BK181)
                    (try clear BK186)
                    (try clear BK188)
                    (try clear HB)
                    generalize (w73.setCell ⟨go65, (x10_5 : Int).toNat * 4 + 2, none⟩ (.int .i64 (wrap64 (((rd_T28 x187001_5 x10_5).f2) + x189002_5)))) = w75 at n0_ n1_ n2_ n3_ n4_ n5_ ⊢
                    have HO_187001 := n0_
                    have BK180 := n1_
                    have BK181 := n2_
                    have BK186 := n3_
                    have BK188 := n4_
                    have HB := n5_
                    clear n0_ n1_ n2_ n3_ n4_ n5_
                    have n0_ := Aside0.mk (Kd.R_drew HO_187001.out)
                    have n1_ := Aside0.mk (blk_drew BK180.out)
                    have n2_ := Aside0.mk (blk_drew BK181.out)
                    have n3_ := Aside0.mk (blk_drew BK186.out)
                    have n4_ := Aside0.mk (blk_drew BK188.out)
                    have n5_ := Aside0.mk (below_drew1 HB.out)
                    clear HO_187001
                    clear BK180
                    clear BK181
                    clear BK186
                    clear BK188
                    clear HB
                    have HO_187001 := n0_
                    have BK180 := n1_
                    have BK181 := n2_
                    have BK186 := n3_
                    have BK188 := n4_
                    have HB := n5_
                    clear n0_ n1_ n2_ n3_ n4_ n5_
                    have p193 : 0 ≤ (x10_5 : Int) := of_decide_eq_true (by first | (with_reducible assumption) | assumption)
                    have q193 : x10_5 < (y192.length : Int) := (by have h_ : (x10_5 : Int) < ((x187001_5.length : Int) : Int) := of_decide_eq_true (by first | (with_reducible assumption) | assumption); first | (have e_ := (Kd.R_reads' HO_187001.out).1; omega) | simpa only [Ny192.out, List.length_set] using h_)
                    have ql193 : ((x10_5 : Int) < ((x187001_5.length : Int) : Int)) = True := eq_true (of_decide_eq_true (by first | (with_reducible assumption) | assumption))
                    obtain ⟨ad193, e193, hx193_0, hx193_1, hx193_2, hx193_3⟩ := at_T28 (Kd.R_reads' HO_187001.out).2.2 x10_5 p193 q193
                    obtain rfl : (⟨go65, 0, none⟩ : Addr) = ad193 := (by injection e193)
                    (first | simp only [add_plain] at hx193_0 | simp only [add_at] at hx193_0 | simp only [Addr.add, Nat.zero_add] at hx193_0 | skip)
                    (first | simp only [add_plain] at hx193_1 | simp only [add_at] at hx193_1 | simp only [Addr.add, Nat.zero_add] at hx193_1 | skip)
                    (first | simp only [add_plain] at hx193_2 | simp only [add_at] at hx193_2 | simp only [Addr.add, Nat.zero_add] at hx193_2 | skip)
                    (first | simp only [add_plain] at hx193_3 | simp only [add_at] at hx193_3 | simp only [Addr.add, Nat.zero_add] at hx193_3 | skip)
                    replace p193 := eq_true p193
                    replace q193 := eq_true q193
                    have p66 : 0 ≤ (x10_5 : Int) := of_decide_eq_true (by first | (with_reducible assumption) | assumption)
                    have q66 : (x10_5 : Int) < ((x187001_5.length : Int) : Int) := of_decide_eq_true (by first | (with_reducible assumption) | assumption)
                    obtain ⟨ce66, hcl66, hM66, hcc66, hfr66⟩ := Kd.R_elem HO_187001.out z28 (x10_5 : Int) p66 q66
                    obtain rfl := k28_openM hM66
                    have hx66_0 : World.cell? _ ⟨go65, (x10_5 : Int).toNat * 4, none⟩ = some (.int .i64 ((rd_T28 y192 x10_5).f0)) := hcc66 0 _ rfl
                    have hx66_1 : World.cell? _ ⟨go65, (x10_5 : Int).toNat * 4 + 1, none⟩ = some (.int .i64 ((rd_T28 y192 x10_5).f1)) := hcc66 1 _ rfl
                    have hx66_2 : World.cell? _ ⟨go65, (x10_5 : Int).toNat * 4 + 2, none⟩ = some (.int .i64 ((rd_T28 y192 x10_5).f2)) := hcc66 2 _ rfl
                    have hx66_3 : World.cell? _ ⟨go65, (x10_5 : Int).toNat * 4 + 3, none⟩ = some (.int .i64 ((rd_T28 y192 x10_5).f3)) := hcc66 3 _ rfl
                    have hf66_0 : World.frozen? _ ⟨go65, (x10_5 : Int).toNat * 4, none⟩ = false := hfr66 0
                    have hf66_1 : World.frozen? _ ⟨go65, (x10_5 : Int).toNat * 4 + 1, none⟩ = false := hfr66 1
                    have hf66_2 : World.frozen? _ ⟨go65, (x10_5 : Int).toNat * 4 + 2, none⟩ = false := hfr66 2
                    have hf66_3 : World.frozen? _ ⟨go65, (x10_5 : Int).toNat * 4 + 3, none⟩ = false := hfr66 3
                    clear hcl66 hcc66 hfr66 hM66
                    replace p66 := eq_true p66
                    replace q66 := eq_true q66
                    obtain ⟨ce77, hcl77, hM77, hcc77, hfr77⟩ := Kd.R_elem HO_187001.out z28 (x10_5 : Int) (of_decide_eq_true (by first | (with_reducible assumption) | assumption)) (by have h_ : (x10_5 : Int) < ((x187001_5.length : Int) : Int) := of_decide_eq_true (by first | (with_reducible assumption) | assumption); first | exact h_ | (have e_ := (Kd.R_reads' HO_187001.out).1; omega) | simpa using h_)
                    obtain rfl := k28_openM hM77
                    have HP77 := (Kd.R_seg HO_187001.out (x10_5 : Int) (of_decide_eq_true (by first | (with_reducible assumption) | assumption)) (by have h_ : (x10_5 : Int) < ((x187001_5.length : Int) : Int) := of_decide_eq_true (by first | (with_reducible assumption) | assumption); first | exact h_ | (have e_ := (Kd.R_reads' HO_187001.out).1; omega) | simpa using h_) (seg := [.int .i64 (wrap64 (((rd_T28 y192 x10_5).f3) + x189003_5))]) (j := 3) hcl77 hcc77 (show 4 ≤ 4 from by decide) (x' := (⟨(rd_T28 y192 x10_5).f0, (rd_T28 y192 x10_5).f1, (rd_T28 y192 x10_5).f2, wrap64 (((rd_T28 y192 x10_5).f3) + x189003_5)⟩ : S28)) (k28_mkM _ _ _ (⟨(rd_T28 y192 x10_5).f0, (rd_T28 y192 x10_5).f1, (rd_T28 y192 x10_5).f2, wrap64 (((rd_T28 y192 x10_5).f3) + x189003_5)⟩ : S28) ) (fun _ hk => hk)).1
                    rw [← Ny194.out] at HP77
                    have HQ77 := Aside0.mk HP77
                    clear hcl77 hcc77 hfr77 hM77 HP77
                    refine start_ (n := 15) (S := fun w' => w'.cell? ⟨gb186, 0, none⟩ = some (.int .i64 (wrap64 (a0_0 - 1))) ∧ w'.cell? ⟨gb186, 1, none⟩ = some (.slice (some ⟨go65, 0, none⟩) x187001_5.length co71) ∧ w'.cell? ⟨gb188, 0, none⟩ = some (.int .i64 x189000_27) ∧ w'.cell? ⟨gb188, 1, none⟩ = some (.int .i64 x189001_41) ∧ w'.cell? ⟨gb188, 2, none⟩ = some (.int .i64 x189002_5) ∧ w'.cell? ⟨gb188, 3, none⟩ = some (.int .i64 x189003_5) ∧ w'.cell? ⟨go65, (x10_5).toNat * 4, none⟩ = some (.int .i64 ((rd_T28 y192 x10_5).f0)) ∧ w'.cell? ⟨go65, (x10_5).toNat * 4 + 1, none⟩ = some (.int .i64 ((rd_T28 y192 x10_5).f1)) ∧ w'.cell? ⟨go65, (x10_5).toNat * 4 + 2, none⟩ = some (.int .i64 ((rd_T28 y192 x10_5).f2)) ∧ w'.cell? ⟨go65, (x10_5).toNat * 4 + 3, none⟩ = some (.int .i64 ((rd_T28 y192 x10_5).f3))) (ds := [14]) #[false, false, false, false, false, false, false, false, false, false, false, false, false, false, false] (by kernel_rfl) rfl rfl ⟨(blk_cell BK186.out 0).trans rfl, (blk_cell BK186.out 1).trans rfl, (blk_cell BK188.out 0).trans rfl, (blk_cell BK188.out 1).trans rfl, (blk_cell BK188.out 2).trans rfl, (blk_cell BK188.out 3).trans rfl, hx193_0, hx193_1, hx193_2, hx193_3⟩ (fun hHeld => ?_); refine with_tabW spileref36_Merge.tab21 spileref36_Merge.bits21 (fun HT_ HW_ => ?_)
                    generalize w75.drew = w76 at HO_187001 BK180 BK181 BK186 BK188 HB HQ74 HQ77 hf66_0 hf66_1 hf66_2 hf66_3 hx193_0 hx193_1 hx193_2 hx193_3 hx66_0 hx66_1 hx66_2 hx66_3 hHeld ⊢
                    refine pure_ (i := 0) (N := some 104) (v := ?_) (a' := ?_) #[true, false, false, false, false, false, false, false, false, false, false, false, false, false, false] rfl rfl (any_of HT_.out (by kernel_rfl)) (fun _ _ _ h => h) (Or.inl ⟨by rfl, ?_⟩) ?_ ?_
                    rotate_left
                    ·intro w'
                     go_simp
                     with_reducible rfl
                    rotate_left
                    ·simp only [Act.put, List.setIfInBounds_toArray, List.set_cons_zero, List.set_cons_succ, i64_w, i32_w]
                     rfl
                    refine pure_ (i := 2) (N := some 106) (v := ?_) (a' := ?_) #[true, false, true, false, false, false, false, false, false, false, false, false, false, false, false] rfl rfl (any_of HT_.out (by kernel_rfl)) (fun _ _ _ h => h) (Or.inl ⟨by rfl, ?_⟩) ?_ ?_
                    rotate_left
                    ·intro w'
                     go_simp
                     with_reducible rfl
                    rotate_left
                    ·simp only [Act.put, List.setIfInBounds_toArray, List.set_cons_zero, List.set_cons_succ, i64_w, i32_w]
                     rfl
                    refine pure_ (i := 3) (N := some 107) (v := ?_) (a' := ?_) #[true, false, true, true, false, false, false, false, false, false, false, false, false, false, false] rfl rfl (any_of HT_.out (by kernel_rfl)) (fun _ _ _ h => h) (Or.inl ⟨by rfl, ?_⟩) ?_ ?_
                    rotate_left
                    ·intro w'
                     go_simp
                     with_reducible rfl
                    rotate_left
                    ·simp only [Act.put, List.setIfInBounds_toArray, List.set_cons_zero, List.set_cons_succ, i64_w, i32_w]
                     rfl
                    refine pure_ (i := 5) (N := some 109) (v := ?_) (a' := ?_) #[true, false, true, true, false, true, false, false, false, false, false, false, false, false, false] rfl rfl (any_of HT_.out (by kernel_rfl)) (fun _ _ _ h => h) (Or.inl ⟨by rfl, ?_⟩) ?_ ?_
                    rotate_left
                    ·intro w'
                     go_simp
                     with_reducible rfl
                    rotate_left
                    ·simp only [Act.put, List.setIfInBounds_toArray, List.set_cons_zero, List.set_cons_succ, i64_w, i32_w]
                     rfl
                    refine pure_ (i := 9) (N := some 113) (v := ?_) (a' := ?_) #[true, false, true, true, false, true, false, false, false, true, false, false, false, false, false] rfl rfl (any_of HT_.out (by kernel_rfl)) (fun _ _ _ h => h) (Or.inl ⟨by rfl, ?_⟩) ?_ ?_
                    rotate_left
                    ·intro w'
                     go_simp
                     with_reducible rfl
                    rotate_left
                    ·simp only [Act.put, List.setIfInBounds_toArray, List.set_cons_zero, List.set_cons_succ, i64_w, i32_w]
                     rfl
                    refine take_ (i := 1) (N := some 105) (v := ?_) (a' := ?_) #[true, true, true, true, false, true, false, false, false, true, false, false, false, false, false] rfl rfl (take_ofW HT_.out HW_.out (by kernel_rfl)) (fun _ _ _ h => h) (Or.inl ⟨by rfl, ?_⟩) hHeld ?_ ?_
                    rotate_left
                    ·rintro w' ⟨s0, s1, s2, s3, s4, s5, s6, s7, s8, s9⟩
                     go_simp
                     with_reducible rfl
                    rotate_left
                    ·simp only [Act.put, List.setIfInBounds_toArray, List.set_cons_zero, List.set_cons_succ, i64_w, i32_w]
                     rfl
                    refine take_ (i := 4) (N := some 108) (v := ?_) (a' := ?_) #[true, true, true, true, true, true, false, false, false, true, false, false, false, false, false] rfl rfl (take_ofW HT_.out HW_.out (by kernel_rfl)) (fun _ _ _ h => h) (Or.inl ⟨by rfl, ?_⟩) hHeld ?_ ?_
                    rotate_left
                    ·rintro w' ⟨s0, s1, s2, s3, s4, s5, s6, s7, s8, s9⟩
                     go_simp
                     with_reducible rfl
                    rotate_left
                    ·simp only [Act.put, List.setIfInBounds_toArray, List.set_cons_zero, List.set_cons_succ, i64_w, i32_w]
                     rfl
                    refine pure_ (i := 6) (N := some 110) (v := ?_) (a' := ?_) #[true, true, true, true, true, true, true, false, false, true, false, false, false, false, false] rfl rfl (any_of HT_.out (by kernel_rfl)) (fun _ _ _ h => h) (Or.inl ⟨by rfl, ?_⟩) ?_ ?_
                    rotate_left
                    ·intro w'
                     go_simp
                     with_reducible rfl
                    rotate_left
                    ·simp only [Act.put, List.setIfInBounds_toArray, List.set_cons_zero, List.set_cons_succ, i64_w, i32_w]
                     rfl
                    refine pure_ (i := 7) (N := some 111) (v := ?_) (a' := ?_) #[true, true, true, true, true, true, true, true, false, true, false, false, false, false, false] rfl rfl (any_of HT_.out (by kernel_rfl)) (fun _ _ _ h => h) (Or.inl ⟨by rfl, ?_⟩) ?_ ?_
                    rotate_left
                    ·intro w'
                     go_simp
                     with_reducible rfl
                    rotate_left
                    ·simp only [Act.put, List.setIfInBounds_toArray, List.set_cons_zero, List.set_cons_succ, i64_w, i32_w]
                     rfl
                    refine take_ (i := 8) (N := some 112) (v := ?_) (a' := ?_) #[true, true, true, true, true, true, true, true, true, true, false, false, false, false, false] rfl rfl (take_ofW HT_.out HW_.out (by kernel_rfl)) (fun _ _ _ h => h) (Or.inl ⟨by rfl, ?_⟩) hHeld ?_ ?_
                    rotate_left
                    ·rintro w' ⟨s0, s1, s2, s3, s4, s5, s6, s7, s8, s9⟩
                     go_simp
                     with_reducible rfl
                    rotate_left
                    ·simp only [Act.put, List.setIfInBounds_toArray, List.set_cons_zero, List.set_cons_succ, i64_w, i32_w]
                     rfl
                    refine take_ (i := 10) (N := some 114) (v := ?_) (a' := ?_) #[true, true, true, true, true, true, true, true, true, true, true, false, false, false, false] rfl rfl (take_ofW HT_.out HW_.out (by kernel_rfl)) (fun _ _ _ h => h) (Or.inl ⟨by rfl, ?_⟩) hHeld ?_ ?_
                    rotate_left
                    ·rintro w' ⟨s0, s1, s2, s3, s4, s5, s6, s7, s8, s9⟩
                     go_simp
                     with_reducible rfl
                    rotate_left
                    ·simp only [Act.put, List.setIfInBounds_toArray, List.set_cons_zero, List.set_cons_succ, i64_w, i32_w]
                     rfl
                    refine pure_ (i := 11) (N := some 115) (v := ?_) (a' := ?_) #[true, true, true, true, true, true, true, true, true, true, true, true, false, false, false] rfl rfl (any_of HT_.out (by kernel_rfl)) (fun _ _ _ h => h) (Or.inl ⟨by rfl, ?_⟩) ?_ ?_
                    rotate_left
                    ·intro w'
                     go_simp
                     with_reducible rfl
                    rotate_left
                    ·simp only [Act.put, List.setIfInBounds_toArray, List.set_cons_zero, List.set_cons_succ, i64_w, i32_w]
                     rfl
                    refine pure_ (i := 12) (N := some 116) (v := ?_) (a' := ?_) #[true, true, true, true, true, true, true, true, true, true, true, true, true, false, false] rfl rfl (any_of HT_.out (by kernel_rfl)) (fun _ _ _ h => h) (Or.inl ⟨by rfl, ?_⟩) ?_ ?_
                    rotate_left
                    ·intro w'
                     go_simp
                     with_reducible rfl
                    rotate_left
                    ·simp only [Act.put, List.setIfInBounds_toArray, List.set_cons_zero, List.set_cons_succ, i64_w, i32_w]
                     rfl
                    refine pure_ (i := 13) (N := some 117) (v := ?_) (a' := ?_) #[true, true, true, true, true, true, true, true, true, true, true, true, true, true, false] rfl rfl (any_of HT_.out (by kernel_rfl)) (fun _ _ _ h => h) (Or.inl ⟨by rfl, ?_⟩) ?_ ?_
                    rotate_left
                    ·intro w'
                     go_simp
                     with_reducible rfl
                    rotate_left
                    ·simp only [Act.put, List.setIfInBounds_toArray, List.set_cons_zero, List.set_cons_succ, i64_w, i32_w]
                     rfl
                    refine last_ (i := 14) (N := none) #[true, true, true, true, true, true, true, true, true, true, true, true, true, true, true] rfl rfl (one_of HT_.out (by kernel_rfl)) (by decide) (fun K hK => ?_)
                    refine skip_ (w1 := ?_) (by rfl) rfl ?_ ?_
                    rotate_left
                    ·go_simp
                     rfl
                    refine hK.out _ _ ?_
                    clear hK K
                    refine done_ (done_of HT_.out (by kernel_rfl)) ?_
                    try go_wp2
                    go_roundg k5
                    case measure => have := HJ4.out; have := HK2.out; have := HJ27.out; have := HJ41.out; have := HK5.out; omega
                    case rel => exact ⟨(true), (wrap64 (x10_5 + 1)), (y194), (x189002_5), (x189003_5), (.slice (some ⟨go65, 0, none⟩) x187001_5.length co71), (by first | rfl | (simp; done) | (simp [*]; done)), (by first | rfl | (simp; done) | (simp [*]; done)), H', ⟨by have := HJ4.out; have := HK2.out; have := HJ27.out; have := HJ41.out; have := HK5.out; omega⟩, ⟨by (with_reducible repeat (first | apply Kd.R_alloc | apply Kd.R_drewN | apply Kd.R_drew)); exact HQ77.out⟩, ⟨by (with_reducible repeat (first | refine blk_drewN ?_ _ | refine blk_drew ?_ | refine blk_alloc ?_ _)); refine blk_far ?_ (by have h_ := Kd.R_ne HO_187001.out BK180.out (by decide); intro e_; exact h_ (by rw [e_]; rfl)) _; (with_reducible repeat (first | refine blk_drewN ?_ _ | refine blk_drew ?_ | refine blk_alloc ?_ _)); exact BK180.out⟩, ⟨by (with_reducible repeat (first | refine blk_drewN ?_ _ | refine blk_drew ?_ | refine blk_alloc ?_ _)); refine blk_far ?_ (by have h_ := Kd.R_ne HO_187001.out BK181.out (by decide); intro e_; exact h_ (by rw [e_]; rfl)) _; (with_reducible repeat (first | refine blk_drewN ?_ _ | refine blk_drew ?_ | refine blk_alloc ?_ _)); exact BK181.out⟩, ⟨by (with_reducible repeat (first | refine blk_drewN ?_ _ | refine blk_drew ?_ | refine blk_alloc ?_ _)); refine blk_far ?_ (by have h_ := Kd.R_ne HO_187001.out BK186.out (by decide); intro e_; exact h_ (by rw [e_]; rfl)) _; (with_reducible repeat (first | refine blk_drewN ?_ _ | refine blk_drew ?_ | refine blk_alloc ?_ _)); exact BK186.out⟩, ⟨by (with_reducible repeat (first | refine blk_drewN ?_ _ | refine blk_drew ?_ | refine blk_alloc ?_ _)); refine blk_far ?_ (by have h_ := Kd.R_away HO_187001.out (fun _ hk => hk); intro e_; exact h_ (by rw [e_]; rfl)) _; (with_reducible repeat (first | refine blk_drewN ?_ _ | refine blk_drew ?_ | refine blk_alloc ?_ _)); exact BK188.out⟩, ⟨by repeat (first | (with_reducible first | exact HB.out | apply below_alloc | apply pw_below_drewN | apply below_drew1 | refine below_set ?_ GB65.out | refine below_set ?_ GE180.out | refine below_set ?_ GE181.out | refine below_set ?_ GE186.out | refine below_set ?_ GE188.out) | exact HB.out)⟩⟩
                   ·rw [if_neg c64] at H
                    have c64b0 : (((rd_T28 x187001_5 x10_5).f1) == x189001_41) = false := beq_eq_false_iff_ne.mpr c64
                    have c64b1 : (((rd_T28 x187001_5 x10_5).f1) != x189001_41) = true := bne_iff_ne.mpr c64
                    have H' := Aside0.mk H
                    clear H
                    have hnb78 := NB186_180.out
                    have hnc78 := NB180_186.out
                    have hnb79 := NB186_181.out
                    have hnc79 := NB181_186.out
                    have hnb80 := NB186_188.out
                    have hnc80 := NB188_186.out
                    have hcz81_0 : wr.cell? ⟨gb186, 0, none⟩ = some (.int .i64 (wrap64 (a0_0 - 1))) := (blk_cell BK186.out 0).trans rfl
                    have hcz81_1 : wr.cell? ⟨gb186, 1, none⟩ = some (u187001) := (blk_cell BK186.out 1).trans rfl
                    have hfz81_0 := blk_frozen BK186.out 0
                    have hfz81_1 := blk_frozen BK186.out 1
                    obtain ⟨Ao82, co82, eo82⟩ := Kd.R_slice HO_187001.out
                    subst eo82
                    try go_wp2
                    have n0_ := Aside0.mk (Kd.R_drew HO_187001.out)
                    have n1_ := Aside0.mk (blk_drew BK180.out)
                    have n2_ := Aside0.mk (blk_drew BK181.out)
                    have n3_ := Aside0.mk (blk_drew BK186.out)
                    have n4_ := Aside0.mk (blk_drew BK188.out)
                    have n5_ := Aside0.mk (below_drew1 HB.out)
                    clear HO_187001
                    clear BK180
                    clear BK181
                    clear BK186
                    clear BK188
                    clear HB
                    have HO_187001 := n0_
                    have BK180 := n1_
                    have BK181 := n2_
                    have BK186 := n3_
                    have BK188 := n4_
                    have HB := n5_
                    clear n0_ n1_ n2_ n3_ n4_ n5_
                    have p189 : 0 ≤ (x10_5 : Int) := of_decide_eq_true (by first | (with_reducible assumption) | assumption)
                    have q189 : x10_5 < (x187001_5.length : Int) := of_decide_eq_true (by first | (with_reducible assumption) | assumption)
                    obtain ⟨ad189, e189, hx189_0, hx189_1, hx189_2, hx189_3⟩ := at_T28 (Kd.R_reads' HO_187001.out).2.2 x10_5 p189 q189
                    cases e189
                    replace p189 := eq_true p189
                    replace q189 := eq_true q189
                    have p190 : 0 ≤ (x10_5 : Int) := of_decide_eq_true (by first | (with_reducible assumption) | assumption)
                    have q190 : x10_5 < (x187001_5.length : Int) := of_decide_eq_true (by first | (with_reducible assumption) | assumption)
                    obtain ⟨ad190, e190, hx190_0, hx190_1, hx190_2, hx190_3⟩ := at_T28 (Kd.R_reads' HO_187001.out).2.2 x10_5 p190 q190
                    obtain rfl : ad189 = ad190 := (by injection e190)
                    replace p190 := eq_true p190
                    replace q190 := eq_true q190
                    refine start_ (n := 20) (S := fun w' => w'.cell? ⟨gb186, 0, none⟩ = some (.int .i64 (wrap64 (a0_0 - 1))) ∧ w'.cell? ⟨gb186, 1, none⟩ = some (.slice (some ad189) x187001_5.length co82) ∧ w'.cell? ⟨gb188, 0, none⟩ = some (.int .i64 x189000_27) ∧ w'.cell? ⟨gb188, 1, none⟩ = some (.int .i64 x189001_41) ∧ w'.cell? ⟨gb188, 2, none⟩ = some (.int .i64 x189002_5) ∧ w'.cell? ⟨gb188, 3, none⟩ = some (.int .i64 x189003_5) ∧ w'.cell? (ad189.add ((x10_5).toNat * 4)) = some (.int .i64 ((rd_T28 x187001_5 x10_5).f0)) ∧ w'.cell? ⟨(ad189.add ((x10_5).toNat * 4)).block, (ad189.add ((x10_5).toNat * 4)).off + 1, none⟩ = some (.int .i64 ((rd_T28 x187001_5 x10_5).f1)) ∧ w'.cell? ⟨(ad189.add ((x10_5).toNat * 4)).block, (ad189.add ((x10_5).toNat * 4)).off + 2, none⟩ = some (.int .i64 ((rd_T28 x187001_5 x10_5).f2)) ∧ w'.cell? ⟨(ad189.add ((x10_5).toNat * 4)).block, (ad189.add ((x10_5).toNat * 4)).off + 3, none⟩ = some (.int .i64 ((rd_T28 x187001_5 x10_5).f3)) ∧ w'.cell? (ad189.add ((x10_5).toNat * 4)) = some (.int .i64 ((rd_T28 x187001_5 x10_5).f0)) ∧ w'.cell? ⟨(ad189.add ((x10_5).toNat * 4)).block, (ad189.add ((x10_5).toNat * 4)).off + 1, none⟩ = some (.int .i64 ((rd_T28 x187001_5 x10_5).f1)) ∧ w'.cell? ⟨(ad189.add ((x10_5).toNat * 4)).block, (ad189.add ((x10_5).toNat * 4)).off + 2, none⟩ = some (.int .i64 ((rd_T28 x187001_5 x10_5).f2)) ∧ w'.cell? ⟨(ad189.add ((x10_5).toNat * 4)).block, (ad189.add ((x10_5).toNat * 4)).off + 3, none⟩ = some (.int .i64 ((rd_T28 x187001_5 x10_5).f3))) (ds := []) #[false, false, false, false, false, false, false, false, false, false, false, false, false, false, false, false, false, false, false, false] (by kernel_rfl) rfl rfl ⟨(blk_cell BK186.out 0).trans rfl, (blk_cell BK186.out 1).trans rfl, (blk_cell BK188.out 0).trans rfl, (blk_cell BK188.out 1).trans rfl, (blk_cell BK188.out 2).trans rfl, (blk_cell BK188.out 3).trans rfl, hx189_0, hx189_1, hx189_2, hx189_3, hx190_0, hx190_1, hx190_2, hx190_3⟩ (fun hHeld => ?_); refine with_tabW spileref36_Merge.tab19 spileref36_Merge.bits19 (fun HT_ HW_ => ?_)
                    generalize wr.drew = w83 at HO_187001 BK180 BK181 BK186 BK188 HB hx189_0 hx189_1 hx189_2 hx189_3 hx190_0 hx190_1 hx190_2 hx190_3 hHeld ⊢
                    refine pure_ (i := 0) (N := some 70) (v := ?_) (a' := ?_) #[true, false, false, false, false, false, false, false, false, false, false, false, false, false, false, false, false, false, false, false] rfl rfl (any_of HT_.out (by kernel_rfl)) (fun _ _ _ h => h) (Or.inl ⟨by rfl, ?_⟩) ?_ ?_
                    rotate_left
                    ·intro w'
                     go_simp
                     with_reducible rfl
                    rotate_left
                    ·simp only [Act.put, List.setIfInBounds_toArray, List.set_cons_zero, List.set_cons_succ, i64_w, i32_w]
                     rfl
                    refine pure_ (i := 2) (N := some 72) (v := ?_) (a' := ?_) #[true, false, true, false, false, false, false, false, false, false, false, false, false, false, false, false, false, false, false, false] rfl rfl (any_of HT_.out (by kernel_rfl)) (fun _ _ _ h => h) (Or.inl ⟨by rfl, ?_⟩) ?_ ?_
                    rotate_left
                    ·intro w'
                     go_simp
                     with_reducible rfl
                    rotate_left
                    ·simp only [Act.put, List.setIfInBounds_toArray, List.set_cons_zero, List.set_cons_succ, i64_w, i32_w]
                     rfl
                    refine pure_ (i := 6) (N := some 76) (v := ?_) (a' := ?_) #[true, false, true, false, false, false, true, false, false, false, false, false, false, false, false, false, false, false, false, false] rfl rfl (any_of HT_.out (by kernel_rfl)) (fun _ _ _ h => h) (Or.inl ⟨by rfl, ?_⟩) ?_ ?_
                    rotate_left
                    ·intro w'
                     go_simp
                     with_reducible rfl
                    rotate_left
                    ·simp only [Act.put, List.setIfInBounds_toArray, List.set_cons_zero, List.set_cons_succ, i64_w, i32_w]
                     rfl
                    refine take_ (i := 1) (N := some 71) (v := ?_) (a' := ?_) #[true, true, true, false, false, false, true, false, false, false, false, false, false, false, false, false, false, false, false, false] rfl rfl (take_ofW HT_.out HW_.out (by kernel_rfl)) (fun _ _ _ h => h) (Or.inl ⟨by rfl, ?_⟩) hHeld ?_ ?_
                    rotate_left
                    ·rintro w' ⟨s0, s1, s2, s3, s4, s5, s6, s7, s8, s9, s10, s11, s12, s13⟩
                     go_simp
                     with_reducible rfl
                    rotate_left
                    ·simp only [Act.put, List.setIfInBounds_toArray, List.set_cons_zero, List.set_cons_succ, i64_w, i32_w]
                     rfl
                    refine pure_ (i := 3) (N := some 73) (v := ?_) (a' := ?_) #[true, true, true, true, false, false, true, false, false, false, false, false, false, false, false, false, false, false, false, false] rfl rfl (any_of HT_.out (by kernel_rfl)) (fun _ _ _ h => h) (Or.inl ⟨by rfl, ?_⟩) ?_ ?_
                    rotate_left
                    ·intro w'
                     go_simp
                     with_reducible rfl
                    rotate_left
                    ·simp only [Act.put, List.setIfInBounds_toArray, List.set_cons_zero, List.set_cons_succ, i64_w, i32_w]
                     rfl
                    refine pure_ (i := 4) (N := some 74) (v := ?_) (a' := ?_) #[true, true, true, true, true, false, true, false, false, false, false, false, false, false, false, false, false, false, false, false] rfl rfl (any_of HT_.out (by kernel_rfl)) (fun _ _ _ h => h) (Or.inl ⟨by rfl, ?_⟩) ?_ ?_
                    rotate_left
                    ·intro w'
                     go_simp
                     with_reducible rfl
                    rotate_left
                    ·simp only [Act.put, List.setIfInBounds_toArray, List.set_cons_zero, List.set_cons_succ, i64_w, i32_w]
                     rfl
                    refine take_ (i := 5) (N := some 75) (v := ?_) (a' := ?_) #[true, true, true, true, true, true, true, false, false, false, false, false, false, false, false, false, false, false, false, false] rfl rfl (take_ofW HT_.out HW_.out (by kernel_rfl)) (fun _ _ _ h => h) (Or.inl ⟨by rfl, ?_⟩) hHeld ?_ ?_
                    rotate_left
                    ·rintro w' ⟨s0, s1, s2, s3, s4, s5, s6, s7, s8, s9, s10, s11, s12, s13⟩
                     go_simp
                     with_reducible rfl
                    rotate_left
                    ·simp only [Act.put, List.setIfInBounds_toArray, List.set_cons_zero, List.set_cons_succ, i64_w, i32_w]
                     rfl
                    refine take_ (i := 7) (N := some 77) (v := ?_) (a' := ?_) #[true, true, true, true, true, true, true, true, false, false, false, false, false, false, false, false, false, false, false, false] rfl rfl (take_ofW HT_.out HW_.out (by kernel_rfl)) (fun _ _ _ h => h) (Or.inl ⟨by rfl, ?_⟩) hHeld ?_ ?_
                    rotate_left
                    ·rintro w' ⟨s0, s1, s2, s3, s4, s5, s6, s7, s8, s9, s10, s11, s12, s13⟩
                     go_simp
                     with_reducible rfl
                    rotate_left
                    ·simp only [Act.put, List.setIfInBounds_toArray, List.set_cons_zero, List.set_cons_succ, i64_w, i32_w]
                     rfl
                    refine pure_ (i := 8) (N := some 78) (v := ?_) (a' := ?_) #[true, true, true, true, true, true, true, true, true, false, false, false, false, false, false, false, false, false, false, false] rfl rfl (any_of HT_.out (by kernel_rfl)) (fun _ _ _ h => h) (Or.inl ⟨by rfl, ?_⟩) ?_ ?_
                    rotate_left
                    ·intro w'
                     go_simp
                     with_reducible rfl
                    rotate_left
                    ·simp only [Act.put, List.setIfInBounds_toArray, List.set_cons_zero, List.set_cons_succ, i64_w, i32_w]
                     rfl
                    refine pure_ (i := 9) (N := some 79) (v := ?_) (a' := ?_) #[true, true, true, true, true, true, true, true, true, true, false, false, false, false, false, false, false, false, false, false] rfl rfl (any_of HT_.out (by kernel_rfl)) (fun _ _ _ h => h) (Or.inl ⟨by rfl, ?_⟩) ?_ ?_
                    rotate_left
                    ·intro w'
                     go_simp
                     with_reducible rfl
                    rotate_left
                    ·simp only [Act.put, List.setIfInBounds_toArray, List.set_cons_zero, List.set_cons_succ, i64_w, i32_w]
                     rfl
                    refine pure_ (i := 10) (N := some 80) (v := ?_) (a' := ?_) #[true, true, true, true, true, true, true, true, true, true, true, false, false, false, false, false, false, false, false, false] rfl rfl (any_of HT_.out (by kernel_rfl)) (fun _ _ _ h => h) (Or.inl ⟨by rfl, ?_⟩) ?_ ?_
                    rotate_left
                    ·intro w'
                     go_simp
                     with_reducible rfl
                    rotate_left
                    ·simp only [Act.put, List.setIfInBounds_toArray, List.set_cons_zero, List.set_cons_succ, i64_w, i32_w]
                     rfl
                    refine pure_ (i := 12) (N := some 82) (v := ?_) (a' := ?_) #[true, true, true, true, true, true, true, true, true, true, true, false, true, false, false, false, false, false, false, false] rfl rfl (any_of HT_.out (by kernel_rfl)) (fun _ _ _ h => h) (Or.inl ⟨by rfl, ?_⟩) ?_ ?_
                    rotate_left
                    ·intro w'
                     go_simp
                     with_reducible rfl
                    rotate_left
                    ·simp only [Act.put, List.setIfInBounds_toArray, List.set_cons_zero, List.set_cons_succ, i64_w, i32_w]
                     rfl
                    refine pure_ (i := 16) (N := some 86) (v := ?_) (a' := ?_) #[true, true, true, true, true, true, true, true, true, true, true, false, true, false, false, false, true, false, false, false] rfl rfl (any_of HT_.out (by kernel_rfl)) (fun _ _ _ h => h) (Or.inl ⟨by rfl, ?_⟩) ?_ ?_
                    rotate_left
                    ·intro w'
                     go_simp
                     with_reducible rfl
                    rotate_left
                    ·simp only [Act.put, List.setIfInBounds_toArray, List.set_cons_zero, List.set_cons_succ, i64_w, i32_w]
                     rfl
                    refine take_ (i := 11) (N := some 81) (v := ?_) (a' := ?_) #[true, true, true, true, true, true, true, true, true, true, true, true, true, false, false, false, true, false, false, false] rfl rfl (take_ofW HT_.out HW_.out (by kernel_rfl)) (fun _ _ _ h => h) (Or.inl ⟨by rfl, ?_⟩) hHeld ?_ ?_
                    rotate_left
                    ·rintro w' ⟨s0, s1, s2, s3, s4, s5, s6, s7, s8, s9, s10, s11, s12, s13⟩
                     go_simp
                     with_reducible rfl
                    rotate_left
                    ·simp only [Act.put, List.setIfInBounds_toArray, List.set_cons_zero, List.set_cons_succ, i64_w, i32_w]
                     rfl
                    refine pure_ (i := 13) (N := some 83) (v := ?_) (a' := ?_) #[true, true, true, true, true, true, true, true, true, true, true, true, true, true, false, false, true, false, false, false] rfl rfl (any_of HT_.out (by kernel_rfl)) (fun _ _ _ h => h) (Or.inl ⟨by rfl, ?_⟩) ?_ ?_
                    rotate_left
                    ·intro w'
                     go_simp
                     with_reducible rfl
                    rotate_left
                    ·simp only [Act.put, List.setIfInBounds_toArray, List.set_cons_zero, List.set_cons_succ, i64_w, i32_w]
                     rfl
                    refine pure_ (i := 14) (N := some 84) (v := ?_) (a' := ?_) #[true, true, true, true, true, true, true, true, true, true, true, true, true, true, true, false, true, false, false, false] rfl rfl (any_of HT_.out (by kernel_rfl)) (fun _ _ _ h => h) (Or.inl ⟨by rfl, ?_⟩) ?_ ?_
                    rotate_left
                    ·intro w'
                     go_simp
                     with_reducible rfl
                    rotate_left
                    ·simp only [Act.put, List.setIfInBounds_toArray, List.set_cons_zero, List.set_cons_succ, i64_w, i32_w]
                     rfl
                    refine take_ (i := 15) (N := some 85) (v := ?_) (a' := ?_) #[true, true, true, true, true, true, true, true, true, true, true, true, true, true, true, true, true, false, false, false] rfl rfl (take_ofW HT_.out HW_.out (by kernel_rfl)) (fun _ _ _ h => h) (Or.inl ⟨by rfl, ?_⟩) hHeld ?_ ?_
                    rotate_left
                    ·rintro w' ⟨s0, s1, s2, s3, s4, s5, s6, s7, s8, s9, s10, s11, s12, s13⟩
                     go_simp
                     with_reducible rfl
                    rotate_left
                    ·simp only [Act.put, List.setIfInBounds_toArray, List.set_cons_zero, List.set_cons_succ, i64_w, i32_w]
                     rfl
                    refine take_ (i := 17) (N := some 87) (v := ?_) (a' := ?_) #[true, true, true, true, true, true, true, true, true, true, true, true, true, true, true, true, true, true, false, false] rfl rfl (take_ofW HT_.out HW_.out (by kernel_rfl)) (fun _ _ _ h => h) (Or.inl ⟨by rfl, ?_⟩) hHeld ?_ ?_
                    rotate_left
                    ·rintro w' ⟨s0, s1, s2, s3, s4, s5, s6, s7, s8, s9, s10, s11, s12, s13⟩
                     go_simp
                     with_reducible rfl
                    rotate_left
                    ·simp only [Act.put, List.setIfInBounds_toArray, List.set_cons_zero, List.set_cons_succ, i64_w, i32_w]
                     rfl
                    refine pure_ (i := 18) (N := some 88) (v := ?_) (a' := ?_) #[true, true, true, true, true, true, true, true, true, true, true, true, true, true, true, true, true, true, true, false] rfl rfl (any_of HT_.out (by kernel_rfl)) (fun _ _ _ h => h) (Or.inl ⟨by rfl, ?_⟩) ?_ ?_
                    rotate_left
                    ·intro w'
                     go_simp
                     with_reducible rfl
                    rotate_left
                    ·simp only [Act.put, List.setIfInBounds_toArray, List.set_cons_zero, List.set_cons_succ, i64_w, i32_w]
                     rfl
                    refine pure_ (i := 19) (N := some 89) (v := ?_) (a' := ?_) #[true, true, true, true, true, true, true, true, true, true, true, true, true, true, true, true, true, true, true, true] rfl rfl (any_of HT_.out (by kernel_rfl)) (fun _ _ _ h => h) (Or.inl ⟨by rfl, ?_⟩) ?_ ?_
                    rotate_left
                    ·intro w'
                     go_simp
                     with_reducible rfl
                    rotate_left
                    ·simp only [Act.put, List.setIfInBounds_toArray, List.set_cons_zero, List.set_cons_succ, i64_w, i32_w]
                     rfl
                    refine done_ (done_of HT_.out (by kernel_rfl)) ?_
                    try go_wp2
                    go_roundg k5
                    case measure => have := HJ4.out; have := HK2.out; have := HJ27.out; have := HJ41.out; have := HK5.out; omega
                    case rel => exact ⟨(x9_5), (wrap64 (x10_5 + 1)), (x187001_5), (x189002_5), (x189003_5), (.slice (some ad189) x187001_5.length co82), (by first | rfl | (simp; done) | (simp [*]; done)), (by first | rfl | (simp; done) | (simp [*]; done)), H', ⟨by have := HJ4.out; have := HK2.out; have := HJ27.out; have := HJ41.out; have := HK5.out; omega⟩, ⟨by (with_reducible repeat (first | apply Kd.R_alloc | apply Kd.R_drewN | apply Kd.R_drew)); exact HO_187001.out⟩, ⟨by (with_reducible repeat (first | refine blk_drewN ?_ _ | refine blk_drew ?_ | refine blk_alloc ?_ _)); exact BK180.out⟩, ⟨by (with_reducible repeat (first | refine blk_drewN ?_ _ | refine blk_drew ?_ | refine blk_alloc ?_ _)); exact BK181.out⟩, ⟨by (with_reducible repeat (first | refine blk_drewN ?_ _ | refine blk_drew ?_ | refine blk_alloc ?_ _)); exact BK186.out⟩, ⟨by (with_reducible repeat (first | refine blk_drewN ?_ _ | refine blk_drew ?_ | refine blk_alloc ?_ _)); exact BK188.out⟩, ⟨by repeat (first | (with_reducible first | exact HB.out | apply below_alloc | apply pw_below_drewN | apply below_drew1 | refine below_set ?_ GE180.out | refine below_set ?_ GE181.out | refine below_set ?_ GE186.out | refine below_set ?_ GE188.out) | exact HB.out)⟩⟩
                  ·rw [if_neg c63] at H
                   have c63b0 : (((rd_T28 x187001_5 x10_5).f0) == x189000_27) = false := beq_eq_false_iff_ne.mpr c63
                   have c63b1 : (((rd_T28 x187001_5 x10_5).f0) != x189000_27) = true := bne_iff_ne.mpr c63
                   have H' := Aside0.mk H
                   clear H
                   have hnb84 := NB186_180.out
                   have hnc84 := NB180_186.out
                   have hnb85 := NB186_181.out
                   have hnc85 := NB181_186.out
                   have hnb86 := NB186_188.out
                   have hnc86 := NB188_186.out
                   have hcz87_0 : wr.cell? ⟨gb186, 0, none⟩ = some (.int .i64 (wrap64 (a0_0 - 1))) := (blk_cell BK186.out 0).trans rfl
                   have hcz87_1 : wr.cell? ⟨gb186, 1, none⟩ = some (u187001) := (blk_cell BK186.out 1).trans rfl
                   have hfz87_0 := blk_frozen BK186.out 0
                   have hfz87_1 := blk_frozen BK186.out 1
                   obtain ⟨Ao88, co88, eo88⟩ := Kd.R_slice HO_187001.out
                   subst eo88
                   try go_wp2
                   have n0_ := Aside0.mk (Kd.R_drew HO_187001.out)
                   have n1_ := Aside0.mk (blk_drew BK180.out)
                   have n2_ := Aside0.mk (blk_drew BK181.out)
                   have n3_ := Aside0.mk (blk_drew BK186.out)
                   have n4_ := Aside0.mk (blk_drew BK188.out)
                   have n5_ := Aside0.mk (below_drew1 HB.out)
                   clear HO_187001
                   clear BK180
                   clear BK181
                   clear BK186
                   clear BK188
                   clear HB
                   have HO_187001 := n0_
                   have BK180 := n1_
                   have BK181 := n2_
                   have BK186 := n3_
                   have BK188 := n4_
                   have HB := n5_
                   clear n0_ n1_ n2_ n3_ n4_ n5_
                   have p189 : 0 ≤ (x10_5 : Int) := of_decide_eq_true (by first | (with_reducible assumption) | assumption)
                   have q189 : x10_5 < (x187001_5.length : Int) := of_decide_eq_true (by first | (with_reducible assumption) | assumption)
                   obtain ⟨ad189, e189, hx189_0, hx189_1, hx189_2, hx189_3⟩ := at_T28 (Kd.R_reads' HO_187001.out).2.2 x10_5 p189 q189
                   cases e189
                   replace p189 := eq_true p189
                   replace q189 := eq_true q189
                   refine start_ (n := 20) (S := fun w' => w'.cell? ⟨gb186, 0, none⟩ = some (.int .i64 (wrap64 (a0_0 - 1))) ∧ w'.cell? ⟨gb186, 1, none⟩ = some (.slice (some ad189) x187001_5.length co88) ∧ w'.cell? ⟨gb188, 0, none⟩ = some (.int .i64 x189000_27) ∧ w'.cell? ⟨gb188, 1, none⟩ = some (.int .i64 x189001_41) ∧ w'.cell? ⟨gb188, 2, none⟩ = some (.int .i64 x189002_5) ∧ w'.cell? ⟨gb188, 3, none⟩ = some (.int .i64 x189003_5) ∧ w'.cell? (ad189.add ((x10_5).toNat * 4)) = some (.int .i64 ((rd_T28 x187001_5 x10_5).f0)) ∧ w'.cell? ⟨(ad189.add ((x10_5).toNat * 4)).block, (ad189.add ((x10_5).toNat * 4)).off + 1, none⟩ = some (.int .i64 ((rd_T28 x187001_5 x10_5).f1)) ∧ w'.cell? ⟨(ad189.add ((x10_5).toNat * 4)).block, (ad189.add ((x10_5).toNat * 4)).off + 2, none⟩ = some (.int .i64 ((rd_T28 x187001_5 x10_5).f2)) ∧ w'.cell? ⟨(ad189.add ((x10_5).toNat * 4)).block, (ad189.add ((x10_5).toNat * 4)).off + 3, none⟩ = some (.int .i64 ((rd_T28 x187001_5 x10_5).f3))) (ds := []) #[false, false, false, false, false, false, false, false, false, false, false, false, false, false, false, false, false, false, false, false] (by kernel_rfl) rfl rfl ⟨(blk_cell BK186.out 0).trans rfl, (blk_cell BK186.out 1).trans rfl, (blk_cell BK188.out 0).trans rfl, (blk_cell BK188.out 1).trans rfl, (blk_cell BK188.out 2).trans rfl, (blk_cell BK188.out 3).trans rfl, hx189_0, hx189_1, hx189_2, hx189_3⟩ (fun hHeld => ?_); refine with_tabW spileref36_Merge.tab19 spileref36_Merge.bits19 (fun HT_ HW_ => ?_)
                   generalize wr.drew = w89 at HO_187001 BK180 BK181 BK186 BK188 HB hx189_0 hx189_1 hx189_2 hx189_3 hHeld ⊢
                   refine pure_ (i := 0) (N := some 70) (v := ?_) (a' := ?_) #[true, false, false, false, false, false, false, false, false, false, false, false, false, false, false, false, false, false, false, false] rfl rfl (any_of HT_.out (by kernel_rfl)) (fun _ _ _ h => h) (Or.inl ⟨by rfl, ?_⟩) ?_ ?_
                   rotate_left
                   ·intro w'
                    go_simp
                    with_reducible rfl
                   rotate_left
                   ·simp only [Act.put, List.setIfInBounds_toArray, List.set_cons_zero, List.set_cons_succ, i64_w, i32_w]
                    rfl
                   refine pure_ (i := 2) (N := some 72) (v := ?_) (a' := ?_) #[true, false, true, false, false, false, false, false, false, false, false, false, false, false, false, false, false, false, false, false] rfl rfl (any_of HT_.out (by kernel_rfl)) (fun _ _ _ h => h) (Or.inl ⟨by rfl, ?_⟩) ?_ ?_
                   rotate_left
                   ·intro w'
                    go_simp
                    with_reducible rfl
                   rotate_left
                   ·simp only [Act.put, List.setIfInBounds_toArray, List.set_cons_zero, List.set_cons_succ, i64_w, i32_w]
                    rfl
                   refine pure_ (i := 6) (N := some 76) (v := ?_) (a' := ?_) #[true, false, true, false, false, false, true, false, false, false, false, false, false, false, false, false, false, false, false, false] rfl rfl (any_of HT_.out (by kernel_rfl)) (fun _ _ _ h => h) (Or.inl ⟨by rfl, ?_⟩) ?_ ?_
                   rotate_left
                   ·intro w'
                    go_simp
                    with_reducible rfl
                   rotate_left
                   ·simp only [Act.put, List.setIfInBounds_toArray, List.set_cons_zero, List.set_cons_succ, i64_w, i32_w]
                    rfl
                   refine take_ (i := 1) (N := some 71) (v := ?_) (a' := ?_) #[true, true, true, false, false, false, true, false, false, false, false, false, false, false, false, false, false, false, false, false] rfl rfl (take_ofW HT_.out HW_.out (by kernel_rfl)) (fun _ _ _ h => h) (Or.inl ⟨by rfl, ?_⟩) hHeld ?_ ?_
                   rotate_left
                   ·rintro w' ⟨s0, s1, s2, s3, s4, s5, s6, s7, s8, s9⟩
                    go_simp
                    with_reducible rfl
                   rotate_left
                   ·simp only [Act.put, List.setIfInBounds_toArray, List.set_cons_zero, List.set_cons_succ, i64_w, i32_w]
                    rfl
                   refine pure_ (i := 3) (N := some 73) (v := ?_) (a' := ?_) #[true, true, true, true, false, false, true, false, false, false, false, false, false, false, false, false, false, false, false, false] rfl rfl (any_of HT_.out (by kernel_rfl)) (fun _ _ _ h => h) (Or.inl ⟨by rfl, ?_⟩) ?_ ?_
                   rotate_left
                   ·intro w'
                    go_simp
                    with_reducible rfl
                   rotate_left
                   ·simp only [Act.put, List.setIfInBounds_toArray, List.set_cons_zero, List.set_cons_succ, i64_w, i32_w]
                    rfl
                   refine pure_ (i := 4) (N := some 74) (v := ?_) (a' := ?_) #[true, true, true, true, true, false, true, false, false, false, false, false, false, false, false, false, false, false, false, false] rfl rfl (any_of HT_.out (by kernel_rfl)) (fun _ _ _ h => h) (Or.inl ⟨by rfl, ?_⟩) ?_ ?_
                   rotate_left
                   ·intro w'
                    go_simp
                    with_reducible rfl
                   rotate_left
                   ·simp only [Act.put, List.setIfInBounds_toArray, List.set_cons_zero, List.set_cons_succ, i64_w, i32_w]
                    rfl
                   refine take_ (i := 5) (N := some 75) (v := ?_) (a' := ?_) #[true, true, true, true, true, true, true, false, false, false, false, false, false, false, false, false, false, false, false, false] rfl rfl (take_ofW HT_.out HW_.out (by kernel_rfl)) (fun _ _ _ h => h) (Or.inl ⟨by rfl, ?_⟩) hHeld ?_ ?_
                   rotate_left
                   ·rintro w' ⟨s0, s1, s2, s3, s4, s5, s6, s7, s8, s9⟩
                    go_simp
                    with_reducible rfl
                   rotate_left
                   ·simp only [Act.put, List.setIfInBounds_toArray, List.set_cons_zero, List.set_cons_succ, i64_w, i32_w]
                    rfl
                   refine take_ (i := 7) (N := some 77) (v := ?_) (a' := ?_) #[true, true, true, true, true, true, true, true, false, false, false, false, false, false, false, false, false, false, false, false] rfl rfl (take_ofW HT_.out HW_.out (by kernel_rfl)) (fun _ _ _ h => h) (Or.inl ⟨by rfl, ?_⟩) hHeld ?_ ?_
                   rotate_left
                   ·rintro w' ⟨s0, s1, s2, s3, s4, s5, s6, s7, s8, s9⟩
                    go_simp
                    with_reducible rfl
                   rotate_left
                   ·simp only [Act.put, List.setIfInBounds_toArray, List.set_cons_zero, List.set_cons_succ, i64_w, i32_w]
                    rfl
                   refine pure_ (i := 8) (N := some 78) (v := ?_) (a' := ?_) #[true, true, true, true, true, true, true, true, true, false, false, false, false, false, false, false, false, false, false, false] rfl rfl (any_of HT_.out (by kernel_rfl)) (fun _ _ _ h => h) (Or.inl ⟨by rfl, ?_⟩) ?_ ?_
                   rotate_left
                   ·intro w'
                    go_simp
                    with_reducible rfl
                   rotate_left
                   ·simp only [Act.put, List.setIfInBounds_toArray, List.set_cons_zero, List.set_cons_succ, i64_w, i32_w]
                    rfl
                   refine pure_ (i := 9) (N := some 79) (v := ?_) (a' := ?_) #[true, true, true, true, true, true, true, true, true, true, false, false, false, false, false, false, false, false, false, false] rfl rfl (any_of HT_.out (by kernel_rfl)) (fun _ _ _ h => h) (Or.inl ⟨by rfl, ?_⟩) ?_ ?_
                   rotate_left
                   ·intro w'
                    go_simp
                    with_reducible rfl
                   rotate_left
                   ·simp only [Act.put, List.setIfInBounds_toArray, List.set_cons_zero, List.set_cons_succ, i64_w, i32_w]
                    rfl
                   refine pure_ (i := 10) (N := some 80) (v := undef) (a' := ?_) #[true, true, true, true, true, true, true, true, true, true, true, false, false, false, false, false, false, false, false, false] rfl rfl (any_of HT_.out (by kernel_rfl)) (fun _ _ _ h => h) (Or.inr ⟨by rfl, rfl⟩) ?_ ?_
                   rotate_left
                   ·simp only [Act.put, List.setIfInBounds_toArray, List.set_cons_zero, List.set_cons_succ, i64_w, i32_w]
                    rfl
                   refine pure_ (i := 11) (N := some 81) (v := undef) (a' := ?_) #[true, true, true, true, true, true, true, true, true, true, true, true, false, false, false, false, false, false, false, false] rfl rfl (any_of HT_.out (by kernel_rfl)) (fun _ _ _ h => h) (Or.inr ⟨by rfl, rfl⟩) ?_ ?_
                   rotate_left
                   ·simp only [Act.put, List.setIfInBounds_toArray, List.set_cons_zero, List.set_cons_succ, i64_w, i32_w]
                    rfl
                   refine pure_ (i := 12) (N := some 82) (v := undef) (a' := ?_) #[true, true, true, true, true, true, true, true, true, true, true, true, true, false, false, false, false, false, false, false] rfl rfl (any_of HT_.out (by kernel_rfl)) (fun _ _ _ h => h) (Or.inr ⟨by rfl, rfl⟩) ?_ ?_
                   rotate_left
                   ·simp only [Act.put, List.setIfInBounds_toArray, List.set_cons_zero, List.set_cons_succ, i64_w, i32_w]
                    rfl
                   refine pure_ (i := 13) (N := some 83) (v := undef) (a' := ?_) #[true, true, true, true, true, true, true, true, true, true, true, true, true, true, false, false, false, false, false, false] rfl rfl (any_of HT_.out (by kernel_rfl)) (fun _ _ _ h => h) (Or.inr ⟨by rfl, rfl⟩) ?_ ?_
                   rotate_left
                   ·simp only [Act.put, List.setIfInBounds_toArray, List.set_cons_zero, List.set_cons_succ, i64_w, i32_w]
                    rfl
                   refine pure_ (i := 14) (N := some 84) (v := undef) (a' := ?_) #[true, true, true, true, true, true, true, true, true, true, true, true, true, true, true, false, false, false, false, false] rfl rfl (any_of HT_.out (by kernel_rfl)) (fun _ _ _ h => h) (Or.inr ⟨by rfl, rfl⟩) ?_ ?_
                   rotate_left
                   ·simp only [Act.put, List.setIfInBounds_toArray, List.set_cons_zero, List.set_cons_succ, i64_w, i32_w]
                    rfl
                   refine pure_ (i := 15) (N := some 85) (v := undef) (a' := ?_) #[true, true, true, true, true, true, true, true, true, true, true, true, true, true, true, true, false, false, false, false] rfl rfl (any_of HT_.out (by kernel_rfl)) (fun _ _ _ h => h) (Or.inr ⟨by rfl, rfl⟩) ?_ ?_
                   rotate_left
                   ·simp only [Act.put, List.setIfInBounds_toArray, List.set_cons_zero, List.set_cons_succ, i64_w, i32_w]
                    rfl
                   refine pure_ (i := 16) (N := some 86) (v := undef) (a' := ?_) #[true, true, true, true, true, true, true, true, true, true, true, true, true, true, true, true, true, false, false, false] rfl rfl (any_of HT_.out (by kernel_rfl)) (fun _ _ _ h => h) (Or.inr ⟨by rfl, rfl⟩) ?_ ?_
                   rotate_left
                   ·simp only [Act.put, List.setIfInBounds_toArray, List.set_cons_zero, List.set_cons_succ, i64_w, i32_w]
                    rfl
                   refine pure_ (i := 17) (N := some 87) (v := undef) (a' := ?_) #[true, true, true, true, true, true, true, true, true, true, true, true, true, true, true, true, true, true, false, false] rfl rfl (any_of HT_.out (by kernel_rfl)) (fun _ _ _ h => h) (Or.inr ⟨by rfl, rfl⟩) ?_ ?_
                   rotate_left
                   ·simp only [Act.put, List.setIfInBounds_toArray, List.set_cons_zero, List.set_cons_succ, i64_w, i32_w]
                    rfl
                   refine pure_ (i := 18) (N := some 88) (v := undef) (a' := ?_) #[true, true, true, true, true, true, true, true, true, true, true, true, true, true, true, true, true, true, true, false] rfl rfl (any_of HT_.out (by kernel_rfl)) (fun _ _ _ h => h) (Or.inr ⟨by rfl, rfl⟩) ?_ ?_
                   rotate_left
                   ·simp only [Act.put, List.setIfInBounds_toArray, List.set_cons_zero, List.set_cons_succ, i64_w, i32_w]
                    rfl
                   refine pure_ (i := 19) (N := some 89) (v := ?_) (a' := ?_) #[true, true, true, true, true, true, true, true, true, true, true, true, true, true, true, true, true, true, true, true] rfl rfl (any_of HT_.out (by kernel_rfl)) (fun _ _ _ h => h) (Or.inl ⟨by rfl, ?_⟩) ?_ ?_
                   rotate_left
                   ·intro w'
                    go_simp
                    with_reducible rfl
                   rotate_left
                   ·simp only [Act.put, List.setIfInBounds_toArray, List.set_cons_zero, List.set_cons_succ, i64_w, i32_w]
                    rfl
                   refine done_ (done_of HT_.out (by kernel_rfl)) ?_
                   try go_wp2
                   go_roundg k5
                   case measure => have := HJ4.out; have := HK2.out; have := HJ27.out; have := HJ41.out; have := HK5.out; omega
                   case rel => exact ⟨(x9_5), (wrap64 (x10_5 + 1)), (x187001_5), (x189002_5), (x189003_5), (.slice (some ad189) x187001_5.length co88), (by first | rfl | (simp; done) | (simp [*]; done)), (by first | rfl | (simp; done) | (simp [*]; done)), H', ⟨by have := HJ4.out; have := HK2.out; have := HJ27.out; have := HJ41.out; have := HK5.out; omega⟩, ⟨by (with_reducible repeat (first | apply Kd.R_alloc | apply Kd.R_drewN | apply Kd.R_drew)); exact HO_187001.out⟩, ⟨by (with_reducible repeat (first | refine blk_drewN ?_ _ | refine blk_drew ?_ | refine blk_alloc ?_ _)); exact BK180.out⟩, ⟨by (with_reducible repeat (first | refine blk_drewN ?_ _ | refine blk_drew ?_ | refine blk_alloc ?_ _)); exact BK181.out⟩, ⟨by (with_reducible repeat (first | refine blk_drewN ?_ _ | refine blk_drew ?_ | refine blk_alloc ?_ _)); exact BK186.out⟩, ⟨by (with_reducible repeat (first | refine blk_drewN ?_ _ | refine blk_drew ?_ | refine blk_alloc ?_ _)); exact BK188.out⟩, ⟨by repeat (first | (with_reducible first | exact HB.out | apply below_alloc | apply pw_below_drewN | apply below_drew1 | refine below_set ?_ GE180.out | refine below_set ?_ GE181.out | refine below_set ?_ GE186.out | refine below_set ?_ GE188.out) | exact HB.out)⟩⟩
                 ·rw [if_neg c62] at H
                  exact absurd H (by simp)
                ·rw [if_neg c61] at H
                 have c61b0 : decide (x10_5 < (x187001_5.length : Int)) = false := decide_eq_false c61
                 clear c61
                 by_cases c90 : x9_5 = true
                 ·subst c90
                  have H1 : (spileref36_Merge.l0 k5 a1 (wrap64 (x7_2 + 1)) a0_0 l0_1 (wrap64 (a0_0 - 1)) x187001_5) = some (r1, r2, r3) := by rw [if_pos rfl] at H; exact H
                  clear H
                  have H := H1
                  clear H1
                  have H' := Aside0.mk H
                  clear H
                  have hnb91 := NB186_180.out
                  have hnc91 := NB180_186.out
                  have hnb92 := NB186_181.out
                  have hnc92 := NB181_186.out
                  have hnb93 := NB186_188.out
                  have hnc93 := NB188_186.out
                  have hcz94_0 : wr.cell? ⟨gb186, 0, none⟩ = some (.int .i64 (wrap64 (a0_0 - 1))) := (blk_cell BK186.out 0).trans rfl
                  have hcz94_1 : wr.cell? ⟨gb186, 1, none⟩ = some (u187001) := (blk_cell BK186.out 1).trans rfl
                  have hfz94_0 := blk_frozen BK186.out 0
                  have hfz94_1 := blk_frozen BK186.out 1
                  obtain ⟨Ao95, co95, eo95⟩ := Kd.R_slice HO_187001.out
                  subst eo95
                  go_wp2
                  go_roundg k5
                  case measure => have := HJ4.out; have := HK2.out; have := HJ27.out; have := HJ41.out; have := HK5.out; omega
                  case rel => exact ⟨(wrap64 (x7_2 + 1)), (x187001_5), (.slice Ao95 x187001_5.length co95), (by first | rfl | (simp; done) | (simp [*]; done)), H', ⟨by have := HJ4.out; have := HK2.out; have := HJ27.out; have := HJ41.out; have := HK5.out; omega⟩, ⟨by (with_reducible repeat (first | apply Kd.R_alloc | apply Kd.R_drewN | apply Kd.R_drew)); exact Kd.R_mono HO_187001.out (fun _ hk => trivial)⟩, ⟨by (with_reducible repeat (first | refine blk_drewN ?_ _ | refine blk_drew ?_ | refine blk_alloc ?_ _)); exact BK180.out⟩, ⟨by (with_reducible repeat (first | refine blk_drewN ?_ _ | refine blk_drew ?_ | refine blk_alloc ?_ _)); exact BK181.out⟩, ⟨by (with_reducible repeat (first | refine blk_drewN ?_ _ | refine blk_drew ?_ | refine blk_alloc ?_ _)); exact BK186.out⟩, ⟨by repeat (first | (with_reducible first | exact HB.out | apply below_alloc | apply pw_below_drewN | apply below_drew1 | refine below_set ?_ GE180.out | refine below_set ?_ GE181.out | refine below_set ?_ GE186.out | refine below_set ?_ GE188.out) | exact HB.out)⟩⟩
                 ·replace c90 := Bool.eq_false_iff.mpr c90
                  subst c90
                  have H1 : (if x187001_5.length < 4398046511104 then (spileref36_Merge.l0 k5 a1 (wrap64 (x7_2 + 1)) a0_0 l0_1 (wrap64 (a0_0 - 1)) (x187001_5 ++ [(⟨x189000_27, x189001_41, x189002_5, x189003_5⟩ : S28)])) else (none)) = some (r1, r2, r3) := by rw [if_neg (show ¬ (false = true) by decide)] at H; exact H
                  clear H
                  have H := H1
                  clear H1
                  by_cases c96 : x187001_5.length < 4398046511104
                  ·rw [if_pos c96] at H
                   have LMc96 := Aside0.mk c96
                   clear c96
                   obtain ⟨y195, hy195⟩ : ∃ y_ : List (S28), y_ = (x187001_5 ++ [(⟨x189000_27, x189001_41, x189002_5, x189003_5⟩ : S28)]) := ⟨_, rfl⟩
                   replace H : (spileref36_Merge.l0 k5 a1 (wrap64 (x7_2 + 1)) a0_0 l0_1 (wrap64 (a0_0 - 1)) y195) = some (r1, r2, r3) := by first | (rw [hy195]; with_reducible exact H) | (have H2_ := (Option.bind_some _ _).symm.trans H; rw [hy195]; with_reducible exact H2_) | (have H2_ := (Option.bind_some _ _).symm.trans H; with_reducible exact H2_) | with_reducible exact H | (rw [hy195]; exact H) | exact H
                   have Ny195 := Aside0.mk hy195
                   clear hy195
                   have H' := Aside0.mk H
                   clear H
                   have hnb97 := NB186_180.out
                   have hnc97 := NB180_186.out
                   have hnb98 := NB186_181.out
                   have hnc98 := NB181_186.out
                   have hnb99 := NB186_188.out
                   have hnc99 := NB188_186.out
                   have hcz100_0 : wr.cell? ⟨gb186, 0, none⟩ = some (.int .i64 (wrap64 (a0_0 - 1))) := (blk_cell BK186.out 0).trans rfl
                   have hcz100_1 : wr.cell? ⟨gb186, 1, none⟩ = some (u187001) := (blk_cell BK186.out 1).trans rfl
                   have hfz100_0 := blk_frozen BK186.out 0
                   have hfz100_1 := blk_frozen BK186.out 1
                   obtain ⟨Ao101, co101, eo101⟩ := Kd.R_slice HO_187001.out
                   subst eo101
                   have hnb102 := NB188_180.out
                   have hnc102 := NB180_188.out
                   have hnb103 := NB188_181.out
                   have hnc103 := NB181_188.out
                   have hcz104_0 : wr.cell? ⟨gb188, 0, none⟩ = some (.int .i64 x189000_27) := (blk_cell BK188.out 0).trans rfl
                   have hcz104_1 : wr.cell? ⟨gb188, 1, none⟩ = some (.int .i64 x189001_41) := (blk_cell BK188.out 1).trans rfl
                   have hcz104_2 : wr.cell? ⟨gb188, 2, none⟩ = some (.int .i64 x189002_5) := (blk_cell BK188.out 2).trans rfl
                   have hcz104_3 : wr.cell? ⟨gb188, 3, none⟩ = some (.int .i64 x189003_5) := (blk_cell BK188.out 3).trans rfl
                   have hfz104_0 := blk_frozen BK188.out 0
                   have hfz104_1 := blk_frozen BK188.out 1
                   have hfz104_2 := blk_frozen BK188.out 2
                   have hfz104_3 := blk_frozen BK188.out 3
                   go_wp2_with (first | ((with_reducible refine gate_builtin (b := .append) (xs := #[.tmp 121, .tmp 123]) rfl ?_); at_builtin; refine Kd.R_append k28 (w0 := w) w.heap.size rfl (.tmp 121) (.tmp 123) 22 28 (.agg #[(.int .i64 0), (.int .i64 0), (.int .i64 0), (.int .i64 0)]) 32 rfl Try.underlying22 info28 rfl (by decide) (by omega) (.slice Ao101 x187001_5.length co101) x187001_5 (⟨x189000_27, x189001_41, x189002_5, x189003_5⟩ : S28) [.int .i64 x189000_27, .int .i64 x189001_41, .int .i64 x189002_5, .int .i64 x189003_5] (fun k_ => k_ ≠ gb188) (fun _ => False) rfl rfl ?aP (fun _ hk => hk.elim) ?aF ?aO ?aB ?aS ?aL ?_; (case aP => exact k28_mkM _ _ _ (⟨x189000_27, x189001_41, x189002_5, x189003_5⟩ : S28)); (case aB => exact (by repeat (first | (with_reducible first | exact HB.out | apply below_alloc | apply pw_below_drewN | apply below_drew1 | refine below_set ?_ GE180.out | refine below_set ?_ GE181.out | refine below_set ?_ GE186.out | refine below_set ?_ GE188.out) | exact HB.out))); (case aF => exact (fun k_ hk => Kd.freshB (g := gb188) (o := .cells #[.int .i64 x189000_27, .int .i64 x189001_41, .int .i64 x189002_5, .int .i64 x189003_5] 28 (0, 0)) (by (with_reducible repeat (first | refine blk_drewN ?_ _ | refine blk_drew ?_ | refine blk_alloc ?_ _)); exact BK188.out) k_ hk)); (case aO => exact (by (with_reducible repeat (first | apply Kd.R_alloc | apply Kd.R_drewN | apply Kd.R_drew)); exact HO_187001.out)); (case aS => exact (below_size (by repeat (first | (with_reducible first | exact HB.out | apply below_alloc | apply pw_below_drewN | apply below_drew1 | refine below_set ?_ GE180.out | refine below_set ?_ GE181.out | refine below_set ?_ GE186.out | refine below_set ?_ GE188.out) | exact HB.out)))); (case aL => have := LMc96.out; omega); intro v196 w105 ho hb hg hat; rw [← Ny195.out] at ho; have n0_ := Aside0.mk (blk_grown (g := gb180) (o := .cells #[.int .i64 a0_0, .slice (some ad187) l0_1.length c0_1] 24 (0, 0)) (by (with_reducible repeat (first | refine blk_drewN ?_ _ | refine blk_drew ?_ | refine blk_alloc ?_ _)); exact BK180.out) hg (Kd.R_ne HO_187001.out BK180.out (by decide))); have n1_ := Aside0.mk (blk_grown (g := gb181) (o := .cells #[.int .i64 0, .slice none 0 0] 24 (0, 0)) (by (with_reducible repeat (first | refine blk_drewN ?_ _ | refine blk_drew ?_ | refine blk_alloc ?_ _)); exact BK181.out) hg (Kd.R_ne HO_187001.out BK181.out (by decide))); have n2_ := Aside0.mk (blk_grown (g := gb186) (o := .cells #[.int .i64 (wrap64 (a0_0 - 1)), .slice Ao101 x187001_5.length co101] 24 (0, 0)) (by (with_reducible repeat (first | refine blk_drewN ?_ _ | refine blk_drew ?_ | refine blk_alloc ?_ _)); exact BK186.out) hg (Kd.R_ne HO_187001.out BK186.out (by decide))); have n3_ := Aside0.mk (blk_grown (g := gb188) (o := .cells #[.int .i64 x189000_27, .int .i64 x189001_41, .int .i64 x189002_5, .int .i64 x189003_5] 28 (0, 0)) (by (with_reducible repeat (first | refine blk_drewN ?_ _ | refine blk_drew ?_ | refine blk_alloc ?_ _)); exact BK188.out) hg (Kd.R_away HO_187001.out (fun _ hk => hk))); have n4_ := Aside0.mk (hb); have n5_ := Aside0.mk (ho); clear BK180; clear BK181; clear BK186; clear BK188; clear HB; clear HO_187001; have BK180 := n0_; have BK181 := n1_; have BK186 := n2_; have BK188 := n3_; have HB := n4_; have HO197 := n5_; clear n0_ n1_ n2_ n3_ n4_ n5_; clear ho hb hg hat; obtain ⟨Ao106, co106, eo106⟩ := Kd.R_slice HO197.out; subst eo106; have hcz107_0 : w105.cell? ⟨gb186, 0, none⟩ = some (.int .i64 (wrap64 (a0_0 - 1))) := (blk_cell BK186.out 0).trans rfl; have hcz107_1 : w105.cell? ⟨gb186, 1, none⟩ = some (.slice Ao101 x187001_5.length co101) := (blk_cell BK186.out 1).trans rfl; have hfz107_0 := blk_frozen BK186.out 0; have hfz107_1 := blk_frozen BK186.out 1))
                   go_roundg k5
                   case measure => have := HJ4.out; have := HK2.out; have := HJ27.out; have := HJ41.out; have := HK5.out; omega
                   case rel => exact ⟨(wrap64 (x7_2 + 1)), (y195), (.slice Ao106 y195.length co106), (by first | rfl | (simp; done) | (simp [*]; done)), H', ⟨by have := HJ4.out; have := HK2.out; have := HJ27.out; have := HJ41.out; have := HK5.out; omega⟩, ⟨by (with_reducible repeat (first | apply Kd.R_alloc | apply Kd.R_drewN | apply Kd.R_drew)); exact Kd.R_mono (Kd.R_far (p := ⟨gb186, 1, none⟩) (Kd.R_types HO197.out BK186.out (by decide)) (fun _ hk => hk.2) (.slice Ao106 y195.length co106)) (fun _ hk => trivial)⟩, ⟨by (with_reducible repeat (first | refine blk_drewN ?_ _ | refine blk_drew ?_ | refine blk_alloc ?_ _)); refine blk_far ?_ NB180_186.out _; (with_reducible repeat (first | refine blk_drewN ?_ _ | refine blk_drew ?_ | refine blk_alloc ?_ _)); exact BK180.out⟩, ⟨by (with_reducible repeat (first | refine blk_drewN ?_ _ | refine blk_drew ?_ | refine blk_alloc ?_ _)); refine blk_far ?_ NB181_186.out _; (with_reducible repeat (first | refine blk_drewN ?_ _ | refine blk_drew ?_ | refine blk_alloc ?_ _)); exact BK181.out⟩, ⟨by (with_reducible repeat (first | refine blk_drewN ?_ _ | refine blk_drew ?_ | refine blk_alloc ?_ _)); refine blk_put (cs := #[.int .i64 (wrap64 (a0_0 - 1)), .slice Ao101 x187001_5.length co101]) ?_ 1 _ rfl; (with_reducible repeat (first | refine blk_drewN ?_ _ | refine blk_drew ?_ | refine blk_alloc ?_ _)); exact BK186.out⟩, ⟨by repeat (first | (with_reducible first | exact HB.out | apply below_alloc | apply pw_below_drewN | apply below_drew1 | refine below_set ?_ GE180.out | refine below_set ?_ GE181.out | refine below_set ?_ GE186.out | refine below_set ?_ GE188.out) | exact HB.out)⟩⟩
                  ·rw [if_neg c96] at H
                   exact absurd H (by simp)
        ·rw [if_neg c27] at H
         exact absurd H (by simp)
       ·rw [if_neg c26] at H
        have c26b0 : decide (x7_2 < (l0_1.length : Int)) = false := decide_eq_false c26
        clear c26
        have H' := Aside0.mk H
        clear H
        have hnb108 := NB180_181.out
        have hnc108 := NB181_180.out
        have hnb109 := NB180_186.out
        have hnc109 := NB186_180.out
        have hcz110_0 : wr.cell? ⟨gb180, 0, none⟩ = some (.int .i64 a0_0) := (blk_cell BK180.out 0).trans rfl
        have hcz110_1 : wr.cell? ⟨gb180, 1, none⟩ = some (.slice A0_1 l0_1.length c0_1) := (blk_cell BK180.out 1).trans rfl
        have hfz110_0 := blk_frozen BK180.out 0
        have hfz110_1 := blk_frozen BK180.out 1
        go_wp2
        go_loopg [11] k2 (fun kq v11 w' => ∃ (x11_3 : Int) (x182000_3 : Int), v11 = .int .i64 x11_3 ∧ Aside0 (spileref36_Merge.l2 kq x11_3 (wrap64 (a0_0 - 1)) x187001_2 = some (r1, r2, r3)) ∧ Aside0 (kq ≤ k2) ∧ Aside0 (Kd.R k28 28 w' w.heap.size (fun _ => True) u187001 x187001_2) ∧ Aside0 (w'.heap[gb180]? = some (.cells #[.int .i64 a0_0, (.slice A0_1 l0_1.length c0_1)] 24 (0, 0))) ∧ Aside0 (w'.heap[gb181]? = some (.cells #[.int .i64 x182000_3, (.slice none 0 0)] 24 (0, 0))) ∧ Aside0 (w'.heap[gb186]? = some (.cells #[.int .i64 (wrap64 (a0_0 - 1)), u187001] 24 (0, 0))) ∧ Aside0 (Below w.heap.size w w'))
        case atStart => exact ⟨(0), (0), (by first | rfl | (simp; done) | (simp [*]; done)), H', ⟨Nat.le_refl _⟩, ⟨by (with_reducible repeat (first | apply Kd.R_alloc | apply Kd.R_drewN | apply Kd.R_drew)); exact HO_187001.out⟩, ⟨by (with_reducible repeat (first | refine blk_drewN ?_ _ | refine blk_drew ?_ | refine blk_alloc ?_ _)); exact BK180.out⟩, ⟨by (with_reducible repeat (first | refine blk_drewN ?_ _ | refine blk_drew ?_ | refine blk_alloc ?_ _)); exact BK181.out⟩, ⟨by (with_reducible repeat (first | refine blk_drewN ?_ _ | refine blk_drew ?_ | refine blk_alloc ?_ _)); exact BK186.out⟩, ⟨by repeat (first | (with_reducible first | exact HB.out | apply below_alloc | apply pw_below_drewN | apply below_drew1 | refine below_set ?_ GE180.out | refine below_set ?_ GE181.out | refine below_set ?_ GE186.out) | exact HB.out)⟩⟩
        case round =>
         clear H'
         try clear c1
         try clear p1
         try clear q1
         try clear hx1
         try clear c2
         try clear p2
         try clear c6
         try clear p6
         try clear c7
         try clear c8
         try clear c9
         try clear c10
         try clear p18
         try clear q18
         try clear hx18
         try clear p19
         try clear q19
         try clear hx19
         try clear c26
         try clear c26b0
         try clear c27
         try clear c61
         try clear c61b0
         try clear c62
         try clear c63
         try clear c63b0
         try clear c63b1
         try clear c64
         try clear c64b0
         try clear c64b1
         try clear p64
         try clear c78
         try clear c79
         try clear c80
         try clear c84
         try clear c85
         try clear c86
         try clear c90
         try clear c91
         try clear c92
         try clear c93
         try clear c96
         try clear c97
         try clear c98
         try clear c99
         try clear c102
         try clear c103
         try clear c108
         try clear c109
         try clear hcz100_0
         try clear hcz100_1
         try clear hcz104_0
         try clear hcz104_1
         try clear hcz104_2
         try clear hcz104_3
         try clear hcz107_0
         try clear hcz107_1
         try clear hcz110_0
         try clear hcz110_1
         try clear hcz81_0
         try clear hcz81_1
         try clear hcz87_0
         try clear hcz87_1
         try clear hcz94_0
         try clear hcz94_1
         try clear hfz100_0
         try clear hfz100_1
         try clear hfz104_0
         try clear hfz104_1
         try clear hfz104_2
         try clear hfz104_3
         try clear hfz107_0
         try clear hfz107_1
         try clear hfz110_0
         try clear hfz110_1
         try clear hfz81_0
         try clear hfz81_1
         try clear hfz87_0
         try clear hfz87_1
         try clear hfz94_0
         try clear hfz94_1
         try clear hx189_0
         try clear hx189_1
         try clear hx189_2
         try clear hx189_3
         try clear hx190_0
         try clear hx190_1
         try clear hx190_2
         try clear hx190_3
         try clear p189
         try clear p190
         try clear q189
         try clear q190
         obtain ⟨x11_3, x182000_3, rfl, HA, HK3, HO_187001, BK180, BK181, BK186, HB⟩ := hrel
         cases gk with
         | zero => exact absurd HA.out (by simp [spileref36_Merge.l2])
         | succ k3 =>
          have H := HA.out
          clear HA
          simp only [spileref36_Merge.l2] at H
          by_cases c111 : x11_3 < (x187001_2.length : Int)
          ·rw [if_pos c111] at H
           have c111b0 : decide (x11_3 < (x187001_2.length : Int)) = true := decide_eq_true c111
           clear c111
           by_cases c112 : 0 ≤ x11_3
           ·rw [if_pos c112] at H
            have c112b0 : decide (0 ≤ x11_3) = true := decide_eq_true c112
            clear c112
            by_cases c113 : ((rd_T28 x187001_2 x11_3).f2) > 10737418240000
            ·rw [if_pos c113] at H
             have c113b0 : decide (10737418240000 < ((rd_T28 x187001_2 x11_3).f2)) = true := decide_eq_true c113
             clear c113
             simp only [Option.some.injEq, Prod.mk.injEq] at H
             obtain ⟨rfl, rfl, rfl⟩ := H
             have hnb114 := NB186_180.out
             have hnc114 := NB180_186.out
             have hnb115 := NB186_181.out
             have hnc115 := NB181_186.out
             have hcz116_0 : wr.cell? ⟨gb186, 0, none⟩ = some (.int .i64 (wrap64 (a0_0 - 1))) := (blk_cell BK186.out 0).trans rfl
             have hcz116_1 : wr.cell? ⟨gb186, 1, none⟩ = some (u187001) := (blk_cell BK186.out 1).trans rfl
             have hfz116_0 := blk_frozen BK186.out 0
             have hfz116_1 := blk_frozen BK186.out 1
             obtain ⟨Ao117, co117, eo117⟩ := Kd.R_slice HO_187001.out
             subst eo117
             have p198 : 0 ≤ (x11_3 : Int) := of_decide_eq_true (by first | (with_reducible assumption) | assumption)
             have q198 : x11_3 < (x187001_2.length : Int) := of_decide_eq_true (by first | (with_reducible assumption) | assumption)
             obtain ⟨ad198, e198, hx198_0, hx198_1, hx198_2, hx198_3⟩ := at_T28 (Kd.R_reads' HO_187001.out).2.2 x11_3 p198 q198
             cases e198
             replace p198 := eq_true p198
             replace q198 := eq_true q198
             have hnb118 := NB181_180.out
             have hnc118 := NB180_181.out
             have hcz119_0 : wr.cell? ⟨gb181, 0, none⟩ = some (.int .i64 x182000_3) := (blk_cell BK181.out 0).trans rfl
             have hcz119_1 : wr.cell? ⟨gb181, 1, none⟩ = some (.slice none 0 0) := (blk_cell BK181.out 1).trans rfl
             have hfz119_0 := blk_frozen BK181.out 0
             have hfz119_1 := blk_frozen BK181.out 1
             go_wp2
             refine bodyPost_ret (results_ct rfl _ _ gb181 24 #[.int .i64 0, .slice none 0 0] (0, 0) _ rfl (by (with_reducible repeat (first | refine blk_drewN ?_ _ | refine blk_drew ?_ | refine blk_alloc ?_ _)); refine blk_put (cs := #[.int .i64 0, .slice none 0 0]) ?_ 1 _ rfl; (with_reducible repeat (first | refine blk_drewN ?_ _ | refine blk_drew ?_ | refine blk_alloc ?_ _)); refine blk_put (cs := #[.int .i64 x182000_3, .slice none 0 0]) ?_ 0 _ rfl; (with_reducible repeat (first | refine blk_drewN ?_ _ | refine blk_drew ?_ | refine blk_alloc ?_ _)); exact BK181.out) Try.underlying24 rfl (by kernel_rfl)) rfl ?_
             exact ⟨_, by first | rfl | (simp [errW_none, errW_some] <;> rfl) | (simp [*, errW_none, errW_some] <;> rfl), by first | exact Kd.R_nil _ _ _ _ _ | exact Kd.N_nil _ _ _ _ _ | exact Kd.V_nil _ _ _ _ _ | exact Kd.Q_nil _ _ _ _ _ | exact Kd.S_nil _ _ _ _ _, by repeat (first | (with_reducible first | exact HB.out | apply below_alloc | apply pw_below_drewN | apply below_drew1 | refine below_set ?_ GE180.out | refine below_set ?_ GE181.out | refine below_set ?_ GE186.out) | exact HB.out)⟩
            ·rw [if_neg c113] at H
             have c113b0 : decide (10737418240000 < ((rd_T28 x187001_2 x11_3).f2)) = false := decide_eq_false c113
             clear c113
             by_cases c120 : ((rd_T28 x187001_2 x11_3).f3) > 128849018880000
             ·rw [if_pos c120] at H
              have c120b0 : decide (128849018880000 < ((rd_T28 x187001_2 x11_3).f3)) = true := decide_eq_true c120
              clear c120
              simp only [Option.some.injEq, Prod.mk.injEq] at H
              obtain ⟨rfl, rfl, rfl⟩ := H
              have hnb121 := NB186_180.out
              have hnc121 := NB180_186.out
              have hnb122 := NB186_181.out
              have hnc122 := NB181_186.out
              have hcz123_0 : wr.cell? ⟨gb186, 0, none⟩ = some (.int .i64 (wrap64 (a0_0 - 1))) := (blk_cell BK186.out 0).trans rfl
              have hcz123_1 : wr.cell? ⟨gb186, 1, none⟩ = some (u187001) := (blk_cell BK186.out 1).trans rfl
              have hfz123_0 := blk_frozen BK186.out 0
              have hfz123_1 := blk_frozen BK186.out 1
              obtain ⟨Ao124, co124, eo124⟩ := Kd.R_slice HO_187001.out
              subst eo124
              have p198 : 0 ≤ (x11_3 : Int) := of_decide_eq_true (by first | (with_reducible assumption) | assumption)
              have q198 : x11_3 < (x187001_2.length : Int) := of_decide_eq_true (by first | (with_reducible assumption) | assumption)
              obtain ⟨ad198, e198, hx198_0, hx198_1, hx198_2, hx198_3⟩ := at_T28 (Kd.R_reads' HO_187001.out).2.2 x11_3 p198 q198
              cases e198
              replace p198 := eq_true p198
              replace q198 := eq_true q198
              have p199 : 0 ≤ (x11_3 : Int) := of_decide_eq_true (by first | (with_reducible assumption) | assumption)
              have q199 : x11_3 < (x187001_2.length : Int) := of_decide_eq_true (by first | (with_reducible assumption) | assumption)
              obtain ⟨ad199, e199, hx199_0, hx199_1, hx199_2, hx199_3⟩ := at_T28 (Kd.R_reads' HO_187001.out).2.2 x11_3 p199 q199
              obtain rfl : ad198 = ad199 := (by injection e199)
              replace p199 := eq_true p199
              replace q199 := eq_true q199
              have hnb125 := NB181_180.out
              have hnc125 := NB180_181.out
              have hcz126_0 : wr.cell? ⟨gb181, 0, none⟩ = some (.int .i64 x182000_3) := (blk_cell BK181.out 0).trans rfl
              have hcz126_1 : wr.cell? ⟨gb181, 1, none⟩ = some (.slice none 0 0) := (blk_cell BK181.out 1).trans rfl
              have hfz126_0 := blk_frozen BK181.out 0
              have hfz126_1 := blk_frozen BK181.out 1
              go_wp2
              refine bodyPost_ret (results_ct rfl _ _ gb181 24 #[.int .i64 0, .slice none 0 0] (0, 0) _ rfl (by (with_reducible repeat (first | refine blk_drewN ?_ _ | refine blk_drew ?_ | refine blk_alloc ?_ _)); refine blk_put (cs := #[.int .i64 0, .slice none 0 0]) ?_ 1 _ rfl; (with_reducible repeat (first | refine blk_drewN ?_ _ | refine blk_drew ?_ | refine blk_alloc ?_ _)); refine blk_put (cs := #[.int .i64 x182000_3, .slice none 0 0]) ?_ 0 _ rfl; (with_reducible repeat (first | refine blk_drewN ?_ _ | refine blk_drew ?_ | refine blk_alloc ?_ _)); exact BK181.out) Try.underlying24 rfl (by kernel_rfl)) rfl ?_
              exact ⟨_, by first | rfl | (simp [errW_none, errW_some] <;> rfl) | (simp [*, errW_none, errW_some] <;> rfl), by first | exact Kd.R_nil _ _ _ _ _ | exact Kd.N_nil _ _ _ _ _ | exact Kd.V_nil _ _ _ _ _ | exact Kd.Q_nil _ _ _ _ _ | exact Kd.S_nil _ _ _ _ _, by repeat (first | (with_reducible first | exact HB.out | apply below_alloc | apply pw_below_drewN | apply below_drew1 | refine below_set ?_ GE180.out | refine below_set ?_ GE181.out | refine below_set ?_ GE186.out) | exact HB.out)⟩
             ·rw [if_neg c120] at H
              have c120b0 : decide (128849018880000 < ((rd_T28 x187001_2 x11_3).f3)) = false := decide_eq_false c120
              clear c120
              have H' := Aside0.mk H
              clear H
              have hnb127 := NB186_180.out
              have hnc127 := NB180_186.out
              have hnb128 := NB186_181.out
              have hnc128 := NB181_186.out
              have hcz129_0 : wr.cell? ⟨gb186, 0, none⟩ = some (.int .i64 (wrap64 (a0_0 - 1))) := (blk_cell BK186.out 0).trans rfl
              have hcz129_1 : wr.cell? ⟨gb186, 1, none⟩ = some (u187001) := (blk_cell BK186.out 1).trans rfl
              have hfz129_0 := blk_frozen BK186.out 0
              have hfz129_1 := blk_frozen BK186.out 1
              obtain ⟨Ao130, co130, eo130⟩ := Kd.R_slice HO_187001.out
              subst eo130
              have p198 : 0 ≤ (x11_3 : Int) := of_decide_eq_true (by first | (with_reducible assumption) | assumption)
              have q198 : x11_3 < (x187001_2.length : Int) := of_decide_eq_true (by first | (with_reducible assumption) | assumption)
              obtain ⟨ad198, e198, hx198_0, hx198_1, hx198_2, hx198_3⟩ := at_T28 (Kd.R_reads' HO_187001.out).2.2 x11_3 p198 q198
              cases e198
              replace p198 := eq_true p198
              replace q198 := eq_true q198
              have p199 : 0 ≤ (x11_3 : Int) := of_decide_eq_true (by first | (with_reducible assumption) | assumption)
              have q199 : x11_3 < (x187001_2.length : Int) := of_decide_eq_true (by first | (with_reducible assumption) | assumption)
              obtain ⟨ad199, e199, hx199_0, hx199_1, hx199_2, hx199_3⟩ := at_T28 (Kd.R_reads' HO_187001.out).2.2 x11_3 p199 q199
              obtain rfl : ad198 = ad199 := (by injection e199)
              replace p199 := eq_true p199
              replace q199 := eq_true q199
              go_wp2
              go_roundg k3
              case measure => have := HJ4.out; have := HK2.out; have := HK3.out; omega
              case rel => exact ⟨(wrap64 (x11_3 + 1)), (x182000_3), (by first | rfl | (simp; done) | (simp [*]; done)), H', ⟨by have := HJ4.out; have := HK2.out; have := HK3.out; omega⟩, ⟨by (with_reducible repeat (first | apply Kd.R_alloc | apply Kd.R_drewN | apply Kd.R_drew)); exact HO_187001.out⟩, ⟨by (with_reducible repeat (first | refine blk_drewN ?_ _ | refine blk_drew ?_ | refine blk_alloc ?_ _)); exact BK180.out⟩, ⟨by (with_reducible repeat (first | refine blk_drewN ?_ _ | refine blk_drew ?_ | refine blk_alloc ?_ _)); exact BK181.out⟩, ⟨by (with_reducible repeat (first | refine blk_drewN ?_ _ | refine blk_drew ?_ | refine blk_alloc ?_ _)); exact BK186.out⟩, ⟨by repeat (first | (with_reducible first | exact HB.out | apply below_alloc | apply pw_below_drewN | apply below_drew1 | refine below_set ?_ GE180.out | refine below_set ?_ GE181.out | refine below_set ?_ GE186.out) | exact HB.out)⟩⟩
           ·rw [if_neg c112] at H
            exact absurd H (by simp)
          ·rw [if_neg c111] at H
           have c111b0 : decide (x11_3 < (x187001_2.length : Int)) = false := decide_eq_false c111
           clear c111
           simp only [Option.some.injEq, Prod.mk.injEq] at H
           obtain ⟨rfl, rfl, rfl⟩ := H
           have hnb131 := NB186_180.out
           have hnc131 := NB180_186.out
           have hnb132 := NB186_181.out
           have hnc132 := NB181_186.out
           have hcz133_0 : wr.cell? ⟨gb186, 0, none⟩ = some (.int .i64 (wrap64 (a0_0 - 1))) := (blk_cell BK186.out 0).trans rfl
           have hcz133_1 : wr.cell? ⟨gb186, 1, none⟩ = some (u187001) := (blk_cell BK186.out 1).trans rfl
           have hfz133_0 := blk_frozen BK186.out 0
           have hfz133_1 := blk_frozen BK186.out 1
           obtain ⟨Ao134, co134, eo134⟩ := Kd.R_slice HO_187001.out
           subst eo134
           have hnb135 := NB181_180.out
           have hnc135 := NB180_181.out
           have hcz136_0 : wr.cell? ⟨gb181, 0, none⟩ = some (.int .i64 x182000_3) := (blk_cell BK181.out 0).trans rfl
           have hcz136_1 : wr.cell? ⟨gb181, 1, none⟩ = some (.slice none 0 0) := (blk_cell BK181.out 1).trans rfl
           have hfz136_0 := blk_frozen BK181.out 0
           have hfz136_1 := blk_frozen BK181.out 1
           go_wp2
           refine bodyPost_ret (results_ct rfl _ _ gb181 24 #[.int .i64 (wrap64 (a0_0 - 1)), .slice Ao134 x187001_2.length co134] (0, 0) _ rfl (by (with_reducible repeat (first | refine blk_drewN ?_ _ | refine blk_drew ?_ | refine blk_alloc ?_ _)); refine blk_put (cs := #[.int .i64 (wrap64 (a0_0 - 1)), .slice none 0 0]) ?_ 1 _ rfl; (with_reducible repeat (first | refine blk_drewN ?_ _ | refine blk_drew ?_ | refine blk_alloc ?_ _)); refine blk_put (cs := #[.int .i64 x182000_3, .slice none 0 0]) ?_ 0 _ rfl; (with_reducible repeat (first | refine blk_drewN ?_ _ | refine blk_drew ?_ | refine blk_alloc ?_ _)); exact BK181.out) Try.underlying24 rfl (by kernel_rfl)) rfl ?_
           exact ⟨_, by first | rfl | (simp [errW_none, errW_some] <;> rfl) | (simp [*, errW_none, errW_some] <;> rfl), by (with_reducible repeat (first | apply Kd.R_alloc | apply Kd.R_drewN | apply Kd.R_drew)); exact Kd.R_mono (Kd.R_far (p := ⟨gb181, 1, none⟩) (Kd.R_far (p := ⟨gb181, 0, none⟩) (Kd.R_types HO_187001.out BK181.out (by decide)) (fun _ hk => hk.2) (.int .i64 (wrap64 (a0_0 - 1)))) (fun _ hk => hk.2) (.slice Ao134 x187001_2.length co134)) (fun _ hk => trivial), by repeat (first | (with_reducible first | exact HB.out | apply below_alloc | apply pw_below_drewN | apply below_drew1 | refine below_set ?_ GE180.out | refine below_set ?_ GE181.out | refine below_set ?_ GE186.out) | exact HB.out)⟩
 ·replace c4 := Bool.eq_false_iff.mpr c4
  subst c4
  have H1 : (some (0, ([] : List (S28)), 1)) = some (r1, r2, r3) := by rw [if_neg (show ¬ (false = true) by decide)] at H; exact H
  clear H
  have H := H1
  clear H1
  simp only [Option.some.injEq, Prod.mk.injEq] at H
  obtain ⟨rfl, rfl, rfl⟩ := H
  go_enter Try.func16, Try.ntmps16
  go_wp2_with (first | ((with_reducible refine gate_dst (N := 2) rfl ?_); refine box_event ?hg (N := 2) ?hd (cs := #[.int .i64 a0_0, .slice A0_1 l0_1.length c0_1]) (t := 24) ?hr ?_; (case hd => rfl); (case hg => rfl); (case hr => first | (go_simp; done) | (go_simp; rfl)); intro gb180 hg w137 hbox hb; have n0_ := Aside0.mk (below_step (by repeat (first | (with_reducible first | exact HB.out | apply below_alloc | apply pw_below_drewN | apply below_drew1) | exact HB.out)) hb); have n1_ := Aside0.mk (hbox); have n2_ := Aside0.mk ((by rw [hg]; exact (below_size (by repeat (first | (with_reducible first | exact HB.out | apply below_alloc | apply pw_below_drewN | apply below_drew1) | exact HB.out))) : w.heap.size ≤ gb180)); have n3_ := Aside0.mk ((by rw [hg]; exact (below_size (by repeat (first | (with_reducible first | exact HB.out | apply below_alloc | apply pw_below_drewN | apply below_drew1) | exact HB.out))) : w.heap.size ≤ gb180)); clear HB; have HB := n0_; have BK180 := n1_; have GW180 := n2_; have GE180 := n3_; clear n0_ n1_ n2_ n3_; clear hb hbox hg) | ((with_reducible refine gate_dst (N := 4) rfl ?_); refine box_event ?hg (N := 4) ?hd (cs := #[.int .i64 0, .slice none 0 0]) (t := 24) ?hr ?_; (case hd => rfl); (case hg => rfl); (case hr => first | (go_simp; done) | (go_simp; rfl)); intro gb181 hg w138 hbox hb; have n0_ := Aside0.mk (blk_below (g := gb180) (o := .cells #[.int .i64 a0_0, .slice A0_1 l0_1.length c0_1] 24 (0, 0)) (by (with_reducible repeat (first | refine blk_drewN ?_ _ | refine blk_drew ?_ | refine blk_alloc ?_ _)); exact BK180.out) hb); have n1_ := Aside0.mk (below_step (by repeat (first | (with_reducible first | exact HB.out | apply below_alloc | apply pw_below_drewN | apply below_drew1 | refine below_set ?_ GE180.out) | exact HB.out)) hb); have n2_ := Aside0.mk (hbox); have n3_ := Aside0.mk ((by rw [hg]; exact (below_size (by repeat (first | (with_reducible first | exact HB.out | apply below_alloc | apply pw_below_drewN | apply below_drew1 | refine below_set ?_ GE180.out) | exact HB.out))) : w.heap.size ≤ gb181)); have n4_ := Aside0.mk ((by rw [hg]; exact (below_size (by repeat (first | (with_reducible first | exact HB.out | apply below_alloc | apply pw_below_drewN | apply below_drew1 | refine below_set ?_ GE180.out) | exact HB.out))) : w.heap.size ≤ gb181)); have n5_ := Aside0.mk ((by rw [hg]; exact Nat.ne_of_lt (blk_lt (g := gb180) (o := .cells #[.int .i64 a0_0, .slice A0_1 l0_1.length c0_1] 24 (0, 0)) (by (with_reducible repeat (first | refine blk_drewN ?_ _ | refine blk_drew ?_ | refine blk_alloc ?_ _)); exact BK180.out)) : gb180 ≠ gb181)); have n6_ := Aside0.mk ((by rw [hg]; exact Nat.ne_of_gt (blk_lt (g := gb180) (o := .cells #[.int .i64 a0_0, .slice A0_1 l0_1.length c0_1] 24 (0, 0)) (by (with_reducible repeat (first | refine blk_drewN ?_ _ | refine blk_drew ?_ | refine blk_alloc ?_ _)); exact BK180.out)) : gb181 ≠ gb180)); clear BK180; clear HB; have BK180 := n0_; have HB := n1_; have BK181 := n2_; have GW181 := n3_; have GE181 := n4_; have NB180_181 := n5_; have NB181_180 := n6_; clear n0_ n1_ n2_ n3_ n4_ n5_ n6_; clear hb hbox hg; have hnb139 := NB180_181.out; have hnc139 := NB181_180.out; have hcz140_0 : w138.cell? ⟨gb180, 0, none⟩ = some (.int .i64 a0_0) := (blk_cell BK180.out 0).trans rfl; have hcz140_1 : w138.cell? ⟨gb180, 1, none⟩ = some (.slice A0_1 l0_1.length c0_1) := (blk_cell BK180.out 1).trans rfl; have hfz140_0 := blk_frozen BK180.out 0; have hfz140_1 := blk_frozen BK180.out 1) | ((with_reducible refine gate_callee (f := 36) rfl ?_); refine goesL_ (some 13) rfl rfl Try.func36 (by kernel_rfl) rfl #[.agg #[.int .i64 a0_0, .slice A0_1 l0_1.length c0_1]] rfl (by (try simp only [List.map_toArray, List.map_cons, List.map_nil]); first | done | rfl | (simp only [List.length_drop, List.length_take]; rfl)) ?_; (with_reducible refine (spileref36_right.calls k a0_0 _ _ l0_1 false _ ?side1 ?side2 A3.out).mono ?_); (case side1 => repeat (first | exact (Kd.C_below HR0_1.out HB.out) | (with_reducible refine Kd.C_alloc ?_ _) | (with_reducible refine Kd.C_drewN ?_ _) | (with_reducible refine Kd.C_drew ?_))); (case side2 => exact HC0_1.out); rintro e w141 ⟨rfl, hb⟩; refine ⟨_, rfl, ?_⟩; have n0_ := Aside0.mk (blk_below (g := gb180) (o := .cells #[.int .i64 a0_0, .slice A0_1 l0_1.length c0_1] 24 (0, 0)) (by (with_reducible repeat (first | refine blk_drewN ?_ _ | refine blk_drew ?_ | refine blk_alloc ?_ _)); exact BK180.out) hb); have n1_ := Aside0.mk (blk_below (g := gb181) (o := .cells #[.int .i64 0, .slice none 0 0] 24 (0, 0)) (by (with_reducible repeat (first | refine blk_drewN ?_ _ | refine blk_drew ?_ | refine blk_alloc ?_ _)); exact BK181.out) hb); have n2_ := Aside0.mk (below_step (by repeat (first | (with_reducible first | exact HB.out | apply below_alloc | apply pw_below_drewN | apply below_drew1 | refine below_set ?_ GE180.out | refine below_set ?_ GE181.out) | exact HB.out)) hb); clear BK180; clear BK181; clear HB; have BK180 := n0_; have BK181 := n1_; have HB := n2_; clear n0_ n1_ n2_; (try clear hb); (try clear hb2); (try clear hk); (try clear hi); have hcz142_0 : w141.cell? ⟨gb181, 0, none⟩ = some (.int .i64 0) := (blk_cell BK181.out 0).trans rfl; have hcz142_1 : w141.cell? ⟨gb181, 1, none⟩ = some (.slice none 0 0) := (blk_cell BK181.out 1).trans rfl; have hfz142_0 := blk_frozen BK181.out 0; have hfz142_1 := blk_frozen BK181.out 1))
  refine bodyPost_ret (results_ct rfl _ _ gb181 24 #[.int .i64 0, .slice none 0 0] (0, 0) _ rfl (by (with_reducible repeat (first | refine blk_drewN ?_ _ | refine blk_drew ?_ | refine blk_alloc ?_ _)); refine blk_put (cs := #[.int .i64 0, .slice none 0 0]) ?_ 1 _ rfl; (with_reducible repeat (first | refine blk_drewN ?_ _ | refine blk_drew ?_ | refine blk_alloc ?_ _)); refine blk_put (cs := #[.int .i64 0, .slice none 0 0]) ?_ 0 _ rfl; (with_reducible repeat (first | refine blk_drewN ?_ _ | refine blk_drew ?_ | refine blk_alloc ?_ _)); exact BK181.out) Try.underlying24 rfl (by kernel_rfl)) rfl ?_
  exact ⟨_, by first | rfl | (simp [errW_none, errW_some] <;> rfl) | (simp [*, errW_none, errW_some] <;> rfl), by first | exact Kd.R_nil _ _ _ _ _ | exact Kd.N_nil _ _ _ _ _ | exact Kd.V_nil _ _ _ _ _ | exact Kd.Q_nil _ _ _ _ _ | exact Kd.S_nil _ _ _ _ _, by repeat (first | (with_reducible first | exact HB.out | apply below_alloc | apply pw_below_drewN | apply below_drew1 | refine below_set ?_ GE180.out | refine below_set ?_ GE181.out) | exact HB.out)⟩

end Go.Proofs.Ytodfjkdgfjkifaa.PF
