-- Written by a program of this session (wip/pr.py) out of Lean's print of the translation; Lean checks it.
import Derived.Test.YtdolabpkgienkaaPF0
import Derived.Test.YtdolabpkgienkaaPF3
import Derived.Test.YtdolabpkgienkaaPF4
import Derived.Test.YtdolabpkgienkaaPF5
import Derived.Test.YtdolabpkgienkaaPF7
import Derived.Test.YtdolabpkgienkaaPF8
import Derived.Test.YtdolabpkgienkaaPF10
namespace Go.Proofs.Ytdolabpkgienkaa.PF
open Go.RowKit Go.Proofs.YtdolabpkgienkaaW.PrintWords Go.Proofs.YtdolabpkgienkaaW.PrintLast Go.Proofs.YtdolabpkgienkaaW.PrintMore
attribute [local go_sem] max2_int min2_int max_two min_two max_three min_three max_four min_four   -- for this text's walks alone
set_option linter.unusedVariables false
set_option linter.unusedSimpArgs false

/-! ### spilelaw52_BondNever: function 6 -/
mutual
def spilelaw52_BondNever.j0 : Nat → List (S31) → List (S49) → Bool → Option (Bool)
 | 0, _, _, _ => none
 | k + 1, x0, x1, x32 => if x32 = true then ((spilelaw52_awake.f).bind fun t408 => (some t408)) else ((api_Bond_13.f x0).bind fun t409 => ((bond_Check_s.f t409).bind fun bt412 => (if bt412.2 = 0 then (spilelaw52_BondNever.l0 k x0 ([] : List (S35)) x1 (x1.length : Int) 0) else (some true))))
def spilelaw52_BondNever.l0 : Nat → List (S31) → List (S35) → List (S49) → Int → Int → Option (Bool)
 | 0, _, _, _, _, _ => none
 | k + 1, x0, x7, x42, x43, x44 => if x44 < x43 then (if 0 ≤ x44 then (if x44 < (x42.length : Int) then (if ((rd_T49 x42 x44).f0) = 0 then ((api_Bond_13.f x0).bind fun t416 => ((api_Hold_16.f x7).bind fun t419 => ((bond_Bind.f t416 t419 ((rd_T49 x42 x44).f1.f0) ((rd_T49 x42 x44).f1.f1) ((rd_T49 x42 x44).f1.f2) ((rd_T49 x42 x44).f2)).bind fun bt422 => (spilelaw52_BondNever.j2 k x0 x7 bt422.1 bt422.2 x42 x43 x44)))) else (if ((rd_T49 x42 x44).f0) = 1 then ((api_Bond_13.f x0).bind fun t426 => ((api_Hold_16.f x7).bind fun t429 => ((bond_Change.f k t426 t429 ((rd_T49 x42 x44).f1.f1) ((rd_T49 x42 x44).f1.f2)).bind fun bt432 => (spilelaw52_BondNever.j2 k x0 x7 bt432.1 bt432.2 x42 x43 x44)))) else ((api_Bond_13.f x0).bind fun t436 => ((api_Hold_16.f x7).bind fun t439 => ((bond_Release.f t436 t439 ((rd_T49 x42 x44).f1.f1)).bind fun bt442 => (spilelaw52_BondNever.j2 k x0 x7 bt442.1 bt442.2 x42 x43 x44)))))) else (none)) else (none)) else (some true)
def spilelaw52_BondNever.j2 : Nat → List (S31) → List (S35) → List (S35) → Int → List (S49) → Int → Int → Option (Bool)
 | 0, _, _, _, _, _, _, _ => none
 | k + 1, x0, x7, x10, x11, x42, x43, x44 => if x11 = 0 then ((api_Bond_13.f x0).bind fun t446 => ((api_Hold_16.f x10).bind fun t449 => ((bond_Holds.f t446 t449).bind fun bt452 => (if bt452.2 = 0 then (spilelaw52_BondNever.j3 k x0 x10 x42 x43 x44 (bt452.1 != (-1))) else (spilelaw52_BondNever.j3 k x0 x10 x42 x43 x44 true))))) else (if (x10.length : Int) = 0 then (spilelaw52_BondNever.l0 k x0 x7 x42 x43 (wrap64 (x44 + 1))) else (some false))
def spilelaw52_BondNever.j3 : Nat → List (S31) → List (S35) → List (S49) → Int → Int → Bool → Option (Bool)
 | 0, _, _, _, _, _, _ => none
 | k + 1, x0, x7, x42, x43, x44, x110 => if x110 = true then (some false) else (spilelaw52_BondNever.l1 k x0 x7 x42 x43 x44 x0 (x0.length : Int) 0)
def spilelaw52_BondNever.l1 : Nat → List (S31) → List (S35) → List (S49) → Int → Int → List (S31) → Int → Int → Option (Bool)
 | 0, _, _, _, _, _, _, _, _ => none
 | k + 1, x0, x7, x42, x43, x44, x111, x112, x113 => if x113 < x112 then (if 0 ≤ x113 then (if x113 < (x111.length : Int) then (spilelaw52_BondNever.l2 k x0 x7 0 x42 x43 x44 x111 x112 x113 x7 (x7.length : Int) 0 ((rd_T31 x111 x113).f0) ((rd_T31 x111 x113).f1) ((rd_T31 x111 x113).f2) ((rd_T31 x111 x113).f3)) else (none)) else (none)) else (spilelaw52_BondNever.l0 k x0 x7 x42 x43 (wrap64 (x44 + 1)))
def spilelaw52_BondNever.l2 : Nat → List (S31) → List (S35) → Int → List (S49) → Int → Int → List (S31) → Int → Int → List (S35) → Int → Int → Int → Int → Int → Int → Option (Bool)
 | 0, _, _, _, _, _, _, _, _, _, _, _, _, _, _, _, _ => none
 | k + 1, x0, x7, x16, x42, x43, x44, x111, x112, x113, x117, x118, x119, x456000, x456001, x456002, x456003 => if x119 < x118 then (if 0 ≤ x119 then (if x119 < (x117.length : Int) then (if ((rd_T35 x117 x119).f0) = x456000 then (spilelaw52_BondNever.l2 k x0 x7 (wrap64 (x16 + ((rd_T35 x117 x119).f2))) x42 x43 x44 x111 x112 x113 x117 x118 (wrap64 (x119 + 1)) x456000 x456001 x456002 x456003) else (spilelaw52_BondNever.l2 k x0 x7 x16 x42 x43 x44 x111 x112 x113 x117 x118 (wrap64 (x119 + 1)) x456000 x456001 x456002 x456003)) else (none)) else (none)) else ((api_Bond_13.f x0).bind fun t458 => ((api_Hold_16.f x7).bind fun t461 => ((bond_Free.f k t458 t461 x456000).bind fun bt464 => (if bt464.2 = 0 then (if x16 > x456003 then (some false) else (if bt464.1 = (wrap64 (x456003 - x16)) then (spilelaw52_BondNever.l1 k x0 x7 x42 x43 x44 x111 x112 (wrap64 (x113 + 1))) else (some false))) else (some false)))))
end
def spilelaw52_BondNever.f (k : Nat) (l0 : List (S31)) (l1 : List (S49)) : Option (Bool) := (spilelaw52_awake.f).bind fun t406 => (if t406 = true then ((spileref52_Few.f l0 ([] : List (S35))).bind fun t407 => (if t407 = true then (spilelaw52_BondNever.j0 k l0 l1 (decide ((l1.length : Int) > 20))) else (spilelaw52_BondNever.j0 k l0 l1 true))) else (spilelaw52_BondNever.j0 k l0 l1 true))
theorem spilelaw52_BondNever.mono_l : ∀ k, (∀ y0 y1 y2, LeO (spilelaw52_BondNever.j0 k y0 y1 y2) (spilelaw52_BondNever.j0 (k + 1) y0 y1 y2)) ∧ (∀ y0 y1 y2 y3 y4, LeO (spilelaw52_BondNever.l0 k y0 y1 y2 y3 y4) (spilelaw52_BondNever.l0 (k + 1) y0 y1 y2 y3 y4)) ∧ (∀ y0 y1 y2 y3 y4 y5 y6, LeO (spilelaw52_BondNever.j2 k y0 y1 y2 y3 y4 y5 y6) (spilelaw52_BondNever.j2 (k + 1) y0 y1 y2 y3 y4 y5 y6)) ∧ (∀ y0 y1 y2 y3 y4 y5, LeO (spilelaw52_BondNever.j3 k y0 y1 y2 y3 y4 y5) (spilelaw52_BondNever.j3 (k + 1) y0 y1 y2 y3 y4 y5)) ∧ (∀ y0 y1 y2 y3 y4 y5 y6 y7, LeO (spilelaw52_BondNever.l1 k y0 y1 y2 y3 y4 y5 y6 y7) (spilelaw52_BondNever.l1 (k + 1) y0 y1 y2 y3 y4 y5 y6 y7)) ∧ (∀ y0 y1 y2 y3 y4 y5 y6 y7 y8 y9 y10 y11 y12 y13 y14 y15, LeO (spilelaw52_BondNever.l2 k y0 y1 y2 y3 y4 y5 y6 y7 y8 y9 y10 y11 y12 y13 y14 y15) (spilelaw52_BondNever.l2 (k + 1) y0 y1 y2 y3 y4 y5 y6 y7 y8 y9 y10 y11 y12 y13 y14 y15))
 | 0 => ⟨fun _ _ _ r h => by simp [spilelaw52_BondNever.j0] at h, fun _ _ _ _ _ r h => by simp [spilelaw52_BondNever.l0] at h, fun _ _ _ _ _ _ _ r h => by simp [spilelaw52_BondNever.j2] at h, fun _ _ _ _ _ _ r h => by simp [spilelaw52_BondNever.j3] at h, fun _ _ _ _ _ _ _ _ r h => by simp [spilelaw52_BondNever.l1] at h, fun _ _ _ _ _ _ _ _ _ _ _ _ _ _ _ _ r h => by simp [spilelaw52_BondNever.l2] at h⟩
 | k + 1 => by
  obtain ⟨ih0, ih1, ih2, ih3, ih4, ih5⟩ := spilelaw52_BondNever.mono_l k
  refine ⟨?_, ?_, ?_, ?_, ?_, ?_⟩
  ·intro y0 y1 y2
   unfold spilelaw52_BondNever.j0
   repeat' first
   | (with_reducible exact ih0 _ _ _)
   | (with_reducible exact ih1 _ _ _ _ _)
   | (with_reducible exact ih2 _ _ _ _ _ _ _)
   | (with_reducible exact ih3 _ _ _ _ _ _)
   | (with_reducible exact ih4 _ _ _ _ _ _ _ _)
   | (with_reducible exact ih5 _ _ _ _ _ _ _ _ _ _ _ _ _ _ _ _)
   | (with_reducible exact bond_Change.mono _ _ _ _ _)
   | (with_reducible exact bond_Free.mono _ _ _ _)
   | (with_reducible exact LeO.refl _)
   | (with_reducible exact LeO.none _)
   | (with_reducible refine LeO.ite ?_ ?_)
   | (with_reducible refine LeO.bind ?_ (fun _ => ?_))
   | exact ih0 _ _ _
   | exact ih1 _ _ _ _ _
   | exact ih2 _ _ _ _ _ _ _
   | exact ih3 _ _ _ _ _ _
   | exact ih4 _ _ _ _ _ _ _ _
   | exact ih5 _ _ _ _ _ _ _ _ _ _ _ _ _ _ _ _
   | exact bond_Change.mono _ _ _ _ _
   | exact bond_Free.mono _ _ _ _
   | exact LeO.none _
   | refine LeO.ite ?_ ?_
   | refine LeO.bind ?_ (fun _ => ?_)
  ·intro y0 y1 y2 y3 y4
   unfold spilelaw52_BondNever.l0
   repeat' first
   | (with_reducible exact ih0 _ _ _)
   | (with_reducible exact ih1 _ _ _ _ _)
   | (with_reducible exact ih2 _ _ _ _ _ _ _)
   | (with_reducible exact ih3 _ _ _ _ _ _)
   | (with_reducible exact ih4 _ _ _ _ _ _ _ _)
   | (with_reducible exact ih5 _ _ _ _ _ _ _ _ _ _ _ _ _ _ _ _)
   | (with_reducible exact bond_Change.mono _ _ _ _ _)
   | (with_reducible exact bond_Free.mono _ _ _ _)
   | (with_reducible exact LeO.refl _)
   | (with_reducible exact LeO.none _)
   | (with_reducible refine LeO.ite ?_ ?_)
   | (with_reducible refine LeO.bind ?_ (fun _ => ?_))
   | exact ih0 _ _ _
   | exact ih1 _ _ _ _ _
   | exact ih2 _ _ _ _ _ _ _
   | exact ih3 _ _ _ _ _ _
   | exact ih4 _ _ _ _ _ _ _ _
   | exact ih5 _ _ _ _ _ _ _ _ _ _ _ _ _ _ _ _
   | exact bond_Change.mono _ _ _ _ _
   | exact bond_Free.mono _ _ _ _
   | exact LeO.none _
   | refine LeO.ite ?_ ?_
   | refine LeO.bind ?_ (fun _ => ?_)
  ·intro y0 y1 y2 y3 y4 y5 y6
   unfold spilelaw52_BondNever.j2
   repeat' first
   | (with_reducible exact ih0 _ _ _)
   | (with_reducible exact ih1 _ _ _ _ _)
   | (with_reducible exact ih2 _ _ _ _ _ _ _)
   | (with_reducible exact ih3 _ _ _ _ _ _)
   | (with_reducible exact ih4 _ _ _ _ _ _ _ _)
   | (with_reducible exact ih5 _ _ _ _ _ _ _ _ _ _ _ _ _ _ _ _)
   | (with_reducible exact bond_Change.mono _ _ _ _ _)
   | (with_reducible exact bond_Free.mono _ _ _ _)
   | (with_reducible exact LeO.refl _)
   | (with_reducible exact LeO.none _)
   | (with_reducible refine LeO.ite ?_ ?_)
   | (with_reducible refine LeO.bind ?_ (fun _ => ?_))
   | exact ih0 _ _ _
   | exact ih1 _ _ _ _ _
   | exact ih2 _ _ _ _ _ _ _
   | exact ih3 _ _ _ _ _ _
   | exact ih4 _ _ _ _ _ _ _ _
   | exact ih5 _ _ _ _ _ _ _ _ _ _ _ _ _ _ _ _
   | exact bond_Change.mono _ _ _ _ _
   | exact bond_Free.mono _ _ _ _
   | exact LeO.none _
   | refine LeO.ite ?_ ?_
   | refine LeO.bind ?_ (fun _ => ?_)
  ·intro y0 y1 y2 y3 y4 y5
   unfold spilelaw52_BondNever.j3
   repeat' first
   | (with_reducible exact ih0 _ _ _)
   | (with_reducible exact ih1 _ _ _ _ _)
   | (with_reducible exact ih2 _ _ _ _ _ _ _)
   | (with_reducible exact ih3 _ _ _ _ _ _)
   | (with_reducible exact ih4 _ _ _ _ _ _ _ _)
   | (with_reducible exact ih5 _ _ _ _ _ _ _ _ _ _ _ _ _ _ _ _)
   | (with_reducible exact bond_Change.mono _ _ _ _ _)
   | (with_reducible exact bond_Free.mono _ _ _ _)
   | (with_reducible exact LeO.refl _)
   | (with_reducible exact LeO.none _)
   | (with_reducible refine LeO.ite ?_ ?_)
   | (with_reducible refine LeO.bind ?_ (fun _ => ?_))
   | exact ih0 _ _ _
   | exact ih1 _ _ _ _ _
   | exact ih2 _ _ _ _ _ _ _
   | exact ih3 _ _ _ _ _ _
   | exact ih4 _ _ _ _ _ _ _ _
   | exact ih5 _ _ _ _ _ _ _ _ _ _ _ _ _ _ _ _
   | exact bond_Change.mono _ _ _ _ _
   | exact bond_Free.mono _ _ _ _
   | exact LeO.none _
   | refine LeO.ite ?_ ?_
   | refine LeO.bind ?_ (fun _ => ?_)
  ·intro y0 y1 y2 y3 y4 y5 y6 y7
   unfold spilelaw52_BondNever.l1
   repeat' first
   | (with_reducible exact ih0 _ _ _)
   | (with_reducible exact ih1 _ _ _ _ _)
   | (with_reducible exact ih2 _ _ _ _ _ _ _)
   | (with_reducible exact ih3 _ _ _ _ _ _)
   | (with_reducible exact ih4 _ _ _ _ _ _ _ _)
   | (with_reducible exact ih5 _ _ _ _ _ _ _ _ _ _ _ _ _ _ _ _)
   | (with_reducible exact bond_Change.mono _ _ _ _ _)
   | (with_reducible exact bond_Free.mono _ _ _ _)
   | (with_reducible exact LeO.refl _)
   | (with_reducible exact LeO.none _)
   | (with_reducible refine LeO.ite ?_ ?_)
   | (with_reducible refine LeO.bind ?_ (fun _ => ?_))
   | exact ih0 _ _ _
   | exact ih1 _ _ _ _ _
   | exact ih2 _ _ _ _ _ _ _
   | exact ih3 _ _ _ _ _ _
   | exact ih4 _ _ _ _ _ _ _ _
   | exact ih5 _ _ _ _ _ _ _ _ _ _ _ _ _ _ _ _
   | exact bond_Change.mono _ _ _ _ _
   | exact bond_Free.mono _ _ _ _
   | exact LeO.none _
   | refine LeO.ite ?_ ?_
   | refine LeO.bind ?_ (fun _ => ?_)
  ·intro y0 y1 y2 y3 y4 y5 y6 y7 y8 y9 y10 y11 y12 y13 y14 y15
   unfold spilelaw52_BondNever.l2
   repeat' first
   | (with_reducible exact ih0 _ _ _)
   | (with_reducible exact ih1 _ _ _ _ _)
   | (with_reducible exact ih2 _ _ _ _ _ _ _)
   | (with_reducible exact ih3 _ _ _ _ _ _)
   | (with_reducible exact ih4 _ _ _ _ _ _ _ _)
   | (with_reducible exact ih5 _ _ _ _ _ _ _ _ _ _ _ _ _ _ _ _)
   | (with_reducible exact bond_Change.mono _ _ _ _ _)
   | (with_reducible exact bond_Free.mono _ _ _ _)
   | (with_reducible exact LeO.refl _)
   | (with_reducible exact LeO.none _)
   | (with_reducible refine LeO.ite ?_ ?_)
   | (with_reducible refine LeO.bind ?_ (fun _ => ?_))
   | exact ih0 _ _ _
   | exact ih1 _ _ _ _ _
   | exact ih2 _ _ _ _ _ _ _
   | exact ih3 _ _ _ _ _ _
   | exact ih4 _ _ _ _ _ _ _ _
   | exact ih5 _ _ _ _ _ _ _ _ _ _ _ _ _ _ _ _
   | exact bond_Change.mono _ _ _ _ _
   | exact bond_Free.mono _ _ _ _
   | exact LeO.none _
   | refine LeO.ite ?_ ?_
   | refine LeO.bind ?_ (fun _ => ?_)
theorem spilelaw52_BondNever.mono : ∀ a0 a1 k, LeO (spilelaw52_BondNever.f k a0 a1) (spilelaw52_BondNever.f (k + 1) a0 a1) := by
 intro a0 a1 k
 obtain ⟨ih0, ih1, ih2, ih3, ih4, ih5⟩ := spilelaw52_BondNever.mono_l k
 unfold spilelaw52_BondNever.f
 repeat' first
   | (with_reducible exact ih0 _ _ _)
   | (with_reducible exact ih1 _ _ _ _ _)
   | (with_reducible exact ih2 _ _ _ _ _ _ _)
   | (with_reducible exact ih3 _ _ _ _ _ _)
   | (with_reducible exact ih4 _ _ _ _ _ _ _ _)
   | (with_reducible exact ih5 _ _ _ _ _ _ _ _ _ _ _ _ _ _ _ _)
   | (with_reducible exact bond_Change.mono _ _ _ _ _)
   | (with_reducible exact bond_Free.mono _ _ _ _)
   | (with_reducible exact LeO.refl _)
   | (with_reducible exact LeO.none _)
   | (with_reducible refine LeO.ite ?_ ?_)
   | (with_reducible refine LeO.bind ?_ (fun _ => ?_))
   | exact ih0 _ _ _
   | exact ih1 _ _ _ _ _
   | exact ih2 _ _ _ _ _ _ _
   | exact ih3 _ _ _ _ _ _
   | exact ih4 _ _ _ _ _ _ _ _
   | exact ih5 _ _ _ _ _ _ _ _ _ _ _ _ _ _ _ _
   | exact bond_Change.mono _ _ _ _ _
   | exact bond_Free.mono _ _ _ _
   | exact LeO.none _
   | refine LeO.ite ?_ ?_
   | refine LeO.bind ?_ (fun _ => ?_)
def spilelaw52_BondNever.T13 : Bool × List (List Nat × List Nat) := (true, [([], []), ([0], [0]), ([], []), ([2, 1], [2]), ([], []), ([4], [4]), ([5], [5]), ([1, 3, 6, 3], [1, 3, 6]), ([7], [7]), ([8], [8]), ([8], [8]), ([9, 7, 0, 1, 2, 3, 4, 5, 6, 7, 8, 9], [9]), ([10, 11, 0, 1, 2, 3, 4, 5, 6, 7, 8, 9, 10, 11], [10])])
def spilelaw52_BondNever.B13 : List Nat := [0, 1, 0, 7, 0, 16, 48, 127, 255, 511, 511, 1023, 4095]
theorem spilelaw52_BondNever.tab13 : rtab .any (opsOf Try.f6 13) = spilelaw52_BondNever.T13 := by kernel_rfl
theorem spilelaw52_BondNever.bits13 : waitsOk spilelaw52_BondNever.T13.2 spilelaw52_BondNever.B13 = true := by kernel_rfl
def spilelaw52_BondNever.T15 : Bool × List (List Nat × List Nat) := (true, [([], []), ([0], [0]), ([], []), ([2, 1], [2]), ([], []), ([4], [4]), ([], []), ([6], [6]), ([1, 3, 5, 7, 3], [1, 3, 5, 7]), ([8], [8]), ([9], [9]), ([9], [9]), ([10, 8, 0, 1, 2, 3, 4, 5, 6, 7, 8, 9, 10], [10]), ([11, 12, 0, 1, 2, 3, 4, 5, 6, 7, 8, 9, 10, 11, 12], [11])])
def spilelaw52_BondNever.B15 : List Nat := [0, 1, 0, 7, 0, 16, 0, 64, 255, 511, 1023, 1023, 2047, 8191]
theorem spilelaw52_BondNever.tab15 : rtab .any (opsOf Try.f6 15) = spilelaw52_BondNever.T15 := by kernel_rfl
theorem spilelaw52_BondNever.bits15 : waitsOk spilelaw52_BondNever.T15.2 spilelaw52_BondNever.B15 = true := by kernel_rfl
def spilelaw52_BondNever.T17 : Bool × List (List Nat × List Nat) := (true, [([], []), ([0], [0]), ([], []), ([2, 1], [2]), ([], []), ([4], [4]), ([5], [5]), ([], []), ([7], [7]), ([8], [8]), ([1, 3, 6, 9, 3], [1, 3, 6, 9]), ([10], [10]), ([11], [11]), ([11], [11]), ([12, 10, 0, 1, 2, 3, 4, 5, 6, 7, 8, 9, 10, 11, 12], [12]), ([13, 14, 0, 1, 2, 3, 4, 5, 6, 7, 8, 9, 10, 11, 12, 13, 14], [13])])
def spilelaw52_BondNever.B17 : List Nat := [0, 1, 0, 7, 0, 16, 48, 0, 128, 384, 1023, 2047, 4095, 4095, 8191, 32767]
theorem spilelaw52_BondNever.tab17 : rtab .any (opsOf Try.f6 17) = spilelaw52_BondNever.T17 := by kernel_rfl
theorem spilelaw52_BondNever.bits17 : waitsOk spilelaw52_BondNever.T17.2 spilelaw52_BondNever.B17 = true := by kernel_rfl
def spilelaw52_BondNever.T35 : Bool × List (List Nat × List Nat) := (true, [([], []), ([0], [0]), ([], []), ([2, 1], [2]), ([], []), ([4], [4]), ([1, 3, 5, 3], [1, 3, 5]), ([6], [6]), ([7], [7]), ([7], [7]), ([8, 6, 0, 1, 2, 3, 4, 5, 6, 7, 8], [8]), ([9, 10, 0, 1, 2, 3, 4, 5, 6, 7, 8, 9, 10], [9])])
def spilelaw52_BondNever.B35 : List Nat := [0, 1, 0, 7, 0, 16, 63, 127, 255, 255, 511, 2047]
theorem spilelaw52_BondNever.tab35 : rtab .any (opsOf Try.f6 35) = spilelaw52_BondNever.T35 := by kernel_rfl
theorem spilelaw52_BondNever.bits35 : waitsOk spilelaw52_BondNever.T35.2 spilelaw52_BondNever.B35 = true := by kernel_rfl
set_option maxHeartbeats 8000000 in
set_option maxRecDepth 100000 in
theorem spilelaw52_BondNever.calls (k : Nat) (A0 : Option Addr) (c0 : Nat) (l0 : List (S31)) (A1 : Option Addr) (c1 : Nat) (l1 : List (S49)) (r : Bool) (w : World) (hr0 : Kd.C k31 w A0 l0.length l0) (hc0 : l0.length ≤ c0) (hr1 : Kd.C k49 w A1 l1.length l1) (hc1 : l1.length ≤ c1) (h : spilelaw52_BondNever.f k l0 l1 = some r) :
  Calls Try.prog 6 #[.slice A0 l0.length c0, .slice A1 l1.length c1] w fun e w' => e = .returned (.bool r) ∧ Below w.heap.size w w' := by
 have hu49 := Try.underlying49
 have hu35 := Try.underlying35
 have hu31 := Try.underlying31
 have HR0 := Aside0.mk hr0
 have HC0 := Aside0.mk hc0
 clear hr0 hc0
 have HR1 := Aside0.mk hr1
 have HC1 := Aside0.mk hc1
 clear hr1 hc1
 have HB := Aside0.mk (Below.refl w.heap.size w)
 have H : ((spilelaw52_awake.f).bind fun t406 => (if t406 = true then ((spileref52_Few.f l0 ([] : List (S35))).bind fun t407 => (if t407 = true then (spilelaw52_BondNever.j0 k l0 l1 (decide ((l1.length : Int) > 20))) else (spilelaw52_BondNever.j0 k l0 l1 true))) else (spilelaw52_BondNever.j0 k l0 l1 true))) = some r := h
 clear h
 have HC3 := Aside0.mk H
 clear H
 go_enter Try.func6, Try.ntmps6
 go_upto_region 1 with (fail)
 go_cut [32] (fun v32 wc => ∃ (kq : Nat) (x32_2 : Bool), v32 = .bool x32_2 ∧ Aside0 (spilelaw52_BondNever.j0 kq l0 l1 x32_2 = some r) ∧ Aside0 (kq ≤ k) ∧ Aside0 (Below w.heap.size w wc))
 case first =>
  have H := HC3.out
  clear HC3
  replace H := Option.bind_eq_some_iff.mp H
  obtain ⟨t406, A40, H⟩ := H
  replace H : (if t406 = true then ((spileref52_Few.f l0 ([] : List (S35))).bind fun t407 => (if t407 = true then (spilelaw52_BondNever.j0 k l0 l1 (decide ((l1.length : Int) > 20))) else (spilelaw52_BondNever.j0 k l0 l1 true))) else (spilelaw52_BondNever.j0 k l0 l1 true)) = some r := H
  have A4 := Aside0.mk A40
  clear A40
  by_cases c5 : t406 = true
  ·subst c5
   have H1 : ((spileref52_Few.f l0 ([] : List (S35))).bind fun t407 => (if t407 = true then (spilelaw52_BondNever.j0 k l0 l1 (decide ((l1.length : Int) > 20))) else (spilelaw52_BondNever.j0 k l0 l1 true))) = some r := by rw [if_pos rfl] at H; exact H
   clear H
   have H := H1
   clear H1
   replace H := Option.bind_eq_some_iff.mp H
   obtain ⟨t407, A60, H⟩ := H
   replace H : (if t407 = true then (spilelaw52_BondNever.j0 k l0 l1 (decide ((l1.length : Int) > 20))) else (spilelaw52_BondNever.j0 k l0 l1 true)) = some r := H
   have A6 := Aside0.mk A60
   clear A60
   by_cases c7 : t407 = true
   ·subst c7
    have H1 : (spilelaw52_BondNever.j0 k l0 l1 (decide ((l1.length : Int) > 20))) = some r := by rw [if_pos rfl] at H; exact H
    clear H
    have H := H1
    clear H1
    have H' := Aside0.mk H
    clear H
    go_wp2_with (first | ((with_reducible refine gate_callee (f := 10) rfl ?_); refine goesL_ (some 21) rfl rfl Try.func10 (by kernel_rfl) rfl #[] rfl (by (try simp only [List.map_toArray, List.map_cons, List.map_nil]); first | done | rfl | (simp only [List.length_drop, List.length_take]; rfl)) ?_; (with_reducible refine (spilelaw52_awake.calls  true _ A4.out).mono ?_); rintro e w8 ⟨rfl, hb⟩; refine ⟨_, rfl, ?_⟩; have n0_ := Aside0.mk (below_step (by repeat (first | (with_reducible first | exact HB.out | apply below_alloc | apply pw_below_drewN | apply below_drew1) | exact HB.out)) hb); clear HB; have HB := n0_; clear n0_; (try clear hb); (try clear hb2); (try clear hk); (try clear hi)) | (go_at_call 11; (refine (spileref52_Few.calls _ _ l0 _ _ ([] : List (S35)) true _ ?side1 ?side2 ?side3 ?side4 A6.out).mono ?_); (case side1 => repeat (first | exact (Kd.C_below HR0.out HB.out) | (with_reducible refine Kd.C_alloc ?_ _) | (with_reducible refine Kd.C_drewN ?_ _) | (with_reducible refine Kd.C_drew ?_))); (case side2 => exact HC0.out); (case side3 => exact Kd.C_nil _ _); (case side4 => exact Nat.le_refl _); rintro e w' ⟨rfl, ⟨nd, rfl⟩⟩))
    go_meet
    case rel => exact ⟨_, (decide ((l1.length : Int) > 20)), (by first | rfl | (simp; done) | (simp [*]; done)), H', ⟨by first | omega | exact Nat.le_refl _⟩, ⟨by repeat (first | (with_reducible first | exact HB.out | apply below_alloc | apply pw_below_drewN | apply below_drew1) | exact HB.out)⟩⟩
   ·replace c7 := Bool.eq_false_iff.mpr c7
    subst c7
    have H1 : (spilelaw52_BondNever.j0 k l0 l1 true) = some r := by rw [if_neg (show ¬ (false = true) by decide)] at H; exact H
    clear H
    have H := H1
    clear H1
    have H' := Aside0.mk H
    clear H
    go_wp2_with (first | ((with_reducible refine gate_callee (f := 10) rfl ?_); refine goesL_ (some 21) rfl rfl Try.func10 (by kernel_rfl) rfl #[] rfl (by (try simp only [List.map_toArray, List.map_cons, List.map_nil]); first | done | rfl | (simp only [List.length_drop, List.length_take]; rfl)) ?_; (with_reducible refine (spilelaw52_awake.calls  true _ A4.out).mono ?_); rintro e w9 ⟨rfl, hb⟩; refine ⟨_, rfl, ?_⟩; have n0_ := Aside0.mk (below_step (by repeat (first | (with_reducible first | exact HB.out | apply below_alloc | apply pw_below_drewN | apply below_drew1) | exact HB.out)) hb); clear HB; have HB := n0_; clear n0_; (try clear hb); (try clear hb2); (try clear hk); (try clear hi)) | (go_at_call 11; (refine (spileref52_Few.calls _ _ l0 _ _ ([] : List (S35)) false _ ?side1 ?side2 ?side3 ?side4 A6.out).mono ?_); (case side1 => repeat (first | exact (Kd.C_below HR0.out HB.out) | (with_reducible refine Kd.C_alloc ?_ _) | (with_reducible refine Kd.C_drewN ?_ _) | (with_reducible refine Kd.C_drew ?_))); (case side2 => exact HC0.out); (case side3 => exact Kd.C_nil _ _); (case side4 => exact Nat.le_refl _); rintro e w' ⟨rfl, ⟨nd, rfl⟩⟩))
    go_meet
    case rel => exact ⟨_, (true), (by first | rfl | (simp; done) | (simp [*]; done)), H', ⟨by first | omega | exact Nat.le_refl _⟩, ⟨by repeat (first | (with_reducible first | exact HB.out | apply below_alloc | apply pw_below_drewN | apply below_drew1) | exact HB.out)⟩⟩
  ·replace c5 := Bool.eq_false_iff.mpr c5
   subst c5
   have H1 : (spilelaw52_BondNever.j0 k l0 l1 true) = some r := by rw [if_neg (show ¬ (false = true) by decide)] at H; exact H
   clear H
   have H := H1
   clear H1
   have H' := Aside0.mk H
   clear H
   go_wp2_with (first | ((with_reducible refine gate_callee (f := 10) rfl ?_); refine goesL_ (some 21) rfl rfl Try.func10 (by kernel_rfl) rfl #[] rfl (by (try simp only [List.map_toArray, List.map_cons, List.map_nil]); first | done | rfl | (simp only [List.length_drop, List.length_take]; rfl)) ?_; (with_reducible refine (spilelaw52_awake.calls  false _ A4.out).mono ?_); rintro e w10 ⟨rfl, hb⟩; refine ⟨_, rfl, ?_⟩; have n0_ := Aside0.mk (below_step (by repeat (first | (with_reducible first | exact HB.out | apply below_alloc | apply pw_below_drewN | apply below_drew1) | exact HB.out)) hb); clear HB; have HB := n0_; clear n0_; (try clear hb); (try clear hb2); (try clear hk); (try clear hi)))
   go_meet
   case rel => exact ⟨_, (true), (by first | rfl | (simp; done) | (simp [*]; done)), H', ⟨by first | omega | exact Nat.le_refl _⟩, ⟨by repeat (first | (with_reducible first | exact HB.out | apply below_alloc | apply pw_below_drewN | apply below_drew1) | exact HB.out)⟩⟩
 case rest =>
  clear HC3
  try clear c1
  try clear p2
  try clear c5
  try clear c6
  try clear c7
  try clear c10
  obtain ⟨kq, x32_2, rfl, HA, HJ2, HB⟩ := hcut
  cases kq with
  | zero => exact absurd HA.out (by simp [spilelaw52_BondNever.j0])
  | succ kj2 =>
   have H := HA.out
   clear HA
   simp only [spilelaw52_BondNever.j0] at H
   by_cases c11 : x32_2 = true
   ·subst c11
    have H1 : ((spilelaw52_awake.f).bind fun t408 => (some t408)) = some r := by rw [if_pos rfl] at H; exact H
    clear H
    have H := H1
    clear H1
    replace H := Option.bind_eq_some_iff.mp H
    obtain ⟨t408, A120, H⟩ := H
    replace H : (some t408) = some r := H
    have A12 := Aside0.mk A120
    clear A120
    obtain rfl := Option.some.inj H
    go_wp2_with (first | ((with_reducible refine gate_callee (f := 10) rfl ?_); refine goesL_ (some 33) rfl rfl Try.func10 (by kernel_rfl) rfl #[] rfl (by (try simp only [List.map_toArray, List.map_cons, List.map_nil]); first | done | rfl | (simp only [List.length_drop, List.length_take]; rfl)) ?_; (with_reducible refine (spilelaw52_awake.calls  t408 _ A12.out).mono ?_); rintro e w13 ⟨rfl, hb⟩; refine ⟨_, rfl, ?_⟩; have n0_ := Aside0.mk (below_step (by repeat (first | (with_reducible first | exact HB.out | apply below_alloc | apply pw_below_drewN | apply below_drew1) | exact HB.out)) hb); clear HB; have HB := n0_; clear n0_; (try clear hb); (try clear hb2); (try clear hk); (try clear hi)))
    go_ret
    exact ⟨by first | rfl | (simp [errW_none, errW_some] <;> rfl) | (simp [*, errW_none, errW_some] <;> rfl), by repeat (first | (with_reducible first | exact HB.out | apply below_alloc | apply pw_below_drewN | apply below_drew1) | exact HB.out)⟩
   ·replace c11 := Bool.eq_false_iff.mpr c11
    subst c11
    have H1 : ((api_Bond_13.f l0).bind fun t409 => ((bond_Check_s.f t409).bind fun bt412 => (if bt412.2 = 0 then (spilelaw52_BondNever.l0 kj2 l0 ([] : List (S35)) l1 (l1.length : Int) 0) else (some true)))) = some r := by rw [if_neg (show ¬ (false = true) by decide)] at H; exact H
    clear H
    have H := H1
    clear H1
    replace H := Option.bind_eq_some_iff.mp H
    obtain ⟨t409, A140, H⟩ := H
    replace H : ((bond_Check_s.f t409).bind fun bt412 => (if bt412.2 = 0 then (spilelaw52_BondNever.l0 kj2 l0 ([] : List (S35)) l1 (l1.length : Int) 0) else (some true))) = some r := H
    have A14 := Aside0.mk A140
    clear A140
    replace H := Option.bind_eq_some_iff.mp H
    obtain ⟨⟨t412, t413⟩, A150, H⟩ := H
    replace H : (if t413 = 0 then (spilelaw52_BondNever.l0 kj2 l0 ([] : List (S35)) l1 (l1.length : Int) 0) else (some true)) = some r := H
    have A15 := Aside0.mk A150
    clear A150
    by_cases c16 : t413 = 0
    ·rw [if_pos c16] at H
     have c16b0 : (t413 == 0) = true := beq_iff_eq.mpr c16
     have c16b1 : (t413 != 0) = false := bne_eq_false_iff_eq.mpr c16
     clear c16
     have H' := Aside0.mk H
     clear H
     go_wp2_with (first | ((with_reducible refine gate_callee (f := 13) rfl ?_); refine goesL_ (some 36) rfl rfl Try.func13 (by kernel_rfl) rfl #[.slice A0 l0.length c0] rfl (by (try simp only [List.map_toArray, List.map_cons, List.map_nil]); first | done | rfl | (simp only [List.length_drop, List.length_take]; rfl)) ?_; (with_reducible refine (api_Bond_13.calls _ _ l0 t409 _ ?side1 ?side2 A14.out).mono ?_); (case side1 => repeat (first | exact (Kd.C_below HR0.out HB.out) | (with_reducible refine Kd.C_alloc ?_ _) | (with_reducible refine Kd.C_drewN ?_ _) | (with_reducible refine Kd.C_drew ?_))); (case side2 => exact HC0.out); rintro e w17 ⟨v410, rfl, ho0, hb⟩; refine ⟨_, rfl, ?_⟩; have n0_ := Aside0.mk (Kd.R_lower ho0 (below_size (by repeat (first | (with_reducible first | exact HB.out | apply below_alloc | apply pw_below_drewN | apply below_drew1) | exact HB.out)))); have n1_ := Aside0.mk (below_step (by repeat (first | (with_reducible first | exact HB.out | apply below_alloc | apply pw_below_drewN | apply below_drew1) | exact HB.out)) hb); clear HB; have HO411 := n0_; have HB := n1_; clear n0_ n1_; (try clear hb); (try clear hb2); (try clear hk); (try clear hi); (try clear ho0); obtain ⟨Ao18, co18, eo18⟩ := Kd.R_slice HO411.out; subst eo18) | ((with_reducible refine gate_callee (f := 12) rfl ?_); refine goesL_ (some 37) rfl rfl Try.func12 (by kernel_rfl) rfl #[.slice Ao18 t409.length co18] rfl (by (try simp only [List.map_toArray, List.map_cons, List.map_nil]); first | done | rfl | (simp only [List.length_drop, List.length_take]; rfl)) ?_; (with_reducible refine (bond_Check_s.calls _ _ t409 t412 t413 _ ?side1 ?side2 A15.out).mono ?_); (case side1 => repeat (first | exact (Kd.R_reads' HO411.out).2.2 | (with_reducible refine Kd.C_alloc ?_ _) | (with_reducible refine Kd.C_drewN ?_ _) | (with_reducible refine Kd.C_drew ?_))); (case side2 => exact (Kd.R_reads' HO411.out).2.1); rintro e w19 ⟨rfl, hb⟩; refine ⟨_, rfl, ?_⟩; have n0_ := Aside0.mk (Kd.R_below (by (with_reducible repeat (first | apply Kd.R_alloc | apply Kd.R_drewN | apply Kd.R_drew)); exact HO411.out) hb); have n1_ := Aside0.mk (below_step (by repeat (first | (with_reducible first | exact HB.out | apply below_alloc | apply pw_below_drewN | apply below_drew1) | exact HB.out)) hb); clear HO411; clear HB; have HO411 := n0_; have HB := n1_; clear n0_ n1_; (try clear hb); (try clear hb2); (try clear hk); (try clear hi)))
     go_loopg [7, 44] kj2 (fun kq v7 v44 w' => ∃ (x7_2 : List (S35)) (x44_2 : Int), v44 = .int .i64 x44_2 ∧ Aside0 (spilelaw52_BondNever.l0 kq l0 x7_2 l1 (l1.length : Int) x44_2 = some r) ∧ Aside0 (kq ≤ kj2) ∧ Aside0 (Kd.R k35 35 w' w.heap.size (fun _ => True) v7 x7_2) ∧ Aside0 (Below w.heap.size w w'))
     case atStart => exact ⟨(([] : List (S35))), (0), (by first | rfl | (simp; done) | (simp [*]; done)), H', ⟨Nat.le_refl _⟩, ⟨by first | exact Kd.R_nil _ _ _ _ _ | exact Kd.N_nil _ _ _ _ _ | exact Kd.V_nil _ _ _ _ _ | exact Kd.Q_nil _ _ _ _ _ | exact Kd.S_nil _ _ _ _ _⟩, ⟨by repeat (first | (with_reducible first | exact HB.out | apply below_alloc | apply pw_below_drewN | apply below_drew1) | exact HB.out)⟩⟩
     case round =>
      clear H'
      try clear c1
      try clear p2
      try clear c5
      try clear c6
      try clear c7
      try clear c10
      try clear c11
      try clear c12
      try clear c13
      try clear c16
      try clear c16b0
      try clear c16b1
      try clear p2
      obtain ⟨x7_2, x44_2, rfl, HA, HK2, HO_7, HB⟩ := hrel
      cases gk with
      | zero => exact absurd HA.out (by simp [spilelaw52_BondNever.l0])
      | succ k2 =>
       have H := HA.out
       clear HA
       simp only [spilelaw52_BondNever.l0] at H
       by_cases c20 : x44_2 < (l1.length : Int)
       ·rw [if_pos c20] at H
        have c20b0 : decide (x44_2 < (l1.length : Int)) = true := decide_eq_true c20
        clear c20
        by_cases c21 : 0 ≤ x44_2
        ·rw [if_pos c21] at H
         have c21b0 : decide (0 ≤ x44_2) = true := decide_eq_true c21
         clear c21
         by_cases c22 : x44_2 < (l1.length : Int)
         ·rw [if_pos c22] at H
          have c22b0 : decide (x44_2 < (l1.length : Int)) = true := decide_eq_true c22
          clear c22
          have HC23 := Aside0.mk H
          clear H
          have p414 : 0 ≤ (x44_2 : Int) := of_decide_eq_true (by first | (with_reducible assumption) | assumption)
          have q414 : x44_2 < (l1.length : Int) := of_decide_eq_true (by first | (with_reducible assumption) | assumption)
          obtain ⟨ad414, e414, hx414_0, hx414_1, hx414_2, hx414_3, hx414_4⟩ := at_T49 HR1.out x44_2 p414 q414
          cases e414
          replace hx414_0 := (HB.out.cell (World.block_lt_of_cell? w _ hx414_0)).trans hx414_0
          replace hx414_1 := (HB.out.cell (World.block_lt_of_cell? w _ hx414_1)).trans hx414_1
          replace hx414_2 := (HB.out.cell (World.block_lt_of_cell? w _ hx414_2)).trans hx414_2
          replace hx414_3 := (HB.out.cell (World.block_lt_of_cell? w _ hx414_3)).trans hx414_3
          replace hx414_4 := (HB.out.cell (World.block_lt_of_cell? w _ hx414_4)).trans hx414_4
          replace p414 := eq_true p414
          replace q414 := eq_true q414
          go_upto_block 2 with (first | ((with_reducible refine gate_dst (N := 9) rfl ?_); (try (refine gate_guard (by rfl) ?_; dsimp only)); refine box_event ?hg (N := 9) ?hd (cs := #[.int .i64 0, .int .i64 0, .int .i64 0, .int .i64 0, .int .i64 0]) (t := 49) ?hr ?_; (case hd => rfl); (case hg => rfl); (case hr => first | (go_simp; done) | (go_simp; rfl)); intro gb415 hg w24 hbox hb; have n0_ := Aside0.mk (Kd.R_below (by (with_reducible repeat (first | apply Kd.R_alloc | apply Kd.R_drewN | apply Kd.R_drew)); exact HO_7.out) hb); have n1_ := Aside0.mk (below_step (by repeat (first | (with_reducible first | exact HB.out | apply below_alloc | apply pw_below_drewN | apply below_drew1) | exact HB.out)) hb); have n2_ := Aside0.mk (hbox); have n3_ := Aside0.mk ((by rw [hg]; exact (below_size (by repeat (first | (with_reducible first | exact HB.out | apply below_alloc | apply pw_below_drewN | apply below_drew1) | exact HB.out))) : w.heap.size ≤ gb415)); have n4_ := Aside0.mk ((by rw [hg]; exact (below_size (by repeat (first | (with_reducible first | exact HB.out | apply below_alloc | apply pw_below_drewN | apply below_drew1) | exact HB.out))) : w.heap.size ≤ gb415)); clear HO_7; clear HB; have HO_7 := n0_; have HB := n1_; have BK415 := n2_; have GW415 := n3_; have GE415 := n4_; clear n0_ n1_ n2_ n3_ n4_; clear hb hbox hg; have hcz25_0 : w24.cell? ⟨gb415, 0, none⟩ = some (.int .i64 0) := (blk_cell BK415.out 0).trans rfl; have hcz25_1 : w24.cell? ⟨gb415, 1, none⟩ = some (.int .i64 0) := (blk_cell BK415.out 1).trans rfl; have hcz25_2 : w24.cell? ⟨gb415, 2, none⟩ = some (.int .i64 0) := (blk_cell BK415.out 2).trans rfl; have hcz25_3 : w24.cell? ⟨gb415, 3, none⟩ = some (.int .i64 0) := (blk_cell BK415.out 3).trans rfl; have hcz25_4 : w24.cell? ⟨gb415, 4, none⟩ = some (.int .i64 0) := (blk_cell BK415.out 4).trans rfl; have hfz25_0 := blk_frozen BK415.out 0; have hfz25_1 := blk_frozen BK415.out 1; have hfz25_2 := blk_frozen BK415.out 2; have hfz25_3 := blk_frozen BK415.out 3; have hfz25_4 := blk_frozen BK415.out 4))
          (try simp only [Act.put, List.setIfInBounds_toArray, List.set_cons_zero, List.set_cons_succ])
          go_cut [10, 11] (fun v10 v11 wc => ∃ (kq : Nat) (x10_22 : List (S35)) (x11_22 : Int), v11 = .int .i64 x11_22 ∧ Aside0 (spilelaw52_BondNever.j2 kq l0 x7_2 x10_22 x11_22 l1 (l1.length : Int) x44_2 = some r) ∧ Aside0 (kq ≤ k2) ∧ Aside0 (Kd.R k35 35 wc w.heap.size (fun k_ => some k_ ≠ (v10 : Value).ownBlock) u7 x7_2) ∧ Aside0 (Kd.R k35 35 wc w.heap.size (fun k_ => some k_ ≠ (u7 : Value).ownBlock) v10 x10_22) ∧ Aside0 (wc.heap[gb415]? = some (.cells #[.int .i64 ((rd_T49 l1 x44_2).f0), .int .i64 ((rd_T49 l1 x44_2).f1.f0), .int .i64 ((rd_T49 l1 x44_2).f1.f1), .int .i64 ((rd_T49 l1 x44_2).f1.f2), .int .i64 ((rd_T49 l1 x44_2).f2)] 49 (0, 0))) ∧ Aside0 (Below w.heap.size w wc))
          case first =>
           have H := HC23.out
           clear HC23
           by_cases c26 : ((rd_T49 l1 x44_2).f0) = 0
           ·rw [if_pos c26] at H
            have c26b0 : (((rd_T49 l1 x44_2).f0) == 0) = true := beq_iff_eq.mpr c26
            have c26b1 : (((rd_T49 l1 x44_2).f0) != 0) = false := bne_eq_false_iff_eq.mpr c26
            clear c26
            (first | rw [c26b0] | (simp only [i64_w, i32_w]; rw [c26b0]) | skip)
            replace H := Option.bind_eq_some_iff.mp H
            obtain ⟨t416, A270, H⟩ := H
            replace H : ((api_Hold_16.f x7_2).bind fun t419 => ((bond_Bind.f t416 t419 ((rd_T49 l1 x44_2).f1.f0) ((rd_T49 l1 x44_2).f1.f1) ((rd_T49 l1 x44_2).f1.f2) ((rd_T49 l1 x44_2).f2)).bind fun bt422 => (spilelaw52_BondNever.j2 k2 l0 x7_2 bt422.1 bt422.2 l1 (l1.length : Int) x44_2))) = some r := H
            have A27 := Aside0.mk A270
            clear A270
            replace H := Option.bind_eq_some_iff.mp H
            obtain ⟨t419, A280, H⟩ := H
            replace H : ((bond_Bind.f t416 t419 ((rd_T49 l1 x44_2).f1.f0) ((rd_T49 l1 x44_2).f1.f1) ((rd_T49 l1 x44_2).f1.f2) ((rd_T49 l1 x44_2).f2)).bind fun bt422 => (spilelaw52_BondNever.j2 k2 l0 x7_2 bt422.1 bt422.2 l1 (l1.length : Int) x44_2)) = some r := H
            have A28 := Aside0.mk A280
            clear A280
            replace H := Option.bind_eq_some_iff.mp H
            obtain ⟨⟨t422, t425⟩, A290, H⟩ := H
            replace H : (spilelaw52_BondNever.j2 k2 l0 x7_2 t422 t425 l1 (l1.length : Int) x44_2) = some r := H
            have A29 := Aside0.mk A290
            clear A290
            have H' := Aside0.mk H
            clear H
            try go_wp2
            have n0_ : Aside0 (Kd.R k35 35 (((((w24.setCell ⟨gb415, 0, none⟩ (.int .i64 ((rd_T49 l1 x44_2).f0))).setCell ⟨gb415, 1, none⟩ (.int .i64 ((rd_T49 l1 x44_2).f1.f0))).setCell ⟨gb415, 2, none⟩ (.int .i64 ((rd_T49 l1 x44_2).f1.f1))).setCell ⟨gb415, 3, none⟩ (.int .i64 ((rd_T49 l1 x44_2).f1.f2))).setCell ⟨gb415, 4, none⟩ (.int .i64 ((rd_T49 l1 x44_2).f2))) w.heap.size (fun _ => True) u7 x7_2) := ⟨by (with_reducible repeat (first | apply Kd.R_alloc | apply Kd.R_drewN | apply Kd.R_drew)); exact Kd.R_mono (Kd.R_far (p := ⟨gb415, 4, none⟩) (Kd.R_far (p := ⟨gb415, 3, none⟩) (Kd.R_far (p := ⟨gb415, 2, none⟩) (Kd.R_far (p := ⟨gb415, 1, none⟩) (Kd.R_far (p := ⟨gb415, 0, none⟩) (Kd.R_types HO_7.out BK415.out (by decide)) (fun _ hk => hk.2) (.int .i64 ((rd_T49 l1 x44_2).f0))) (fun _ hk => hk.2) (.int .i64 ((rd_T49 l1 x44_2).f1.f0))) (fun _ hk => hk.2) (.int .i64 ((rd_T49 l1 x44_2).f1.f1))) (fun _ hk => hk.2) (.int .i64 ((rd_T49 l1 x44_2).f1.f2))) (fun _ hk => hk.2) (.int .i64 ((rd_T49 l1 x44_2).f2))) (fun _ hk => trivial)⟩
            have n1_ : Aside0 ((((((w24.setCell ⟨gb415, 0, none⟩ (.int .i64 ((rd_T49 l1 x44_2).f0))).setCell ⟨gb415, 1, none⟩ (.int .i64 ((rd_T49 l1 x44_2).f1.f0))).setCell ⟨gb415, 2, none⟩ (.int .i64 ((rd_T49 l1 x44_2).f1.f1))).setCell ⟨gb415, 3, none⟩ (.int .i64 ((rd_T49 l1 x44_2).f1.f2))).setCell ⟨gb415, 4, none⟩ (.int .i64 ((rd_T49 l1 x44_2).f2))).heap[gb415]? = some (.cells #[.int .i64 ((rd_T49 l1 x44_2).f0), .int .i64 ((rd_T49 l1 x44_2).f1.f0), .int .i64 ((rd_T49 l1 x44_2).f1.f1), .int .i64 ((rd_T49 l1 x44_2).f1.f2), .int .i64 ((rd_T49 l1 x44_2).f2)] 49 (0, 0))) := ⟨by (with_reducible repeat (first | refine blk_drewN ?_ _ | refine blk_drew ?_ | refine blk_alloc ?_ _)); refine blk_put (cs := #[.int .i64 ((rd_T49 l1 x44_2).f0), .int .i64 ((rd_T49 l1 x44_2).f1.f0), .int .i64 ((rd_T49 l1 x44_2).f1.f1), .int .i64 ((rd_T49 l1 x44_2).f1.f2), .int .i64 0]) ?_ 4 _ rfl; (with_reducible repeat (first | refine blk_drewN ?_ _ | refine blk_drew ?_ | refine blk_alloc ?_ _)); refine blk_put (cs := #[.int .i64 ((rd_T49 l1 x44_2).f0), .int .i64 ((rd_T49 l1 x44_2).f1.f0), .int .i64 ((rd_T49 l1 x44_2).f1.f1), .int .i64 0, .int .i64 0]) ?_ 3 _ rfl; (with_reducible repeat (first | refine blk_drewN ?_ _ | refine blk_drew ?_ | refine blk_alloc ?_ _)); refine blk_put (cs := #[.int .i64 ((rd_T49 l1 x44_2).f0), .int .i64 ((rd_T49 l1 x44_2).f1.f0), .int .i64 0, .int .i64 0, .int .i64 0]) ?_ 2 _ rfl; (with_reducible repeat (first | refine blk_drewN ?_ _ | refine blk_drew ?_ | refine blk_alloc ?_ _)); refine blk_put (cs := #[.int .i64 ((rd_T49 l1 x44_2).f0), .int .i64 0, .int .i64 0, .int .i64 0, .int .i64 0]) ?_ 1 _ rfl; (with_reducible repeat (first | refine blk_drewN ?_ _ | refine blk_drew ?_ | refine blk_alloc ?_ _)); refine blk_put (cs := #[.int .i64 0, .int .i64 0, .int .i64 0, .int .i64 0, .int .i64 0]) ?_ 0 _ rfl; (with_reducible repeat (first | refine blk_drewN ?_ _ | refine blk_drew ?_ | refine blk_alloc ?_ _)); exact BK415.out⟩
            have n2_ : Aside0 (Below w.heap.size w (((((w24.setCell ⟨gb415, 0, none⟩ (.int .i64 ((rd_T49 l1 x44_2).f0))).setCell ⟨gb415, 1, none⟩ (.int .i64 ((rd_T49 l1 x44_2).f1.f0))).setCell ⟨gb415, 2, none⟩ (.int .i64 ((rd_T49 l1 x44_2).f1.f1))).setCell ⟨gb415, 3, none⟩ (.int .i64 ((rd_T49 l1 x44_2).f1.f2))).setCell ⟨gb415, 4, none⟩ (.int .i64 ((rd_T49 l1 x44_2).f2)))) := ⟨by repeat (first | (with_reducible first | exact HB.out | apply below_alloc | apply pw_below_drewN | apply below_drew1 | refine below_set ?_ GE415.out) | exact HB.out)⟩
            (try clear HO_7)
            (try clear BK415)
            (try clear HB)
            generalize (((((w24.setCell ⟨gb415, 0, none⟩ (.int .i64 ((rd_T49 l1 x44_2).f0))).setCell ⟨gb415, 1, none⟩ (.int .i64 ((rd_T49 l1 x44_2).f1.f0))).setCell ⟨gb415, 2, none⟩ (.int .i64 ((rd_T49 l1 x44_2).f1.f1))).setCell ⟨gb415, 3, none⟩ (.int .i64 ((rd_T49 l1 x44_2).f1.f2))).setCell ⟨gb415, 4, none⟩ (.int .i64 ((rd_T49 l1 x44_2).f2))) = w30 at n0_ n1_ n2_ ⊢
            have HO_7 := n0_
            have BK415 := n1_
            have HB := n2_
            clear n0_ n1_ n2_
            have n0_ := Aside0.mk (Kd.R_drew HO_7.out)
            have n1_ := Aside0.mk (blk_drew BK415.out)
            have n2_ := Aside0.mk (below_drew1 HB.out)
            clear HO_7
            clear BK415
            clear HB
            have HO_7 := n0_
            have BK415 := n1_
            have HB := n2_
            clear n0_ n1_ n2_
            refine start_ (n := 14) (S := fun w' => w'.cell? ⟨gb415, 0, none⟩ = some (.int .i64 ((rd_T49 l1 x44_2).f0)) ∧ w'.cell? ⟨gb415, 1, none⟩ = some (.int .i64 ((rd_T49 l1 x44_2).f1.f0)) ∧ w'.cell? ⟨gb415, 2, none⟩ = some (.int .i64 ((rd_T49 l1 x44_2).f1.f1)) ∧ w'.cell? ⟨gb415, 3, none⟩ = some (.int .i64 ((rd_T49 l1 x44_2).f1.f2)) ∧ w'.cell? ⟨gb415, 4, none⟩ = some (.int .i64 ((rd_T49 l1 x44_2).f2))) (ds := []) #[false, false, false, false, false, false, false, false, false, false, false, false, false, false] (by kernel_rfl) rfl rfl ⟨(blk_cell BK415.out 0).trans rfl, (blk_cell BK415.out 1).trans rfl, (blk_cell BK415.out 2).trans rfl, (blk_cell BK415.out 3).trans rfl, (blk_cell BK415.out 4).trans rfl⟩ (fun hHeld => ?_); refine with_tabW spilelaw52_BondNever.tab15 spilelaw52_BondNever.bits15 (fun HT_ HW_ => ?_)
            generalize w30.drew = w31 at HO_7 BK415 HB hHeld ⊢
            refine pure_ (i := 0) (N := some 64) (v := ?_) (a' := ?_) #[true, false, false, false, false, false, false, false, false, false, false, false, false, false] rfl rfl (any_of HT_.out (by kernel_rfl)) (fun _ _ _ h => h) (Or.inl ⟨by rfl, ?_⟩) ?_ ?_
            rotate_left
            ·intro w'
             go_simp
             with_reducible rfl
            rotate_left
            ·simp only [Act.put, List.setIfInBounds_toArray, List.set_cons_zero, List.set_cons_succ, i64_w, i32_w]
             rfl
            refine pure_ (i := 2) (N := some 66) (v := ?_) (a' := ?_) #[true, false, true, false, false, false, false, false, false, false, false, false, false, false] rfl rfl (any_of HT_.out (by kernel_rfl)) (fun _ _ _ h => h) (Or.inl ⟨by rfl, ?_⟩) ?_ ?_
            rotate_left
            ·intro w'
             go_simp
             with_reducible rfl
            rotate_left
            ·simp only [Act.put, List.setIfInBounds_toArray, List.set_cons_zero, List.set_cons_succ, i64_w, i32_w]
             rfl
            refine pure_ (i := 4) (N := some 68) (v := ?_) (a' := ?_) #[true, false, true, false, true, false, false, false, false, false, false, false, false, false] rfl rfl (any_of HT_.out (by kernel_rfl)) (fun _ _ _ h => h) (Or.inl ⟨by rfl, ?_⟩) ?_ ?_
            rotate_left
            ·intro w'
             go_simp
             with_reducible rfl
            rotate_left
            ·simp only [Act.put, List.setIfInBounds_toArray, List.set_cons_zero, List.set_cons_succ, i64_w, i32_w]
             rfl
            refine pure_ (i := 6) (N := some 70) (v := ?_) (a' := ?_) #[true, false, true, false, true, false, true, false, false, false, false, false, false, false] rfl rfl (any_of HT_.out (by kernel_rfl)) (fun _ _ _ h => h) (Or.inl ⟨by rfl, ?_⟩) ?_ ?_
            rotate_left
            ·intro w'
             go_simp
             with_reducible rfl
            rotate_left
            ·simp only [Act.put, List.setIfInBounds_toArray, List.set_cons_zero, List.set_cons_succ, i64_w, i32_w]
             rfl
            refine take_ (i := 5) (N := some 69) (v := ?_) (a' := ?_) #[true, false, true, false, true, true, true, false, false, false, false, false, false, false] rfl rfl (take_ofW HT_.out HW_.out (by kernel_rfl)) (fun _ _ _ h => h) (Or.inl ⟨by rfl, ?_⟩) hHeld ?_ ?_
            rotate_left
            ·rintro w' ⟨s0, s1, s2, s3, s4⟩
             go_simp
             with_reducible rfl
            rotate_left
            ·simp only [Act.put, List.setIfInBounds_toArray, List.set_cons_zero, List.set_cons_succ, i64_w, i32_w]
             rfl
            refine take_ (i := 7) (N := some 71) (v := ?_) (a' := ?_) #[true, false, true, false, true, true, true, true, false, false, false, false, false, false] rfl rfl (take_ofW HT_.out HW_.out (by kernel_rfl)) (fun _ _ _ h => h) (Or.inl ⟨by rfl, ?_⟩) hHeld ?_ ?_
            rotate_left
            ·rintro w' ⟨s0, s1, s2, s3, s4⟩
             go_simp
             with_reducible rfl
            rotate_left
            ·simp only [Act.put, List.setIfInBounds_toArray, List.set_cons_zero, List.set_cons_succ, i64_w, i32_w]
             rfl
            refine one_ (i := 1) (N := some 65) #[true, true, true, false, true, true, true, true, false, false, false, false, false, false] rfl rfl (one_of HT_.out (by kernel_rfl)) (by decide) (fun K hK => ?_)
            refine goes_ Try.func13 (by kernel_rfl) rfl #[.slice A0 l0.length c0] (by rfl) rfl rfl (by (try simp only [List.map_toArray, List.map_cons, List.map_nil]); first | done | rfl | (simp only [List.length_drop, List.length_take]; rfl)) ?_
            with_reducible refine (api_Bond_13.calls _ _ l0 t416 _ ?side1 ?side2 A27.out).mono ?_
            (case side1 => repeat (first | exact (Kd.C_below HR0.out HB.out) | (with_reducible refine Kd.C_alloc ?_ _) | (with_reducible refine Kd.C_drewN ?_ _) | (with_reducible refine Kd.C_drew ?_)))
            (case side2 => exact HC0.out)
            rintro e w32 ⟨v417, rfl, ho0, hb⟩
            refine ⟨_, rfl, ?_⟩
            have n0_ := Aside0.mk (Kd.R_below (by (with_reducible repeat (first | apply Kd.R_alloc | apply Kd.R_drewN | apply Kd.R_drew)); exact HO_7.out) hb)
            have n1_ := Aside0.mk (Kd.R_lower ho0 (below_size (by repeat (first | (with_reducible first | exact HB.out | apply below_alloc | apply pw_below_drewN | apply below_drew1 | refine below_set ?_ GE415.out) | exact HB.out))))
            have n2_ := Aside0.mk (blk_below (g := gb415) (o := .cells #[.int .i64 ((rd_T49 l1 x44_2).f0), .int .i64 ((rd_T49 l1 x44_2).f1.f0), .int .i64 ((rd_T49 l1 x44_2).f1.f1), .int .i64 ((rd_T49 l1 x44_2).f1.f2), .int .i64 ((rd_T49 l1 x44_2).f2)] 49 (0, 0)) (by (with_reducible repeat (first | refine blk_drewN ?_ _ | refine blk_drew ?_ | refine blk_alloc ?_ _)); exact BK415.out) hb)
            have n3_ := Aside0.mk (below_step (by repeat (first | (with_reducible first | exact HB.out | apply below_alloc | apply pw_below_drewN | apply below_drew1 | refine below_set ?_ GE415.out) | exact HB.out)) hb)
            clear HO_7
            clear BK415
            clear HB
            have HO_7 := n0_
            have HO418 := n1_
            have BK415 := n2_
            have HB := n3_
            clear n0_ n1_ n2_ n3_
            (try clear hb)
            (try clear hb2)
            (try clear hk)
            (try clear hi)
            (try clear ho0)
            obtain ⟨Ao33, co33, eo33⟩ := Kd.R_slice HO_7.out
            (first | subst eo33 | (injection eo33 with f1_ f2_ f3_; have f4_ := f1_.symm; have f5_ := f3_.symm; clear f1_ f2_ f3_; subst f4_; subst f5_))
            refine hK.out _ _ ⟨(blk_cell BK415.out 0).trans rfl, (blk_cell BK415.out 1).trans rfl, (blk_cell BK415.out 2).trans rfl, (blk_cell BK415.out 3).trans rfl, (blk_cell BK415.out 4).trans rfl⟩ (fun hHeld => ?_)
            clear hK K
            refine norm_ (a' := ?_) ?_ ?_
            rotate_left
            ·show Act.put _ (some 65) _ = _
             simp only [Act.put, List.setIfInBounds_toArray, List.set_cons_zero, List.set_cons_succ, i64_w, i32_w]
             rfl
            refine one_ (i := 3) (N := some 67) #[true, true, true, true, true, true, true, true, false, false, false, false, false, false] rfl rfl (one_of HT_.out (by kernel_rfl)) (by decide) (fun K hK => ?_)
            refine goes_ Try.func16 (by kernel_rfl) rfl #[.slice Ao33 x7_2.length co33] (by rfl) rfl rfl (by (try simp only [List.map_toArray, List.map_cons, List.map_nil]); first | done | rfl | (simp only [List.length_drop, List.length_take]; rfl)) ?_
            with_reducible refine (api_Hold_16.calls _ _ x7_2 t419 _ ?side1 ?side2 A28.out).mono ?_
            (case side1 => repeat (first | exact (Kd.R_reads' HO_7.out).2.2 | (with_reducible refine Kd.C_alloc ?_ _) | (with_reducible refine Kd.C_drewN ?_ _) | (with_reducible refine Kd.C_drew ?_)))
            (case side2 => exact (Kd.R_reads' HO_7.out).2.1)
            rintro e w34 ⟨v420, rfl, ho0, hb⟩
            refine ⟨_, rfl, ?_⟩
            have n0_ := Aside0.mk (Kd.R_elder' (by (with_reducible repeat (first | apply Kd.R_alloc | apply Kd.R_drewN | apply Kd.R_drew)); exact HO_7.out) (Kd.R_base ho0) hb)
            have n1_ := Aside0.mk (Kd.R_below (by (with_reducible repeat (first | apply Kd.R_alloc | apply Kd.R_drewN | apply Kd.R_drew)); exact HO418.out) hb)
            have n2_ := Aside0.mk (Kd.R_lower (Kd.R_new' ho0 (Kd.R_lt (by (with_reducible repeat (first | apply Kd.R_alloc | apply Kd.R_drewN | apply Kd.R_drew)); exact HO_7.out))) (below_size (by repeat (first | (with_reducible first | exact HB.out | apply below_alloc | apply pw_below_drewN | apply below_drew1 | refine below_set ?_ GE415.out) | exact HB.out))))
            have n3_ := Aside0.mk (blk_below (g := gb415) (o := .cells #[.int .i64 ((rd_T49 l1 x44_2).f0), .int .i64 ((rd_T49 l1 x44_2).f1.f0), .int .i64 ((rd_T49 l1 x44_2).f1.f1), .int .i64 ((rd_T49 l1 x44_2).f1.f2), .int .i64 ((rd_T49 l1 x44_2).f2)] 49 (0, 0)) (by (with_reducible repeat (first | refine blk_drewN ?_ _ | refine blk_drew ?_ | refine blk_alloc ?_ _)); exact BK415.out) hb)
            have n4_ := Aside0.mk (below_step (by repeat (first | (with_reducible first | exact HB.out | apply below_alloc | apply pw_below_drewN | apply below_drew1 | refine below_set ?_ GE415.out) | exact HB.out)) hb)
            clear HO_7
            clear HO418
            clear BK415
            clear HB
            have HO_7 := n0_
            have HO418 := n1_
            have HO421 := n2_
            have BK415 := n3_
            have HB := n4_
            clear n0_ n1_ n2_ n3_ n4_
            (try clear hb)
            (try clear hb2)
            (try clear hk)
            (try clear hi)
            (try clear ho0)
            obtain ⟨Ao35, co35, eo35⟩ := Kd.R_slice HO418.out
            (first | subst eo35 | (injection eo35 with f1_ f2_ f3_; have f4_ := f1_.symm; have f5_ := f3_.symm; clear f1_ f2_ f3_; subst f4_; subst f5_))
            obtain ⟨Ao36, co36, eo36⟩ := Kd.R_slice HO421.out
            (first | subst eo36 | (injection eo36 with f1_ f2_ f3_; have f4_ := f1_.symm; have f5_ := f3_.symm; clear f1_ f2_ f3_; subst f4_; subst f5_))
            refine hK.out _ _ ⟨(blk_cell BK415.out 0).trans rfl, (blk_cell BK415.out 1).trans rfl, (blk_cell BK415.out 2).trans rfl, (blk_cell BK415.out 3).trans rfl, (blk_cell BK415.out 4).trans rfl⟩ (fun hHeld => ?_)
            clear hK K
            refine norm_ (a' := ?_) ?_ ?_
            rotate_left
            ·show Act.put _ (some 67) _ = _
             simp only [Act.put, List.setIfInBounds_toArray, List.set_cons_zero, List.set_cons_succ, i64_w, i32_w]
             rfl
            refine one_ (i := 8) (N := some 72) #[true, true, true, true, true, true, true, true, true, false, false, false, false, false] rfl rfl (one_of HT_.out (by kernel_rfl)) (by decide) (fun K hK => ?_)
            refine goes_ Try.func20 (by kernel_rfl) rfl #[.slice Ao35 t416.length co35, .slice Ao36 t419.length co36, .agg #[.int .i64 ((rd_T49 l1 x44_2).f1.f0), .int .i64 ((rd_T49 l1 x44_2).f1.f1), .int .i64 ((rd_T49 l1 x44_2).f1.f2)], .int .i64 ((rd_T49 l1 x44_2).f2)] (by rfl) rfl rfl (by (try simp only [List.map_toArray, List.map_cons, List.map_nil]); first | done | rfl | (simp only [List.length_drop, List.length_take]; rfl)) ?_
            with_reducible refine (bond_Bind.calls _ _ t416 _ _ t419 ((rd_T49 l1 x44_2).f1.f0) ((rd_T49 l1 x44_2).f1.f1) ((rd_T49 l1 x44_2).f1.f2) ((rd_T49 l1 x44_2).f2) t422 t425 _ ?side1 ?side2 ?side3 ?side4 A29.out).mono ?_
            (case side1 => repeat (first | exact (Kd.R_reads' HO418.out).2.2 | (with_reducible refine Kd.C_alloc ?_ _) | (with_reducible refine Kd.C_drewN ?_ _) | (with_reducible refine Kd.C_drew ?_)))
            (case side2 => exact (Kd.R_reads' HO418.out).2.1)
            (case side3 => repeat (first | exact (Kd.R_reads' HO421.out).2.2 | (with_reducible refine Kd.C_alloc ?_ _) | (with_reducible refine Kd.C_drewN ?_ _) | (with_reducible refine Kd.C_drew ?_)))
            (case side4 => exact (Kd.R_reads' HO421.out).2.1)
            rintro e w37 ⟨v423, rfl, ho0, hb⟩
            refine ⟨_, rfl, ?_⟩
            have n0_ := Aside0.mk (Kd.R_elder' (by (with_reducible repeat (first | apply Kd.R_alloc | apply Kd.R_drewN | apply Kd.R_drew)); exact HO_7.out) (Kd.R_base ho0) hb)
            have n1_ := Aside0.mk (Kd.R_below (by (with_reducible repeat (first | apply Kd.R_alloc | apply Kd.R_drewN | apply Kd.R_drew)); exact HO418.out) hb)
            have n2_ := Aside0.mk (Kd.R_elder' (by (with_reducible repeat (first | apply Kd.R_alloc | apply Kd.R_drewN | apply Kd.R_drew)); exact HO421.out) (Kd.R_base ho0) hb)
            have n3_ := Aside0.mk (Kd.R_lower (Kd.R_new' (Kd.R_new' ho0 (Kd.R_lt (by (with_reducible repeat (first | apply Kd.R_alloc | apply Kd.R_drewN | apply Kd.R_drew)); exact HO_7.out))) (Kd.R_lt (by (with_reducible repeat (first | apply Kd.R_alloc | apply Kd.R_drewN | apply Kd.R_drew)); exact HO421.out))) (below_size (by repeat (first | (with_reducible first | exact HB.out | apply below_alloc | apply pw_below_drewN | apply below_drew1 | refine below_set ?_ GE415.out) | exact HB.out))))
            have n4_ := Aside0.mk (blk_below (g := gb415) (o := .cells #[.int .i64 ((rd_T49 l1 x44_2).f0), .int .i64 ((rd_T49 l1 x44_2).f1.f0), .int .i64 ((rd_T49 l1 x44_2).f1.f1), .int .i64 ((rd_T49 l1 x44_2).f1.f2), .int .i64 ((rd_T49 l1 x44_2).f2)] 49 (0, 0)) (by (with_reducible repeat (first | refine blk_drewN ?_ _ | refine blk_drew ?_ | refine blk_alloc ?_ _)); exact BK415.out) hb)
            have n5_ := Aside0.mk (below_step (by repeat (first | (with_reducible first | exact HB.out | apply below_alloc | apply pw_below_drewN | apply below_drew1 | refine below_set ?_ GE415.out) | exact HB.out)) hb)
            clear HO_7
            clear HO418
            clear HO421
            clear BK415
            clear HB
            have HO_7 := n0_
            have HO418 := n1_
            have HO421 := n2_
            have HO424 := n3_
            have BK415 := n4_
            have HB := n5_
            clear n0_ n1_ n2_ n3_ n4_ n5_
            (try clear hb)
            (try clear hb2)
            (try clear hk)
            (try clear hi)
            (try clear ho0)
            refine hK.out _ _ ⟨(blk_cell BK415.out 0).trans rfl, (blk_cell BK415.out 1).trans rfl, (blk_cell BK415.out 2).trans rfl, (blk_cell BK415.out 3).trans rfl, (blk_cell BK415.out 4).trans rfl⟩ (fun hHeld => ?_)
            clear hK K
            refine norm_ (a' := ?_) ?_ ?_
            rotate_left
            ·show Act.put _ (some 72) _ = _
             simp only [Act.put, List.setIfInBounds_toArray, List.set_cons_zero, List.set_cons_succ, i64_w, i32_w]
             rfl
            refine pure_ (i := 9) (N := some 63) (v := ?_) (a' := ?_) #[true, true, true, true, true, true, true, true, true, true, false, false, false, false] rfl rfl (any_of HT_.out (by kernel_rfl)) (fun _ _ _ h => h) (Or.inl ⟨by rfl, ?_⟩) ?_ ?_
            rotate_left
            ·intro w'
             go_simp
             with_reducible rfl
            rotate_left
            ·simp only [Act.put, List.setIfInBounds_toArray, List.set_cons_zero, List.set_cons_succ, i64_w, i32_w]
             rfl
            refine pure_ (i := 10) (N := some 73) (v := ?_) (a' := ?_) #[true, true, true, true, true, true, true, true, true, true, true, false, false, false] rfl rfl (any_of HT_.out (by kernel_rfl)) (fun _ _ _ h => h) (Or.inl ⟨by rfl, ?_⟩) ?_ ?_
            rotate_left
            ·intro w'
             go_simp
             with_reducible rfl
            rotate_left
            ·simp only [Act.put, List.setIfInBounds_toArray, List.set_cons_zero, List.set_cons_succ, i64_w, i32_w]
             rfl
            refine pure_ (i := 11) (N := some 74) (v := ?_) (a' := ?_) #[true, true, true, true, true, true, true, true, true, true, true, true, false, false] rfl rfl (any_of HT_.out (by kernel_rfl)) (fun _ _ _ h => h) (Or.inl ⟨by rfl, ?_⟩) ?_ ?_
            rotate_left
            ·intro w'
             go_simp
             with_reducible rfl
            rotate_left
            ·simp only [Act.put, List.setIfInBounds_toArray, List.set_cons_zero, List.set_cons_succ, i64_w, i32_w]
             rfl
            refine pure_ (i := 12) (N := some 10) (v := ?_) (a' := ?_) #[true, true, true, true, true, true, true, true, true, true, true, true, true, false] rfl rfl (any_of HT_.out (by kernel_rfl)) (fun _ _ _ h => h) (Or.inl ⟨by rfl, ?_⟩) ?_ ?_
            rotate_left
            ·intro w'
             go_simp
             with_reducible rfl
            rotate_left
            ·simp only [Act.put, List.setIfInBounds_toArray, List.set_cons_zero, List.set_cons_succ, i64_w, i32_w]
             rfl
            refine pure_ (i := 13) (N := some 11) (v := ?_) (a' := ?_) #[true, true, true, true, true, true, true, true, true, true, true, true, true, true] rfl rfl (any_of HT_.out (by kernel_rfl)) (fun _ _ _ h => h) (Or.inl ⟨by rfl, ?_⟩) ?_ ?_
            rotate_left
            ·intro w'
             go_simp
             with_reducible rfl
            rotate_left
            ·simp only [Act.put, List.setIfInBounds_toArray, List.set_cons_zero, List.set_cons_succ, i64_w, i32_w]
             rfl
            refine done_ (done_of HT_.out (by kernel_rfl)) ?_
            try go_wp2
            go_meet
            case rel => exact ⟨_, (t422), (t425), (by first | rfl | (simp; done) | (simp [*]; done)), H', ⟨by have := HJ2.out; have := HK2.out; first | omega | exact Nat.le_refl _⟩, ⟨by (with_reducible repeat (first | apply Kd.R_alloc | apply Kd.R_drewN | apply Kd.R_drew)); exact Kd.R_mono HO_7.out (fun _ hk => hk.2)⟩, ⟨by (with_reducible repeat (first | apply Kd.R_alloc | apply Kd.R_drewN | apply Kd.R_drew)); exact Kd.R_mono HO424.out (fun _ hk => hk.1.2)⟩, ⟨by (with_reducible repeat (first | refine blk_drewN ?_ _ | refine blk_drew ?_ | refine blk_alloc ?_ _)); exact BK415.out⟩, ⟨by repeat (first | (with_reducible first | exact HB.out | apply below_alloc | apply pw_below_drewN | apply below_drew1 | refine below_set ?_ GE415.out) | exact HB.out)⟩⟩
           ·rw [if_neg c26] at H
            have c26b0 : (((rd_T49 l1 x44_2).f0) == 0) = false := beq_eq_false_iff_ne.mpr c26
            have c26b1 : (((rd_T49 l1 x44_2).f0) != 0) = true := bne_iff_ne.mpr c26
            (first | rw [c26b0] | (simp only [i64_w, i32_w]; rw [c26b0]) | skip)
            by_cases c38 : ((rd_T49 l1 x44_2).f0) = 1
            ·rw [if_pos c38] at H
             have c38b0 : (((rd_T49 l1 x44_2).f0) == 1) = true := beq_iff_eq.mpr c38
             have c38b1 : (((rd_T49 l1 x44_2).f0) != 1) = false := bne_eq_false_iff_eq.mpr c38
             clear c38
             replace H := Option.bind_eq_some_iff.mp H
             obtain ⟨t426, A390, H⟩ := H
             replace H : ((api_Hold_16.f x7_2).bind fun t429 => ((bond_Change.f k2 t426 t429 ((rd_T49 l1 x44_2).f1.f1) ((rd_T49 l1 x44_2).f1.f2)).bind fun bt432 => (spilelaw52_BondNever.j2 k2 l0 x7_2 bt432.1 bt432.2 l1 (l1.length : Int) x44_2))) = some r := H
             have A39 := Aside0.mk A390
             clear A390
             replace H := Option.bind_eq_some_iff.mp H
             obtain ⟨t429, A400, H⟩ := H
             replace H : ((bond_Change.f k2 t426 t429 ((rd_T49 l1 x44_2).f1.f1) ((rd_T49 l1 x44_2).f1.f2)).bind fun bt432 => (spilelaw52_BondNever.j2 k2 l0 x7_2 bt432.1 bt432.2 l1 (l1.length : Int) x44_2)) = some r := H
             have A40 := Aside0.mk A400
             clear A400
             replace H := Option.bind_eq_some_iff.mp H
             obtain ⟨⟨t432, t433⟩, A410, H⟩ := H
             replace H : (spilelaw52_BondNever.j2 k2 l0 x7_2 t432 t433 l1 (l1.length : Int) x44_2) = some r := H
             have A41 := Aside0.mk A410
             clear A410
             have H' := Aside0.mk H
             clear H
             try go_wp2
             have n0_ : Aside0 (Kd.R k35 35 (((((w24.setCell ⟨gb415, 0, none⟩ (.int .i64 ((rd_T49 l1 x44_2).f0))).setCell ⟨gb415, 1, none⟩ (.int .i64 ((rd_T49 l1 x44_2).f1.f0))).setCell ⟨gb415, 2, none⟩ (.int .i64 ((rd_T49 l1 x44_2).f1.f1))).setCell ⟨gb415, 3, none⟩ (.int .i64 ((rd_T49 l1 x44_2).f1.f2))).setCell ⟨gb415, 4, none⟩ (.int .i64 ((rd_T49 l1 x44_2).f2))) w.heap.size (fun _ => True) u7 x7_2) := ⟨by (with_reducible repeat (first | apply Kd.R_alloc | apply Kd.R_drewN | apply Kd.R_drew)); exact Kd.R_mono (Kd.R_far (p := ⟨gb415, 4, none⟩) (Kd.R_far (p := ⟨gb415, 3, none⟩) (Kd.R_far (p := ⟨gb415, 2, none⟩) (Kd.R_far (p := ⟨gb415, 1, none⟩) (Kd.R_far (p := ⟨gb415, 0, none⟩) (Kd.R_types HO_7.out BK415.out (by decide)) (fun _ hk => hk.2) (.int .i64 ((rd_T49 l1 x44_2).f0))) (fun _ hk => hk.2) (.int .i64 ((rd_T49 l1 x44_2).f1.f0))) (fun _ hk => hk.2) (.int .i64 ((rd_T49 l1 x44_2).f1.f1))) (fun _ hk => hk.2) (.int .i64 ((rd_T49 l1 x44_2).f1.f2))) (fun _ hk => hk.2) (.int .i64 ((rd_T49 l1 x44_2).f2))) (fun _ hk => trivial)⟩
             have n1_ : Aside0 ((((((w24.setCell ⟨gb415, 0, none⟩ (.int .i64 ((rd_T49 l1 x44_2).f0))).setCell ⟨gb415, 1, none⟩ (.int .i64 ((rd_T49 l1 x44_2).f1.f0))).setCell ⟨gb415, 2, none⟩ (.int .i64 ((rd_T49 l1 x44_2).f1.f1))).setCell ⟨gb415, 3, none⟩ (.int .i64 ((rd_T49 l1 x44_2).f1.f2))).setCell ⟨gb415, 4, none⟩ (.int .i64 ((rd_T49 l1 x44_2).f2))).heap[gb415]? = some (.cells #[.int .i64 ((rd_T49 l1 x44_2).f0), .int .i64 ((rd_T49 l1 x44_2).f1.f0), .int .i64 ((rd_T49 l1 x44_2).f1.f1), .int .i64 ((rd_T49 l1 x44_2).f1.f2), .int .i64 ((rd_T49 l1 x44_2).f2)] 49 (0, 0))) := ⟨by (with_reducible repeat (first | refine blk_drewN ?_ _ | refine blk_drew ?_ | refine blk_alloc ?_ _)); refine blk_put (cs := #[.int .i64 ((rd_T49 l1 x44_2).f0), .int .i64 ((rd_T49 l1 x44_2).f1.f0), .int .i64 ((rd_T49 l1 x44_2).f1.f1), .int .i64 ((rd_T49 l1 x44_2).f1.f2), .int .i64 0]) ?_ 4 _ rfl; (with_reducible repeat (first | refine blk_drewN ?_ _ | refine blk_drew ?_ | refine blk_alloc ?_ _)); refine blk_put (cs := #[.int .i64 ((rd_T49 l1 x44_2).f0), .int .i64 ((rd_T49 l1 x44_2).f1.f0), .int .i64 ((rd_T49 l1 x44_2).f1.f1), .int .i64 0, .int .i64 0]) ?_ 3 _ rfl; (with_reducible repeat (first | refine blk_drewN ?_ _ | refine blk_drew ?_ | refine blk_alloc ?_ _)); refine blk_put (cs := #[.int .i64 ((rd_T49 l1 x44_2).f0), .int .i64 ((rd_T49 l1 x44_2).f1.f0), .int .i64 0, .int .i64 0, .int .i64 0]) ?_ 2 _ rfl; (with_reducible repeat (first | refine blk_drewN ?_ _ | refine blk_drew ?_ | refine blk_alloc ?_ _)); refine blk_put (cs := #[.int .i64 ((rd_T49 l1 x44_2).f0), .int .i64 0, .int .i64 0, .int .i64 0, .int .i64 0]) ?_ 1 _ rfl; (with_reducible repeat (first | refine blk_drewN ?_ _ | refine blk_drew ?_ | refine blk_alloc ?_ _)); refine blk_put (cs := #[.int .i64 0, .int .i64 0, .int .i64 0, .int .i64 0, .int .i64 0]) ?_ 0 _ rfl; (with_reducible repeat (first | refine blk_drewN ?_ _ | refine blk_drew ?_ | refine blk_alloc ?_ _)); exact BK415.out⟩
             have n2_ : Aside0 (Below w.heap.size w (((((w24.setCell ⟨gb415, 0, none⟩ (.int .i64 ((rd_T49 l1 x44_2).f0))).setCell ⟨gb415, 1, none⟩ (.int .i64 ((rd_T49 l1 x44_2).f1.f0))).setCell ⟨gb415, 2, none⟩ (.int .i64 ((rd_T49 l1 x44_2).f1.f1))).setCell ⟨gb415, 3, none⟩ (.int .i64 ((rd_T49 l1 x44_2).f1.f2))).setCell ⟨gb415, 4, none⟩ (.int .i64 ((rd_T49 l1 x44_2).f2)))) := ⟨by repeat (first | (with_reducible first | exact HB.out | apply below_alloc | apply pw_below_drewN | apply below_drew1 | refine below_set ?_ GE415.out) | exact HB.out)⟩
             (try clear HO_7)
             (try clear BK415)
             (try clear HB)
             generalize (((((w24.setCell ⟨gb415, 0, none⟩ (.int .i64 ((rd_T49 l1 x44_2).f0))).setCell ⟨gb415, 1, none⟩ (.int .i64 ((rd_T49 l1 x44_2).f1.f0))).setCell ⟨gb415, 2, none⟩ (.int .i64 ((rd_T49 l1 x44_2).f1.f1))).setCell ⟨gb415, 3, none⟩ (.int .i64 ((rd_T49 l1 x44_2).f1.f2))).setCell ⟨gb415, 4, none⟩ (.int .i64 ((rd_T49 l1 x44_2).f2))) = w42 at n0_ n1_ n2_ ⊢
             have HO_7 := n0_
             have BK415 := n1_
             have HB := n2_
             clear n0_ n1_ n2_
             have n0_ := Aside0.mk (Kd.R_drew HO_7.out)
             have n1_ := Aside0.mk (blk_drew BK415.out)
             have n2_ := Aside0.mk (below_drew1 HB.out)
             clear HO_7
             clear BK415
             clear HB
             have HO_7 := n0_
             have BK415 := n1_
             have HB := n2_
             clear n0_ n1_ n2_
             refine start_ (n := 16) (S := fun w' => w'.cell? ⟨gb415, 0, none⟩ = some (.int .i64 ((rd_T49 l1 x44_2).f0)) ∧ w'.cell? ⟨gb415, 1, none⟩ = some (.int .i64 ((rd_T49 l1 x44_2).f1.f0)) ∧ w'.cell? ⟨gb415, 2, none⟩ = some (.int .i64 ((rd_T49 l1 x44_2).f1.f1)) ∧ w'.cell? ⟨gb415, 3, none⟩ = some (.int .i64 ((rd_T49 l1 x44_2).f1.f2)) ∧ w'.cell? ⟨gb415, 4, none⟩ = some (.int .i64 ((rd_T49 l1 x44_2).f2))) (ds := []) #[false, false, false, false, false, false, false, false, false, false, false, false, false, false, false, false] (by kernel_rfl) rfl rfl ⟨(blk_cell BK415.out 0).trans rfl, (blk_cell BK415.out 1).trans rfl, (blk_cell BK415.out 2).trans rfl, (blk_cell BK415.out 3).trans rfl, (blk_cell BK415.out 4).trans rfl⟩ (fun hHeld => ?_); refine with_tabW spilelaw52_BondNever.tab17 spilelaw52_BondNever.bits17 (fun HT_ HW_ => ?_)
             generalize w42.drew = w43 at HO_7 BK415 HB hHeld ⊢
             refine pure_ (i := 0) (N := some 78) (v := ?_) (a' := ?_) #[true, false, false, false, false, false, false, false, false, false, false, false, false, false, false, false] rfl rfl (any_of HT_.out (by kernel_rfl)) (fun _ _ _ h => h) (Or.inl ⟨by rfl, ?_⟩) ?_ ?_
             rotate_left
             ·intro w'
              go_simp
              with_reducible rfl
             rotate_left
             ·simp only [Act.put, List.setIfInBounds_toArray, List.set_cons_zero, List.set_cons_succ, i64_w, i32_w]
              rfl
             refine pure_ (i := 2) (N := some 80) (v := ?_) (a' := ?_) #[true, false, true, false, false, false, false, false, false, false, false, false, false, false, false, false] rfl rfl (any_of HT_.out (by kernel_rfl)) (fun _ _ _ h => h) (Or.inl ⟨by rfl, ?_⟩) ?_ ?_
             rotate_left
             ·intro w'
              go_simp
              with_reducible rfl
             rotate_left
             ·simp only [Act.put, List.setIfInBounds_toArray, List.set_cons_zero, List.set_cons_succ, i64_w, i32_w]
              rfl
             refine pure_ (i := 4) (N := some 82) (v := ?_) (a' := ?_) #[true, false, true, false, true, false, false, false, false, false, false, false, false, false, false, false] rfl rfl (any_of HT_.out (by kernel_rfl)) (fun _ _ _ h => h) (Or.inl ⟨by rfl, ?_⟩) ?_ ?_
             rotate_left
             ·intro w'
              go_simp
              with_reducible rfl
             rotate_left
             ·simp only [Act.put, List.setIfInBounds_toArray, List.set_cons_zero, List.set_cons_succ, i64_w, i32_w]
              rfl
             refine pure_ (i := 5) (N := some 83) (v := ?_) (a' := ?_) #[true, false, true, false, true, true, false, false, false, false, false, false, false, false, false, false] rfl rfl (any_of HT_.out (by kernel_rfl)) (fun _ _ _ h => h) (Or.inl ⟨by rfl, ?_⟩) ?_ ?_
             rotate_left
             ·intro w'
              go_simp
              with_reducible rfl
             rotate_left
             ·simp only [Act.put, List.setIfInBounds_toArray, List.set_cons_zero, List.set_cons_succ, i64_w, i32_w]
              rfl
             refine pure_ (i := 7) (N := some 85) (v := ?_) (a' := ?_) #[true, false, true, false, true, true, false, true, false, false, false, false, false, false, false, false] rfl rfl (any_of HT_.out (by kernel_rfl)) (fun _ _ _ h => h) (Or.inl ⟨by rfl, ?_⟩) ?_ ?_
             rotate_left
             ·intro w'
              go_simp
              with_reducible rfl
             rotate_left
             ·simp only [Act.put, List.setIfInBounds_toArray, List.set_cons_zero, List.set_cons_succ, i64_w, i32_w]
              rfl
             refine pure_ (i := 8) (N := some 86) (v := ?_) (a' := ?_) #[true, false, true, false, true, true, false, true, true, false, false, false, false, false, false, false] rfl rfl (any_of HT_.out (by kernel_rfl)) (fun _ _ _ h => h) (Or.inl ⟨by rfl, ?_⟩) ?_ ?_
             rotate_left
             ·intro w'
              go_simp
              with_reducible rfl
             rotate_left
             ·simp only [Act.put, List.setIfInBounds_toArray, List.set_cons_zero, List.set_cons_succ, i64_w, i32_w]
              rfl
             refine take_ (i := 6) (N := some 84) (v := ?_) (a' := ?_) #[true, false, true, false, true, true, true, true, true, false, false, false, false, false, false, false] rfl rfl (take_ofW HT_.out HW_.out (by kernel_rfl)) (fun _ _ _ h => h) (Or.inl ⟨by rfl, ?_⟩) hHeld ?_ ?_
             rotate_left
             ·rintro w' ⟨s0, s1, s2, s3, s4⟩
              go_simp
              with_reducible rfl
             rotate_left
             ·simp only [Act.put, List.setIfInBounds_toArray, List.set_cons_zero, List.set_cons_succ, i64_w, i32_w]
              rfl
             refine take_ (i := 9) (N := some 87) (v := ?_) (a' := ?_) #[true, false, true, false, true, true, true, true, true, true, false, false, false, false, false, false] rfl rfl (take_ofW HT_.out HW_.out (by kernel_rfl)) (fun _ _ _ h => h) (Or.inl ⟨by rfl, ?_⟩) hHeld ?_ ?_
             rotate_left
             ·rintro w' ⟨s0, s1, s2, s3, s4⟩
              go_simp
              with_reducible rfl
             rotate_left
             ·simp only [Act.put, List.setIfInBounds_toArray, List.set_cons_zero, List.set_cons_succ, i64_w, i32_w]
              rfl
             refine one_ (i := 1) (N := some 79) #[true, true, true, false, true, true, true, true, true, true, false, false, false, false, false, false] rfl rfl (one_of HT_.out (by kernel_rfl)) (by decide) (fun K hK => ?_)
             refine goes_ Try.func13 (by kernel_rfl) rfl #[.slice A0 l0.length c0] (by rfl) rfl rfl (by (try simp only [List.map_toArray, List.map_cons, List.map_nil]); first | done | rfl | (simp only [List.length_drop, List.length_take]; rfl)) ?_
             with_reducible refine (api_Bond_13.calls _ _ l0 t426 _ ?side1 ?side2 A39.out).mono ?_
             (case side1 => repeat (first | exact (Kd.C_below HR0.out HB.out) | (with_reducible refine Kd.C_alloc ?_ _) | (with_reducible refine Kd.C_drewN ?_ _) | (with_reducible refine Kd.C_drew ?_)))
             (case side2 => exact HC0.out)
             rintro e w44 ⟨v427, rfl, ho0, hb⟩
             refine ⟨_, rfl, ?_⟩
             have n0_ := Aside0.mk (Kd.R_below (by (with_reducible repeat (first | apply Kd.R_alloc | apply Kd.R_drewN | apply Kd.R_drew)); exact HO_7.out) hb)
             have n1_ := Aside0.mk (Kd.R_lower ho0 (below_size (by repeat (first | (with_reducible first | exact HB.out | apply below_alloc | apply pw_below_drewN | apply below_drew1 | refine below_set ?_ GE415.out) | exact HB.out))))
             have n2_ := Aside0.mk (blk_below (g := gb415) (o := .cells #[.int .i64 ((rd_T49 l1 x44_2).f0), .int .i64 ((rd_T49 l1 x44_2).f1.f0), .int .i64 ((rd_T49 l1 x44_2).f1.f1), .int .i64 ((rd_T49 l1 x44_2).f1.f2), .int .i64 ((rd_T49 l1 x44_2).f2)] 49 (0, 0)) (by (with_reducible repeat (first | refine blk_drewN ?_ _ | refine blk_drew ?_ | refine blk_alloc ?_ _)); exact BK415.out) hb)
             have n3_ := Aside0.mk (below_step (by repeat (first | (with_reducible first | exact HB.out | apply below_alloc | apply pw_below_drewN | apply below_drew1 | refine below_set ?_ GE415.out) | exact HB.out)) hb)
             clear HO_7
             clear BK415
             clear HB
             have HO_7 := n0_
             have HO428 := n1_
             have BK415 := n2_
             have HB := n3_
             clear n0_ n1_ n2_ n3_
             (try clear hb)
             (try clear hb2)
             (try clear hk)
             (try clear hi)
             (try clear ho0)
             obtain ⟨Ao45, co45, eo45⟩ := Kd.R_slice HO_7.out
             (first | subst eo45 | (injection eo45 with f1_ f2_ f3_; have f4_ := f1_.symm; have f5_ := f3_.symm; clear f1_ f2_ f3_; subst f4_; subst f5_))
             refine hK.out _ _ ⟨(blk_cell BK415.out 0).trans rfl, (blk_cell BK415.out 1).trans rfl, (blk_cell BK415.out 2).trans rfl, (blk_cell BK415.out 3).trans rfl, (blk_cell BK415.out 4).trans rfl⟩ (fun hHeld => ?_)
             clear hK K
             refine norm_ (a' := ?_) ?_ ?_
             rotate_left
             ·show Act.put _ (some 79) _ = _
              simp only [Act.put, List.setIfInBounds_toArray, List.set_cons_zero, List.set_cons_succ, i64_w, i32_w]
              rfl
             refine one_ (i := 3) (N := some 81) #[true, true, true, true, true, true, true, true, true, true, false, false, false, false, false, false] rfl rfl (one_of HT_.out (by kernel_rfl)) (by decide) (fun K hK => ?_)
             refine goes_ Try.func16 (by kernel_rfl) rfl #[.slice Ao45 x7_2.length co45] (by rfl) rfl rfl (by (try simp only [List.map_toArray, List.map_cons, List.map_nil]); first | done | rfl | (simp only [List.length_drop, List.length_take]; rfl)) ?_
             with_reducible refine (api_Hold_16.calls _ _ x7_2 t429 _ ?side1 ?side2 A40.out).mono ?_
             (case side1 => repeat (first | exact (Kd.R_reads' HO_7.out).2.2 | (with_reducible refine Kd.C_alloc ?_ _) | (with_reducible refine Kd.C_drewN ?_ _) | (with_reducible refine Kd.C_drew ?_)))
             (case side2 => exact (Kd.R_reads' HO_7.out).2.1)
             rintro e w46 ⟨v430, rfl, ho0, hb⟩
             refine ⟨_, rfl, ?_⟩
             have n0_ := Aside0.mk (Kd.R_elder' (by (with_reducible repeat (first | apply Kd.R_alloc | apply Kd.R_drewN | apply Kd.R_drew)); exact HO_7.out) (Kd.R_base ho0) hb)
             have n1_ := Aside0.mk (Kd.R_below (by (with_reducible repeat (first | apply Kd.R_alloc | apply Kd.R_drewN | apply Kd.R_drew)); exact HO428.out) hb)
             have n2_ := Aside0.mk (Kd.R_lower (Kd.R_new' ho0 (Kd.R_lt (by (with_reducible repeat (first | apply Kd.R_alloc | apply Kd.R_drewN | apply Kd.R_drew)); exact HO_7.out))) (below_size (by repeat (first | (with_reducible first | exact HB.out | apply below_alloc | apply pw_below_drewN | apply below_drew1 | refine below_set ?_ GE415.out) | exact HB.out))))
             have n3_ := Aside0.mk (blk_below (g := gb415) (o := .cells #[.int .i64 ((rd_T49 l1 x44_2).f0), .int .i64 ((rd_T49 l1 x44_2).f1.f0), .int .i64 ((rd_T49 l1 x44_2).f1.f1), .int .i64 ((rd_T49 l1 x44_2).f1.f2), .int .i64 ((rd_T49 l1 x44_2).f2)] 49 (0, 0)) (by (with_reducible repeat (first | refine blk_drewN ?_ _ | refine blk_drew ?_ | refine blk_alloc ?_ _)); exact BK415.out) hb)
             have n4_ := Aside0.mk (below_step (by repeat (first | (with_reducible first | exact HB.out | apply below_alloc | apply pw_below_drewN | apply below_drew1 | refine below_set ?_ GE415.out) | exact HB.out)) hb)
             clear HO_7
             clear HO428
             clear BK415
             clear HB
             have HO_7 := n0_
             have HO428 := n1_
             have HO431 := n2_
             have BK415 := n3_
             have HB := n4_
             clear n0_ n1_ n2_ n3_ n4_
             (try clear hb)
             (try clear hb2)
             (try clear hk)
             (try clear hi)
             (try clear ho0)
             obtain ⟨Ao47, co47, eo47⟩ := Kd.R_slice HO428.out
             (first | subst eo47 | (injection eo47 with f1_ f2_ f3_; have f4_ := f1_.symm; have f5_ := f3_.symm; clear f1_ f2_ f3_; subst f4_; subst f5_))
             obtain ⟨Ao48, co48, eo48⟩ := Kd.R_slice HO431.out
             (first | subst eo48 | (injection eo48 with f1_ f2_ f3_; have f4_ := f1_.symm; have f5_ := f3_.symm; clear f1_ f2_ f3_; subst f4_; subst f5_))
             refine hK.out _ _ ⟨(blk_cell BK415.out 0).trans rfl, (blk_cell BK415.out 1).trans rfl, (blk_cell BK415.out 2).trans rfl, (blk_cell BK415.out 3).trans rfl, (blk_cell BK415.out 4).trans rfl⟩ (fun hHeld => ?_)
             clear hK K
             refine norm_ (a' := ?_) ?_ ?_
             rotate_left
             ·show Act.put _ (some 81) _ = _
              simp only [Act.put, List.setIfInBounds_toArray, List.set_cons_zero, List.set_cons_succ, i64_w, i32_w]
              rfl
             refine one_ (i := 10) (N := some 88) #[true, true, true, true, true, true, true, true, true, true, true, false, false, false, false, false] rfl rfl (one_of HT_.out (by kernel_rfl)) (by decide) (fun K hK => ?_)
             refine goes_ Try.func22 (by kernel_rfl) rfl #[.slice Ao47 t426.length co47, .slice Ao48 t429.length co48, .int .i64 ((rd_T49 l1 x44_2).f1.f1), .int .i64 ((rd_T49 l1 x44_2).f1.f2)] (by rfl) rfl rfl (by (try simp only [List.map_toArray, List.map_cons, List.map_nil]); first | done | rfl | (simp only [List.length_drop, List.length_take]; rfl)) ?_
             with_reducible refine (bond_Change.calls k2 _ _ t426 _ _ t429 ((rd_T49 l1 x44_2).f1.f1) ((rd_T49 l1 x44_2).f1.f2) t432 t433 _ ?side1 ?side2 ?side3 ?side4 A41.out).mono ?_
             (case side1 => repeat (first | exact (Kd.R_reads' HO428.out).2.2 | (with_reducible refine Kd.C_alloc ?_ _) | (with_reducible refine Kd.C_drewN ?_ _) | (with_reducible refine Kd.C_drew ?_)))
             (case side2 => exact (Kd.R_reads' HO428.out).2.1)
             (case side3 => repeat (first | exact (Kd.R_reads' HO431.out).2.2 | (with_reducible refine Kd.C_alloc ?_ _) | (with_reducible refine Kd.C_drewN ?_ _) | (with_reducible refine Kd.C_drew ?_)))
             (case side4 => exact (Kd.R_reads' HO431.out).2.1)
             rintro e w49 ⟨v434, rfl, ho0, hb⟩
             refine ⟨_, rfl, ?_⟩
             have n0_ := Aside0.mk (Kd.R_elder' (by (with_reducible repeat (first | apply Kd.R_alloc | apply Kd.R_drewN | apply Kd.R_drew)); exact HO_7.out) (Kd.R_base ho0) hb)
             have n1_ := Aside0.mk (Kd.R_below (by (with_reducible repeat (first | apply Kd.R_alloc | apply Kd.R_drewN | apply Kd.R_drew)); exact HO428.out) hb)
             have n2_ := Aside0.mk (Kd.R_elder' (by (with_reducible repeat (first | apply Kd.R_alloc | apply Kd.R_drewN | apply Kd.R_drew)); exact HO431.out) (Kd.R_base ho0) hb)
             have n3_ := Aside0.mk (Kd.R_lower (Kd.R_new' (Kd.R_new' ho0 (Kd.R_lt (by (with_reducible repeat (first | apply Kd.R_alloc | apply Kd.R_drewN | apply Kd.R_drew)); exact HO_7.out))) (Kd.R_lt (by (with_reducible repeat (first | apply Kd.R_alloc | apply Kd.R_drewN | apply Kd.R_drew)); exact HO431.out))) (below_size (by repeat (first | (with_reducible first | exact HB.out | apply below_alloc | apply pw_below_drewN | apply below_drew1 | refine below_set ?_ GE415.out) | exact HB.out))))
             have n4_ := Aside0.mk (blk_below (g := gb415) (o := .cells #[.int .i64 ((rd_T49 l1 x44_2).f0), .int .i64 ((rd_T49 l1 x44_2).f1.f0), .int .i64 ((rd_T49 l1 x44_2).f1.f1), .int .i64 ((rd_T49 l1 x44_2).f1.f2), .int .i64 ((rd_T49 l1 x44_2).f2)] 49 (0, 0)) (by (with_reducible repeat (first | refine blk_drewN ?_ _ | refine blk_drew ?_ | refine blk_alloc ?_ _)); exact BK415.out) hb)
             have n5_ := Aside0.mk (below_step (by repeat (first | (with_reducible first | exact HB.out | apply below_alloc | apply pw_below_drewN | apply below_drew1 | refine below_set ?_ GE415.out) | exact HB.out)) hb)
             clear HO_7
             clear HO428
             clear HO431
             clear BK415
             clear HB
             have HO_7 := n0_
             have HO428 := n1_
             have HO431 := n2_
             have HO435 := n3_
             have BK415 := n4_
             have HB := n5_
             clear n0_ n1_ n2_ n3_ n4_ n5_
             (try clear hb)
             (try clear hb2)
             (try clear hk)
             (try clear hi)
             (try clear ho0)
             refine hK.out _ _ ⟨(blk_cell BK415.out 0).trans rfl, (blk_cell BK415.out 1).trans rfl, (blk_cell BK415.out 2).trans rfl, (blk_cell BK415.out 3).trans rfl, (blk_cell BK415.out 4).trans rfl⟩ (fun hHeld => ?_)
             clear hK K
             refine norm_ (a' := ?_) ?_ ?_
             rotate_left
             ·show Act.put _ (some 88) _ = _
              simp only [Act.put, List.setIfInBounds_toArray, List.set_cons_zero, List.set_cons_succ, i64_w, i32_w]
              rfl
             refine pure_ (i := 11) (N := some 77) (v := ?_) (a' := ?_) #[true, true, true, true, true, true, true, true, true, true, true, true, false, false, false, false] rfl rfl (any_of HT_.out (by kernel_rfl)) (fun _ _ _ h => h) (Or.inl ⟨by rfl, ?_⟩) ?_ ?_
             rotate_left
             ·intro w'
              go_simp
              with_reducible rfl
             rotate_left
             ·simp only [Act.put, List.setIfInBounds_toArray, List.set_cons_zero, List.set_cons_succ, i64_w, i32_w]
              rfl
             refine pure_ (i := 12) (N := some 89) (v := ?_) (a' := ?_) #[true, true, true, true, true, true, true, true, true, true, true, true, true, false, false, false] rfl rfl (any_of HT_.out (by kernel_rfl)) (fun _ _ _ h => h) (Or.inl ⟨by rfl, ?_⟩) ?_ ?_
             rotate_left
             ·intro w'
              go_simp
              with_reducible rfl
             rotate_left
             ·simp only [Act.put, List.setIfInBounds_toArray, List.set_cons_zero, List.set_cons_succ, i64_w, i32_w]
              rfl
             refine pure_ (i := 13) (N := some 90) (v := ?_) (a' := ?_) #[true, true, true, true, true, true, true, true, true, true, true, true, true, true, false, false] rfl rfl (any_of HT_.out (by kernel_rfl)) (fun _ _ _ h => h) (Or.inl ⟨by rfl, ?_⟩) ?_ ?_
             rotate_left
             ·intro w'
              go_simp
              with_reducible rfl
             rotate_left
             ·simp only [Act.put, List.setIfInBounds_toArray, List.set_cons_zero, List.set_cons_succ, i64_w, i32_w]
              rfl
             refine pure_ (i := 14) (N := some 10) (v := ?_) (a' := ?_) #[true, true, true, true, true, true, true, true, true, true, true, true, true, true, true, false] rfl rfl (any_of HT_.out (by kernel_rfl)) (fun _ _ _ h => h) (Or.inl ⟨by rfl, ?_⟩) ?_ ?_
             rotate_left
             ·intro w'
              go_simp
              with_reducible rfl
             rotate_left
             ·simp only [Act.put, List.setIfInBounds_toArray, List.set_cons_zero, List.set_cons_succ, i64_w, i32_w]
              rfl
             refine pure_ (i := 15) (N := some 11) (v := ?_) (a' := ?_) #[true, true, true, true, true, true, true, true, true, true, true, true, true, true, true, true] rfl rfl (any_of HT_.out (by kernel_rfl)) (fun _ _ _ h => h) (Or.inl ⟨by rfl, ?_⟩) ?_ ?_
             rotate_left
             ·intro w'
              go_simp
              with_reducible rfl
             rotate_left
             ·simp only [Act.put, List.setIfInBounds_toArray, List.set_cons_zero, List.set_cons_succ, i64_w, i32_w]
              rfl
             refine done_ (done_of HT_.out (by kernel_rfl)) ?_
             try go_wp2
             go_meet
             case rel => exact ⟨_, (t432), (t433), (by first | rfl | (simp; done) | (simp [*]; done)), H', ⟨by have := HJ2.out; have := HK2.out; first | omega | exact Nat.le_refl _⟩, ⟨by (with_reducible repeat (first | apply Kd.R_alloc | apply Kd.R_drewN | apply Kd.R_drew)); exact Kd.R_mono HO_7.out (fun _ hk => hk.2)⟩, ⟨by (with_reducible repeat (first | apply Kd.R_alloc | apply Kd.R_drewN | apply Kd.R_drew)); exact Kd.R_mono HO435.out (fun _ hk => hk.1.2)⟩, ⟨by (with_reducible repeat (first | refine blk_drewN ?_ _ | refine blk_drew ?_ | refine blk_alloc ?_ _)); exact BK415.out⟩, ⟨by repeat (first | (with_reducible first | exact HB.out | apply below_alloc | apply pw_below_drewN | apply below_drew1 | refine below_set ?_ GE415.out) | exact HB.out)⟩⟩
            ·rw [if_neg c38] at H
             have c38b0 : (((rd_T49 l1 x44_2).f0) == 1) = false := beq_eq_false_iff_ne.mpr c38
             have c38b1 : (((rd_T49 l1 x44_2).f0) != 1) = true := bne_iff_ne.mpr c38
             replace H := Option.bind_eq_some_iff.mp H
             obtain ⟨t436, A500, H⟩ := H
             replace H : ((api_Hold_16.f x7_2).bind fun t439 => ((bond_Release.f t436 t439 ((rd_T49 l1 x44_2).f1.f1)).bind fun bt442 => (spilelaw52_BondNever.j2 k2 l0 x7_2 bt442.1 bt442.2 l1 (l1.length : Int) x44_2))) = some r := H
             have A50 := Aside0.mk A500
             clear A500
             replace H := Option.bind_eq_some_iff.mp H
             obtain ⟨t439, A510, H⟩ := H
             replace H : ((bond_Release.f t436 t439 ((rd_T49 l1 x44_2).f1.f1)).bind fun bt442 => (spilelaw52_BondNever.j2 k2 l0 x7_2 bt442.1 bt442.2 l1 (l1.length : Int) x44_2)) = some r := H
             have A51 := Aside0.mk A510
             clear A510
             replace H := Option.bind_eq_some_iff.mp H
             obtain ⟨⟨t442, t443⟩, A520, H⟩ := H
             replace H : (spilelaw52_BondNever.j2 k2 l0 x7_2 t442 t443 l1 (l1.length : Int) x44_2) = some r := H
             have A52 := Aside0.mk A520
             clear A520
             have H' := Aside0.mk H
             clear H
             try go_wp2
             have n0_ : Aside0 (Kd.R k35 35 (((((w24.setCell ⟨gb415, 0, none⟩ (.int .i64 ((rd_T49 l1 x44_2).f0))).setCell ⟨gb415, 1, none⟩ (.int .i64 ((rd_T49 l1 x44_2).f1.f0))).setCell ⟨gb415, 2, none⟩ (.int .i64 ((rd_T49 l1 x44_2).f1.f1))).setCell ⟨gb415, 3, none⟩ (.int .i64 ((rd_T49 l1 x44_2).f1.f2))).setCell ⟨gb415, 4, none⟩ (.int .i64 ((rd_T49 l1 x44_2).f2))) w.heap.size (fun _ => True) u7 x7_2) := ⟨by (with_reducible repeat (first | apply Kd.R_alloc | apply Kd.R_drewN | apply Kd.R_drew)); exact Kd.R_mono (Kd.R_far (p := ⟨gb415, 4, none⟩) (Kd.R_far (p := ⟨gb415, 3, none⟩) (Kd.R_far (p := ⟨gb415, 2, none⟩) (Kd.R_far (p := ⟨gb415, 1, none⟩) (Kd.R_far (p := ⟨gb415, 0, none⟩) (Kd.R_types HO_7.out BK415.out (by decide)) (fun _ hk => hk.2) (.int .i64 ((rd_T49 l1 x44_2).f0))) (fun _ hk => hk.2) (.int .i64 ((rd_T49 l1 x44_2).f1.f0))) (fun _ hk => hk.2) (.int .i64 ((rd_T49 l1 x44_2).f1.f1))) (fun _ hk => hk.2) (.int .i64 ((rd_T49 l1 x44_2).f1.f2))) (fun _ hk => hk.2) (.int .i64 ((rd_T49 l1 x44_2).f2))) (fun _ hk => trivial)⟩
             have n1_ : Aside0 ((((((w24.setCell ⟨gb415, 0, none⟩ (.int .i64 ((rd_T49 l1 x44_2).f0))).setCell ⟨gb415, 1, none⟩ (.int .i64 ((rd_T49 l1 x44_2).f1.f0))).setCell ⟨gb415, 2, none⟩ (.int .i64 ((rd_T49 l1 x44_2).f1.f1))).setCell ⟨gb415, 3, none⟩ (.int .i64 ((rd_T49 l1 x44_2).f1.f2))).setCell ⟨gb415, 4, none⟩ (.int .i64 ((rd_T49 l1 x44_2).f2))).heap[gb415]? = some (.cells #[.int .i64 ((rd_T49 l1 x44_2).f0), .int .i64 ((rd_T49 l1 x44_2).f1.f0), .int .i64 ((rd_T49 l1 x44_2).f1.f1), .int .i64 ((rd_T49 l1 x44_2).f1.f2), .int .i64 ((rd_T49 l1 x44_2).f2)] 49 (0, 0))) := ⟨by (with_reducible repeat (first | refine blk_drewN ?_ _ | refine blk_drew ?_ | refine blk_alloc ?_ _)); refine blk_put (cs := #[.int .i64 ((rd_T49 l1 x44_2).f0), .int .i64 ((rd_T49 l1 x44_2).f1.f0), .int .i64 ((rd_T49 l1 x44_2).f1.f1), .int .i64 ((rd_T49 l1 x44_2).f1.f2), .int .i64 0]) ?_ 4 _ rfl; (with_reducible repeat (first | refine blk_drewN ?_ _ | refine blk_drew ?_ | refine blk_alloc ?_ _)); refine blk_put (cs := #[.int .i64 ((rd_T49 l1 x44_2).f0), .int .i64 ((rd_T49 l1 x44_2).f1.f0), .int .i64 ((rd_T49 l1 x44_2).f1.f1), .int .i64 0, .int .i64 0]) ?_ 3 _ rfl; (with_reducible repeat (first | refine blk_drewN ?_ _ | refine blk_drew ?_ | refine blk_alloc ?_ _)); refine blk_put (cs := #[.int .i64 ((rd_T49 l1 x44_2).f0), .int .i64 ((rd_T49 l1 x44_2).f1.f0), .int .i64 0, .int .i64 0, .int .i64 0]) ?_ 2 _ rfl; (with_reducible repeat (first | refine blk_drewN ?_ _ | refine blk_drew ?_ | refine blk_alloc ?_ _)); refine blk_put (cs := #[.int .i64 ((rd_T49 l1 x44_2).f0), .int .i64 0, .int .i64 0, .int .i64 0, .int .i64 0]) ?_ 1 _ rfl; (with_reducible repeat (first | refine blk_drewN ?_ _ | refine blk_drew ?_ | refine blk_alloc ?_ _)); refine blk_put (cs := #[.int .i64 0, .int .i64 0, .int .i64 0, .int .i64 0, .int .i64 0]) ?_ 0 _ rfl; (with_reducible repeat (first | refine blk_drewN ?_ _ | refine blk_drew ?_ | refine blk_alloc ?_ _)); exact BK415.out⟩
             have n2_ : Aside0 (Below w.heap.size w (((((w24.setCell ⟨gb415, 0, none⟩ (.int .i64 ((rd_T49 l1 x44_2).f0))).setCell ⟨gb415, 1, none⟩ (.int .i64 ((rd_T49 l1 x44_2).f1.f0))).setCell ⟨gb415, 2, none⟩ (.int .i64 ((rd_T49 l1 x44_2).f1.f1))).setCell ⟨gb415, 3, none⟩ (.int .i64 ((rd_T49 l1 x44_2).f1.f2))).setCell ⟨gb415, 4, none⟩ (.int .i64 ((rd_T49 l1 x44_2).f2)))) := ⟨by repeat (first | (with_reducible first | exact HB.out | apply below_alloc | apply pw_below_drewN | apply below_drew1 | refine below_set ?_ GE415.out) | exact HB.out)⟩
             (try clear HO_7)
             (try clear BK415)
             (try clear HB)
             generalize (((((w24.setCell ⟨gb415, 0, none⟩ (.int .i64 ((rd_T49 l1 x44_2).f0))).setCell ⟨gb415, 1, none⟩ (.int .i64 ((rd_T49 l1 x44_2).f1.f0))).setCell ⟨gb415, 2, none⟩ (.int .i64 ((rd_T49 l1 x44_2).f1.f1))).setCell ⟨gb415, 3, none⟩ (.int .i64 ((rd_T49 l1 x44_2).f1.f2))).setCell ⟨gb415, 4, none⟩ (.int .i64 ((rd_T49 l1 x44_2).f2))) = w53 at n0_ n1_ n2_ ⊢
             have HO_7 := n0_
             have BK415 := n1_
             have HB := n2_
             clear n0_ n1_ n2_
             have n0_ := Aside0.mk (Kd.R_drew HO_7.out)
             have n1_ := Aside0.mk (blk_drew BK415.out)
             have n2_ := Aside0.mk (below_drew1 HB.out)
             clear HO_7
             clear BK415
             clear HB
             have HO_7 := n0_
             have BK415 := n1_
             have HB := n2_
             clear n0_ n1_ n2_
             refine start_ (n := 13) (S := fun w' => w'.cell? ⟨gb415, 0, none⟩ = some (.int .i64 ((rd_T49 l1 x44_2).f0)) ∧ w'.cell? ⟨gb415, 1, none⟩ = some (.int .i64 ((rd_T49 l1 x44_2).f1.f0)) ∧ w'.cell? ⟨gb415, 2, none⟩ = some (.int .i64 ((rd_T49 l1 x44_2).f1.f1)) ∧ w'.cell? ⟨gb415, 3, none⟩ = some (.int .i64 ((rd_T49 l1 x44_2).f1.f2)) ∧ w'.cell? ⟨gb415, 4, none⟩ = some (.int .i64 ((rd_T49 l1 x44_2).f2))) (ds := []) #[false, false, false, false, false, false, false, false, false, false, false, false, false] (by kernel_rfl) rfl rfl ⟨(blk_cell BK415.out 0).trans rfl, (blk_cell BK415.out 1).trans rfl, (blk_cell BK415.out 2).trans rfl, (blk_cell BK415.out 3).trans rfl, (blk_cell BK415.out 4).trans rfl⟩ (fun hHeld => ?_); refine with_tabW spilelaw52_BondNever.tab13 spilelaw52_BondNever.bits13 (fun HT_ HW_ => ?_)
             generalize w53.drew = w54 at HO_7 BK415 HB hHeld ⊢
             refine pure_ (i := 0) (N := some 51) (v := ?_) (a' := ?_) #[true, false, false, false, false, false, false, false, false, false, false, false, false] rfl rfl (any_of HT_.out (by kernel_rfl)) (fun _ _ _ h => h) (Or.inl ⟨by rfl, ?_⟩) ?_ ?_
             rotate_left
             ·intro w'
              go_simp
              with_reducible rfl
             rotate_left
             ·simp only [Act.put, List.setIfInBounds_toArray, List.set_cons_zero, List.set_cons_succ, i64_w, i32_w]
              rfl
             refine pure_ (i := 2) (N := some 53) (v := ?_) (a' := ?_) #[true, false, true, false, false, false, false, false, false, false, false, false, false] rfl rfl (any_of HT_.out (by kernel_rfl)) (fun _ _ _ h => h) (Or.inl ⟨by rfl, ?_⟩) ?_ ?_
             rotate_left
             ·intro w'
              go_simp
              with_reducible rfl
             rotate_left
             ·simp only [Act.put, List.setIfInBounds_toArray, List.set_cons_zero, List.set_cons_succ, i64_w, i32_w]
              rfl
             refine pure_ (i := 4) (N := some 55) (v := ?_) (a' := ?_) #[true, false, true, false, true, false, false, false, false, false, false, false, false] rfl rfl (any_of HT_.out (by kernel_rfl)) (fun _ _ _ h => h) (Or.inl ⟨by rfl, ?_⟩) ?_ ?_
             rotate_left
             ·intro w'
              go_simp
              with_reducible rfl
             rotate_left
             ·simp only [Act.put, List.setIfInBounds_toArray, List.set_cons_zero, List.set_cons_succ, i64_w, i32_w]
              rfl
             refine pure_ (i := 5) (N := some 56) (v := ?_) (a' := ?_) #[true, false, true, false, true, true, false, false, false, false, false, false, false] rfl rfl (any_of HT_.out (by kernel_rfl)) (fun _ _ _ h => h) (Or.inl ⟨by rfl, ?_⟩) ?_ ?_
             rotate_left
             ·intro w'
              go_simp
              with_reducible rfl
             rotate_left
             ·simp only [Act.put, List.setIfInBounds_toArray, List.set_cons_zero, List.set_cons_succ, i64_w, i32_w]
              rfl
             refine take_ (i := 6) (N := some 57) (v := ?_) (a' := ?_) #[true, false, true, false, true, true, true, false, false, false, false, false, false] rfl rfl (take_ofW HT_.out HW_.out (by kernel_rfl)) (fun _ _ _ h => h) (Or.inl ⟨by rfl, ?_⟩) hHeld ?_ ?_
             rotate_left
             ·rintro w' ⟨s0, s1, s2, s3, s4⟩
              go_simp
              with_reducible rfl
             rotate_left
             ·simp only [Act.put, List.setIfInBounds_toArray, List.set_cons_zero, List.set_cons_succ, i64_w, i32_w]
              rfl
             refine one_ (i := 1) (N := some 52) #[true, true, true, false, true, true, true, false, false, false, false, false, false] rfl rfl (one_of HT_.out (by kernel_rfl)) (by decide) (fun K hK => ?_)
             refine goes_ Try.func13 (by kernel_rfl) rfl #[.slice A0 l0.length c0] (by rfl) rfl rfl (by (try simp only [List.map_toArray, List.map_cons, List.map_nil]); first | done | rfl | (simp only [List.length_drop, List.length_take]; rfl)) ?_
             with_reducible refine (api_Bond_13.calls _ _ l0 t436 _ ?side1 ?side2 A50.out).mono ?_
             (case side1 => repeat (first | exact (Kd.C_below HR0.out HB.out) | (with_reducible refine Kd.C_alloc ?_ _) | (with_reducible refine Kd.C_drewN ?_ _) | (with_reducible refine Kd.C_drew ?_)))
             (case side2 => exact HC0.out)
             rintro e w55 ⟨v437, rfl, ho0, hb⟩
             refine ⟨_, rfl, ?_⟩
             have n0_ := Aside0.mk (Kd.R_below (by (with_reducible repeat (first | apply Kd.R_alloc | apply Kd.R_drewN | apply Kd.R_drew)); exact HO_7.out) hb)
             have n1_ := Aside0.mk (Kd.R_lower ho0 (below_size (by repeat (first | (with_reducible first | exact HB.out | apply below_alloc | apply pw_below_drewN | apply below_drew1 | refine below_set ?_ GE415.out) | exact HB.out))))
             have n2_ := Aside0.mk (blk_below (g := gb415) (o := .cells #[.int .i64 ((rd_T49 l1 x44_2).f0), .int .i64 ((rd_T49 l1 x44_2).f1.f0), .int .i64 ((rd_T49 l1 x44_2).f1.f1), .int .i64 ((rd_T49 l1 x44_2).f1.f2), .int .i64 ((rd_T49 l1 x44_2).f2)] 49 (0, 0)) (by (with_reducible repeat (first | refine blk_drewN ?_ _ | refine blk_drew ?_ | refine blk_alloc ?_ _)); exact BK415.out) hb)
             have n3_ := Aside0.mk (below_step (by repeat (first | (with_reducible first | exact HB.out | apply below_alloc | apply pw_below_drewN | apply below_drew1 | refine below_set ?_ GE415.out) | exact HB.out)) hb)
             clear HO_7
             clear BK415
             clear HB
             have HO_7 := n0_
             have HO438 := n1_
             have BK415 := n2_
             have HB := n3_
             clear n0_ n1_ n2_ n3_
             (try clear hb)
             (try clear hb2)
             (try clear hk)
             (try clear hi)
             (try clear ho0)
             obtain ⟨Ao56, co56, eo56⟩ := Kd.R_slice HO_7.out
             (first | subst eo56 | (injection eo56 with f1_ f2_ f3_; have f4_ := f1_.symm; have f5_ := f3_.symm; clear f1_ f2_ f3_; subst f4_; subst f5_))
             refine hK.out _ _ ⟨(blk_cell BK415.out 0).trans rfl, (blk_cell BK415.out 1).trans rfl, (blk_cell BK415.out 2).trans rfl, (blk_cell BK415.out 3).trans rfl, (blk_cell BK415.out 4).trans rfl⟩ (fun hHeld => ?_)
             clear hK K
             refine norm_ (a' := ?_) ?_ ?_
             rotate_left
             ·show Act.put _ (some 52) _ = _
              simp only [Act.put, List.setIfInBounds_toArray, List.set_cons_zero, List.set_cons_succ, i64_w, i32_w]
              rfl
             refine one_ (i := 3) (N := some 54) #[true, true, true, true, true, true, true, false, false, false, false, false, false] rfl rfl (one_of HT_.out (by kernel_rfl)) (by decide) (fun K hK => ?_)
             refine goes_ Try.func16 (by kernel_rfl) rfl #[.slice Ao56 x7_2.length co56] (by rfl) rfl rfl (by (try simp only [List.map_toArray, List.map_cons, List.map_nil]); first | done | rfl | (simp only [List.length_drop, List.length_take]; rfl)) ?_
             with_reducible refine (api_Hold_16.calls _ _ x7_2 t439 _ ?side1 ?side2 A51.out).mono ?_
             (case side1 => repeat (first | exact (Kd.R_reads' HO_7.out).2.2 | (with_reducible refine Kd.C_alloc ?_ _) | (with_reducible refine Kd.C_drewN ?_ _) | (with_reducible refine Kd.C_drew ?_)))
             (case side2 => exact (Kd.R_reads' HO_7.out).2.1)
             rintro e w57 ⟨v440, rfl, ho0, hb⟩
             refine ⟨_, rfl, ?_⟩
             have n0_ := Aside0.mk (Kd.R_elder' (by (with_reducible repeat (first | apply Kd.R_alloc | apply Kd.R_drewN | apply Kd.R_drew)); exact HO_7.out) (Kd.R_base ho0) hb)
             have n1_ := Aside0.mk (Kd.R_below (by (with_reducible repeat (first | apply Kd.R_alloc | apply Kd.R_drewN | apply Kd.R_drew)); exact HO438.out) hb)
             have n2_ := Aside0.mk (Kd.R_lower (Kd.R_new' ho0 (Kd.R_lt (by (with_reducible repeat (first | apply Kd.R_alloc | apply Kd.R_drewN | apply Kd.R_drew)); exact HO_7.out))) (below_size (by repeat (first | (with_reducible first | exact HB.out | apply below_alloc | apply pw_below_drewN | apply below_drew1 | refine below_set ?_ GE415.out) | exact HB.out))))
             have n3_ := Aside0.mk (blk_below (g := gb415) (o := .cells #[.int .i64 ((rd_T49 l1 x44_2).f0), .int .i64 ((rd_T49 l1 x44_2).f1.f0), .int .i64 ((rd_T49 l1 x44_2).f1.f1), .int .i64 ((rd_T49 l1 x44_2).f1.f2), .int .i64 ((rd_T49 l1 x44_2).f2)] 49 (0, 0)) (by (with_reducible repeat (first | refine blk_drewN ?_ _ | refine blk_drew ?_ | refine blk_alloc ?_ _)); exact BK415.out) hb)
             have n4_ := Aside0.mk (below_step (by repeat (first | (with_reducible first | exact HB.out | apply below_alloc | apply pw_below_drewN | apply below_drew1 | refine below_set ?_ GE415.out) | exact HB.out)) hb)
             clear HO_7
             clear HO438
             clear BK415
             clear HB
             have HO_7 := n0_
             have HO438 := n1_
             have HO441 := n2_
             have BK415 := n3_
             have HB := n4_
             clear n0_ n1_ n2_ n3_ n4_
             (try clear hb)
             (try clear hb2)
             (try clear hk)
             (try clear hi)
             (try clear ho0)
             obtain ⟨Ao58, co58, eo58⟩ := Kd.R_slice HO438.out
             (first | subst eo58 | (injection eo58 with f1_ f2_ f3_; have f4_ := f1_.symm; have f5_ := f3_.symm; clear f1_ f2_ f3_; subst f4_; subst f5_))
             obtain ⟨Ao59, co59, eo59⟩ := Kd.R_slice HO441.out
             (first | subst eo59 | (injection eo59 with f1_ f2_ f3_; have f4_ := f1_.symm; have f5_ := f3_.symm; clear f1_ f2_ f3_; subst f4_; subst f5_))
             refine hK.out _ _ ⟨(blk_cell BK415.out 0).trans rfl, (blk_cell BK415.out 1).trans rfl, (blk_cell BK415.out 2).trans rfl, (blk_cell BK415.out 3).trans rfl, (blk_cell BK415.out 4).trans rfl⟩ (fun hHeld => ?_)
             clear hK K
             refine norm_ (a' := ?_) ?_ ?_
             rotate_left
             ·show Act.put _ (some 54) _ = _
              simp only [Act.put, List.setIfInBounds_toArray, List.set_cons_zero, List.set_cons_succ, i64_w, i32_w]
              rfl
             refine one_ (i := 7) (N := some 58) #[true, true, true, true, true, true, true, true, false, false, false, false, false] rfl rfl (one_of HT_.out (by kernel_rfl)) (by decide) (fun K hK => ?_)
             refine goes_ Try.func24 (by kernel_rfl) rfl #[.slice Ao58 t436.length co58, .slice Ao59 t439.length co59, .int .i64 ((rd_T49 l1 x44_2).f1.f1)] (by rfl) rfl rfl (by (try simp only [List.map_toArray, List.map_cons, List.map_nil]); first | done | rfl | (simp only [List.length_drop, List.length_take]; rfl)) ?_
             with_reducible refine (bond_Release.calls _ _ t436 _ _ t439 ((rd_T49 l1 x44_2).f1.f1) t442 t443 _ ?side1 ?side2 ?side3 ?side4 A52.out).mono ?_
             (case side1 => repeat (first | exact (Kd.R_reads' HO438.out).2.2 | (with_reducible refine Kd.C_alloc ?_ _) | (with_reducible refine Kd.C_drewN ?_ _) | (with_reducible refine Kd.C_drew ?_)))
             (case side2 => exact (Kd.R_reads' HO438.out).2.1)
             (case side3 => repeat (first | exact (Kd.R_reads' HO441.out).2.2 | (with_reducible refine Kd.C_alloc ?_ _) | (with_reducible refine Kd.C_drewN ?_ _) | (with_reducible refine Kd.C_drew ?_)))
             (case side4 => exact (Kd.R_reads' HO441.out).2.1)
             rintro e w60 ⟨v444, rfl, ho0, hb⟩
             refine ⟨_, rfl, ?_⟩
             have n0_ := Aside0.mk (Kd.R_elder' (by (with_reducible repeat (first | apply Kd.R_alloc | apply Kd.R_drewN | apply Kd.R_drew)); exact HO_7.out) (Kd.R_base ho0) hb)
             have n1_ := Aside0.mk (Kd.R_below (by (with_reducible repeat (first | apply Kd.R_alloc | apply Kd.R_drewN | apply Kd.R_drew)); exact HO438.out) hb)
             have n2_ := Aside0.mk (Kd.R_elder' (by (with_reducible repeat (first | apply Kd.R_alloc | apply Kd.R_drewN | apply Kd.R_drew)); exact HO441.out) (Kd.R_base ho0) hb)
             have n3_ := Aside0.mk (Kd.R_lower (Kd.R_new' (Kd.R_new' ho0 (Kd.R_lt (by (with_reducible repeat (first | apply Kd.R_alloc | apply Kd.R_drewN | apply Kd.R_drew)); exact HO_7.out))) (Kd.R_lt (by (with_reducible repeat (first | apply Kd.R_alloc | apply Kd.R_drewN | apply Kd.R_drew)); exact HO441.out))) (below_size (by repeat (first | (with_reducible first | exact HB.out | apply below_alloc | apply pw_below_drewN | apply below_drew1 | refine below_set ?_ GE415.out) | exact HB.out))))
             have n4_ := Aside0.mk (blk_below (g := gb415) (o := .cells #[.int .i64 ((rd_T49 l1 x44_2).f0), .int .i64 ((rd_T49 l1 x44_2).f1.f0), .int .i64 ((rd_T49 l1 x44_2).f1.f1), .int .i64 ((rd_T49 l1 x44_2).f1.f2), .int .i64 ((rd_T49 l1 x44_2).f2)] 49 (0, 0)) (by (with_reducible repeat (first | refine blk_drewN ?_ _ | refine blk_drew ?_ | refine blk_alloc ?_ _)); exact BK415.out) hb)
             have n5_ := Aside0.mk (below_step (by repeat (first | (with_reducible first | exact HB.out | apply below_alloc | apply pw_below_drewN | apply below_drew1 | refine below_set ?_ GE415.out) | exact HB.out)) hb)
             clear HO_7
             clear HO438
             clear HO441
             clear BK415
             clear HB
             have HO_7 := n0_
             have HO438 := n1_
             have HO441 := n2_
             have HO445 := n3_
             have BK415 := n4_
             have HB := n5_
             clear n0_ n1_ n2_ n3_ n4_ n5_
             (try clear hb)
             (try clear hb2)
             (try clear hk)
             (try clear hi)
             (try clear ho0)
             refine hK.out _ _ ⟨(blk_cell BK415.out 0).trans rfl, (blk_cell BK415.out 1).trans rfl, (blk_cell BK415.out 2).trans rfl, (blk_cell BK415.out 3).trans rfl, (blk_cell BK415.out 4).trans rfl⟩ (fun hHeld => ?_)
             clear hK K
             refine norm_ (a' := ?_) ?_ ?_
             rotate_left
             ·show Act.put _ (some 58) _ = _
              simp only [Act.put, List.setIfInBounds_toArray, List.set_cons_zero, List.set_cons_succ, i64_w, i32_w]
              rfl
             refine pure_ (i := 8) (N := some 50) (v := ?_) (a' := ?_) #[true, true, true, true, true, true, true, true, true, false, false, false, false] rfl rfl (any_of HT_.out (by kernel_rfl)) (fun _ _ _ h => h) (Or.inl ⟨by rfl, ?_⟩) ?_ ?_
             rotate_left
             ·intro w'
              go_simp
              with_reducible rfl
             rotate_left
             ·simp only [Act.put, List.setIfInBounds_toArray, List.set_cons_zero, List.set_cons_succ, i64_w, i32_w]
              rfl
             refine pure_ (i := 9) (N := some 59) (v := ?_) (a' := ?_) #[true, true, true, true, true, true, true, true, true, true, false, false, false] rfl rfl (any_of HT_.out (by kernel_rfl)) (fun _ _ _ h => h) (Or.inl ⟨by rfl, ?_⟩) ?_ ?_
             rotate_left
             ·intro w'
              go_simp
              with_reducible rfl
             rotate_left
             ·simp only [Act.put, List.setIfInBounds_toArray, List.set_cons_zero, List.set_cons_succ, i64_w, i32_w]
              rfl
             refine pure_ (i := 10) (N := some 60) (v := ?_) (a' := ?_) #[true, true, true, true, true, true, true, true, true, true, true, false, false] rfl rfl (any_of HT_.out (by kernel_rfl)) (fun _ _ _ h => h) (Or.inl ⟨by rfl, ?_⟩) ?_ ?_
             rotate_left
             ·intro w'
              go_simp
              with_reducible rfl
             rotate_left
             ·simp only [Act.put, List.setIfInBounds_toArray, List.set_cons_zero, List.set_cons_succ, i64_w, i32_w]
              rfl
             refine pure_ (i := 11) (N := some 10) (v := ?_) (a' := ?_) #[true, true, true, true, true, true, true, true, true, true, true, true, false] rfl rfl (any_of HT_.out (by kernel_rfl)) (fun _ _ _ h => h) (Or.inl ⟨by rfl, ?_⟩) ?_ ?_
             rotate_left
             ·intro w'
              go_simp
              with_reducible rfl
             rotate_left
             ·simp only [Act.put, List.setIfInBounds_toArray, List.set_cons_zero, List.set_cons_succ, i64_w, i32_w]
              rfl
             refine pure_ (i := 12) (N := some 11) (v := ?_) (a' := ?_) #[true, true, true, true, true, true, true, true, true, true, true, true, true] rfl rfl (any_of HT_.out (by kernel_rfl)) (fun _ _ _ h => h) (Or.inl ⟨by rfl, ?_⟩) ?_ ?_
             rotate_left
             ·intro w'
              go_simp
              with_reducible rfl
             rotate_left
             ·simp only [Act.put, List.setIfInBounds_toArray, List.set_cons_zero, List.set_cons_succ, i64_w, i32_w]
              rfl
             refine done_ (done_of HT_.out (by kernel_rfl)) ?_
             try go_wp2
             go_meet
             case rel => exact ⟨_, (t442), (t443), (by first | rfl | (simp; done) | (simp [*]; done)), H', ⟨by have := HJ2.out; have := HK2.out; first | omega | exact Nat.le_refl _⟩, ⟨by (with_reducible repeat (first | apply Kd.R_alloc | apply Kd.R_drewN | apply Kd.R_drew)); exact Kd.R_mono HO_7.out (fun _ hk => hk.2)⟩, ⟨by (with_reducible repeat (first | apply Kd.R_alloc | apply Kd.R_drewN | apply Kd.R_drew)); exact Kd.R_mono HO445.out (fun _ hk => hk.1.2)⟩, ⟨by (with_reducible repeat (first | refine blk_drewN ?_ _ | refine blk_drew ?_ | refine blk_alloc ?_ _)); exact BK415.out⟩, ⟨by repeat (first | (with_reducible first | exact HB.out | apply below_alloc | apply pw_below_drewN | apply below_drew1 | refine below_set ?_ GE415.out) | exact HB.out)⟩⟩
          case rest =>
           clear HC23
           try clear c1
           try clear c2
           try clear p2
           try clear c3
           try clear c13
           try clear c16
           try clear c20
           try clear c22
           try clear c24
           try clear c26
           try clear c26b0
           try clear c26b1
           try clear c38
           try clear c38b0
           try clear c38b1
           obtain ⟨kq, x10_22, x11_22, rfl, HA, HJ22, HO_7, HO_10, BK415, HB⟩ := hcut
           cases kq with
           | zero => exact absurd HA.out (by simp [spilelaw52_BondNever.j2])
           | succ kj22 =>
            have H := HA.out
            clear HA
            simp only [spilelaw52_BondNever.j2] at H
            by_cases c61 : x11_22 = 0
            ·rw [if_pos c61] at H
             have c61b0 : (x11_22 == 0) = true := beq_iff_eq.mpr c61
             have c61b1 : (x11_22 != 0) = false := bne_eq_false_iff_eq.mpr c61
             clear c61
             replace H := Option.bind_eq_some_iff.mp H
             obtain ⟨t446, A620, H⟩ := H
             replace H : ((api_Hold_16.f x10_22).bind fun t449 => ((bond_Holds.f t446 t449).bind fun bt452 => (if bt452.2 = 0 then (spilelaw52_BondNever.j3 kj22 l0 x10_22 l1 (l1.length : Int) x44_2 (bt452.1 != (-1))) else (spilelaw52_BondNever.j3 kj22 l0 x10_22 l1 (l1.length : Int) x44_2 true)))) = some r := H
             have A62 := Aside0.mk A620
             clear A620
             replace H := Option.bind_eq_some_iff.mp H
             obtain ⟨t449, A630, H⟩ := H
             replace H : ((bond_Holds.f t446 t449).bind fun bt452 => (if bt452.2 = 0 then (spilelaw52_BondNever.j3 kj22 l0 x10_22 l1 (l1.length : Int) x44_2 (bt452.1 != (-1))) else (spilelaw52_BondNever.j3 kj22 l0 x10_22 l1 (l1.length : Int) x44_2 true))) = some r := H
             have A63 := Aside0.mk A630
             clear A630
             replace H := Option.bind_eq_some_iff.mp H
             obtain ⟨⟨t452, t453⟩, A640, H⟩ := H
             replace H : (if t453 = 0 then (spilelaw52_BondNever.j3 kj22 l0 x10_22 l1 (l1.length : Int) x44_2 (t452 != (-1))) else (spilelaw52_BondNever.j3 kj22 l0 x10_22 l1 (l1.length : Int) x44_2 true)) = some r := H
             have A64 := Aside0.mk A640
             clear A640
             have HC65 := Aside0.mk H
             clear H
             go_upto_region 23 with (first | ((with_reducible refine gate_callee (f := 13) rfl ?_); refine goesL_ (some 99) rfl rfl Try.func13 (by kernel_rfl) rfl #[.slice A0 l0.length c0] rfl (by (try simp only [List.map_toArray, List.map_cons, List.map_nil]); first | done | rfl | (simp only [List.length_drop, List.length_take]; rfl)) ?_; (with_reducible refine (api_Bond_13.calls _ _ l0 t446 _ ?side1 ?side2 A62.out).mono ?_); (case side1 => repeat (first | exact (Kd.C_below HR0.out HB.out) | (with_reducible refine Kd.C_alloc ?_ _) | (with_reducible refine Kd.C_drewN ?_ _) | (with_reducible refine Kd.C_drew ?_))); (case side2 => exact HC0.out); rintro e w66 ⟨v447, rfl, ho0, hb⟩; refine ⟨_, rfl, ?_⟩; have n0_ := Aside0.mk (Kd.R_below (by (with_reducible repeat (first | apply Kd.R_alloc | apply Kd.R_drewN | apply Kd.R_drew)); exact HO_7.out) hb); have n1_ := Aside0.mk (Kd.R_below (by (with_reducible repeat (first | apply Kd.R_alloc | apply Kd.R_drewN | apply Kd.R_drew)); exact HO_10.out) hb); have n2_ := Aside0.mk (Kd.R_lower ho0 (below_size (by repeat (first | (with_reducible first | exact HB.out | apply below_alloc | apply pw_below_drewN | apply below_drew1 | refine below_set ?_ GE415.out) | exact HB.out)))); have n3_ := Aside0.mk (blk_below (g := gb415) (o := .cells #[.int .i64 ((rd_T49 l1 x44_2).f0), .int .i64 ((rd_T49 l1 x44_2).f1.f0), .int .i64 ((rd_T49 l1 x44_2).f1.f1), .int .i64 ((rd_T49 l1 x44_2).f1.f2), .int .i64 ((rd_T49 l1 x44_2).f2)] 49 (0, 0)) (by (with_reducible repeat (first | refine blk_drewN ?_ _ | refine blk_drew ?_ | refine blk_alloc ?_ _)); exact BK415.out) hb); have n4_ := Aside0.mk (below_step (by repeat (first | (with_reducible first | exact HB.out | apply below_alloc | apply pw_below_drewN | apply below_drew1 | refine below_set ?_ GE415.out) | exact HB.out)) hb); clear HO_7; clear HO_10; clear BK415; clear HB; have HO_7 := n0_; have HO_10 := n1_; have HO448 := n2_; have BK415 := n3_; have HB := n4_; clear n0_ n1_ n2_ n3_ n4_; (try clear hb); (try clear hb2); (try clear hk); (try clear hi); (try clear ho0); obtain ⟨Ao67, co67, eo67⟩ := Kd.R_slice HO_10.out; subst eo67) | ((with_reducible refine gate_callee (f := 16) rfl ?_); refine goesL_ (some 101) rfl rfl Try.func16 (by kernel_rfl) rfl #[.slice Ao67 x10_22.length co67] rfl (by (try simp only [List.map_toArray, List.map_cons, List.map_nil]); first | done | rfl | (simp only [List.length_drop, List.length_take]; rfl)) ?_; (with_reducible refine (api_Hold_16.calls _ _ x10_22 t449 _ ?side1 ?side2 A63.out).mono ?_); (case side1 => repeat (first | exact (Kd.R_reads' HO_10.out).2.2 | (with_reducible refine Kd.C_alloc ?_ _) | (with_reducible refine Kd.C_drewN ?_ _) | (with_reducible refine Kd.C_drew ?_))); (case side2 => exact (Kd.R_reads' HO_10.out).2.1); rintro e w68 ⟨v450, rfl, ho0, hb⟩; refine ⟨_, rfl, ?_⟩; have n0_ := Aside0.mk (Kd.R_elder' (by (with_reducible repeat (first | apply Kd.R_alloc | apply Kd.R_drewN | apply Kd.R_drew)); exact HO_7.out) (Kd.R_base ho0) hb); have n1_ := Aside0.mk (Kd.R_elder' (by (with_reducible repeat (first | apply Kd.R_alloc | apply Kd.R_drewN | apply Kd.R_drew)); exact HO_10.out) (Kd.R_base ho0) hb); have n2_ := Aside0.mk (Kd.R_below (by (with_reducible repeat (first | apply Kd.R_alloc | apply Kd.R_drewN | apply Kd.R_drew)); exact HO448.out) hb); have n3_ := Aside0.mk (Kd.R_lower (Kd.R_new' (Kd.R_new' ho0 (Kd.R_lt (by (with_reducible repeat (first | apply Kd.R_alloc | apply Kd.R_drewN | apply Kd.R_drew)); exact HO_7.out))) (Kd.R_lt (by (with_reducible repeat (first | apply Kd.R_alloc | apply Kd.R_drewN | apply Kd.R_drew)); exact HO_10.out))) (below_size (by repeat (first | (with_reducible first | exact HB.out | apply below_alloc | apply pw_below_drewN | apply below_drew1 | refine below_set ?_ GE415.out) | exact HB.out)))); have n4_ := Aside0.mk (blk_below (g := gb415) (o := .cells #[.int .i64 ((rd_T49 l1 x44_2).f0), .int .i64 ((rd_T49 l1 x44_2).f1.f0), .int .i64 ((rd_T49 l1 x44_2).f1.f1), .int .i64 ((rd_T49 l1 x44_2).f1.f2), .int .i64 ((rd_T49 l1 x44_2).f2)] 49 (0, 0)) (by (with_reducible repeat (first | refine blk_drewN ?_ _ | refine blk_drew ?_ | refine blk_alloc ?_ _)); exact BK415.out) hb); have n5_ := Aside0.mk (below_step (by repeat (first | (with_reducible first | exact HB.out | apply below_alloc | apply pw_below_drewN | apply below_drew1 | refine below_set ?_ GE415.out) | exact HB.out)) hb); clear HO_7; clear HO_10; clear HO448; clear BK415; clear HB; have HO_7 := n0_; have HO_10 := n1_; have HO448 := n2_; have HO451 := n3_; have BK415 := n4_; have HB := n5_; clear n0_ n1_ n2_ n3_ n4_ n5_; (try clear hb); (try clear hb2); (try clear hk); (try clear hi); (try clear ho0); obtain ⟨Ao69, co69, eo69⟩ := Kd.R_slice HO448.out; subst eo69; obtain ⟨Ao70, co70, eo70⟩ := Kd.R_slice HO451.out; subst eo70) | ((with_reducible refine gate_callee (f := 15) rfl ?_); refine goesL_ (some 102) rfl rfl Try.func15 (by kernel_rfl) rfl #[.slice Ao69 t446.length co69, .slice Ao70 t449.length co70] rfl (by (try simp only [List.map_toArray, List.map_cons, List.map_nil]); first | done | rfl | (simp only [List.length_drop, List.length_take]; rfl)) ?_; (with_reducible refine (bond_Holds.calls _ _ t446 _ _ t449 t452 t453 _ ?side1 ?side2 ?side3 ?side4 A64.out).mono ?_); (case side1 => repeat (first | exact (Kd.R_reads' HO448.out).2.2 | (with_reducible refine Kd.C_alloc ?_ _) | (with_reducible refine Kd.C_drewN ?_ _) | (with_reducible refine Kd.C_drew ?_))); (case side2 => exact (Kd.R_reads' HO448.out).2.1); (case side3 => repeat (first | exact (Kd.R_reads' HO451.out).2.2 | (with_reducible refine Kd.C_alloc ?_ _) | (with_reducible refine Kd.C_drewN ?_ _) | (with_reducible refine Kd.C_drew ?_))); (case side4 => exact (Kd.R_reads' HO451.out).2.1); rintro e w71 ⟨rfl, hb⟩; refine ⟨_, rfl, ?_⟩; have n0_ := Aside0.mk (Kd.R_below (by (with_reducible repeat (first | apply Kd.R_alloc | apply Kd.R_drewN | apply Kd.R_drew)); exact HO_7.out) hb); have n1_ := Aside0.mk (Kd.R_below (by (with_reducible repeat (first | apply Kd.R_alloc | apply Kd.R_drewN | apply Kd.R_drew)); exact HO_10.out) hb); have n2_ := Aside0.mk (Kd.R_below (by (with_reducible repeat (first | apply Kd.R_alloc | apply Kd.R_drewN | apply Kd.R_drew)); exact HO448.out) hb); have n3_ := Aside0.mk (Kd.R_below (by (with_reducible repeat (first | apply Kd.R_alloc | apply Kd.R_drewN | apply Kd.R_drew)); exact HO451.out) hb); have n4_ := Aside0.mk (blk_below (g := gb415) (o := .cells #[.int .i64 ((rd_T49 l1 x44_2).f0), .int .i64 ((rd_T49 l1 x44_2).f1.f0), .int .i64 ((rd_T49 l1 x44_2).f1.f1), .int .i64 ((rd_T49 l1 x44_2).f1.f2), .int .i64 ((rd_T49 l1 x44_2).f2)] 49 (0, 0)) (by (with_reducible repeat (first | refine blk_drewN ?_ _ | refine blk_drew ?_ | refine blk_alloc ?_ _)); exact BK415.out) hb); have n5_ := Aside0.mk (below_step (by repeat (first | (with_reducible first | exact HB.out | apply below_alloc | apply pw_below_drewN | apply below_drew1 | refine below_set ?_ GE415.out) | exact HB.out)) hb); clear HO_7; clear HO_10; clear HO448; clear HO451; clear BK415; clear HB; have HO_7 := n0_; have HO_10 := n1_; have HO448 := n2_; have HO451 := n3_; have BK415 := n4_; have HB := n5_; clear n0_ n1_ n2_ n3_ n4_ n5_; (try clear hb); (try clear hb2); (try clear hk); (try clear hi)))
             (try simp only [Act.put, List.setIfInBounds_toArray, List.set_cons_zero, List.set_cons_succ])
             go_cut [110] (fun v110 wc => ∃ (kq : Nat) (x110_64 : Bool), v110 = .bool x110_64 ∧ Aside0 (spilelaw52_BondNever.j3 kq l0 x10_22 l1 (l1.length : Int) x44_2 x110_64 = some r) ∧ Aside0 (kq ≤ kj22) ∧ Aside0 (Kd.R k35 35 wc w.heap.size (fun _ => True) (.slice Ao67 x10_22.length co67) x10_22) ∧ Aside0 (wc.heap[gb415]? = some (.cells #[.int .i64 ((rd_T49 l1 x44_2).f0), .int .i64 ((rd_T49 l1 x44_2).f1.f0), .int .i64 ((rd_T49 l1 x44_2).f1.f1), .int .i64 ((rd_T49 l1 x44_2).f1.f2), .int .i64 ((rd_T49 l1 x44_2).f2)] 49 (0, 0))) ∧ Aside0 (Below w.heap.size w wc))
             case first =>
              have H := HC65.out
              clear HC65
              by_cases c72 : t453 = 0
              ·rw [if_pos c72] at H
               have c72b0 : (t453 == 0) = true := beq_iff_eq.mpr c72
               have c72b1 : (t453 != 0) = false := bne_eq_false_iff_eq.mpr c72
               clear c72
               (first | rw [c72b0] | (simp only [i64_w, i32_w]; rw [c72b0]) | skip)
               have H' := Aside0.mk H
               clear H
               go_wp2
               go_meet
               case rel => exact ⟨_, ((t452 != (-1))), (by first | rfl | (simp; done) | (simp [*]; done)), H', ⟨by have := HJ2.out; have := HK2.out; have := HJ22.out; first | omega | exact Nat.le_refl _⟩, ⟨by (with_reducible repeat (first | apply Kd.R_alloc | apply Kd.R_drewN | apply Kd.R_drew)); exact Kd.R_mono HO_10.out (fun _ hk => trivial)⟩, ⟨by (with_reducible repeat (first | refine blk_drewN ?_ _ | refine blk_drew ?_ | refine blk_alloc ?_ _)); exact BK415.out⟩, ⟨by repeat (first | (with_reducible first | exact HB.out | apply below_alloc | apply pw_below_drewN | apply below_drew1 | refine below_set ?_ GE415.out) | exact HB.out)⟩⟩
              ·rw [if_neg c72] at H
               have c72b0 : (t453 == 0) = false := beq_eq_false_iff_ne.mpr c72
               have c72b1 : (t453 != 0) = true := bne_iff_ne.mpr c72
               (first | rw [c72b0] | (simp only [i64_w, i32_w]; rw [c72b0]) | skip)
               have H' := Aside0.mk H
               clear H
               go_wp2
               go_meet
               case rel => exact ⟨_, (true), (by first | rfl | (simp; done) | (simp [*]; done)), H', ⟨by have := HJ2.out; have := HK2.out; have := HJ22.out; first | omega | exact Nat.le_refl _⟩, ⟨by (with_reducible repeat (first | apply Kd.R_alloc | apply Kd.R_drewN | apply Kd.R_drew)); exact Kd.R_mono HO_10.out (fun _ hk => trivial)⟩, ⟨by (with_reducible repeat (first | refine blk_drewN ?_ _ | refine blk_drew ?_ | refine blk_alloc ?_ _)); exact BK415.out⟩, ⟨by repeat (first | (with_reducible first | exact HB.out | apply below_alloc | apply pw_below_drewN | apply below_drew1 | refine below_set ?_ GE415.out) | exact HB.out)⟩⟩
             case rest =>
              clear HC65
              try clear c1
              try clear c2
              try clear p2
              try clear c3
              try clear c6
              try clear c7
              try clear c13
              try clear c15
              try clear c16
              try clear c20
              try clear c22
              try clear c24
              try clear c26
              try clear c26b0
              try clear c26b1
              try clear c38
              try clear c38b0
              try clear c38b1
              try clear c61
              try clear c61b0
              try clear c61b1
              try clear c72
              try clear c72b0
              try clear c72b1
              try clear p2
              obtain ⟨kq, x110_64, rfl, HA, HJ64, HO_7, BK415, HB⟩ := hcut
              cases kq with
              | zero => exact absurd HA.out (by simp [spilelaw52_BondNever.j3])
              | succ kj64 =>
               have H := HA.out
               clear HA
               simp only [spilelaw52_BondNever.j3] at H
               by_cases c73 : x110_64 = true
               ·subst c73
                have H1 : (some false) = some r := by rw [if_pos rfl] at H; exact H
                clear H
                have H := H1
                clear H1
                obtain rfl := Option.some.inj H
                go_wp2
                go_ret
                exact ⟨by first | rfl | (simp [errW_none, errW_some] <;> rfl) | (simp [*, errW_none, errW_some] <;> rfl), by repeat (first | (with_reducible first | exact HB.out | apply below_alloc | apply pw_below_drewN | apply below_drew1 | refine below_set ?_ GE415.out) | exact HB.out)⟩
               ·replace c73 := Bool.eq_false_iff.mpr c73
                subst c73
                have H1 : (spilelaw52_BondNever.l1 kj64 l0 x10_22 l1 (l1.length : Int) x44_2 l0 (l0.length : Int) 0) = some r := by rw [if_neg (show ¬ (false = true) by decide)] at H; exact H
                clear H
                have H := H1
                clear H1
                have H' := Aside0.mk H
                clear H
                go_wp2
                go_loopg [113] kj64 (fun kq v113 w' => ∃ (x113_5 : Int), v113 = .int .i64 x113_5 ∧ Aside0 (spilelaw52_BondNever.l1 kq l0 x10_22 l1 (l1.length : Int) x44_2 l0 (l0.length : Int) x113_5 = some r) ∧ Aside0 (kq ≤ kj64) ∧ Aside0 (Kd.R k35 35 w' w.heap.size (fun _ => True) (.slice Ao67 x10_22.length co67) x10_22) ∧ Aside0 (w'.heap[gb415]? = some (.cells #[.int .i64 ((rd_T49 l1 x44_2).f0), .int .i64 ((rd_T49 l1 x44_2).f1.f0), .int .i64 ((rd_T49 l1 x44_2).f1.f1), .int .i64 ((rd_T49 l1 x44_2).f1.f2), .int .i64 ((rd_T49 l1 x44_2).f2)] 49 (0, 0))) ∧ Aside0 (Below w.heap.size w w'))
                case atStart => exact ⟨(0), (by first | rfl | (simp; done) | (simp [*]; done)), H', ⟨Nat.le_refl _⟩, ⟨by (with_reducible repeat (first | apply Kd.R_alloc | apply Kd.R_drewN | apply Kd.R_drew)); exact HO_7.out⟩, ⟨by (with_reducible repeat (first | refine blk_drewN ?_ _ | refine blk_drew ?_ | refine blk_alloc ?_ _)); exact BK415.out⟩, ⟨by repeat (first | (with_reducible first | exact HB.out | apply below_alloc | apply pw_below_drewN | apply below_drew1 | refine below_set ?_ GE415.out) | exact HB.out)⟩⟩
                case round =>
                 clear H'
                 try clear c1
                 try clear c2
                 try clear p2
                 try clear c3
                 try clear c6
                 try clear c7
                 try clear c13
                 try clear c15
                 try clear c16
                 try clear c20
                 try clear c22
                 try clear c24
                 try clear c26
                 try clear c26b0
                 try clear c26b1
                 try clear c38
                 try clear c38b0
                 try clear c38b1
                 try clear c61
                 try clear c61b0
                 try clear c61b1
                 try clear c72
                 try clear c72b0
                 try clear c72b1
                 try clear c73
                 try clear p2
                 obtain ⟨x113_5, rfl, HA, HK5, HO_7, BK415, HB⟩ := hrel
                 cases gk with
                 | zero => exact absurd HA.out (by simp [spilelaw52_BondNever.l1])
                 | succ k5 =>
                  have H := HA.out
                  clear HA
                  simp only [spilelaw52_BondNever.l1] at H
                  by_cases c74 : x113_5 < (l0.length : Int)
                  ·rw [if_pos c74] at H
                   have c74b0 : decide (x113_5 < (l0.length : Int)) = true := decide_eq_true c74
                   clear c74
                   by_cases c75 : 0 ≤ x113_5
                   ·rw [if_pos c75] at H
                    have c75b0 : decide (0 ≤ x113_5) = true := decide_eq_true c75
                    clear c75
                    by_cases c76 : x113_5 < (l0.length : Int)
                    ·rw [if_pos c76] at H
                     have c76b0 : decide (x113_5 < (l0.length : Int)) = true := decide_eq_true c76
                     clear c76
                     have H' := Aside0.mk H
                     clear H
                     have p454 : 0 ≤ (x113_5 : Int) := of_decide_eq_true (by first | (with_reducible assumption) | assumption)
                     have q454 : x113_5 < (l0.length : Int) := of_decide_eq_true (by first | (with_reducible assumption) | assumption)
                     obtain ⟨ad454, e454, hx454_0, hx454_1, hx454_2, hx454_3⟩ := at_T31 HR0.out x113_5 p454 q454
                     cases e454
                     replace hx454_0 := (HB.out.cell (World.block_lt_of_cell? w _ hx454_0)).trans hx454_0
                     replace hx454_1 := (HB.out.cell (World.block_lt_of_cell? w _ hx454_1)).trans hx454_1
                     replace hx454_2 := (HB.out.cell (World.block_lt_of_cell? w _ hx454_2)).trans hx454_2
                     replace hx454_3 := (HB.out.cell (World.block_lt_of_cell? w _ hx454_3)).trans hx454_3
                     replace p454 := eq_true p454
                     replace q454 := eq_true q454
                     go_wp2_with (first | ((with_reducible refine gate_dst (N := 15) rfl ?_); (try (refine gate_guard (by rfl) ?_; dsimp only)); refine box_event ?hg (N := 15) ?hd (cs := #[.int .i64 0, .int .i64 0, .int .i64 0, .int .i64 0]) (t := 31) ?hr ?_; (case hd => rfl); (case hg => rfl); (case hr => first | (go_simp; done) | (go_simp; rfl)); intro gb455 hg w77 hbox hb; have n0_ := Aside0.mk (Kd.R_below (by (with_reducible repeat (first | apply Kd.R_alloc | apply Kd.R_drewN | apply Kd.R_drew)); exact HO_7.out) hb); have n1_ := Aside0.mk (blk_below (g := gb415) (o := .cells #[.int .i64 ((rd_T49 l1 x44_2).f0), .int .i64 ((rd_T49 l1 x44_2).f1.f0), .int .i64 ((rd_T49 l1 x44_2).f1.f1), .int .i64 ((rd_T49 l1 x44_2).f1.f2), .int .i64 ((rd_T49 l1 x44_2).f2)] 49 (0, 0)) (by (with_reducible repeat (first | refine blk_drewN ?_ _ | refine blk_drew ?_ | refine blk_alloc ?_ _)); exact BK415.out) hb); have n2_ := Aside0.mk (below_step (by repeat (first | (with_reducible first | exact HB.out | apply below_alloc | apply pw_below_drewN | apply below_drew1 | refine below_set ?_ GE415.out) | exact HB.out)) hb); have n3_ := Aside0.mk (hbox); have n4_ := Aside0.mk ((by rw [hg]; exact (below_size (by repeat (first | (with_reducible first | exact HB.out | apply below_alloc | apply pw_below_drewN | apply below_drew1 | refine below_set ?_ GE415.out) | exact HB.out))) : w.heap.size ≤ gb455)); have n5_ := Aside0.mk ((by rw [hg]; exact (below_size (by repeat (first | (with_reducible first | exact HB.out | apply below_alloc | apply pw_below_drewN | apply below_drew1 | refine below_set ?_ GE415.out) | exact HB.out))) : w.heap.size ≤ gb455)); have n6_ := Aside0.mk ((by rw [hg]; exact Nat.ne_of_lt (blk_lt (g := gb415) (o := .cells #[.int .i64 ((rd_T49 l1 x44_2).f0), .int .i64 ((rd_T49 l1 x44_2).f1.f0), .int .i64 ((rd_T49 l1 x44_2).f1.f1), .int .i64 ((rd_T49 l1 x44_2).f1.f2), .int .i64 ((rd_T49 l1 x44_2).f2)] 49 (0, 0)) (by (with_reducible repeat (first | refine blk_drewN ?_ _ | refine blk_drew ?_ | refine blk_alloc ?_ _)); exact BK415.out)) : gb415 ≠ gb455)); have n7_ := Aside0.mk ((by rw [hg]; exact Nat.ne_of_gt (blk_lt (g := gb415) (o := .cells #[.int .i64 ((rd_T49 l1 x44_2).f0), .int .i64 ((rd_T49 l1 x44_2).f1.f0), .int .i64 ((rd_T49 l1 x44_2).f1.f1), .int .i64 ((rd_T49 l1 x44_2).f1.f2), .int .i64 ((rd_T49 l1 x44_2).f2)] 49 (0, 0)) (by (with_reducible repeat (first | refine blk_drewN ?_ _ | refine blk_drew ?_ | refine blk_alloc ?_ _)); exact BK415.out)) : gb455 ≠ gb415)); clear HO_7; clear BK415; clear HB; have HO_7 := n0_; have BK415 := n1_; have HB := n2_; have BK455 := n3_; have GW455 := n4_; have GE455 := n5_; have NB415_455 := n6_; have NB455_415 := n7_; clear n0_ n1_ n2_ n3_ n4_ n5_ n6_ n7_; clear hb hbox hg; have hnb78 := NB455_415.out; have hnc78 := NB415_455.out; have hcz79_0 : w77.cell? ⟨gb455, 0, none⟩ = some (.int .i64 0) := (blk_cell BK455.out 0).trans rfl; have hcz79_1 : w77.cell? ⟨gb455, 1, none⟩ = some (.int .i64 0) := (blk_cell BK455.out 1).trans rfl; have hcz79_2 : w77.cell? ⟨gb455, 2, none⟩ = some (.int .i64 0) := (blk_cell BK455.out 2).trans rfl; have hcz79_3 : w77.cell? ⟨gb455, 3, none⟩ = some (.int .i64 0) := (blk_cell BK455.out 3).trans rfl; have hfz79_0 := blk_frozen BK455.out 0; have hfz79_1 := blk_frozen BK455.out 1; have hfz79_2 := blk_frozen BK455.out 2; have hfz79_3 := blk_frozen BK455.out 3))
                     go_loopg [16, 119] k5 (fun kq v16 v119 w' => ∃ (x16_6 : Int) (x119_6 : Int), v16 = .int .i64 x16_6 ∧ v119 = .int .i64 x119_6 ∧ Aside0 (spilelaw52_BondNever.l2 kq l0 x10_22 x16_6 l1 (l1.length : Int) x44_2 l0 (l0.length : Int) x113_5 x10_22 (x10_22.length : Int) x119_6 ((rd_T31 l0 x113_5).f0) ((rd_T31 l0 x113_5).f1) ((rd_T31 l0 x113_5).f2) ((rd_T31 l0 x113_5).f3) = some r) ∧ Aside0 (kq ≤ k5) ∧ Aside0 (Kd.R k35 35 w' w.heap.size (fun _ => True) (.slice Ao67 x10_22.length co67) x10_22) ∧ Aside0 (Kd.R k35 35 w' w.heap.size (fun _ => True) (.slice Ao67 x10_22.length co67) x10_22) ∧ Aside0 (w'.heap[gb415]? = some (.cells #[.int .i64 ((rd_T49 l1 x44_2).f0), .int .i64 ((rd_T49 l1 x44_2).f1.f0), .int .i64 ((rd_T49 l1 x44_2).f1.f1), .int .i64 ((rd_T49 l1 x44_2).f1.f2), .int .i64 ((rd_T49 l1 x44_2).f2)] 49 (0, 0))) ∧ Aside0 (w'.heap[gb455]? = some (.cells #[.int .i64 ((rd_T31 l0 x113_5).f0), .int .i64 ((rd_T31 l0 x113_5).f1), .int .i64 ((rd_T31 l0 x113_5).f2), .int .i64 ((rd_T31 l0 x113_5).f3)] 31 (0, 0))) ∧ Aside0 (Below w.heap.size w w'))
                     case atStart => exact ⟨(0), (0), (by first | rfl | (simp; done) | (simp [*]; done)), (by first | rfl | (simp; done) | (simp [*]; done)), H', ⟨Nat.le_refl _⟩, ⟨by (with_reducible repeat (first | apply Kd.R_alloc | apply Kd.R_drewN | apply Kd.R_drew)); exact Kd.R_mono (Kd.R_far (p := ⟨gb455, 3, none⟩) (Kd.R_far (p := ⟨gb455, 2, none⟩) (Kd.R_far (p := ⟨gb455, 1, none⟩) (Kd.R_far (p := ⟨gb455, 0, none⟩) (Kd.R_types HO_7.out BK455.out (by decide)) (fun _ hk => hk.2) (.int .i64 ((rd_T31 l0 x113_5).f0))) (fun _ hk => hk.2) (.int .i64 ((rd_T31 l0 x113_5).f1))) (fun _ hk => hk.2) (.int .i64 ((rd_T31 l0 x113_5).f2))) (fun _ hk => hk.2) (.int .i64 ((rd_T31 l0 x113_5).f3))) (fun _ hk => trivial)⟩, ⟨by (with_reducible repeat (first | apply Kd.R_alloc | apply Kd.R_drewN | apply Kd.R_drew)); exact Kd.R_mono (Kd.R_far (p := ⟨gb455, 3, none⟩) (Kd.R_far (p := ⟨gb455, 2, none⟩) (Kd.R_far (p := ⟨gb455, 1, none⟩) (Kd.R_far (p := ⟨gb455, 0, none⟩) (Kd.R_types HO_7.out BK455.out (by decide)) (fun _ hk => hk.2) (.int .i64 ((rd_T31 l0 x113_5).f0))) (fun _ hk => hk.2) (.int .i64 ((rd_T31 l0 x113_5).f1))) (fun _ hk => hk.2) (.int .i64 ((rd_T31 l0 x113_5).f2))) (fun _ hk => hk.2) (.int .i64 ((rd_T31 l0 x113_5).f3))) (fun _ hk => trivial)⟩, ⟨by (with_reducible repeat (first | refine blk_drewN ?_ _ | refine blk_drew ?_ | refine blk_alloc ?_ _)); refine blk_far ?_ NB415_455.out _; (with_reducible repeat (first | refine blk_drewN ?_ _ | refine blk_drew ?_ | refine blk_alloc ?_ _)); refine blk_far ?_ NB415_455.out _; (with_reducible repeat (first | refine blk_drewN ?_ _ | refine blk_drew ?_ | refine blk_alloc ?_ _)); refine blk_far ?_ NB415_455.out _; (with_reducible repeat (first | refine blk_drewN ?_ _ | refine blk_drew ?_ | refine blk_alloc ?_ _)); refine blk_far ?_ NB415_455.out _; (with_reducible repeat (first | refine blk_drewN ?_ _ | refine blk_drew ?_ | refine blk_alloc ?_ _)); exact BK415.out⟩, ⟨by (with_reducible repeat (first | refine blk_drewN ?_ _ | refine blk_drew ?_ | refine blk_alloc ?_ _)); refine blk_put (cs := #[.int .i64 ((rd_T31 l0 x113_5).f0), .int .i64 ((rd_T31 l0 x113_5).f1), .int .i64 ((rd_T31 l0 x113_5).f2), .int .i64 0]) ?_ 3 _ rfl; (with_reducible repeat (first | refine blk_drewN ?_ _ | refine blk_drew ?_ | refine blk_alloc ?_ _)); refine blk_put (cs := #[.int .i64 ((rd_T31 l0 x113_5).f0), .int .i64 ((rd_T31 l0 x113_5).f1), .int .i64 0, .int .i64 0]) ?_ 2 _ rfl; (with_reducible repeat (first | refine blk_drewN ?_ _ | refine blk_drew ?_ | refine blk_alloc ?_ _)); refine blk_put (cs := #[.int .i64 ((rd_T31 l0 x113_5).f0), .int .i64 0, .int .i64 0, .int .i64 0]) ?_ 1 _ rfl; (with_reducible repeat (first | refine blk_drewN ?_ _ | refine blk_drew ?_ | refine blk_alloc ?_ _)); refine blk_put (cs := #[.int .i64 0, .int .i64 0, .int .i64 0, .int .i64 0]) ?_ 0 _ rfl; (with_reducible repeat (first | refine blk_drewN ?_ _ | refine blk_drew ?_ | refine blk_alloc ?_ _)); exact BK455.out⟩, ⟨by repeat (first | (with_reducible first | exact HB.out | apply below_alloc | apply pw_below_drewN | apply below_drew1 | refine below_set ?_ GE415.out | refine below_set ?_ GE455.out) | exact HB.out)⟩⟩
                     case round =>
                      clear H'
                      try clear c1
                      try clear c2
                      try clear p2
                      try clear c3
                      try clear p4
                      try clear q4
                      try clear hx4
                      try clear c6
                      try clear c7
                      try clear c13
                      try clear c15
                      try clear c16
                      try clear c20
                      try clear c22
                      try clear c24
                      try clear c26
                      try clear c26b0
                      try clear c26b1
                      try clear c38
                      try clear c38b0
                      try clear c38b1
                      try clear p45
                      try clear q45
                      try clear hx45
                      try clear c61
                      try clear c61b0
                      try clear c61b1
                      try clear c72
                      try clear c72b0
                      try clear c72b1
                      try clear c73
                      try clear c74
                      try clear c74b0
                      try clear c75
                      try clear c75b0
                      try clear c76
                      try clear c76b0
                      try clear c78
                      try clear hcz79_0
                      try clear hcz79_1
                      try clear hcz79_2
                      try clear hcz79_3
                      try clear hfz79_0
                      try clear hfz79_1
                      try clear hfz79_2
                      try clear hfz79_3
                      try clear hx454_0
                      try clear hx454_1
                      try clear hx454_2
                      try clear hx454_3
                      try clear p2
                      try clear p454
                      try clear q454
                      obtain ⟨x16_6, x119_6, rfl, rfl, HA, HK6, HO_7, HO_117, BK415, BK455, HB⟩ := hrel
                      cases gk with
                      | zero => exact absurd HA.out (by simp [spilelaw52_BondNever.l2])
                      | succ k6 =>
                       have H := HA.out
                       clear HA
                       simp only [spilelaw52_BondNever.l2] at H
                       by_cases c80 : x119_6 < (x10_22.length : Int)
                       ·rw [if_pos c80] at H
                        have c80b0 : decide (x119_6 < (x10_22.length : Int)) = true := decide_eq_true c80
                        clear c80
                        by_cases c81 : 0 ≤ x119_6
                        ·rw [if_pos c81] at H
                         have c81b0 : decide (0 ≤ x119_6) = true := decide_eq_true c81
                         clear c81
                         by_cases c82 : x119_6 < (x10_22.length : Int)
                         ·rw [if_pos c82] at H
                          have c82b0 : decide (x119_6 < (x10_22.length : Int)) = true := decide_eq_true c82
                          clear c82
                          by_cases c83 : ((rd_T35 x10_22 x119_6).f0) = ((rd_T31 l0 x113_5).f0)
                          ·rw [if_pos c83] at H
                           have c83b0 : (((rd_T35 x10_22 x119_6).f0) == ((rd_T31 l0 x113_5).f0)) = true := beq_iff_eq.mpr c83
                           have c83b1 : (((rd_T35 x10_22 x119_6).f0) != ((rd_T31 l0 x113_5).f0)) = false := bne_eq_false_iff_eq.mpr c83
                           clear c83
                           have H' := Aside0.mk H
                           clear H
                           have p456 : 0 ≤ (x119_6 : Int) := of_decide_eq_true (by first | (with_reducible assumption) | assumption)
                           have q456 : x119_6 < (x10_22.length : Int) := of_decide_eq_true (by first | (with_reducible assumption) | assumption)
                           obtain ⟨ad456, e456, hx456_0, hx456_1, hx456_2⟩ := at_T35 (Kd.R_reads' HO_117.out).2.2 x119_6 p456 q456
                           cases e456
                           replace p456 := eq_true p456
                           replace q456 := eq_true q456
                           go_wp2_with (first | ((with_reducible refine gate_dst (N := 18) rfl ?_); (try (refine gate_guard (by rfl) ?_; dsimp only)); refine box_event ?hg (N := 18) ?hd (cs := #[.int .i64 0, .int .i64 0, .int .i64 0]) (t := 35) ?hr ?_; (case hd => rfl); (case hg => rfl); (case hr => first | (go_simp; done) | (go_simp; rfl)); intro gb457 hg w84 hbox hb; have n0_ := Aside0.mk (Kd.R_below (Kd.R_elderB (by (with_reducible repeat (first | apply Kd.R_alloc | apply Kd.R_drewN | apply Kd.R_drew)); exact HO_7.out) gb457 (Nat.le_of_eq hg.symm)) hb); have n1_ := Aside0.mk (Kd.R_below (Kd.R_elderB (by (with_reducible repeat (first | apply Kd.R_alloc | apply Kd.R_drewN | apply Kd.R_drew)); exact HO_117.out) gb457 (Nat.le_of_eq hg.symm)) hb); have n2_ := Aside0.mk (blk_below (g := gb415) (o := .cells #[.int .i64 ((rd_T49 l1 x44_2).f0), .int .i64 ((rd_T49 l1 x44_2).f1.f0), .int .i64 ((rd_T49 l1 x44_2).f1.f1), .int .i64 ((rd_T49 l1 x44_2).f1.f2), .int .i64 ((rd_T49 l1 x44_2).f2)] 49 (0, 0)) (by (with_reducible repeat (first | refine blk_drewN ?_ _ | refine blk_drew ?_ | refine blk_alloc ?_ _)); exact BK415.out) hb); have n3_ := Aside0.mk (blk_below (g := gb455) (o := .cells #[.int .i64 ((rd_T31 l0 x113_5).f0), .int .i64 ((rd_T31 l0 x113_5).f1), .int .i64 ((rd_T31 l0 x113_5).f2), .int .i64 ((rd_T31 l0 x113_5).f3)] 31 (0, 0)) (by (with_reducible repeat (first | refine blk_drewN ?_ _ | refine blk_drew ?_ | refine blk_alloc ?_ _)); exact BK455.out) hb); have n4_ := Aside0.mk (below_step (by repeat (first | (with_reducible first | exact HB.out | apply below_alloc | apply pw_below_drewN | apply below_drew1 | refine below_set ?_ GE415.out | refine below_set ?_ GE455.out) | exact HB.out)) hb); have n5_ := Aside0.mk (hbox); have n6_ := Aside0.mk ((by rw [hg]; exact (below_size (by repeat (first | (with_reducible first | exact HB.out | apply below_alloc | apply pw_below_drewN | apply below_drew1 | refine below_set ?_ GE415.out | refine below_set ?_ GE455.out) | exact HB.out))) : w.heap.size ≤ gb457)); have n7_ := Aside0.mk ((by rw [hg]; exact (below_size (by repeat (first | (with_reducible first | exact HB.out | apply below_alloc | apply pw_below_drewN | apply below_drew1 | refine below_set ?_ GE415.out | refine below_set ?_ GE455.out) | exact HB.out))) : w.heap.size ≤ gb457)); have n8_ := Aside0.mk ((by rw [hg]; exact Nat.ne_of_lt (blk_lt (g := gb415) (o := .cells #[.int .i64 ((rd_T49 l1 x44_2).f0), .int .i64 ((rd_T49 l1 x44_2).f1.f0), .int .i64 ((rd_T49 l1 x44_2).f1.f1), .int .i64 ((rd_T49 l1 x44_2).f1.f2), .int .i64 ((rd_T49 l1 x44_2).f2)] 49 (0, 0)) (by (with_reducible repeat (first | refine blk_drewN ?_ _ | refine blk_drew ?_ | refine blk_alloc ?_ _)); exact BK415.out)) : gb415 ≠ gb457)); have n9_ := Aside0.mk ((by rw [hg]; exact Nat.ne_of_gt (blk_lt (g := gb415) (o := .cells #[.int .i64 ((rd_T49 l1 x44_2).f0), .int .i64 ((rd_T49 l1 x44_2).f1.f0), .int .i64 ((rd_T49 l1 x44_2).f1.f1), .int .i64 ((rd_T49 l1 x44_2).f1.f2), .int .i64 ((rd_T49 l1 x44_2).f2)] 49 (0, 0)) (by (with_reducible repeat (first | refine blk_drewN ?_ _ | refine blk_drew ?_ | refine blk_alloc ?_ _)); exact BK415.out)) : gb457 ≠ gb415)); have n10_ := Aside0.mk ((by rw [hg]; exact Nat.ne_of_lt (blk_lt (g := gb455) (o := .cells #[.int .i64 ((rd_T31 l0 x113_5).f0), .int .i64 ((rd_T31 l0 x113_5).f1), .int .i64 ((rd_T31 l0 x113_5).f2), .int .i64 ((rd_T31 l0 x113_5).f3)] 31 (0, 0)) (by (with_reducible repeat (first | refine blk_drewN ?_ _ | refine blk_drew ?_ | refine blk_alloc ?_ _)); exact BK455.out)) : gb455 ≠ gb457)); have n11_ := Aside0.mk ((by rw [hg]; exact Nat.ne_of_gt (blk_lt (g := gb455) (o := .cells #[.int .i64 ((rd_T31 l0 x113_5).f0), .int .i64 ((rd_T31 l0 x113_5).f1), .int .i64 ((rd_T31 l0 x113_5).f2), .int .i64 ((rd_T31 l0 x113_5).f3)] 31 (0, 0)) (by (with_reducible repeat (first | refine blk_drewN ?_ _ | refine blk_drew ?_ | refine blk_alloc ?_ _)); exact BK455.out)) : gb457 ≠ gb455)); clear HO_7; clear HO_117; clear BK415; clear BK455; clear HB; have HO_7 := n0_; have HO_117 := n1_; have BK415 := n2_; have BK455 := n3_; have HB := n4_; have BK457 := n5_; have GW457 := n6_; have GE457 := n7_; have NB415_457 := n8_; have NB457_415 := n9_; have NB455_457 := n10_; have NB457_455 := n11_; clear n0_ n1_ n2_ n3_ n4_ n5_ n6_ n7_ n8_ n9_ n10_ n11_; clear hb hbox hg; have hnb85 := NB457_415.out; have hnc85 := NB415_457.out; have hnb86 := NB457_455.out; have hnc86 := NB455_457.out; have hcz87_0 : w84.cell? ⟨gb457, 0, none⟩ = some (.int .i64 0) := (blk_cell BK457.out 0).trans rfl; have hcz87_1 : w84.cell? ⟨gb457, 1, none⟩ = some (.int .i64 0) := (blk_cell BK457.out 1).trans rfl; have hcz87_2 : w84.cell? ⟨gb457, 2, none⟩ = some (.int .i64 0) := (blk_cell BK457.out 2).trans rfl; have hfz87_0 := blk_frozen BK457.out 0; have hfz87_1 := blk_frozen BK457.out 1; have hfz87_2 := blk_frozen BK457.out 2; have hnb88 := NB455_415.out; have hnc88 := NB415_455.out; have hcz89_0 : w84.cell? ⟨gb455, 0, none⟩ = some (.int .i64 ((rd_T31 l0 x113_5).f0)) := (blk_cell BK455.out 0).trans rfl; have hcz89_1 : w84.cell? ⟨gb455, 1, none⟩ = some (.int .i64 ((rd_T31 l0 x113_5).f1)) := (blk_cell BK455.out 1).trans rfl; have hcz89_2 : w84.cell? ⟨gb455, 2, none⟩ = some (.int .i64 ((rd_T31 l0 x113_5).f2)) := (blk_cell BK455.out 2).trans rfl; have hcz89_3 : w84.cell? ⟨gb455, 3, none⟩ = some (.int .i64 ((rd_T31 l0 x113_5).f3)) := (blk_cell BK455.out 3).trans rfl; have hfz89_0 := blk_frozen BK455.out 0; have hfz89_1 := blk_frozen BK455.out 1; have hfz89_2 := blk_frozen BK455.out 2; have hfz89_3 := blk_frozen BK455.out 3))
                           go_roundg k6
                           case measure => have := HJ2.out; have := HK2.out; have := HJ22.out; have := HJ64.out; have := HK5.out; have := HK6.out; omega
                           case rel => exact ⟨(wrap64 (x16_6 + ((rd_T35 x10_22 x119_6).f2))), (wrap64 (x119_6 + 1)), (by first | rfl | (simp; done) | (simp [*]; done)), (by first | rfl | (simp; done) | (simp [*]; done)), H', ⟨by have := HJ2.out; have := HK2.out; have := HJ22.out; have := HJ64.out; have := HK5.out; have := HK6.out; omega⟩, ⟨by (with_reducible repeat (first | apply Kd.R_alloc | apply Kd.R_drewN | apply Kd.R_drew)); exact Kd.R_mono (Kd.R_far (p := ⟨gb457, 2, none⟩) (Kd.R_far (p := ⟨gb457, 1, none⟩) (Kd.R_far (p := ⟨gb457, 0, none⟩) (Kd.R_mono HO_7.out (fun k_ hk => (⟨hk, hk.2⟩ : _ ∧ k_ ≠ gb457))) (fun _ hk => hk.2) (.int .i64 ((rd_T35 x10_22 x119_6).f0))) (fun _ hk => hk.2) (.int .i64 ((rd_T35 x10_22 x119_6).f1))) (fun _ hk => hk.2) (.int .i64 ((rd_T35 x10_22 x119_6).f2))) (fun _ hk => trivial)⟩, ⟨by (with_reducible repeat (first | apply Kd.R_alloc | apply Kd.R_drewN | apply Kd.R_drew)); exact Kd.R_mono (Kd.R_far (p := ⟨gb457, 2, none⟩) (Kd.R_far (p := ⟨gb457, 1, none⟩) (Kd.R_far (p := ⟨gb457, 0, none⟩) (Kd.R_mono HO_117.out (fun k_ hk => (⟨hk, hk.2⟩ : _ ∧ k_ ≠ gb457))) (fun _ hk => hk.2) (.int .i64 ((rd_T35 x10_22 x119_6).f0))) (fun _ hk => hk.2) (.int .i64 ((rd_T35 x10_22 x119_6).f1))) (fun _ hk => hk.2) (.int .i64 ((rd_T35 x10_22 x119_6).f2))) (fun _ hk => trivial)⟩, ⟨by (with_reducible repeat (first | refine blk_drewN ?_ _ | refine blk_drew ?_ | refine blk_alloc ?_ _)); refine blk_far ?_ NB415_457.out _; (with_reducible repeat (first | refine blk_drewN ?_ _ | refine blk_drew ?_ | refine blk_alloc ?_ _)); refine blk_far ?_ NB415_457.out _; (with_reducible repeat (first | refine blk_drewN ?_ _ | refine blk_drew ?_ | refine blk_alloc ?_ _)); refine blk_far ?_ NB415_457.out _; (with_reducible repeat (first | refine blk_drewN ?_ _ | refine blk_drew ?_ | refine blk_alloc ?_ _)); exact BK415.out⟩, ⟨by (with_reducible repeat (first | refine blk_drewN ?_ _ | refine blk_drew ?_ | refine blk_alloc ?_ _)); refine blk_far ?_ NB455_457.out _; (with_reducible repeat (first | refine blk_drewN ?_ _ | refine blk_drew ?_ | refine blk_alloc ?_ _)); refine blk_far ?_ NB455_457.out _; (with_reducible repeat (first | refine blk_drewN ?_ _ | refine blk_drew ?_ | refine blk_alloc ?_ _)); refine blk_far ?_ NB455_457.out _; (with_reducible repeat (first | refine blk_drewN ?_ _ | refine blk_drew ?_ | refine blk_alloc ?_ _)); exact BK455.out⟩, ⟨by repeat (first | (with_reducible first | exact HB.out | apply below_alloc | apply pw_below_drewN | apply below_drew1 | refine below_set ?_ GE415.out | refine below_set ?_ GE455.out | refine below_set ?_ GE457.out) | exact HB.out)⟩⟩
                          ·rw [if_neg c83] at H
                           have c83b0 : (((rd_T35 x10_22 x119_6).f0) == ((rd_T31 l0 x113_5).f0)) = false := beq_eq_false_iff_ne.mpr c83
                           have c83b1 : (((rd_T35 x10_22 x119_6).f0) != ((rd_T31 l0 x113_5).f0)) = true := bne_iff_ne.mpr c83
                           have H' := Aside0.mk H
                           clear H
                           have p456 : 0 ≤ (x119_6 : Int) := of_decide_eq_true (by first | (with_reducible assumption) | assumption)
                           have q456 : x119_6 < (x10_22.length : Int) := of_decide_eq_true (by first | (with_reducible assumption) | assumption)
                           obtain ⟨ad456, e456, hx456_0, hx456_1, hx456_2⟩ := at_T35 (Kd.R_reads' HO_117.out).2.2 x119_6 p456 q456
                           cases e456
                           replace p456 := eq_true p456
                           replace q456 := eq_true q456
                           go_wp2_with (first | ((with_reducible refine gate_dst (N := 18) rfl ?_); (try (refine gate_guard (by rfl) ?_; dsimp only)); refine box_event ?hg (N := 18) ?hd (cs := #[.int .i64 0, .int .i64 0, .int .i64 0]) (t := 35) ?hr ?_; (case hd => rfl); (case hg => rfl); (case hr => first | (go_simp; done) | (go_simp; rfl)); intro gb457 hg w90 hbox hb; have n0_ := Aside0.mk (Kd.R_below (Kd.R_elderB (by (with_reducible repeat (first | apply Kd.R_alloc | apply Kd.R_drewN | apply Kd.R_drew)); exact HO_7.out) gb457 (Nat.le_of_eq hg.symm)) hb); have n1_ := Aside0.mk (Kd.R_below (Kd.R_elderB (by (with_reducible repeat (first | apply Kd.R_alloc | apply Kd.R_drewN | apply Kd.R_drew)); exact HO_117.out) gb457 (Nat.le_of_eq hg.symm)) hb); have n2_ := Aside0.mk (blk_below (g := gb415) (o := .cells #[.int .i64 ((rd_T49 l1 x44_2).f0), .int .i64 ((rd_T49 l1 x44_2).f1.f0), .int .i64 ((rd_T49 l1 x44_2).f1.f1), .int .i64 ((rd_T49 l1 x44_2).f1.f2), .int .i64 ((rd_T49 l1 x44_2).f2)] 49 (0, 0)) (by (with_reducible repeat (first | refine blk_drewN ?_ _ | refine blk_drew ?_ | refine blk_alloc ?_ _)); exact BK415.out) hb); have n3_ := Aside0.mk (blk_below (g := gb455) (o := .cells #[.int .i64 ((rd_T31 l0 x113_5).f0), .int .i64 ((rd_T31 l0 x113_5).f1), .int .i64 ((rd_T31 l0 x113_5).f2), .int .i64 ((rd_T31 l0 x113_5).f3)] 31 (0, 0)) (by (with_reducible repeat (first | refine blk_drewN ?_ _ | refine blk_drew ?_ | refine blk_alloc ?_ _)); exact BK455.out) hb); have n4_ := Aside0.mk (below_step (by repeat (first | (with_reducible first | exact HB.out | apply below_alloc | apply pw_below_drewN | apply below_drew1 | refine below_set ?_ GE415.out | refine below_set ?_ GE455.out) | exact HB.out)) hb); have n5_ := Aside0.mk (hbox); have n6_ := Aside0.mk ((by rw [hg]; exact (below_size (by repeat (first | (with_reducible first | exact HB.out | apply below_alloc | apply pw_below_drewN | apply below_drew1 | refine below_set ?_ GE415.out | refine below_set ?_ GE455.out) | exact HB.out))) : w.heap.size ≤ gb457)); have n7_ := Aside0.mk ((by rw [hg]; exact (below_size (by repeat (first | (with_reducible first | exact HB.out | apply below_alloc | apply pw_below_drewN | apply below_drew1 | refine below_set ?_ GE415.out | refine below_set ?_ GE455.out) | exact HB.out))) : w.heap.size ≤ gb457)); have n8_ := Aside0.mk ((by rw [hg]; exact Nat.ne_of_lt (blk_lt (g := gb415) (o := .cells #[.int .i64 ((rd_T49 l1 x44_2).f0), .int .i64 ((rd_T49 l1 x44_2).f1.f0), .int .i64 ((rd_T49 l1 x44_2).f1.f1), .int .i64 ((rd_T49 l1 x44_2).f1.f2), .int .i64 ((rd_T49 l1 x44_2).f2)] 49 (0, 0)) (by (with_reducible repeat (first | refine blk_drewN ?_ _ | refine blk_drew ?_ | refine blk_alloc ?_ _)); exact BK415.out)) : gb415 ≠ gb457)); have n9_ := Aside0.mk ((by rw [hg]; exact Nat.ne_of_gt (blk_lt (g := gb415) (o := .cells #[.int .i64 ((rd_T49 l1 x44_2).f0), .int .i64 ((rd_T49 l1 x44_2).f1.f0), .int .i64 ((rd_T49 l1 x44_2).f1.f1), .int .i64 ((rd_T49 l1 x44_2).f1.f2), .int .i64 ((rd_T49 l1 x44_2).f2)] 49 (0, 0)) (by (with_reducible repeat (first | refine blk_drewN ?_ _ | refine blk_drew ?_ | refine blk_alloc ?_ _)); exact BK415.out)) : gb457 ≠ gb415)); have n10_ := Aside0.mk ((by rw [hg]; exact Nat.ne_of_lt (blk_lt (g := gb455) (o := .cells #[.int .i64 ((rd_T31 l0 x113_5).f0), .int .i64 ((rd_T31 l0 x113_5).f1), .int .i64 ((rd_T31 l0 x113_5).f2), .int .i64 ((rd_T31 l0 x113_5).f3)] 31 (0, 0)) (by (with_reducible repeat (first | refine blk_drewN ?_ _ | refine blk_drew ?_ | refine blk_alloc ?_ _)); exact BK455.out)) : gb455 ≠ gb457)); have n11_ := Aside0.mk ((by rw [hg]; exact Nat.ne_of_gt (blk_lt (g := gb455) (o := .cells #[.int .i64 ((rd_T31 l0 x113_5).f0), .int .i64 ((rd_T31 l0 x113_5).f1), .int .i64 ((rd_T31 l0 x113_5).f2), .int .i64 ((rd_T31 l0 x113_5).f3)] 31 (0, 0)) (by (with_reducible repeat (first | refine blk_drewN ?_ _ | refine blk_drew ?_ | refine blk_alloc ?_ _)); exact BK455.out)) : gb457 ≠ gb455)); clear HO_7; clear HO_117; clear BK415; clear BK455; clear HB; have HO_7 := n0_; have HO_117 := n1_; have BK415 := n2_; have BK455 := n3_; have HB := n4_; have BK457 := n5_; have GW457 := n6_; have GE457 := n7_; have NB415_457 := n8_; have NB457_415 := n9_; have NB455_457 := n10_; have NB457_455 := n11_; clear n0_ n1_ n2_ n3_ n4_ n5_ n6_ n7_ n8_ n9_ n10_ n11_; clear hb hbox hg; have hnb91 := NB457_415.out; have hnc91 := NB415_457.out; have hnb92 := NB457_455.out; have hnc92 := NB455_457.out; have hcz93_0 : w90.cell? ⟨gb457, 0, none⟩ = some (.int .i64 0) := (blk_cell BK457.out 0).trans rfl; have hcz93_1 : w90.cell? ⟨gb457, 1, none⟩ = some (.int .i64 0) := (blk_cell BK457.out 1).trans rfl; have hcz93_2 : w90.cell? ⟨gb457, 2, none⟩ = some (.int .i64 0) := (blk_cell BK457.out 2).trans rfl; have hfz93_0 := blk_frozen BK457.out 0; have hfz93_1 := blk_frozen BK457.out 1; have hfz93_2 := blk_frozen BK457.out 2; have hnb94 := NB455_415.out; have hnc94 := NB415_455.out; have hcz95_0 : w90.cell? ⟨gb455, 0, none⟩ = some (.int .i64 ((rd_T31 l0 x113_5).f0)) := (blk_cell BK455.out 0).trans rfl; have hcz95_1 : w90.cell? ⟨gb455, 1, none⟩ = some (.int .i64 ((rd_T31 l0 x113_5).f1)) := (blk_cell BK455.out 1).trans rfl; have hcz95_2 : w90.cell? ⟨gb455, 2, none⟩ = some (.int .i64 ((rd_T31 l0 x113_5).f2)) := (blk_cell BK455.out 2).trans rfl; have hcz95_3 : w90.cell? ⟨gb455, 3, none⟩ = some (.int .i64 ((rd_T31 l0 x113_5).f3)) := (blk_cell BK455.out 3).trans rfl; have hfz95_0 := blk_frozen BK455.out 0; have hfz95_1 := blk_frozen BK455.out 1; have hfz95_2 := blk_frozen BK455.out 2; have hfz95_3 := blk_frozen BK455.out 3))
                           go_roundg k6
                           case measure => have := HJ2.out; have := HK2.out; have := HJ22.out; have := HJ64.out; have := HK5.out; have := HK6.out; omega
                           case rel => exact ⟨(x16_6), (wrap64 (x119_6 + 1)), (by first | rfl | (simp; done) | (simp [*]; done)), (by first | rfl | (simp; done) | (simp [*]; done)), H', ⟨by have := HJ2.out; have := HK2.out; have := HJ22.out; have := HJ64.out; have := HK5.out; have := HK6.out; omega⟩, ⟨by (with_reducible repeat (first | apply Kd.R_alloc | apply Kd.R_drewN | apply Kd.R_drew)); exact Kd.R_mono (Kd.R_far (p := ⟨gb457, 2, none⟩) (Kd.R_far (p := ⟨gb457, 1, none⟩) (Kd.R_far (p := ⟨gb457, 0, none⟩) (Kd.R_mono HO_7.out (fun k_ hk => (⟨hk, hk.2⟩ : _ ∧ k_ ≠ gb457))) (fun _ hk => hk.2) (.int .i64 ((rd_T35 x10_22 x119_6).f0))) (fun _ hk => hk.2) (.int .i64 ((rd_T35 x10_22 x119_6).f1))) (fun _ hk => hk.2) (.int .i64 ((rd_T35 x10_22 x119_6).f2))) (fun _ hk => trivial)⟩, ⟨by (with_reducible repeat (first | apply Kd.R_alloc | apply Kd.R_drewN | apply Kd.R_drew)); exact Kd.R_mono (Kd.R_far (p := ⟨gb457, 2, none⟩) (Kd.R_far (p := ⟨gb457, 1, none⟩) (Kd.R_far (p := ⟨gb457, 0, none⟩) (Kd.R_mono HO_117.out (fun k_ hk => (⟨hk, hk.2⟩ : _ ∧ k_ ≠ gb457))) (fun _ hk => hk.2) (.int .i64 ((rd_T35 x10_22 x119_6).f0))) (fun _ hk => hk.2) (.int .i64 ((rd_T35 x10_22 x119_6).f1))) (fun _ hk => hk.2) (.int .i64 ((rd_T35 x10_22 x119_6).f2))) (fun _ hk => trivial)⟩, ⟨by (with_reducible repeat (first | refine blk_drewN ?_ _ | refine blk_drew ?_ | refine blk_alloc ?_ _)); refine blk_far ?_ NB415_457.out _; (with_reducible repeat (first | refine blk_drewN ?_ _ | refine blk_drew ?_ | refine blk_alloc ?_ _)); refine blk_far ?_ NB415_457.out _; (with_reducible repeat (first | refine blk_drewN ?_ _ | refine blk_drew ?_ | refine blk_alloc ?_ _)); refine blk_far ?_ NB415_457.out _; (with_reducible repeat (first | refine blk_drewN ?_ _ | refine blk_drew ?_ | refine blk_alloc ?_ _)); exact BK415.out⟩, ⟨by (with_reducible repeat (first | refine blk_drewN ?_ _ | refine blk_drew ?_ | refine blk_alloc ?_ _)); refine blk_far ?_ NB455_457.out _; (with_reducible repeat (first | refine blk_drewN ?_ _ | refine blk_drew ?_ | refine blk_alloc ?_ _)); refine blk_far ?_ NB455_457.out _; (with_reducible repeat (first | refine blk_drewN ?_ _ | refine blk_drew ?_ | refine blk_alloc ?_ _)); refine blk_far ?_ NB455_457.out _; (with_reducible repeat (first | refine blk_drewN ?_ _ | refine blk_drew ?_ | refine blk_alloc ?_ _)); exact BK455.out⟩, ⟨by repeat (first | (with_reducible first | exact HB.out | apply below_alloc | apply pw_below_drewN | apply below_drew1 | refine below_set ?_ GE415.out | refine below_set ?_ GE455.out | refine below_set ?_ GE457.out) | exact HB.out)⟩⟩
                         ·rw [if_neg c82] at H
                          exact absurd H (by simp)
                        ·rw [if_neg c81] at H
                         exact absurd H (by simp)
                       ·rw [if_neg c80] at H
                        have c80b0 : decide (x119_6 < (x10_22.length : Int)) = false := decide_eq_false c80
                        clear c80
                        replace H := Option.bind_eq_some_iff.mp H
                        obtain ⟨t458, A960, H⟩ := H
                        replace H : ((api_Hold_16.f x10_22).bind fun t461 => ((bond_Free.f k6 t458 t461 ((rd_T31 l0 x113_5).f0)).bind fun bt464 => (if bt464.2 = 0 then (if x16_6 > ((rd_T31 l0 x113_5).f3) then (some false) else (if bt464.1 = (wrap64 (((rd_T31 l0 x113_5).f3) - x16_6)) then (spilelaw52_BondNever.l1 k6 l0 x10_22 l1 (l1.length : Int) x44_2 l0 (l0.length : Int) (wrap64 (x113_5 + 1))) else (some false))) else (some false)))) = some r := H
                        have A96 := Aside0.mk A960
                        clear A960
                        replace H := Option.bind_eq_some_iff.mp H
                        obtain ⟨t461, A970, H⟩ := H
                        replace H : ((bond_Free.f k6 t458 t461 ((rd_T31 l0 x113_5).f0)).bind fun bt464 => (if bt464.2 = 0 then (if x16_6 > ((rd_T31 l0 x113_5).f3) then (some false) else (if bt464.1 = (wrap64 (((rd_T31 l0 x113_5).f3) - x16_6)) then (spilelaw52_BondNever.l1 k6 l0 x10_22 l1 (l1.length : Int) x44_2 l0 (l0.length : Int) (wrap64 (x113_5 + 1))) else (some false))) else (some false))) = some r := H
                        have A97 := Aside0.mk A970
                        clear A970
                        replace H := Option.bind_eq_some_iff.mp H
                        obtain ⟨⟨t464, t465⟩, A980, H⟩ := H
                        replace H : (if t465 = 0 then (if x16_6 > ((rd_T31 l0 x113_5).f3) then (some false) else (if t464 = (wrap64 (((rd_T31 l0 x113_5).f3) - x16_6)) then (spilelaw52_BondNever.l1 k6 l0 x10_22 l1 (l1.length : Int) x44_2 l0 (l0.length : Int) (wrap64 (x113_5 + 1))) else (some false))) else (some false)) = some r := H
                        have A98 := Aside0.mk A980
                        clear A980
                        by_cases c99 : t465 = 0
                        ·rw [if_pos c99] at H
                         have c99b0 : (t465 == 0) = true := beq_iff_eq.mpr c99
                         have c99b1 : (t465 != 0) = false := bne_eq_false_iff_eq.mpr c99
                         clear c99
                         by_cases c100 : x16_6 > ((rd_T31 l0 x113_5).f3)
                         ·rw [if_pos c100] at H
                          have c100b0 : decide (((rd_T31 l0 x113_5).f3) < x16_6) = true := decide_eq_true c100
                          clear c100
                          obtain rfl := Option.some.inj H
                          try go_wp2
                          have n0_ := Aside0.mk (Kd.R_drew HO_7.out)
                          have n1_ := Aside0.mk (Kd.R_drew HO_117.out)
                          have n2_ := Aside0.mk (blk_drew BK415.out)
                          have n3_ := Aside0.mk (blk_drew BK455.out)
                          have n4_ := Aside0.mk (below_drew1 HB.out)
                          clear HO_7
                          clear HO_117
                          clear BK415
                          clear BK455
                          clear HB
                          have HO_7 := n0_
                          have HO_117 := n1_
                          have BK415 := n2_
                          have BK455 := n3_
                          have HB := n4_
                          clear n0_ n1_ n2_ n3_ n4_
                          refine start_ (n := 12) (S := fun w' => w'.cell? ⟨gb455, 0, none⟩ = some (.int .i64 ((rd_T31 l0 x113_5).f0)) ∧ w'.cell? ⟨gb455, 1, none⟩ = some (.int .i64 ((rd_T31 l0 x113_5).f1)) ∧ w'.cell? ⟨gb455, 2, none⟩ = some (.int .i64 ((rd_T31 l0 x113_5).f2)) ∧ w'.cell? ⟨gb455, 3, none⟩ = some (.int .i64 ((rd_T31 l0 x113_5).f3))) (ds := []) #[false, false, false, false, false, false, false, false, false, false, false, false] (by kernel_rfl) rfl rfl ⟨(blk_cell BK455.out 0).trans rfl, (blk_cell BK455.out 1).trans rfl, (blk_cell BK455.out 2).trans rfl, (blk_cell BK455.out 3).trans rfl⟩ (fun hHeld => ?_); refine with_tabW spilelaw52_BondNever.tab35 spilelaw52_BondNever.bits35 (fun HT_ HW_ => ?_)
                          generalize wr.drew = w101 at HO_7 HO_117 BK415 BK455 HB hHeld ⊢
                          refine pure_ (i := 0) (N := some 134) (v := ?_) (a' := ?_) #[true, false, false, false, false, false, false, false, false, false, false, false] rfl rfl (any_of HT_.out (by kernel_rfl)) (fun _ _ _ h => h) (Or.inl ⟨by rfl, ?_⟩) ?_ ?_
                          rotate_left
                          ·intro w'
                           go_simp
                           with_reducible rfl
                          rotate_left
                          ·simp only [Act.put, List.setIfInBounds_toArray, List.set_cons_zero, List.set_cons_succ, i64_w, i32_w]
                           rfl
                          refine pure_ (i := 2) (N := some 136) (v := ?_) (a' := ?_) #[true, false, true, false, false, false, false, false, false, false, false, false] rfl rfl (any_of HT_.out (by kernel_rfl)) (fun _ _ _ h => h) (Or.inl ⟨by rfl, ?_⟩) ?_ ?_
                          rotate_left
                          ·intro w'
                           go_simp
                           with_reducible rfl
                          rotate_left
                          ·simp only [Act.put, List.setIfInBounds_toArray, List.set_cons_zero, List.set_cons_succ, i64_w, i32_w]
                           rfl
                          refine pure_ (i := 4) (N := some 138) (v := ?_) (a' := ?_) #[true, false, true, false, true, false, false, false, false, false, false, false] rfl rfl (any_of HT_.out (by kernel_rfl)) (fun _ _ _ h => h) (Or.inl ⟨by rfl, ?_⟩) ?_ ?_
                          rotate_left
                          ·intro w'
                           go_simp
                           with_reducible rfl
                          rotate_left
                          ·simp only [Act.put, List.setIfInBounds_toArray, List.set_cons_zero, List.set_cons_succ, i64_w, i32_w]
                           rfl
                          refine take_ (i := 5) (N := some 139) (v := ?_) (a' := ?_) #[true, false, true, false, true, true, false, false, false, false, false, false] rfl rfl (take_ofW HT_.out HW_.out (by kernel_rfl)) (fun _ _ _ h => h) (Or.inl ⟨by rfl, ?_⟩) hHeld ?_ ?_
                          rotate_left
                          ·rintro w' ⟨s0, s1, s2, s3⟩
                           go_simp
                           with_reducible rfl
                          rotate_left
                          ·simp only [Act.put, List.setIfInBounds_toArray, List.set_cons_zero, List.set_cons_succ, i64_w, i32_w]
                           rfl
                          refine one_ (i := 1) (N := some 135) #[true, true, true, false, true, true, false, false, false, false, false, false] rfl rfl (one_of HT_.out (by kernel_rfl)) (by decide) (fun K hK => ?_)
                          refine goes_ Try.func13 (by kernel_rfl) rfl #[.slice (some ad454) l0.length c0] (by rfl) rfl rfl (by (try simp only [List.map_toArray, List.map_cons, List.map_nil]); first | done | rfl | (simp only [List.length_drop, List.length_take]; rfl)) ?_
                          with_reducible refine (api_Bond_13.calls _ _ l0 t458 _ ?side1 ?side2 A96.out).mono ?_
                          (case side1 => repeat (first | exact (Kd.C_below HR0.out HB.out) | (with_reducible refine Kd.C_alloc ?_ _) | (with_reducible refine Kd.C_drewN ?_ _) | (with_reducible refine Kd.C_drew ?_)))
                          (case side2 => exact HC0.out)
                          rintro e w102 ⟨v459, rfl, ho0, hb⟩
                          refine ⟨_, rfl, ?_⟩
                          have n0_ := Aside0.mk (Kd.R_below (by (with_reducible repeat (first | apply Kd.R_alloc | apply Kd.R_drewN | apply Kd.R_drew)); exact HO_7.out) hb)
                          have n1_ := Aside0.mk (Kd.R_below (by (with_reducible repeat (first | apply Kd.R_alloc | apply Kd.R_drewN | apply Kd.R_drew)); exact HO_117.out) hb)
                          have n2_ := Aside0.mk (Kd.R_lower (Kd.R_newB ho0 (g := gb455) (o := .cells #[.int .i64 ((rd_T31 l0 x113_5).f0), .int .i64 ((rd_T31 l0 x113_5).f1), .int .i64 ((rd_T31 l0 x113_5).f2), .int .i64 ((rd_T31 l0 x113_5).f3)] 31 (0, 0)) (by (with_reducible repeat (first | refine blk_drewN ?_ _ | refine blk_drew ?_ | refine blk_alloc ?_ _)); exact BK455.out)) (below_size (by repeat (first | (with_reducible first | exact HB.out | apply below_alloc | apply pw_below_drewN | apply below_drew1 | refine below_set ?_ GE415.out | refine below_set ?_ GE455.out) | exact HB.out))))
                          have n3_ := Aside0.mk (blk_below (g := gb415) (o := .cells #[.int .i64 ((rd_T49 l1 x44_2).f0), .int .i64 ((rd_T49 l1 x44_2).f1.f0), .int .i64 ((rd_T49 l1 x44_2).f1.f1), .int .i64 ((rd_T49 l1 x44_2).f1.f2), .int .i64 ((rd_T49 l1 x44_2).f2)] 49 (0, 0)) (by (with_reducible repeat (first | refine blk_drewN ?_ _ | refine blk_drew ?_ | refine blk_alloc ?_ _)); exact BK415.out) hb)
                          have n4_ := Aside0.mk (blk_below (g := gb455) (o := .cells #[.int .i64 ((rd_T31 l0 x113_5).f0), .int .i64 ((rd_T31 l0 x113_5).f1), .int .i64 ((rd_T31 l0 x113_5).f2), .int .i64 ((rd_T31 l0 x113_5).f3)] 31 (0, 0)) (by (with_reducible repeat (first | refine blk_drewN ?_ _ | refine blk_drew ?_ | refine blk_alloc ?_ _)); exact BK455.out) hb)
                          have n5_ := Aside0.mk (below_step (by repeat (first | (with_reducible first | exact HB.out | apply below_alloc | apply pw_below_drewN | apply below_drew1 | refine below_set ?_ GE415.out | refine below_set ?_ GE455.out) | exact HB.out)) hb)
                          clear HO_7
                          clear HO_117
                          clear BK415
                          clear BK455
                          clear HB
                          have HO_7 := n0_
                          have HO_117 := n1_
                          have HO460 := n2_
                          have BK415 := n3_
                          have BK455 := n4_
                          have HB := n5_
                          clear n0_ n1_ n2_ n3_ n4_ n5_
                          (try clear hb)
                          (try clear hb2)
                          (try clear hk)
                          (try clear hi)
                          (try clear ho0)
                          refine hK.out _ _ ⟨(blk_cell BK455.out 0).trans rfl, (blk_cell BK455.out 1).trans rfl, (blk_cell BK455.out 2).trans rfl, (blk_cell BK455.out 3).trans rfl⟩ (fun hHeld => ?_)
                          clear hK K
                          refine norm_ (a' := ?_) ?_ ?_
                          rotate_left
                          ·show Act.put _ (some 135) _ = _
                           simp only [Act.put, List.setIfInBounds_toArray, List.set_cons_zero, List.set_cons_succ, i64_w, i32_w]
                           rfl
                          refine one_ (i := 3) (N := some 137) #[true, true, true, true, true, true, false, false, false, false, false, false] rfl rfl (one_of HT_.out (by kernel_rfl)) (by decide) (fun K hK => ?_)
                          refine goes_ Try.func16 (by kernel_rfl) rfl #[.slice Ao67 x10_22.length co67] (by rfl) rfl rfl (by (try simp only [List.map_toArray, List.map_cons, List.map_nil]); first | done | rfl | (simp only [List.length_drop, List.length_take]; rfl)) ?_
                          with_reducible refine (api_Hold_16.calls _ _ x10_22 t461 _ ?side1 ?side2 A97.out).mono ?_
                          (case side1 => repeat (first | exact (Kd.R_reads' HO_7.out).2.2 | (with_reducible refine Kd.C_alloc ?_ _) | (with_reducible refine Kd.C_drewN ?_ _) | (with_reducible refine Kd.C_drew ?_)))
                          (case side2 => exact (Kd.R_reads' HO_7.out).2.1)
                          rintro e w103 ⟨v462, rfl, ho0, hb⟩
                          refine ⟨_, rfl, ?_⟩
                          have n0_ := Aside0.mk (Kd.R_elder' (by (with_reducible repeat (first | apply Kd.R_alloc | apply Kd.R_drewN | apply Kd.R_drew)); exact HO_7.out) (Kd.R_base ho0) hb)
                          have n1_ := Aside0.mk (Kd.R_elder' (by (with_reducible repeat (first | apply Kd.R_alloc | apply Kd.R_drewN | apply Kd.R_drew)); exact HO_117.out) (Kd.R_base ho0) hb)
                          have n2_ := Aside0.mk (Kd.R_below (by (with_reducible repeat (first | apply Kd.R_alloc | apply Kd.R_drewN | apply Kd.R_drew)); exact HO460.out) hb)
                          have n3_ := Aside0.mk (Kd.R_lower (Kd.R_new' (Kd.R_new' ho0 (Kd.R_lt (by (with_reducible repeat (first | apply Kd.R_alloc | apply Kd.R_drewN | apply Kd.R_drew)); exact HO_7.out))) (Kd.R_lt (by (with_reducible repeat (first | apply Kd.R_alloc | apply Kd.R_drewN | apply Kd.R_drew)); exact HO_117.out))) (below_size (by repeat (first | (with_reducible first | exact HB.out | apply below_alloc | apply pw_below_drewN | apply below_drew1 | refine below_set ?_ GE415.out | refine below_set ?_ GE455.out) | exact HB.out))))
                          have n4_ := Aside0.mk (blk_below (g := gb415) (o := .cells #[.int .i64 ((rd_T49 l1 x44_2).f0), .int .i64 ((rd_T49 l1 x44_2).f1.f0), .int .i64 ((rd_T49 l1 x44_2).f1.f1), .int .i64 ((rd_T49 l1 x44_2).f1.f2), .int .i64 ((rd_T49 l1 x44_2).f2)] 49 (0, 0)) (by (with_reducible repeat (first | refine blk_drewN ?_ _ | refine blk_drew ?_ | refine blk_alloc ?_ _)); exact BK415.out) hb)
                          have n5_ := Aside0.mk (blk_below (g := gb455) (o := .cells #[.int .i64 ((rd_T31 l0 x113_5).f0), .int .i64 ((rd_T31 l0 x113_5).f1), .int .i64 ((rd_T31 l0 x113_5).f2), .int .i64 ((rd_T31 l0 x113_5).f3)] 31 (0, 0)) (by (with_reducible repeat (first | refine blk_drewN ?_ _ | refine blk_drew ?_ | refine blk_alloc ?_ _)); exact BK455.out) hb)
                          have n6_ := Aside0.mk (below_step (by repeat (first | (with_reducible first | exact HB.out | apply below_alloc | apply pw_below_drewN | apply below_drew1 | refine below_set ?_ GE415.out | refine below_set ?_ GE455.out) | exact HB.out)) hb)
                          clear HO_7
                          clear HO_117
                          clear HO460
                          clear BK415
                          clear BK455
                          clear HB
                          have HO_7 := n0_
                          have HO_117 := n1_
                          have HO460 := n2_
                          have HO463 := n3_
                          have BK415 := n4_
                          have BK455 := n5_
                          have HB := n6_
                          clear n0_ n1_ n2_ n3_ n4_ n5_ n6_
                          (try clear hb)
                          (try clear hb2)
                          (try clear hk)
                          (try clear hi)
                          (try clear ho0)
                          obtain ⟨Ao104, co104, eo104⟩ := Kd.R_slice HO460.out
                          (first | subst eo104 | (injection eo104 with f1_ f2_ f3_; have f4_ := f1_.symm; have f5_ := f3_.symm; clear f1_ f2_ f3_; subst f4_; subst f5_))
                          obtain ⟨Ao105, co105, eo105⟩ := Kd.R_slice HO463.out
                          (first | subst eo105 | (injection eo105 with f1_ f2_ f3_; have f4_ := f1_.symm; have f5_ := f3_.symm; clear f1_ f2_ f3_; subst f4_; subst f5_))
                          refine hK.out _ _ ⟨(blk_cell BK455.out 0).trans rfl, (blk_cell BK455.out 1).trans rfl, (blk_cell BK455.out 2).trans rfl, (blk_cell BK455.out 3).trans rfl⟩ (fun hHeld => ?_)
                          clear hK K
                          refine norm_ (a' := ?_) ?_ ?_
                          rotate_left
                          ·show Act.put _ (some 137) _ = _
                           simp only [Act.put, List.setIfInBounds_toArray, List.set_cons_zero, List.set_cons_succ, i64_w, i32_w]
                           rfl
                          refine one_ (i := 6) (N := some 140) #[true, true, true, true, true, true, true, false, false, false, false, false] rfl rfl (one_of HT_.out (by kernel_rfl)) (by decide) (fun K hK => ?_)
                          refine goes_ Try.func18 (by kernel_rfl) rfl #[.slice Ao104 t458.length co104, .slice Ao105 t461.length co105, .int .i64 ((rd_T31 l0 x113_5).f0)] (by rfl) rfl rfl (by (try simp only [List.map_toArray, List.map_cons, List.map_nil]); first | done | rfl | (simp only [List.length_drop, List.length_take]; rfl)) ?_
                          with_reducible refine (bond_Free.calls k6 _ _ t458 _ _ t461 ((rd_T31 l0 x113_5).f0) t464 t465 _ ?side1 ?side2 ?side3 ?side4 A98.out).mono ?_
                          (case side1 => repeat (first | exact (Kd.R_reads' HO460.out).2.2 | (with_reducible refine Kd.C_alloc ?_ _) | (with_reducible refine Kd.C_drewN ?_ _) | (with_reducible refine Kd.C_drew ?_)))
                          (case side2 => exact (Kd.R_reads' HO460.out).2.1)
                          (case side3 => repeat (first | exact (Kd.R_reads' HO463.out).2.2 | (with_reducible refine Kd.C_alloc ?_ _) | (with_reducible refine Kd.C_drewN ?_ _) | (with_reducible refine Kd.C_drew ?_)))
                          (case side4 => exact (Kd.R_reads' HO463.out).2.1)
                          rintro e w106 ⟨rfl, hb⟩
                          refine ⟨_, rfl, ?_⟩
                          have n0_ := Aside0.mk (Kd.R_below (by (with_reducible repeat (first | apply Kd.R_alloc | apply Kd.R_drewN | apply Kd.R_drew)); exact HO_7.out) hb)
                          have n1_ := Aside0.mk (Kd.R_below (by (with_reducible repeat (first | apply Kd.R_alloc | apply Kd.R_drewN | apply Kd.R_drew)); exact HO_117.out) hb)
                          have n2_ := Aside0.mk (Kd.R_below (by (with_reducible repeat (first | apply Kd.R_alloc | apply Kd.R_drewN | apply Kd.R_drew)); exact HO460.out) hb)
                          have n3_ := Aside0.mk (Kd.R_below (by (with_reducible repeat (first | apply Kd.R_alloc | apply Kd.R_drewN | apply Kd.R_drew)); exact HO463.out) hb)
                          have n4_ := Aside0.mk (blk_below (g := gb415) (o := .cells #[.int .i64 ((rd_T49 l1 x44_2).f0), .int .i64 ((rd_T49 l1 x44_2).f1.f0), .int .i64 ((rd_T49 l1 x44_2).f1.f1), .int .i64 ((rd_T49 l1 x44_2).f1.f2), .int .i64 ((rd_T49 l1 x44_2).f2)] 49 (0, 0)) (by (with_reducible repeat (first | refine blk_drewN ?_ _ | refine blk_drew ?_ | refine blk_alloc ?_ _)); exact BK415.out) hb)
                          have n5_ := Aside0.mk (blk_below (g := gb455) (o := .cells #[.int .i64 ((rd_T31 l0 x113_5).f0), .int .i64 ((rd_T31 l0 x113_5).f1), .int .i64 ((rd_T31 l0 x113_5).f2), .int .i64 ((rd_T31 l0 x113_5).f3)] 31 (0, 0)) (by (with_reducible repeat (first | refine blk_drewN ?_ _ | refine blk_drew ?_ | refine blk_alloc ?_ _)); exact BK455.out) hb)
                          have n6_ := Aside0.mk (below_step (by repeat (first | (with_reducible first | exact HB.out | apply below_alloc | apply pw_below_drewN | apply below_drew1 | refine below_set ?_ GE415.out | refine below_set ?_ GE455.out) | exact HB.out)) hb)
                          clear HO_7
                          clear HO_117
                          clear HO460
                          clear HO463
                          clear BK415
                          clear BK455
                          clear HB
                          have HO_7 := n0_
                          have HO_117 := n1_
                          have HO460 := n2_
                          have HO463 := n3_
                          have BK415 := n4_
                          have BK455 := n5_
                          have HB := n6_
                          clear n0_ n1_ n2_ n3_ n4_ n5_ n6_
                          (try clear hb)
                          (try clear hb2)
                          (try clear hk)
                          (try clear hi)
                          refine hK.out _ _ ⟨(blk_cell BK455.out 0).trans rfl, (blk_cell BK455.out 1).trans rfl, (blk_cell BK455.out 2).trans rfl, (blk_cell BK455.out 3).trans rfl⟩ (fun hHeld => ?_)
                          clear hK K
                          refine norm_ (a' := ?_) ?_ ?_
                          rotate_left
                          ·show Act.put _ (some 140) _ = _
                           simp only [Act.put, List.setIfInBounds_toArray, List.set_cons_zero, List.set_cons_succ, i64_w, i32_w]
                           rfl
                          refine pure_ (i := 7) (N := some 133) (v := ?_) (a' := ?_) #[true, true, true, true, true, true, true, true, false, false, false, false] rfl rfl (any_of HT_.out (by kernel_rfl)) (fun _ _ _ h => h) (Or.inl ⟨by rfl, ?_⟩) ?_ ?_
                          rotate_left
                          ·intro w'
                           go_simp
                           with_reducible rfl
                          rotate_left
                          ·simp only [Act.put, List.setIfInBounds_toArray, List.set_cons_zero, List.set_cons_succ, i64_w, i32_w]
                           rfl
                          refine pure_ (i := 8) (N := some 141) (v := ?_) (a' := ?_) #[true, true, true, true, true, true, true, true, true, false, false, false] rfl rfl (any_of HT_.out (by kernel_rfl)) (fun _ _ _ h => h) (Or.inl ⟨by rfl, ?_⟩) ?_ ?_
                          rotate_left
                          ·intro w'
                           go_simp
                           with_reducible rfl
                          rotate_left
                          ·simp only [Act.put, List.setIfInBounds_toArray, List.set_cons_zero, List.set_cons_succ, i64_w, i32_w]
                           rfl
                          refine pure_ (i := 9) (N := some 142) (v := ?_) (a' := ?_) #[true, true, true, true, true, true, true, true, true, true, false, false] rfl rfl (any_of HT_.out (by kernel_rfl)) (fun _ _ _ h => h) (Or.inl ⟨by rfl, ?_⟩) ?_ ?_
                          rotate_left
                          ·intro w'
                           go_simp
                           with_reducible rfl
                          rotate_left
                          ·simp only [Act.put, List.setIfInBounds_toArray, List.set_cons_zero, List.set_cons_succ, i64_w, i32_w]
                           rfl
                          refine pure_ (i := 10) (N := some 19) (v := ?_) (a' := ?_) #[true, true, true, true, true, true, true, true, true, true, true, false] rfl rfl (any_of HT_.out (by kernel_rfl)) (fun _ _ _ h => h) (Or.inl ⟨by rfl, ?_⟩) ?_ ?_
                          rotate_left
                          ·intro w'
                           go_simp
                           with_reducible rfl
                          rotate_left
                          ·simp only [Act.put, List.setIfInBounds_toArray, List.set_cons_zero, List.set_cons_succ, i64_w, i32_w]
                           rfl
                          refine pure_ (i := 11) (N := some 20) (v := ?_) (a' := ?_) #[true, true, true, true, true, true, true, true, true, true, true, true] rfl rfl (any_of HT_.out (by kernel_rfl)) (fun _ _ _ h => h) (Or.inl ⟨by rfl, ?_⟩) ?_ ?_
                          rotate_left
                          ·intro w'
                           go_simp
                           with_reducible rfl
                          rotate_left
                          ·simp only [Act.put, List.setIfInBounds_toArray, List.set_cons_zero, List.set_cons_succ, i64_w, i32_w]
                           rfl
                          refine done_ (done_of HT_.out (by kernel_rfl)) ?_
                          have hnb107 := NB455_415.out
                          have hnc107 := NB415_455.out
                          have hcz108_0 : w106.cell? ⟨gb455, 0, none⟩ = some (.int .i64 ((rd_T31 l0 x113_5).f0)) := (blk_cell BK455.out 0).trans rfl
                          have hcz108_1 : w106.cell? ⟨gb455, 1, none⟩ = some (.int .i64 ((rd_T31 l0 x113_5).f1)) := (blk_cell BK455.out 1).trans rfl
                          have hcz108_2 : w106.cell? ⟨gb455, 2, none⟩ = some (.int .i64 ((rd_T31 l0 x113_5).f2)) := (blk_cell BK455.out 2).trans rfl
                          have hcz108_3 : w106.cell? ⟨gb455, 3, none⟩ = some (.int .i64 ((rd_T31 l0 x113_5).f3)) := (blk_cell BK455.out 3).trans rfl
                          have hfz108_0 := blk_frozen BK455.out 0
                          have hfz108_1 := blk_frozen BK455.out 1
                          have hfz108_2 := blk_frozen BK455.out 2
                          have hfz108_3 := blk_frozen BK455.out 3
                          try go_wp2
                          go_ret
                          exact ⟨by first | rfl | (simp [errW_none, errW_some] <;> rfl) | (simp [*, errW_none, errW_some] <;> rfl), by repeat (first | (with_reducible first | exact HB.out | apply below_alloc | apply pw_below_drewN | apply below_drew1 | refine below_set ?_ GE415.out | refine below_set ?_ GE455.out) | exact HB.out)⟩
                         ·rw [if_neg c100] at H
                          have c100b0 : decide (((rd_T31 l0 x113_5).f3) < x16_6) = false := decide_eq_false c100
                          clear c100
                          by_cases c109 : t464 = (wrap64 (((rd_T31 l0 x113_5).f3) - x16_6))
                          ·rw [if_pos c109] at H
                           have c109b0 : (t464 == (wrap64 (((rd_T31 l0 x113_5).f3) - x16_6))) = true := beq_iff_eq.mpr c109
                           have c109b1 : (t464 != (wrap64 (((rd_T31 l0 x113_5).f3) - x16_6))) = false := bne_eq_false_iff_eq.mpr c109
                           clear c109
                           have H' := Aside0.mk H
                           clear H
                           try go_wp2
                           have n0_ := Aside0.mk (Kd.R_drew HO_7.out)
                           have n1_ := Aside0.mk (Kd.R_drew HO_117.out)
                           have n2_ := Aside0.mk (blk_drew BK415.out)
                           have n3_ := Aside0.mk (blk_drew BK455.out)
                           have n4_ := Aside0.mk (below_drew1 HB.out)
                           clear HO_7
                           clear HO_117
                           clear BK415
                           clear BK455
                           clear HB
                           have HO_7 := n0_
                           have HO_117 := n1_
                           have BK415 := n2_
                           have BK455 := n3_
                           have HB := n4_
                           clear n0_ n1_ n2_ n3_ n4_
                           refine start_ (n := 12) (S := fun w' => w'.cell? ⟨gb455, 0, none⟩ = some (.int .i64 ((rd_T31 l0 x113_5).f0)) ∧ w'.cell? ⟨gb455, 1, none⟩ = some (.int .i64 ((rd_T31 l0 x113_5).f1)) ∧ w'.cell? ⟨gb455, 2, none⟩ = some (.int .i64 ((rd_T31 l0 x113_5).f2)) ∧ w'.cell? ⟨gb455, 3, none⟩ = some (.int .i64 ((rd_T31 l0 x113_5).f3))) (ds := []) #[false, false, false, false, false, false, false, false, false, false, false, false] (by kernel_rfl) rfl rfl ⟨(blk_cell BK455.out 0).trans rfl, (blk_cell BK455.out 1).trans rfl, (blk_cell BK455.out 2).trans rfl, (blk_cell BK455.out 3).trans rfl⟩ (fun hHeld => ?_); refine with_tabW spilelaw52_BondNever.tab35 spilelaw52_BondNever.bits35 (fun HT_ HW_ => ?_)
                           generalize wr.drew = w110 at HO_7 HO_117 BK415 BK455 HB hHeld ⊢
                           refine pure_ (i := 0) (N := some 134) (v := ?_) (a' := ?_) #[true, false, false, false, false, false, false, false, false, false, false, false] rfl rfl (any_of HT_.out (by kernel_rfl)) (fun _ _ _ h => h) (Or.inl ⟨by rfl, ?_⟩) ?_ ?_
                           rotate_left
                           ·intro w'
                            go_simp
                            with_reducible rfl
                           rotate_left
                           ·simp only [Act.put, List.setIfInBounds_toArray, List.set_cons_zero, List.set_cons_succ, i64_w, i32_w]
                            rfl
                           refine pure_ (i := 2) (N := some 136) (v := ?_) (a' := ?_) #[true, false, true, false, false, false, false, false, false, false, false, false] rfl rfl (any_of HT_.out (by kernel_rfl)) (fun _ _ _ h => h) (Or.inl ⟨by rfl, ?_⟩) ?_ ?_
                           rotate_left
                           ·intro w'
                            go_simp
                            with_reducible rfl
                           rotate_left
                           ·simp only [Act.put, List.setIfInBounds_toArray, List.set_cons_zero, List.set_cons_succ, i64_w, i32_w]
                            rfl
                           refine pure_ (i := 4) (N := some 138) (v := ?_) (a' := ?_) #[true, false, true, false, true, false, false, false, false, false, false, false] rfl rfl (any_of HT_.out (by kernel_rfl)) (fun _ _ _ h => h) (Or.inl ⟨by rfl, ?_⟩) ?_ ?_
                           rotate_left
                           ·intro w'
                            go_simp
                            with_reducible rfl
                           rotate_left
                           ·simp only [Act.put, List.setIfInBounds_toArray, List.set_cons_zero, List.set_cons_succ, i64_w, i32_w]
                            rfl
                           refine take_ (i := 5) (N := some 139) (v := ?_) (a' := ?_) #[true, false, true, false, true, true, false, false, false, false, false, false] rfl rfl (take_ofW HT_.out HW_.out (by kernel_rfl)) (fun _ _ _ h => h) (Or.inl ⟨by rfl, ?_⟩) hHeld ?_ ?_
                           rotate_left
                           ·rintro w' ⟨s0, s1, s2, s3⟩
                            go_simp
                            with_reducible rfl
                           rotate_left
                           ·simp only [Act.put, List.setIfInBounds_toArray, List.set_cons_zero, List.set_cons_succ, i64_w, i32_w]
                            rfl
                           refine one_ (i := 1) (N := some 135) #[true, true, true, false, true, true, false, false, false, false, false, false] rfl rfl (one_of HT_.out (by kernel_rfl)) (by decide) (fun K hK => ?_)
                           refine goes_ Try.func13 (by kernel_rfl) rfl #[.slice (some ad454) l0.length c0] (by rfl) rfl rfl (by (try simp only [List.map_toArray, List.map_cons, List.map_nil]); first | done | rfl | (simp only [List.length_drop, List.length_take]; rfl)) ?_
                           with_reducible refine (api_Bond_13.calls _ _ l0 t458 _ ?side1 ?side2 A96.out).mono ?_
                           (case side1 => repeat (first | exact (Kd.C_below HR0.out HB.out) | (with_reducible refine Kd.C_alloc ?_ _) | (with_reducible refine Kd.C_drewN ?_ _) | (with_reducible refine Kd.C_drew ?_)))
                           (case side2 => exact HC0.out)
                           rintro e w111 ⟨v459, rfl, ho0, hb⟩
                           refine ⟨_, rfl, ?_⟩
                           have n0_ := Aside0.mk (Kd.R_below (by (with_reducible repeat (first | apply Kd.R_alloc | apply Kd.R_drewN | apply Kd.R_drew)); exact HO_7.out) hb)
                           have n1_ := Aside0.mk (Kd.R_below (by (with_reducible repeat (first | apply Kd.R_alloc | apply Kd.R_drewN | apply Kd.R_drew)); exact HO_117.out) hb)
                           have n2_ := Aside0.mk (Kd.R_lower (Kd.R_newB ho0 (g := gb455) (o := .cells #[.int .i64 ((rd_T31 l0 x113_5).f0), .int .i64 ((rd_T31 l0 x113_5).f1), .int .i64 ((rd_T31 l0 x113_5).f2), .int .i64 ((rd_T31 l0 x113_5).f3)] 31 (0, 0)) (by (with_reducible repeat (first | refine blk_drewN ?_ _ | refine blk_drew ?_ | refine blk_alloc ?_ _)); exact BK455.out)) (below_size (by repeat (first | (with_reducible first | exact HB.out | apply below_alloc | apply pw_below_drewN | apply below_drew1 | refine below_set ?_ GE415.out | refine below_set ?_ GE455.out) | exact HB.out))))
                           have n3_ := Aside0.mk (blk_below (g := gb415) (o := .cells #[.int .i64 ((rd_T49 l1 x44_2).f0), .int .i64 ((rd_T49 l1 x44_2).f1.f0), .int .i64 ((rd_T49 l1 x44_2).f1.f1), .int .i64 ((rd_T49 l1 x44_2).f1.f2), .int .i64 ((rd_T49 l1 x44_2).f2)] 49 (0, 0)) (by (with_reducible repeat (first | refine blk_drewN ?_ _ | refine blk_drew ?_ | refine blk_alloc ?_ _)); exact BK415.out) hb)
                           have n4_ := Aside0.mk (blk_below (g := gb455) (o := .cells #[.int .i64 ((rd_T31 l0 x113_5).f0), .int .i64 ((rd_T31 l0 x113_5).f1), .int .i64 ((rd_T31 l0 x113_5).f2), .int .i64 ((rd_T31 l0 x113_5).f3)] 31 (0, 0)) (by (with_reducible repeat (first | refine blk_drewN ?_ _ | refine blk_drew ?_ | refine blk_alloc ?_ _)); exact BK455.out) hb)
                           have n5_ := Aside0.mk (below_step (by repeat (first | (with_reducible first | exact HB.out | apply below_alloc | apply pw_below_drewN | apply below_drew1 | refine below_set ?_ GE415.out | refine below_set ?_ GE455.out) | exact HB.out)) hb)
                           clear HO_7
                           clear HO_117
                           clear BK415
                           clear BK455
                           clear HB
                           have HO_7 := n0_
                           have HO_117 := n1_
                           have HO460 := n2_
                           have BK415 := n3_
                           have BK455 := n4_
                           have HB := n5_
                           clear n0_ n1_ n2_ n3_ n4_ n5_
                           (try clear hb)
                           (try clear hb2)
                           (try clear hk)
                           (try clear hi)
                           (try clear ho0)
                           refine hK.out _ _ ⟨(blk_cell BK455.out 0).trans rfl, (blk_cell BK455.out 1).trans rfl, (blk_cell BK455.out 2).trans rfl, (blk_cell BK455.out 3).trans rfl⟩ (fun hHeld => ?_)
                           clear hK K
                           refine norm_ (a' := ?_) ?_ ?_
                           rotate_left
                           ·show Act.put _ (some 135) _ = _
                            simp only [Act.put, List.setIfInBounds_toArray, List.set_cons_zero, List.set_cons_succ, i64_w, i32_w]
                            rfl
                           refine one_ (i := 3) (N := some 137) #[true, true, true, true, true, true, false, false, false, false, false, false] rfl rfl (one_of HT_.out (by kernel_rfl)) (by decide) (fun K hK => ?_)
                           refine goes_ Try.func16 (by kernel_rfl) rfl #[.slice Ao67 x10_22.length co67] (by rfl) rfl rfl (by (try simp only [List.map_toArray, List.map_cons, List.map_nil]); first | done | rfl | (simp only [List.length_drop, List.length_take]; rfl)) ?_
                           with_reducible refine (api_Hold_16.calls _ _ x10_22 t461 _ ?side1 ?side2 A97.out).mono ?_
                           (case side1 => repeat (first | exact (Kd.R_reads' HO_7.out).2.2 | (with_reducible refine Kd.C_alloc ?_ _) | (with_reducible refine Kd.C_drewN ?_ _) | (with_reducible refine Kd.C_drew ?_)))
                           (case side2 => exact (Kd.R_reads' HO_7.out).2.1)
                           rintro e w112 ⟨v462, rfl, ho0, hb⟩
                           refine ⟨_, rfl, ?_⟩
                           have n0_ := Aside0.mk (Kd.R_elder' (by (with_reducible repeat (first | apply Kd.R_alloc | apply Kd.R_drewN | apply Kd.R_drew)); exact HO_7.out) (Kd.R_base ho0) hb)
                           have n1_ := Aside0.mk (Kd.R_elder' (by (with_reducible repeat (first | apply Kd.R_alloc | apply Kd.R_drewN | apply Kd.R_drew)); exact HO_117.out) (Kd.R_base ho0) hb)
                           have n2_ := Aside0.mk (Kd.R_below (by (with_reducible repeat (first | apply Kd.R_alloc | apply Kd.R_drewN | apply Kd.R_drew)); exact HO460.out) hb)
                           have n3_ := Aside0.mk (Kd.R_lower (Kd.R_new' (Kd.R_new' ho0 (Kd.R_lt (by (with_reducible repeat (first | apply Kd.R_alloc | apply Kd.R_drewN | apply Kd.R_drew)); exact HO_7.out))) (Kd.R_lt (by (with_reducible repeat (first | apply Kd.R_alloc | apply Kd.R_drewN | apply Kd.R_drew)); exact HO_117.out))) (below_size (by repeat (first | (with_reducible first | exact HB.out | apply below_alloc | apply pw_below_drewN | apply below_drew1 | refine below_set ?_ GE415.out | refine below_set ?_ GE455.out) | exact HB.out))))
                           have n4_ := Aside0.mk (blk_below (g := gb415) (o := .cells #[.int .i64 ((rd_T49 l1 x44_2).f0), .int .i64 ((rd_T49 l1 x44_2).f1.f0), .int .i64 ((rd_T49 l1 x44_2).f1.f1), .int .i64 ((rd_T49 l1 x44_2).f1.f2), .int .i64 ((rd_T49 l1 x44_2).f2)] 49 (0, 0)) (by (with_reducible repeat (first | refine blk_drewN ?_ _ | refine blk_drew ?_ | refine blk_alloc ?_ _)); exact BK415.out) hb)
                           have n5_ := Aside0.mk (blk_below (g := gb455) (o := .cells #[.int .i64 ((rd_T31 l0 x113_5).f0), .int .i64 ((rd_T31 l0 x113_5).f1), .int .i64 ((rd_T31 l0 x113_5).f2), .int .i64 ((rd_T31 l0 x113_5).f3)] 31 (0, 0)) (by (with_reducible repeat (first | refine blk_drewN ?_ _ | refine blk_drew ?_ | refine blk_alloc ?_ _)); exact BK455.out) hb)
                           have n6_ := Aside0.mk (below_step (by repeat (first | (with_reducible first | exact HB.out | apply below_alloc | apply pw_below_drewN | apply below_drew1 | refine below_set ?_ GE415.out | refine below_set ?_ GE455.out) | exact HB.out)) hb)
                           clear HO_7
                           clear HO_117
                           clear HO460
                           clear BK415
                           clear BK455
                           clear HB
                           have HO_7 := n0_
                           have HO_117 := n1_
                           have HO460 := n2_
                           have HO463 := n3_
                           have BK415 := n4_
                           have BK455 := n5_
                           have HB := n6_
                           clear n0_ n1_ n2_ n3_ n4_ n5_ n6_
                           (try clear hb)
                           (try clear hb2)
                           (try clear hk)
                           (try clear hi)
                           (try clear ho0)
                           obtain ⟨Ao113, co113, eo113⟩ := Kd.R_slice HO460.out
                           (first | subst eo113 | (injection eo113 with f1_ f2_ f3_; have f4_ := f1_.symm; have f5_ := f3_.symm; clear f1_ f2_ f3_; subst f4_; subst f5_))
                           obtain ⟨Ao114, co114, eo114⟩ := Kd.R_slice HO463.out
                           (first | subst eo114 | (injection eo114 with f1_ f2_ f3_; have f4_ := f1_.symm; have f5_ := f3_.symm; clear f1_ f2_ f3_; subst f4_; subst f5_))
                           refine hK.out _ _ ⟨(blk_cell BK455.out 0).trans rfl, (blk_cell BK455.out 1).trans rfl, (blk_cell BK455.out 2).trans rfl, (blk_cell BK455.out 3).trans rfl⟩ (fun hHeld => ?_)
                           clear hK K
                           refine norm_ (a' := ?_) ?_ ?_
                           rotate_left
                           ·show Act.put _ (some 137) _ = _
                            simp only [Act.put, List.setIfInBounds_toArray, List.set_cons_zero, List.set_cons_succ, i64_w, i32_w]
                            rfl
                           refine one_ (i := 6) (N := some 140) #[true, true, true, true, true, true, true, false, false, false, false, false] rfl rfl (one_of HT_.out (by kernel_rfl)) (by decide) (fun K hK => ?_)
                           refine goes_ Try.func18 (by kernel_rfl) rfl #[.slice Ao113 t458.length co113, .slice Ao114 t461.length co114, .int .i64 ((rd_T31 l0 x113_5).f0)] (by rfl) rfl rfl (by (try simp only [List.map_toArray, List.map_cons, List.map_nil]); first | done | rfl | (simp only [List.length_drop, List.length_take]; rfl)) ?_
                           with_reducible refine (bond_Free.calls k6 _ _ t458 _ _ t461 ((rd_T31 l0 x113_5).f0) t464 t465 _ ?side1 ?side2 ?side3 ?side4 A98.out).mono ?_
                           (case side1 => repeat (first | exact (Kd.R_reads' HO460.out).2.2 | (with_reducible refine Kd.C_alloc ?_ _) | (with_reducible refine Kd.C_drewN ?_ _) | (with_reducible refine Kd.C_drew ?_)))
                           (case side2 => exact (Kd.R_reads' HO460.out).2.1)
                           (case side3 => repeat (first | exact (Kd.R_reads' HO463.out).2.2 | (with_reducible refine Kd.C_alloc ?_ _) | (with_reducible refine Kd.C_drewN ?_ _) | (with_reducible refine Kd.C_drew ?_)))
                           (case side4 => exact (Kd.R_reads' HO463.out).2.1)
                           rintro e w115 ⟨rfl, hb⟩
                           refine ⟨_, rfl, ?_⟩
                           have n0_ := Aside0.mk (Kd.R_below (by (with_reducible repeat (first | apply Kd.R_alloc | apply Kd.R_drewN | apply Kd.R_drew)); exact HO_7.out) hb)
                           have n1_ := Aside0.mk (Kd.R_below (by (with_reducible repeat (first | apply Kd.R_alloc | apply Kd.R_drewN | apply Kd.R_drew)); exact HO_117.out) hb)
                           have n2_ := Aside0.mk (Kd.R_below (by (with_reducible repeat (first | apply Kd.R_alloc | apply Kd.R_drewN | apply Kd.R_drew)); exact HO460.out) hb)
                           have n3_ := Aside0.mk (Kd.R_below (by (with_reducible repeat (first | apply Kd.R_alloc | apply Kd.R_drewN | apply Kd.R_drew)); exact HO463.out) hb)
                           have n4_ := Aside0.mk (blk_below (g := gb415) (o := .cells #[.int .i64 ((rd_T49 l1 x44_2).f0), .int .i64 ((rd_T49 l1 x44_2).f1.f0), .int .i64 ((rd_T49 l1 x44_2).f1.f1), .int .i64 ((rd_T49 l1 x44_2).f1.f2), .int .i64 ((rd_T49 l1 x44_2).f2)] 49 (0, 0)) (by (with_reducible repeat (first | refine blk_drewN ?_ _ | refine blk_drew ?_ | refine blk_alloc ?_ _)); exact BK415.out) hb)
                           have n5_ := Aside0.mk (blk_below (g := gb455) (o := .cells #[.int .i64 ((rd_T31 l0 x113_5).f0), .int .i64 ((rd_T31 l0 x113_5).f1), .int .i64 ((rd_T31 l0 x113_5).f2), .int .i64 ((rd_T31 l0 x113_5).f3)] 31 (0, 0)) (by (with_reducible repeat (first | refine blk_drewN ?_ _ | refine blk_drew ?_ | refine blk_alloc ?_ _)); exact BK455.out) hb)
                           have n6_ := Aside0.mk (below_step (by repeat (first | (with_reducible first | exact HB.out | apply below_alloc | apply pw_below_drewN | apply below_drew1 | refine below_set ?_ GE415.out | refine below_set ?_ GE455.out) | exact HB.out)) hb)
                           clear HO_7
                           clear HO_117
                           clear HO460
                           clear HO463
                           clear BK415
                           clear BK455
                           clear HB
                           have HO_7 := n0_
                           have HO_117 := n1_
                           have HO460 := n2_
                           have HO463 := n3_
                           have BK415 := n4_
                           have BK455 := n5_
                           have HB := n6_
                           clear n0_ n1_ n2_ n3_ n4_ n5_ n6_
                           (try clear hb)
                           (try clear hb2)
                           (try clear hk)
                           (try clear hi)
                           refine hK.out _ _ ⟨(blk_cell BK455.out 0).trans rfl, (blk_cell BK455.out 1).trans rfl, (blk_cell BK455.out 2).trans rfl, (blk_cell BK455.out 3).trans rfl⟩ (fun hHeld => ?_)
                           clear hK K
                           refine norm_ (a' := ?_) ?_ ?_
                           rotate_left
                           ·show Act.put _ (some 140) _ = _
                            simp only [Act.put, List.setIfInBounds_toArray, List.set_cons_zero, List.set_cons_succ, i64_w, i32_w]
                            rfl
                           refine pure_ (i := 7) (N := some 133) (v := ?_) (a' := ?_) #[true, true, true, true, true, true, true, true, false, false, false, false] rfl rfl (any_of HT_.out (by kernel_rfl)) (fun _ _ _ h => h) (Or.inl ⟨by rfl, ?_⟩) ?_ ?_
                           rotate_left
                           ·intro w'
                            go_simp
                            with_reducible rfl
                           rotate_left
                           ·simp only [Act.put, List.setIfInBounds_toArray, List.set_cons_zero, List.set_cons_succ, i64_w, i32_w]
                            rfl
                           refine pure_ (i := 8) (N := some 141) (v := ?_) (a' := ?_) #[true, true, true, true, true, true, true, true, true, false, false, false] rfl rfl (any_of HT_.out (by kernel_rfl)) (fun _ _ _ h => h) (Or.inl ⟨by rfl, ?_⟩) ?_ ?_
                           rotate_left
                           ·intro w'
                            go_simp
                            with_reducible rfl
                           rotate_left
                           ·simp only [Act.put, List.setIfInBounds_toArray, List.set_cons_zero, List.set_cons_succ, i64_w, i32_w]
                            rfl
                           refine pure_ (i := 9) (N := some 142) (v := ?_) (a' := ?_) #[true, true, true, true, true, true, true, true, true, true, false, false] rfl rfl (any_of HT_.out (by kernel_rfl)) (fun _ _ _ h => h) (Or.inl ⟨by rfl, ?_⟩) ?_ ?_
                           rotate_left
                           ·intro w'
                            go_simp
                            with_reducible rfl
                           rotate_left
                           ·simp only [Act.put, List.setIfInBounds_toArray, List.set_cons_zero, List.set_cons_succ, i64_w, i32_w]
                            rfl
                           refine pure_ (i := 10) (N := some 19) (v := ?_) (a' := ?_) #[true, true, true, true, true, true, true, true, true, true, true, false] rfl rfl (any_of HT_.out (by kernel_rfl)) (fun _ _ _ h => h) (Or.inl ⟨by rfl, ?_⟩) ?_ ?_
                           rotate_left
                           ·intro w'
                            go_simp
                            with_reducible rfl
                           rotate_left
                           ·simp only [Act.put, List.setIfInBounds_toArray, List.set_cons_zero, List.set_cons_succ, i64_w, i32_w]
                            rfl
                           refine pure_ (i := 11) (N := some 20) (v := ?_) (a' := ?_) #[true, true, true, true, true, true, true, true, true, true, true, true] rfl rfl (any_of HT_.out (by kernel_rfl)) (fun _ _ _ h => h) (Or.inl ⟨by rfl, ?_⟩) ?_ ?_
                           rotate_left
                           ·intro w'
                            go_simp
                            with_reducible rfl
                           rotate_left
                           ·simp only [Act.put, List.setIfInBounds_toArray, List.set_cons_zero, List.set_cons_succ, i64_w, i32_w]
                            rfl
                           refine done_ (done_of HT_.out (by kernel_rfl)) ?_
                           have hnb116 := NB455_415.out
                           have hnc116 := NB415_455.out
                           have hcz117_0 : w115.cell? ⟨gb455, 0, none⟩ = some (.int .i64 ((rd_T31 l0 x113_5).f0)) := (blk_cell BK455.out 0).trans rfl
                           have hcz117_1 : w115.cell? ⟨gb455, 1, none⟩ = some (.int .i64 ((rd_T31 l0 x113_5).f1)) := (blk_cell BK455.out 1).trans rfl
                           have hcz117_2 : w115.cell? ⟨gb455, 2, none⟩ = some (.int .i64 ((rd_T31 l0 x113_5).f2)) := (blk_cell BK455.out 2).trans rfl
                           have hcz117_3 : w115.cell? ⟨gb455, 3, none⟩ = some (.int .i64 ((rd_T31 l0 x113_5).f3)) := (blk_cell BK455.out 3).trans rfl
                           have hfz117_0 := blk_frozen BK455.out 0
                           have hfz117_1 := blk_frozen BK455.out 1
                           have hfz117_2 := blk_frozen BK455.out 2
                           have hfz117_3 := blk_frozen BK455.out 3
                           try go_wp2
                           go_roundg k6
                           case measure => have := HJ2.out; have := HK2.out; have := HJ22.out; have := HJ64.out; have := HK5.out; have := HK6.out; omega
                           case rel => exact ⟨(wrap64 (x113_5 + 1)), (by first | rfl | (simp; done) | (simp [*]; done)), H', ⟨by have := HJ2.out; have := HK2.out; have := HJ22.out; have := HJ64.out; have := HK5.out; have := HK6.out; omega⟩, ⟨by (with_reducible repeat (first | apply Kd.R_alloc | apply Kd.R_drewN | apply Kd.R_drew)); exact Kd.R_mono HO_7.out (fun _ hk => trivial)⟩, ⟨by (with_reducible repeat (first | refine blk_drewN ?_ _ | refine blk_drew ?_ | refine blk_alloc ?_ _)); exact BK415.out⟩, ⟨by repeat (first | (with_reducible first | exact HB.out | apply below_alloc | apply pw_below_drewN | apply below_drew1 | refine below_set ?_ GE415.out | refine below_set ?_ GE455.out) | exact HB.out)⟩⟩
                          ·rw [if_neg c109] at H
                           have c109b0 : (t464 == (wrap64 (((rd_T31 l0 x113_5).f3) - x16_6))) = false := beq_eq_false_iff_ne.mpr c109
                           have c109b1 : (t464 != (wrap64 (((rd_T31 l0 x113_5).f3) - x16_6))) = true := bne_iff_ne.mpr c109
                           obtain rfl := Option.some.inj H
                           try go_wp2
                           have n0_ := Aside0.mk (Kd.R_drew HO_7.out)
                           have n1_ := Aside0.mk (Kd.R_drew HO_117.out)
                           have n2_ := Aside0.mk (blk_drew BK415.out)
                           have n3_ := Aside0.mk (blk_drew BK455.out)
                           have n4_ := Aside0.mk (below_drew1 HB.out)
                           clear HO_7
                           clear HO_117
                           clear BK415
                           clear BK455
                           clear HB
                           have HO_7 := n0_
                           have HO_117 := n1_
                           have BK415 := n2_
                           have BK455 := n3_
                           have HB := n4_
                           clear n0_ n1_ n2_ n3_ n4_
                           refine start_ (n := 12) (S := fun w' => w'.cell? ⟨gb455, 0, none⟩ = some (.int .i64 ((rd_T31 l0 x113_5).f0)) ∧ w'.cell? ⟨gb455, 1, none⟩ = some (.int .i64 ((rd_T31 l0 x113_5).f1)) ∧ w'.cell? ⟨gb455, 2, none⟩ = some (.int .i64 ((rd_T31 l0 x113_5).f2)) ∧ w'.cell? ⟨gb455, 3, none⟩ = some (.int .i64 ((rd_T31 l0 x113_5).f3))) (ds := []) #[false, false, false, false, false, false, false, false, false, false, false, false] (by kernel_rfl) rfl rfl ⟨(blk_cell BK455.out 0).trans rfl, (blk_cell BK455.out 1).trans rfl, (blk_cell BK455.out 2).trans rfl, (blk_cell BK455.out 3).trans rfl⟩ (fun hHeld => ?_); refine with_tabW spilelaw52_BondNever.tab35 spilelaw52_BondNever.bits35 (fun HT_ HW_ => ?_)
                           generalize wr.drew = w118 at HO_7 HO_117 BK415 BK455 HB hHeld ⊢
                           refine pure_ (i := 0) (N := some 134) (v := ?_) (a' := ?_) #[true, false, false, false, false, false, false, false, false, false, false, false] rfl rfl (any_of HT_.out (by kernel_rfl)) (fun _ _ _ h => h) (Or.inl ⟨by rfl, ?_⟩) ?_ ?_
                           rotate_left
                           ·intro w'
                            go_simp
                            with_reducible rfl
                           rotate_left
                           ·simp only [Act.put, List.setIfInBounds_toArray, List.set_cons_zero, List.set_cons_succ, i64_w, i32_w]
                            rfl
                           refine pure_ (i := 2) (N := some 136) (v := ?_) (a' := ?_) #[true, false, true, false, false, false, false, false, false, false, false, false] rfl rfl (any_of HT_.out (by kernel_rfl)) (fun _ _ _ h => h) (Or.inl ⟨by rfl, ?_⟩) ?_ ?_
                           rotate_left
                           ·intro w'
                            go_simp
                            with_reducible rfl
                           rotate_left
                           ·simp only [Act.put, List.setIfInBounds_toArray, List.set_cons_zero, List.set_cons_succ, i64_w, i32_w]
                            rfl
                           refine pure_ (i := 4) (N := some 138) (v := ?_) (a' := ?_) #[true, false, true, false, true, false, false, false, false, false, false, false] rfl rfl (any_of HT_.out (by kernel_rfl)) (fun _ _ _ h => h) (Or.inl ⟨by rfl, ?_⟩) ?_ ?_
                           rotate_left
                           ·intro w'
                            go_simp
                            with_reducible rfl
                           rotate_left
                           ·simp only [Act.put, List.setIfInBounds_toArray, List.set_cons_zero, List.set_cons_succ, i64_w, i32_w]
                            rfl
                           refine take_ (i := 5) (N := some 139) (v := ?_) (a' := ?_) #[true, false, true, false, true, true, false, false, false, false, false, false] rfl rfl (take_ofW HT_.out HW_.out (by kernel_rfl)) (fun _ _ _ h => h) (Or.inl ⟨by rfl, ?_⟩) hHeld ?_ ?_
                           rotate_left
                           ·rintro w' ⟨s0, s1, s2, s3⟩
                            go_simp
                            with_reducible rfl
                           rotate_left
                           ·simp only [Act.put, List.setIfInBounds_toArray, List.set_cons_zero, List.set_cons_succ, i64_w, i32_w]
                            rfl
                           refine one_ (i := 1) (N := some 135) #[true, true, true, false, true, true, false, false, false, false, false, false] rfl rfl (one_of HT_.out (by kernel_rfl)) (by decide) (fun K hK => ?_)
                           refine goes_ Try.func13 (by kernel_rfl) rfl #[.slice (some ad454) l0.length c0] (by rfl) rfl rfl (by (try simp only [List.map_toArray, List.map_cons, List.map_nil]); first | done | rfl | (simp only [List.length_drop, List.length_take]; rfl)) ?_
                           with_reducible refine (api_Bond_13.calls _ _ l0 t458 _ ?side1 ?side2 A96.out).mono ?_
                           (case side1 => repeat (first | exact (Kd.C_below HR0.out HB.out) | (with_reducible refine Kd.C_alloc ?_ _) | (with_reducible refine Kd.C_drewN ?_ _) | (with_reducible refine Kd.C_drew ?_)))
                           (case side2 => exact HC0.out)
                           rintro e w119 ⟨v459, rfl, ho0, hb⟩
                           refine ⟨_, rfl, ?_⟩
                           have n0_ := Aside0.mk (Kd.R_below (by (with_reducible repeat (first | apply Kd.R_alloc | apply Kd.R_drewN | apply Kd.R_drew)); exact HO_7.out) hb)
                           have n1_ := Aside0.mk (Kd.R_below (by (with_reducible repeat (first | apply Kd.R_alloc | apply Kd.R_drewN | apply Kd.R_drew)); exact HO_117.out) hb)
                           have n2_ := Aside0.mk (Kd.R_lower (Kd.R_newB ho0 (g := gb455) (o := .cells #[.int .i64 ((rd_T31 l0 x113_5).f0), .int .i64 ((rd_T31 l0 x113_5).f1), .int .i64 ((rd_T31 l0 x113_5).f2), .int .i64 ((rd_T31 l0 x113_5).f3)] 31 (0, 0)) (by (with_reducible repeat (first | refine blk_drewN ?_ _ | refine blk_drew ?_ | refine blk_alloc ?_ _)); exact BK455.out)) (below_size (by repeat (first | (with_reducible first | exact HB.out | apply below_alloc | apply pw_below_drewN | apply below_drew1 | refine below_set ?_ GE415.out | refine below_set ?_ GE455.out) | exact HB.out))))
                           have n3_ := Aside0.mk (blk_below (g := gb415) (o := .cells #[.int .i64 ((rd_T49 l1 x44_2).f0), .int .i64 ((rd_T49 l1 x44_2).f1.f0), .int .i64 ((rd_T49 l1 x44_2).f1.f1), .int .i64 ((rd_T49 l1 x44_2).f1.f2), .int .i64 ((rd_T49 l1 x44_2).f2)] 49 (0, 0)) (by (with_reducible repeat (first | refine blk_drewN ?_ _ | refine blk_drew ?_ | refine blk_alloc ?_ _)); exact BK415.out) hb)
                           have n4_ := Aside0.mk (blk_below (g := gb455) (o := .cells #[.int .i64 ((rd_T31 l0 x113_5).f0), .int .i64 ((rd_T31 l0 x113_5).f1), .int .i64 ((rd_T31 l0 x113_5).f2), .int .i64 ((rd_T31 l0 x113_5).f3)] 31 (0, 0)) (by (with_reducible repeat (first | refine blk_drewN ?_ _ | refine blk_drew ?_ | refine blk_alloc ?_ _)); exact BK455.out) hb)
                           have n5_ := Aside0.mk (below_step (by repeat (first | (with_reducible first | exact HB.out | apply below_alloc | apply pw_below_drewN | apply below_drew1 | refine below_set ?_ GE415.out | refine below_set ?_ GE455.out) | exact HB.out)) hb)
                           clear HO_7
                           clear HO_117
                           clear BK415
                           clear BK455
                           clear HB
                           have HO_7 := n0_
                           have HO_117 := n1_
                           have HO460 := n2_
                           have BK415 := n3_
                           have BK455 := n4_
                           have HB := n5_
                           clear n0_ n1_ n2_ n3_ n4_ n5_
                           (try clear hb)
                           (try clear hb2)
                           (try clear hk)
                           (try clear hi)
                           (try clear ho0)
                           refine hK.out _ _ ⟨(blk_cell BK455.out 0).trans rfl, (blk_cell BK455.out 1).trans rfl, (blk_cell BK455.out 2).trans rfl, (blk_cell BK455.out 3).trans rfl⟩ (fun hHeld => ?_)
                           clear hK K
                           refine norm_ (a' := ?_) ?_ ?_
                           rotate_left
                           ·show Act.put _ (some 135) _ = _
                            simp only [Act.put, List.setIfInBounds_toArray, List.set_cons_zero, List.set_cons_succ, i64_w, i32_w]
                            rfl
                           refine one_ (i := 3) (N := some 137) #[true, true, true, true, true, true, false, false, false, false, false, false] rfl rfl (one_of HT_.out (by kernel_rfl)) (by decide) (fun K hK => ?_)
                           refine goes_ Try.func16 (by kernel_rfl) rfl #[.slice Ao67 x10_22.length co67] (by rfl) rfl rfl (by (try simp only [List.map_toArray, List.map_cons, List.map_nil]); first | done | rfl | (simp only [List.length_drop, List.length_take]; rfl)) ?_
                           with_reducible refine (api_Hold_16.calls _ _ x10_22 t461 _ ?side1 ?side2 A97.out).mono ?_
                           (case side1 => repeat (first | exact (Kd.R_reads' HO_7.out).2.2 | (with_reducible refine Kd.C_alloc ?_ _) | (with_reducible refine Kd.C_drewN ?_ _) | (with_reducible refine Kd.C_drew ?_)))
                           (case side2 => exact (Kd.R_reads' HO_7.out).2.1)
                           rintro e w120 ⟨v462, rfl, ho0, hb⟩
                           refine ⟨_, rfl, ?_⟩
                           have n0_ := Aside0.mk (Kd.R_elder' (by (with_reducible repeat (first | apply Kd.R_alloc | apply Kd.R_drewN | apply Kd.R_drew)); exact HO_7.out) (Kd.R_base ho0) hb)
                           have n1_ := Aside0.mk (Kd.R_elder' (by (with_reducible repeat (first | apply Kd.R_alloc | apply Kd.R_drewN | apply Kd.R_drew)); exact HO_117.out) (Kd.R_base ho0) hb)
                           have n2_ := Aside0.mk (Kd.R_below (by (with_reducible repeat (first | apply Kd.R_alloc | apply Kd.R_drewN | apply Kd.R_drew)); exact HO460.out) hb)
                           have n3_ := Aside0.mk (Kd.R_lower (Kd.R_new' (Kd.R_new' ho0 (Kd.R_lt (by (with_reducible repeat (first | apply Kd.R_alloc | apply Kd.R_drewN | apply Kd.R_drew)); exact HO_7.out))) (Kd.R_lt (by (with_reducible repeat (first | apply Kd.R_alloc | apply Kd.R_drewN | apply Kd.R_drew)); exact HO_117.out))) (below_size (by repeat (first | (with_reducible first | exact HB.out | apply below_alloc | apply pw_below_drewN | apply below_drew1 | refine below_set ?_ GE415.out | refine below_set ?_ GE455.out) | exact HB.out))))
                           have n4_ := Aside0.mk (blk_below (g := gb415) (o := .cells #[.int .i64 ((rd_T49 l1 x44_2).f0), .int .i64 ((rd_T49 l1 x44_2).f1.f0), .int .i64 ((rd_T49 l1 x44_2).f1.f1), .int .i64 ((rd_T49 l1 x44_2).f1.f2), .int .i64 ((rd_T49 l1 x44_2).f2)] 49 (0, 0)) (by (with_reducible repeat (first | refine blk_drewN ?_ _ | refine blk_drew ?_ | refine blk_alloc ?_ _)); exact BK415.out) hb)
                           have n5_ := Aside0.mk (blk_below (g := gb455) (o := .cells #[.int .i64 ((rd_T31 l0 x113_5).f0), .int .i64 ((rd_T31 l0 x113_5).f1), .int .i64 ((rd_T31 l0 x113_5).f2), .int .i64 ((rd_T31 l0 x113_5).f3)] 31 (0, 0)) (by (with_reducible repeat (first | refine blk_drewN ?_ _ | refine blk_drew ?_ | refine blk_alloc ?_ _)); exact BK455.out) hb)
                           have n6_ := Aside0.mk (below_step (by repeat (first | (with_reducible first | exact HB.out | apply below_alloc | apply pw_below_drewN | apply below_drew1 | refine below_set ?_ GE415.out | refine below_set ?_ GE455.out) | exact HB.out)) hb)
                           clear HO_7
                           clear HO_117
                           clear HO460
                           clear BK415
                           clear BK455
                           clear HB
                           have HO_7 := n0_
                           have HO_117 := n1_
                           have HO460 := n2_
                           have HO463 := n3_
                           have BK415 := n4_
                           have BK455 := n5_
                           have HB := n6_
                           clear n0_ n1_ n2_ n3_ n4_ n5_ n6_
                           (try clear hb)
                           (try clear hb2)
                           (try clear hk)
                           (try clear hi)
                           (try clear ho0)
                           obtain ⟨Ao121, co121, eo121⟩ := Kd.R_slice HO460.out
                           (first | subst eo121 | (injection eo121 with f1_ f2_ f3_; have f4_ := f1_.symm; have f5_ := f3_.symm; clear f1_ f2_ f3_; subst f4_; subst f5_))
                           obtain ⟨Ao122, co122, eo122⟩ := Kd.R_slice HO463.out
                           (first | subst eo122 | (injection eo122 with f1_ f2_ f3_; have f4_ := f1_.symm; have f5_ := f3_.symm; clear f1_ f2_ f3_; subst f4_; subst f5_))
                           refine hK.out _ _ ⟨(blk_cell BK455.out 0).trans rfl, (blk_cell BK455.out 1).trans rfl, (blk_cell BK455.out 2).trans rfl, (blk_cell BK455.out 3).trans rfl⟩ (fun hHeld => ?_)
                           clear hK K
                           refine norm_ (a' := ?_) ?_ ?_
                           rotate_left
                           ·show Act.put _ (some 137) _ = _
                            simp only [Act.put, List.setIfInBounds_toArray, List.set_cons_zero, List.set_cons_succ, i64_w, i32_w]
                            rfl
                           refine one_ (i := 6) (N := some 140) #[true, true, true, true, true, true, true, false, false, false, false, false] rfl rfl (one_of HT_.out (by kernel_rfl)) (by decide) (fun K hK => ?_)
                           refine goes_ Try.func18 (by kernel_rfl) rfl #[.slice Ao121 t458.length co121, .slice Ao122 t461.length co122, .int .i64 ((rd_T31 l0 x113_5).f0)] (by rfl) rfl rfl (by (try simp only [List.map_toArray, List.map_cons, List.map_nil]); first | done | rfl | (simp only [List.length_drop, List.length_take]; rfl)) ?_
                           with_reducible refine (bond_Free.calls k6 _ _ t458 _ _ t461 ((rd_T31 l0 x113_5).f0) t464 t465 _ ?side1 ?side2 ?side3 ?side4 A98.out).mono ?_
                           (case side1 => repeat (first | exact (Kd.R_reads' HO460.out).2.2 | (with_reducible refine Kd.C_alloc ?_ _) | (with_reducible refine Kd.C_drewN ?_ _) | (with_reducible refine Kd.C_drew ?_)))
                           (case side2 => exact (Kd.R_reads' HO460.out).2.1)
                           (case side3 => repeat (first | exact (Kd.R_reads' HO463.out).2.2 | (with_reducible refine Kd.C_alloc ?_ _) | (with_reducible refine Kd.C_drewN ?_ _) | (with_reducible refine Kd.C_drew ?_)))
                           (case side4 => exact (Kd.R_reads' HO463.out).2.1)
                           rintro e w123 ⟨rfl, hb⟩
                           refine ⟨_, rfl, ?_⟩
                           have n0_ := Aside0.mk (Kd.R_below (by (with_reducible repeat (first | apply Kd.R_alloc | apply Kd.R_drewN | apply Kd.R_drew)); exact HO_7.out) hb)
                           have n1_ := Aside0.mk (Kd.R_below (by (with_reducible repeat (first | apply Kd.R_alloc | apply Kd.R_drewN | apply Kd.R_drew)); exact HO_117.out) hb)
                           have n2_ := Aside0.mk (Kd.R_below (by (with_reducible repeat (first | apply Kd.R_alloc | apply Kd.R_drewN | apply Kd.R_drew)); exact HO460.out) hb)
                           have n3_ := Aside0.mk (Kd.R_below (by (with_reducible repeat (first | apply Kd.R_alloc | apply Kd.R_drewN | apply Kd.R_drew)); exact HO463.out) hb)
                           have n4_ := Aside0.mk (blk_below (g := gb415) (o := .cells #[.int .i64 ((rd_T49 l1 x44_2).f0), .int .i64 ((rd_T49 l1 x44_2).f1.f0), .int .i64 ((rd_T49 l1 x44_2).f1.f1), .int .i64 ((rd_T49 l1 x44_2).f1.f2), .int .i64 ((rd_T49 l1 x44_2).f2)] 49 (0, 0)) (by (with_reducible repeat (first | refine blk_drewN ?_ _ | refine blk_drew ?_ | refine blk_alloc ?_ _)); exact BK415.out) hb)
                           have n5_ := Aside0.mk (blk_below (g := gb455) (o := .cells #[.int .i64 ((rd_T31 l0 x113_5).f0), .int .i64 ((rd_T31 l0 x113_5).f1), .int .i64 ((rd_T31 l0 x113_5).f2), .int .i64 ((rd_T31 l0 x113_5).f3)] 31 (0, 0)) (by (with_reducible repeat (first | refine blk_drewN ?_ _ | refine blk_drew ?_ | refine blk_alloc ?_ _)); exact BK455.out) hb)
                           have n6_ := Aside0.mk (below_step (by repeat (first | (with_reducible first | exact HB.out | apply below_alloc | apply pw_below_drewN | apply below_drew1 | refine below_set ?_ GE415.out | refine below_set ?_ GE455.out) | exact HB.out)) hb)
                           clear HO_7
                           clear HO_117
                           clear HO460
                           clear HO463
                           clear BK415
                           clear BK455
                           clear HB
                           have HO_7 := n0_
                           have HO_117 := n1_
                           have HO460 := n2_
                           have HO463 := n3_
                           have BK415 := n4_
                           have BK455 := n5_
                           have HB := n6_
                           clear n0_ n1_ n2_ n3_ n4_ n5_ n6_
                           (try clear hb)
                           (try clear hb2)
                           (try clear hk)
                           (try clear hi)
                           refine hK.out _ _ ⟨(blk_cell BK455.out 0).trans rfl, (blk_cell BK455.out 1).trans rfl, (blk_cell BK455.out 2).trans rfl, (blk_cell BK455.out 3).trans rfl⟩ (fun hHeld => ?_)
                           clear hK K
                           refine norm_ (a' := ?_) ?_ ?_
                           rotate_left
                           ·show Act.put _ (some 140) _ = _
                            simp only [Act.put, List.setIfInBounds_toArray, List.set_cons_zero, List.set_cons_succ, i64_w, i32_w]
                            rfl
                           refine pure_ (i := 7) (N := some 133) (v := ?_) (a' := ?_) #[true, true, true, true, true, true, true, true, false, false, false, false] rfl rfl (any_of HT_.out (by kernel_rfl)) (fun _ _ _ h => h) (Or.inl ⟨by rfl, ?_⟩) ?_ ?_
                           rotate_left
                           ·intro w'
                            go_simp
                            with_reducible rfl
                           rotate_left
                           ·simp only [Act.put, List.setIfInBounds_toArray, List.set_cons_zero, List.set_cons_succ, i64_w, i32_w]
                            rfl
                           refine pure_ (i := 8) (N := some 141) (v := ?_) (a' := ?_) #[true, true, true, true, true, true, true, true, true, false, false, false] rfl rfl (any_of HT_.out (by kernel_rfl)) (fun _ _ _ h => h) (Or.inl ⟨by rfl, ?_⟩) ?_ ?_
                           rotate_left
                           ·intro w'
                            go_simp
                            with_reducible rfl
                           rotate_left
                           ·simp only [Act.put, List.setIfInBounds_toArray, List.set_cons_zero, List.set_cons_succ, i64_w, i32_w]
                            rfl
                           refine pure_ (i := 9) (N := some 142) (v := ?_) (a' := ?_) #[true, true, true, true, true, true, true, true, true, true, false, false] rfl rfl (any_of HT_.out (by kernel_rfl)) (fun _ _ _ h => h) (Or.inl ⟨by rfl, ?_⟩) ?_ ?_
                           rotate_left
                           ·intro w'
                            go_simp
                            with_reducible rfl
                           rotate_left
                           ·simp only [Act.put, List.setIfInBounds_toArray, List.set_cons_zero, List.set_cons_succ, i64_w, i32_w]
                            rfl
                           refine pure_ (i := 10) (N := some 19) (v := ?_) (a' := ?_) #[true, true, true, true, true, true, true, true, true, true, true, false] rfl rfl (any_of HT_.out (by kernel_rfl)) (fun _ _ _ h => h) (Or.inl ⟨by rfl, ?_⟩) ?_ ?_
                           rotate_left
                           ·intro w'
                            go_simp
                            with_reducible rfl
                           rotate_left
                           ·simp only [Act.put, List.setIfInBounds_toArray, List.set_cons_zero, List.set_cons_succ, i64_w, i32_w]
                            rfl
                           refine pure_ (i := 11) (N := some 20) (v := ?_) (a' := ?_) #[true, true, true, true, true, true, true, true, true, true, true, true] rfl rfl (any_of HT_.out (by kernel_rfl)) (fun _ _ _ h => h) (Or.inl ⟨by rfl, ?_⟩) ?_ ?_
                           rotate_left
                           ·intro w'
                            go_simp
                            with_reducible rfl
                           rotate_left
                           ·simp only [Act.put, List.setIfInBounds_toArray, List.set_cons_zero, List.set_cons_succ, i64_w, i32_w]
                            rfl
                           refine done_ (done_of HT_.out (by kernel_rfl)) ?_
                           have hnb124 := NB455_415.out
                           have hnc124 := NB415_455.out
                           have hcz125_0 : w123.cell? ⟨gb455, 0, none⟩ = some (.int .i64 ((rd_T31 l0 x113_5).f0)) := (blk_cell BK455.out 0).trans rfl
                           have hcz125_1 : w123.cell? ⟨gb455, 1, none⟩ = some (.int .i64 ((rd_T31 l0 x113_5).f1)) := (blk_cell BK455.out 1).trans rfl
                           have hcz125_2 : w123.cell? ⟨gb455, 2, none⟩ = some (.int .i64 ((rd_T31 l0 x113_5).f2)) := (blk_cell BK455.out 2).trans rfl
                           have hcz125_3 : w123.cell? ⟨gb455, 3, none⟩ = some (.int .i64 ((rd_T31 l0 x113_5).f3)) := (blk_cell BK455.out 3).trans rfl
                           have hfz125_0 := blk_frozen BK455.out 0
                           have hfz125_1 := blk_frozen BK455.out 1
                           have hfz125_2 := blk_frozen BK455.out 2
                           have hfz125_3 := blk_frozen BK455.out 3
                           try go_wp2
                           go_ret
                           exact ⟨by first | rfl | (simp [errW_none, errW_some] <;> rfl) | (simp [*, errW_none, errW_some] <;> rfl), by repeat (first | (with_reducible first | exact HB.out | apply below_alloc | apply pw_below_drewN | apply below_drew1 | refine below_set ?_ GE415.out | refine below_set ?_ GE455.out) | exact HB.out)⟩
                        ·rw [if_neg c99] at H
                         have c99b0 : (t465 == 0) = false := beq_eq_false_iff_ne.mpr c99
                         have c99b1 : (t465 != 0) = true := bne_iff_ne.mpr c99
                         obtain rfl := Option.some.inj H
                         try go_wp2
                         have n0_ := Aside0.mk (Kd.R_drew HO_7.out)
                         have n1_ := Aside0.mk (Kd.R_drew HO_117.out)
                         have n2_ := Aside0.mk (blk_drew BK415.out)
                         have n3_ := Aside0.mk (blk_drew BK455.out)
                         have n4_ := Aside0.mk (below_drew1 HB.out)
                         clear HO_7
                         clear HO_117
                         clear BK415
                         clear BK455
                         clear HB
                         have HO_7 := n0_
                         have HO_117 := n1_
                         have BK415 := n2_
                         have BK455 := n3_
                         have HB := n4_
                         clear n0_ n1_ n2_ n3_ n4_
                         refine start_ (n := 12) (S := fun w' => w'.cell? ⟨gb455, 0, none⟩ = some (.int .i64 ((rd_T31 l0 x113_5).f0)) ∧ w'.cell? ⟨gb455, 1, none⟩ = some (.int .i64 ((rd_T31 l0 x113_5).f1)) ∧ w'.cell? ⟨gb455, 2, none⟩ = some (.int .i64 ((rd_T31 l0 x113_5).f2)) ∧ w'.cell? ⟨gb455, 3, none⟩ = some (.int .i64 ((rd_T31 l0 x113_5).f3))) (ds := []) #[false, false, false, false, false, false, false, false, false, false, false, false] (by kernel_rfl) rfl rfl ⟨(blk_cell BK455.out 0).trans rfl, (blk_cell BK455.out 1).trans rfl, (blk_cell BK455.out 2).trans rfl, (blk_cell BK455.out 3).trans rfl⟩ (fun hHeld => ?_); refine with_tabW spilelaw52_BondNever.tab35 spilelaw52_BondNever.bits35 (fun HT_ HW_ => ?_)
                         generalize wr.drew = w126 at HO_7 HO_117 BK415 BK455 HB hHeld ⊢
                         refine pure_ (i := 0) (N := some 134) (v := ?_) (a' := ?_) #[true, false, false, false, false, false, false, false, false, false, false, false] rfl rfl (any_of HT_.out (by kernel_rfl)) (fun _ _ _ h => h) (Or.inl ⟨by rfl, ?_⟩) ?_ ?_
                         rotate_left
                         ·intro w'
                          go_simp
                          with_reducible rfl
                         rotate_left
                         ·simp only [Act.put, List.setIfInBounds_toArray, List.set_cons_zero, List.set_cons_succ, i64_w, i32_w]
                          rfl
                         refine pure_ (i := 2) (N := some 136) (v := ?_) (a' := ?_) #[true, false, true, false, false, false, false, false, false, false, false, false] rfl rfl (any_of HT_.out (by kernel_rfl)) (fun _ _ _ h => h) (Or.inl ⟨by rfl, ?_⟩) ?_ ?_
                         rotate_left
                         ·intro w'
                          go_simp
                          with_reducible rfl
                         rotate_left
                         ·simp only [Act.put, List.setIfInBounds_toArray, List.set_cons_zero, List.set_cons_succ, i64_w, i32_w]
                          rfl
                         refine pure_ (i := 4) (N := some 138) (v := ?_) (a' := ?_) #[true, false, true, false, true, false, false, false, false, false, false, false] rfl rfl (any_of HT_.out (by kernel_rfl)) (fun _ _ _ h => h) (Or.inl ⟨by rfl, ?_⟩) ?_ ?_
                         rotate_left
                         ·intro w'
                          go_simp
                          with_reducible rfl
                         rotate_left
                         ·simp only [Act.put, List.setIfInBounds_toArray, List.set_cons_zero, List.set_cons_succ, i64_w, i32_w]
                          rfl
                         refine take_ (i := 5) (N := some 139) (v := ?_) (a' := ?_) #[true, false, true, false, true, true, false, false, false, false, false, false] rfl rfl (take_ofW HT_.out HW_.out (by kernel_rfl)) (fun _ _ _ h => h) (Or.inl ⟨by rfl, ?_⟩) hHeld ?_ ?_
                         rotate_left
                         ·rintro w' ⟨s0, s1, s2, s3⟩
                          go_simp
                          with_reducible rfl
                         rotate_left
                         ·simp only [Act.put, List.setIfInBounds_toArray, List.set_cons_zero, List.set_cons_succ, i64_w, i32_w]
                          rfl
                         refine one_ (i := 1) (N := some 135) #[true, true, true, false, true, true, false, false, false, false, false, false] rfl rfl (one_of HT_.out (by kernel_rfl)) (by decide) (fun K hK => ?_)
                         refine goes_ Try.func13 (by kernel_rfl) rfl #[.slice (some ad454) l0.length c0] (by rfl) rfl rfl (by (try simp only [List.map_toArray, List.map_cons, List.map_nil]); first | done | rfl | (simp only [List.length_drop, List.length_take]; rfl)) ?_
                         with_reducible refine (api_Bond_13.calls _ _ l0 t458 _ ?side1 ?side2 A96.out).mono ?_
                         (case side1 => repeat (first | exact (Kd.C_below HR0.out HB.out) | (with_reducible refine Kd.C_alloc ?_ _) | (with_reducible refine Kd.C_drewN ?_ _) | (with_reducible refine Kd.C_drew ?_)))
                         (case side2 => exact HC0.out)
                         rintro e w127 ⟨v459, rfl, ho0, hb⟩
                         refine ⟨_, rfl, ?_⟩
                         have n0_ := Aside0.mk (Kd.R_below (by (with_reducible repeat (first | apply Kd.R_alloc | apply Kd.R_drewN | apply Kd.R_drew)); exact HO_7.out) hb)
                         have n1_ := Aside0.mk (Kd.R_below (by (with_reducible repeat (first | apply Kd.R_alloc | apply Kd.R_drewN | apply Kd.R_drew)); exact HO_117.out) hb)
                         have n2_ := Aside0.mk (Kd.R_lower (Kd.R_newB ho0 (g := gb455) (o := .cells #[.int .i64 ((rd_T31 l0 x113_5).f0), .int .i64 ((rd_T31 l0 x113_5).f1), .int .i64 ((rd_T31 l0 x113_5).f2), .int .i64 ((rd_T31 l0 x113_5).f3)] 31 (0, 0)) (by (with_reducible repeat (first | refine blk_drewN ?_ _ | refine blk_drew ?_ | refine blk_alloc ?_ _)); exact BK455.out)) (below_size (by repeat (first | (with_reducible first | exact HB.out | apply below_alloc | apply pw_below_drewN | apply below_drew1 | refine below_set ?_ GE415.out | refine below_set ?_ GE455.out) | exact HB.out))))
                         have n3_ := Aside0.mk (blk_below (g := gb415) (o := .cells #[.int .i64 ((rd_T49 l1 x44_2).f0), .int .i64 ((rd_T49 l1 x44_2).f1.f0), .int .i64 ((rd_T49 l1 x44_2).f1.f1), .int .i64 ((rd_T49 l1 x44_2).f1.f2), .int .i64 ((rd_T49 l1 x44_2).f2)] 49 (0, 0)) (by (with_reducible repeat (first | refine blk_drewN ?_ _ | refine blk_drew ?_ | refine blk_alloc ?_ _)); exact BK415.out) hb)
                         have n4_ := Aside0.mk (blk_below (g := gb455) (o := .cells #[.int .i64 ((rd_T31 l0 x113_5).f0), .int .i64 ((rd_T31 l0 x113_5).f1), .int .i64 ((rd_T31 l0 x113_5).f2), .int .i64 ((rd_T31 l0 x113_5).f3)] 31 (0, 0)) (by (with_reducible repeat (first | refine blk_drewN ?_ _ | refine blk_drew ?_ | refine blk_alloc ?_ _)); exact BK455.out) hb)
                         have n5_ := Aside0.mk (below_step (by repeat (first | (with_reducible first | exact HB.out | apply below_alloc | apply pw_below_drewN | apply below_drew1 | refine below_set ?_ GE415.out | refine below_set ?_ GE455.out) | exact HB.out)) hb)
                         clear HO_7
                         clear HO_117
                         clear BK415
                         clear BK455
                         clear HB
                         have HO_7 := n0_
                         have HO_117 := n1_
                         have HO460 := n2_
                         have BK415 := n3_
                         have BK455 := n4_
                         have HB := n5_
                         clear n0_ n1_ n2_ n3_ n4_ n5_
                         (try clear hb)
                         (try clear hb2)
                         (try clear hk)
                         (try clear hi)
                         (try clear ho0)
                         refine hK.out _ _ ⟨(blk_cell BK455.out 0).trans rfl, (blk_cell BK455.out 1).trans rfl, (blk_cell BK455.out 2).trans rfl, (blk_cell BK455.out 3).trans rfl⟩ (fun hHeld => ?_)
                         clear hK K
                         refine norm_ (a' := ?_) ?_ ?_
                         rotate_left
                         ·show Act.put _ (some 135) _ = _
                          simp only [Act.put, List.setIfInBounds_toArray, List.set_cons_zero, List.set_cons_succ, i64_w, i32_w]
                          rfl
                         refine one_ (i := 3) (N := some 137) #[true, true, true, true, true, true, false, false, false, false, false, false] rfl rfl (one_of HT_.out (by kernel_rfl)) (by decide) (fun K hK => ?_)
                         refine goes_ Try.func16 (by kernel_rfl) rfl #[.slice Ao67 x10_22.length co67] (by rfl) rfl rfl (by (try simp only [List.map_toArray, List.map_cons, List.map_nil]); first | done | rfl | (simp only [List.length_drop, List.length_take]; rfl)) ?_
                         with_reducible refine (api_Hold_16.calls _ _ x10_22 t461 _ ?side1 ?side2 A97.out).mono ?_
                         (case side1 => repeat (first | exact (Kd.R_reads' HO_7.out).2.2 | (with_reducible refine Kd.C_alloc ?_ _) | (with_reducible refine Kd.C_drewN ?_ _) | (with_reducible refine Kd.C_drew ?_)))
                         (case side2 => exact (Kd.R_reads' HO_7.out).2.1)
                         rintro e w128 ⟨v462, rfl, ho0, hb⟩
                         refine ⟨_, rfl, ?_⟩
                         have n0_ := Aside0.mk (Kd.R_elder' (by (with_reducible repeat (first | apply Kd.R_alloc | apply Kd.R_drewN | apply Kd.R_drew)); exact HO_7.out) (Kd.R_base ho0) hb)
                         have n1_ := Aside0.mk (Kd.R_elder' (by (with_reducible repeat (first | apply Kd.R_alloc | apply Kd.R_drewN | apply Kd.R_drew)); exact HO_117.out) (Kd.R_base ho0) hb)
                         have n2_ := Aside0.mk (Kd.R_below (by (with_reducible repeat (first | apply Kd.R_alloc | apply Kd.R_drewN | apply Kd.R_drew)); exact HO460.out) hb)
                         have n3_ := Aside0.mk (Kd.R_lower (Kd.R_new' (Kd.R_new' ho0 (Kd.R_lt (by (with_reducible repeat (first | apply Kd.R_alloc | apply Kd.R_drewN | apply Kd.R_drew)); exact HO_7.out))) (Kd.R_lt (by (with_reducible repeat (first | apply Kd.R_alloc | apply Kd.R_drewN | apply Kd.R_drew)); exact HO_117.out))) (below_size (by repeat (first | (with_reducible first | exact HB.out | apply below_alloc | apply pw_below_drewN | apply below_drew1 | refine below_set ?_ GE415.out | refine below_set ?_ GE455.out) | exact HB.out))))
                         have n4_ := Aside0.mk (blk_below (g := gb415) (o := .cells #[.int .i64 ((rd_T49 l1 x44_2).f0), .int .i64 ((rd_T49 l1 x44_2).f1.f0), .int .i64 ((rd_T49 l1 x44_2).f1.f1), .int .i64 ((rd_T49 l1 x44_2).f1.f2), .int .i64 ((rd_T49 l1 x44_2).f2)] 49 (0, 0)) (by (with_reducible repeat (first | refine blk_drewN ?_ _ | refine blk_drew ?_ | refine blk_alloc ?_ _)); exact BK415.out) hb)
                         have n5_ := Aside0.mk (blk_below (g := gb455) (o := .cells #[.int .i64 ((rd_T31 l0 x113_5).f0), .int .i64 ((rd_T31 l0 x113_5).f1), .int .i64 ((rd_T31 l0 x113_5).f2), .int .i64 ((rd_T31 l0 x113_5).f3)] 31 (0, 0)) (by (with_reducible repeat (first | refine blk_drewN ?_ _ | refine blk_drew ?_ | refine blk_alloc ?_ _)); exact BK455.out) hb)
                         have n6_ := Aside0.mk (below_step (by repeat (first | (with_reducible first | exact HB.out | apply below_alloc | apply pw_below_drewN | apply below_drew1 | refine below_set ?_ GE415.out | refine below_set ?_ GE455.out) | exact HB.out)) hb)
                         clear HO_7
                         clear HO_117
                         clear HO460
                         clear BK415
                         clear BK455
                         clear HB
                         have HO_7 := n0_
                         have HO_117 := n1_
                         have HO460 := n2_
                         have HO463 := n3_
                         have BK415 := n4_
                         have BK455 := n5_
                         have HB := n6_
                         clear n0_ n1_ n2_ n3_ n4_ n5_ n6_
                         (try clear hb)
                         (try clear hb2)
                         (try clear hk)
                         (try clear hi)
                         (try clear ho0)
                         obtain ⟨Ao129, co129, eo129⟩ := Kd.R_slice HO460.out
                         (first | subst eo129 | (injection eo129 with f1_ f2_ f3_; have f4_ := f1_.symm; have f5_ := f3_.symm; clear f1_ f2_ f3_; subst f4_; subst f5_))
                         obtain ⟨Ao130, co130, eo130⟩ := Kd.R_slice HO463.out
                         (first | subst eo130 | (injection eo130 with f1_ f2_ f3_; have f4_ := f1_.symm; have f5_ := f3_.symm; clear f1_ f2_ f3_; subst f4_; subst f5_))
                         refine hK.out _ _ ⟨(blk_cell BK455.out 0).trans rfl, (blk_cell BK455.out 1).trans rfl, (blk_cell BK455.out 2).trans rfl, (blk_cell BK455.out 3).trans rfl⟩ (fun hHeld => ?_)
                         clear hK K
                         refine norm_ (a' := ?_) ?_ ?_
                         rotate_left
                         ·show Act.put _ (some 137) _ = _
                          simp only [Act.put, List.setIfInBounds_toArray, List.set_cons_zero, List.set_cons_succ, i64_w, i32_w]
                          rfl
                         refine one_ (i := 6) (N := some 140) #[true, true, true, true, true, true, true, false, false, false, false, false] rfl rfl (one_of HT_.out (by kernel_rfl)) (by decide) (fun K hK => ?_)
                         refine goes_ Try.func18 (by kernel_rfl) rfl #[.slice Ao129 t458.length co129, .slice Ao130 t461.length co130, .int .i64 ((rd_T31 l0 x113_5).f0)] (by rfl) rfl rfl (by (try simp only [List.map_toArray, List.map_cons, List.map_nil]); first | done | rfl | (simp only [List.length_drop, List.length_take]; rfl)) ?_
                         with_reducible refine (bond_Free.calls k6 _ _ t458 _ _ t461 ((rd_T31 l0 x113_5).f0) t464 t465 _ ?side1 ?side2 ?side3 ?side4 A98.out).mono ?_
                         (case side1 => repeat (first | exact (Kd.R_reads' HO460.out).2.2 | (with_reducible refine Kd.C_alloc ?_ _) | (with_reducible refine Kd.C_drewN ?_ _) | (with_reducible refine Kd.C_drew ?_)))
                         (case side2 => exact (Kd.R_reads' HO460.out).2.1)
                         (case side3 => repeat (first | exact (Kd.R_reads' HO463.out).2.2 | (with_reducible refine Kd.C_alloc ?_ _) | (with_reducible refine Kd.C_drewN ?_ _) | (with_reducible refine Kd.C_drew ?_)))
                         (case side4 => exact (Kd.R_reads' HO463.out).2.1)
                         rintro e w131 ⟨rfl, hb⟩
                         refine ⟨_, rfl, ?_⟩
                         have n0_ := Aside0.mk (Kd.R_below (by (with_reducible repeat (first | apply Kd.R_alloc | apply Kd.R_drewN | apply Kd.R_drew)); exact HO_7.out) hb)
                         have n1_ := Aside0.mk (Kd.R_below (by (with_reducible repeat (first | apply Kd.R_alloc | apply Kd.R_drewN | apply Kd.R_drew)); exact HO_117.out) hb)
                         have n2_ := Aside0.mk (Kd.R_below (by (with_reducible repeat (first | apply Kd.R_alloc | apply Kd.R_drewN | apply Kd.R_drew)); exact HO460.out) hb)
                         have n3_ := Aside0.mk (Kd.R_below (by (with_reducible repeat (first | apply Kd.R_alloc | apply Kd.R_drewN | apply Kd.R_drew)); exact HO463.out) hb)
                         have n4_ := Aside0.mk (blk_below (g := gb415) (o := .cells #[.int .i64 ((rd_T49 l1 x44_2).f0), .int .i64 ((rd_T49 l1 x44_2).f1.f0), .int .i64 ((rd_T49 l1 x44_2).f1.f1), .int .i64 ((rd_T49 l1 x44_2).f1.f2), .int .i64 ((rd_T49 l1 x44_2).f2)] 49 (0, 0)) (by (with_reducible repeat (first | refine blk_drewN ?_ _ | refine blk_drew ?_ | refine blk_alloc ?_ _)); exact BK415.out) hb)
                         have n5_ := Aside0.mk (blk_below (g := gb455) (o := .cells #[.int .i64 ((rd_T31 l0 x113_5).f0), .int .i64 ((rd_T31 l0 x113_5).f1), .int .i64 ((rd_T31 l0 x113_5).f2), .int .i64 ((rd_T31 l0 x113_5).f3)] 31 (0, 0)) (by (with_reducible repeat (first | refine blk_drewN ?_ _ | refine blk_drew ?_ | refine blk_alloc ?_ _)); exact BK455.out) hb)
                         have n6_ := Aside0.mk (below_step (by repeat (first | (with_reducible first | exact HB.out | apply below_alloc | apply pw_below_drewN | apply below_drew1 | refine below_set ?_ GE415.out | refine below_set ?_ GE455.out) | exact HB.out)) hb)
                         clear HO_7
                         clear HO_117
                         clear HO460
                         clear HO463
                         clear BK415
                         clear BK455
                         clear HB
                         have HO_7 := n0_
                         have HO_117 := n1_
                         have HO460 := n2_
                         have HO463 := n3_
                         have BK415 := n4_
                         have BK455 := n5_
                         have HB := n6_
                         clear n0_ n1_ n2_ n3_ n4_ n5_ n6_
                         (try clear hb)
                         (try clear hb2)
                         (try clear hk)
                         (try clear hi)
                         refine hK.out _ _ ⟨(blk_cell BK455.out 0).trans rfl, (blk_cell BK455.out 1).trans rfl, (blk_cell BK455.out 2).trans rfl, (blk_cell BK455.out 3).trans rfl⟩ (fun hHeld => ?_)
                         clear hK K
                         refine norm_ (a' := ?_) ?_ ?_
                         rotate_left
                         ·show Act.put _ (some 140) _ = _
                          simp only [Act.put, List.setIfInBounds_toArray, List.set_cons_zero, List.set_cons_succ, i64_w, i32_w]
                          rfl
                         refine pure_ (i := 7) (N := some 133) (v := ?_) (a' := ?_) #[true, true, true, true, true, true, true, true, false, false, false, false] rfl rfl (any_of HT_.out (by kernel_rfl)) (fun _ _ _ h => h) (Or.inl ⟨by rfl, ?_⟩) ?_ ?_
                         rotate_left
                         ·intro w'
                          go_simp
                          with_reducible rfl
                         rotate_left
                         ·simp only [Act.put, List.setIfInBounds_toArray, List.set_cons_zero, List.set_cons_succ, i64_w, i32_w]
                          rfl
                         refine pure_ (i := 8) (N := some 141) (v := ?_) (a' := ?_) #[true, true, true, true, true, true, true, true, true, false, false, false] rfl rfl (any_of HT_.out (by kernel_rfl)) (fun _ _ _ h => h) (Or.inl ⟨by rfl, ?_⟩) ?_ ?_
                         rotate_left
                         ·intro w'
                          go_simp
                          with_reducible rfl
                         rotate_left
                         ·simp only [Act.put, List.setIfInBounds_toArray, List.set_cons_zero, List.set_cons_succ, i64_w, i32_w]
                          rfl
                         refine pure_ (i := 9) (N := some 142) (v := ?_) (a' := ?_) #[true, true, true, true, true, true, true, true, true, true, false, false] rfl rfl (any_of HT_.out (by kernel_rfl)) (fun _ _ _ h => h) (Or.inl ⟨by rfl, ?_⟩) ?_ ?_
                         rotate_left
                         ·intro w'
                          go_simp
                          with_reducible rfl
                         rotate_left
                         ·simp only [Act.put, List.setIfInBounds_toArray, List.set_cons_zero, List.set_cons_succ, i64_w, i32_w]
                          rfl
                         refine pure_ (i := 10) (N := some 19) (v := ?_) (a' := ?_) #[true, true, true, true, true, true, true, true, true, true, true, false] rfl rfl (any_of HT_.out (by kernel_rfl)) (fun _ _ _ h => h) (Or.inl ⟨by rfl, ?_⟩) ?_ ?_
                         rotate_left
                         ·intro w'
                          go_simp
                          with_reducible rfl
                         rotate_left
                         ·simp only [Act.put, List.setIfInBounds_toArray, List.set_cons_zero, List.set_cons_succ, i64_w, i32_w]
                          rfl
                         refine pure_ (i := 11) (N := some 20) (v := ?_) (a' := ?_) #[true, true, true, true, true, true, true, true, true, true, true, true] rfl rfl (any_of HT_.out (by kernel_rfl)) (fun _ _ _ h => h) (Or.inl ⟨by rfl, ?_⟩) ?_ ?_
                         rotate_left
                         ·intro w'
                          go_simp
                          with_reducible rfl
                         rotate_left
                         ·simp only [Act.put, List.setIfInBounds_toArray, List.set_cons_zero, List.set_cons_succ, i64_w, i32_w]
                          rfl
                         refine done_ (done_of HT_.out (by kernel_rfl)) ?_
                         try go_wp2
                         go_ret
                         exact ⟨by first | rfl | (simp [errW_none, errW_some] <;> rfl) | (simp [*, errW_none, errW_some] <;> rfl), by repeat (first | (with_reducible first | exact HB.out | apply below_alloc | apply pw_below_drewN | apply below_drew1 | refine below_set ?_ GE415.out | refine below_set ?_ GE455.out) | exact HB.out)⟩
                    ·rw [if_neg c76] at H
                     exact absurd H (by simp)
                   ·rw [if_neg c75] at H
                    exact absurd H (by simp)
                  ·rw [if_neg c74] at H
                   have c74b0 : decide (x113_5 < (l0.length : Int)) = false := decide_eq_false c74
                   clear c74
                   have H' := Aside0.mk H
                   clear H
                   go_wp2
                   go_roundg k5
                   case measure => have := HJ2.out; have := HK2.out; have := HJ22.out; have := HJ64.out; have := HK5.out; omega
                   case rel => exact ⟨(x10_22), (wrap64 (x44_2 + 1)), (by first | rfl | (simp; done) | (simp [*]; done)), H', ⟨by have := HJ2.out; have := HK2.out; have := HJ22.out; have := HJ64.out; have := HK5.out; omega⟩, ⟨by (with_reducible repeat (first | apply Kd.R_alloc | apply Kd.R_drewN | apply Kd.R_drew)); exact HO_7.out⟩, ⟨by repeat (first | (with_reducible first | exact HB.out | apply below_alloc | apply pw_below_drewN | apply below_drew1 | refine below_set ?_ GE415.out) | exact HB.out)⟩⟩
            ·rw [if_neg c61] at H
             have c61b0 : (x11_22 == 0) = false := beq_eq_false_iff_ne.mpr c61
             have c61b1 : (x11_22 != 0) = true := bne_iff_ne.mpr c61
             by_cases c132 : (x10_22.length : Int) = 0
             ·rw [if_pos c132] at H
              have c132b0 : ((x10_22.length : Int) == 0) = true := beq_iff_eq.mpr c132
              have c132b1 : ((x10_22.length : Int) != 0) = false := bne_eq_false_iff_eq.mpr c132
              clear c132
              have H' := Aside0.mk H
              clear H
              obtain ⟨Ao133, co133, eo133⟩ := Kd.R_slice HO_10.out
              subst eo133
              go_wp2
              go_roundg kj22
              case measure => have := HJ2.out; have := HK2.out; have := HJ22.out; omega
              case rel => exact ⟨(x7_2), (wrap64 (x44_2 + 1)), (by first | rfl | (simp; done) | (simp [*]; done)), H', ⟨by have := HJ2.out; have := HK2.out; have := HJ22.out; omega⟩, ⟨by (with_reducible repeat (first | apply Kd.R_alloc | apply Kd.R_drewN | apply Kd.R_drew)); exact Kd.R_mono HO_7.out (fun _ hk => trivial)⟩, ⟨by repeat (first | (with_reducible first | exact HB.out | apply below_alloc | apply pw_below_drewN | apply below_drew1 | refine below_set ?_ GE415.out) | exact HB.out)⟩⟩
             ·rw [if_neg c132] at H
              have c132b0 : ((x10_22.length : Int) == 0) = false := beq_eq_false_iff_ne.mpr c132
              have c132b1 : ((x10_22.length : Int) != 0) = true := bne_iff_ne.mpr c132
              have c132b2 : ¬ (x10_22 = []) := fun h_ => c132 (by rw [h_]; rfl)
              obtain rfl := Option.some.inj H
              obtain ⟨Ao134, co134, eo134⟩ := Kd.R_slice HO_10.out
              subst eo134
              go_wp2
              go_ret
              exact ⟨by first | rfl | (simp [errW_none, errW_some] <;> rfl) | (simp [*, errW_none, errW_some] <;> rfl), by repeat (first | (with_reducible first | exact HB.out | apply below_alloc | apply pw_below_drewN | apply below_drew1 | refine below_set ?_ GE415.out) | exact HB.out)⟩
         ·rw [if_neg c22] at H
          exact absurd H (by simp)
        ·rw [if_neg c21] at H
         exact absurd H (by simp)
       ·rw [if_neg c20] at H
        have c20b0 : decide (x44_2 < (l1.length : Int)) = false := decide_eq_false c20
        clear c20
        obtain rfl := Option.some.inj H
        go_wp2
        go_ret
        exact ⟨by first | rfl | (simp [errW_none, errW_some] <;> rfl) | (simp [*, errW_none, errW_some] <;> rfl), by repeat (first | (with_reducible first | exact HB.out | apply below_alloc | apply pw_below_drewN | apply below_drew1) | exact HB.out)⟩
    ·rw [if_neg c16] at H
     have c16b0 : (t413 == 0) = false := beq_eq_false_iff_ne.mpr c16
     have c16b1 : (t413 != 0) = true := bne_iff_ne.mpr c16
     obtain rfl := Option.some.inj H
     go_wp2_with (first | ((with_reducible refine gate_callee (f := 13) rfl ?_); refine goesL_ (some 36) rfl rfl Try.func13 (by kernel_rfl) rfl #[.slice A0 l0.length c0] rfl (by (try simp only [List.map_toArray, List.map_cons, List.map_nil]); first | done | rfl | (simp only [List.length_drop, List.length_take]; rfl)) ?_; (with_reducible refine (api_Bond_13.calls _ _ l0 t409 _ ?side1 ?side2 A14.out).mono ?_); (case side1 => repeat (first | exact (Kd.C_below HR0.out HB.out) | (with_reducible refine Kd.C_alloc ?_ _) | (with_reducible refine Kd.C_drewN ?_ _) | (with_reducible refine Kd.C_drew ?_))); (case side2 => exact HC0.out); rintro e w135 ⟨v410, rfl, ho0, hb⟩; refine ⟨_, rfl, ?_⟩; have n0_ := Aside0.mk (Kd.R_lower ho0 (below_size (by repeat (first | (with_reducible first | exact HB.out | apply below_alloc | apply pw_below_drewN | apply below_drew1) | exact HB.out)))); have n1_ := Aside0.mk (below_step (by repeat (first | (with_reducible first | exact HB.out | apply below_alloc | apply pw_below_drewN | apply below_drew1) | exact HB.out)) hb); clear HB; have HO411 := n0_; have HB := n1_; clear n0_ n1_; (try clear hb); (try clear hb2); (try clear hk); (try clear hi); (try clear ho0); obtain ⟨Ao136, co136, eo136⟩ := Kd.R_slice HO411.out; subst eo136) | ((with_reducible refine gate_callee (f := 12) rfl ?_); refine goesL_ (some 37) rfl rfl Try.func12 (by kernel_rfl) rfl #[.slice Ao136 t409.length co136] rfl (by (try simp only [List.map_toArray, List.map_cons, List.map_nil]); first | done | rfl | (simp only [List.length_drop, List.length_take]; rfl)) ?_; (with_reducible refine (bond_Check_s.calls _ _ t409 t412 t413 _ ?side1 ?side2 A15.out).mono ?_); (case side1 => repeat (first | exact (Kd.R_reads' HO411.out).2.2 | (with_reducible refine Kd.C_alloc ?_ _) | (with_reducible refine Kd.C_drewN ?_ _) | (with_reducible refine Kd.C_drew ?_))); (case side2 => exact (Kd.R_reads' HO411.out).2.1); rintro e w137 ⟨rfl, hb⟩; refine ⟨_, rfl, ?_⟩; have n0_ := Aside0.mk (Kd.R_below (by (with_reducible repeat (first | apply Kd.R_alloc | apply Kd.R_drewN | apply Kd.R_drew)); exact HO411.out) hb); have n1_ := Aside0.mk (below_step (by repeat (first | (with_reducible first | exact HB.out | apply below_alloc | apply pw_below_drewN | apply below_drew1) | exact HB.out)) hb); clear HO411; clear HB; have HO411 := n0_; have HB := n1_; clear n0_ n1_; (try clear hb); (try clear hb2); (try clear hk); (try clear hi)))
     go_ret
     exact ⟨by first | rfl | (simp [errW_none, errW_some] <;> rfl) | (simp [*, errW_none, errW_some] <;> rfl), by repeat (first | (with_reducible first | exact HB.out | apply below_alloc | apply pw_below_drewN | apply below_drew1) | exact HB.out)⟩

end Go.Proofs.Ytdolabpkgienkaa.PF
