/- The reference's Missing as a function of numbers and lists (out of the print). -/
import Derived.Test.YtodfjkdgfjkifaaMEv
import Derived.Test.YtodfjkdgfjkifaaPF0
import Derived.Test.YtodfjkdgfjkifaaPF5
namespace Go.Proofs.Ytodfjkdgfjkifaa.PF
open Go.RowKit Go.Proofs.YtodfjkdgfjkifaaW.PrintWords Go.Proofs.YtodfjkdgfjkifaaW.PrintLast Go.Proofs.YtodfjkdgfjkifaaW.PrintMore
set_option linter.unusedVariables false
set_option linter.unusedSimpArgs false
/-! ### spileref36_Missing: function 14 -/
mutual
def spileref36_Missing.j0 : Nat → List Int → Int → Int → Int → List (S28) → Int → Int → Int → Int → Option (Int × Int × Int × Int × Int)
 | 0, _, _, _, _, _, _, _, _, _ => none
 | k + 1, x4, x5, x6, x151000, x151001, x161000, x161001, x161002, x161003 => if x6 < 0 then (spileref36_Missing.j1 k x4 x5 x6 true x151000 x151001 x161000 x161001 x161002 x161003) else (if x6 = 0 then (spileref36_Missing.j1 k x4 x5 x6 (decide (x5 < 0)) x151000 x151001 x161000 x161001 x161002 x161003) else (spileref36_Missing.j1 k x4 x5 x6 false x151000 x151001 x161000 x161001 x161002 x161003))
def spileref36_Missing.j1 : Nat → List Int → Int → Int → Bool → Int → List (S28) → Int → Int → Int → Int → Option (Int × Int × Int × Int × Int)
 | 0, _, _, _, _, _, _, _, _, _, _ => none
 | k + 1, x4, x5, x6, x49, x151000, x151001, x161000, x161001, x161002, x161003 => if x49 = true then (if 0 < (x4.length : Int) then (spileref36_Missing.j2 k x151000 x151001 x161001 (rd x4 0) (wrap64 (-x5)) (wrap64 (-x6))) else (none)) else (spileref36_Missing.j2 k x151000 x151001 x161000 x161001 x161002 x161003)
def spileref36_Missing.j2 : Nat → Int → List (S28) → Int → Int → Int → Int → Option (Int × Int × Int × Int × Int)
 | 0, _, _, _, _, _, _ => none
 | k + 1, x151000, x151001, x161000, x161001, x161002, x161003 => if x161002 < 0 then (spileref36_Missing.j3 k true x151000 x151001 x161000 x161001 x161002 x161003) else (spileref36_Missing.j3 k (decide (x161003 ≤ 0)) x151000 x151001 x161000 x161001 x161002 x161003)
def spileref36_Missing.j3 : Nat → Bool → Int → List (S28) → Int → Int → Int → Int → Option (Int × Int × Int × Int × Int)
 | 0, _, _, _, _, _, _, _ => none
 | k + 1, x67, x151000, x151001, x161000, x161001, x161002, x161003 => if x67 = true then (some (0, 0, 0, 0, 20)) else ((some (([] : List (S28)) : List (S28))).bind fun y163 => (if y163.length + x151001.length < 4398046511104 then ((some (y163 ++ x151001 : List (S28))).bind fun y166 => ((some (([(⟨x161000, x161001, x161002, x161003⟩ : S28)] : List (S28)) : List (S28))).bind fun y169 => (if y166.length + y169.length < 4398046511104 then ((spileref36_open.f k x151000 (y166 ++ y169)).bind fun t176 => (if (t176.length : Int) > 0 then (some (0, 0, 0, 0, 20)) else (if x161002 > 10737418240000 then (some (0, 0, 0, 0, 15)) else (if x161003 > 128849018880000 then (some (0, 0, 0, 0, 15)) else (some (x161000, x161001, x161002, x161003, 0)))))) else (none)))) else (none)))
end
def spileref36_Missing.f (k : Nat) (a0_0 : Int) (l0_1 : List (S28)) : Option (Int × Int × Int × Int × Int) := (spileref36_right.f k a0_0 l0_1).bind fun t152 => (if t152 = true then ((spileref36_open.f k a0_0 l0_1).bind fun t153 => (if (t153.length : Int) = 0 then (some (0, 0, 0, 0, 9)) else (if 0 < (t153.length : Int) then ((spileref36_balance.f k a0_0 l0_1 (rd t153 0)).bind fun bt157 => (if (t153.length : Int) > 1 then (if 1 < (t153.length : Int) then (spileref36_Missing.j0 k t153 bt157.1 bt157.2 a0_0 l0_1 (rd t153 0) (rd t153 1) bt157.1 bt157.2) else (none)) else (spileref36_Missing.j0 k t153 bt157.1 bt157.2 a0_0 l0_1 (rd t153 0) 0 bt157.1 bt157.2))) else (none)))) else (some (0, 0, 0, 0, 1)))
def spileref36_Missing.T6 : Bool × List (List Nat × List Nat) := (true, [([], []), ([], []), ([1], [1]), ([2], [2]), ([0, 3], [0, 3]), ([4], [4]), ([5], [5]), ([5], [5]), ([6, 4, 0, 1, 2, 3, 4, 5, 6], [6]), ([7, 8, 0, 1, 2, 3, 4, 5, 6, 7, 8], [7])])
def spileref36_Missing.B6 : List Nat := [0, 0, 2, 6, 15, 31, 63, 63, 127, 511]
theorem spileref36_Missing.tab6 : rtab .any (opsOf Try.f14 6) = spileref36_Missing.T6 := by kernel_rfl
theorem spileref36_Missing.bits6 : waitsOk spileref36_Missing.T6.2 spileref36_Missing.B6 = true := by kernel_rfl
def spileref36_Missing.T11 : Bool × List (List Nat × List Nat) := (true, [([], []), ([0], [0]), ([], []), ([2], [2]), ([3], [3]), ([], []), ([5], [5]), ([], []), ([7], [7]), ([1, 4, 6, 8], [1, 4, 6, 8]), ([9, 0, 1, 2, 3, 4, 5, 6, 7, 8, 9], [9])])
def spileref36_Missing.B11 : List Nat := [0, 1, 0, 4, 12, 0, 32, 0, 128, 511, 1023]
theorem spileref36_Missing.tab11 : rtab .any (opsOf Try.f14 11) = spileref36_Missing.T11 := by kernel_rfl
theorem spileref36_Missing.bits11 : waitsOk spileref36_Missing.T11.2 spileref36_Missing.B11 = true := by kernel_rfl
def spileref36_Missing.T14 : Bool × List (List Nat × List Nat) := (true, [([], []), ([0], [0]), ([], []), ([], []), ([3], [3]), ([2, 4], [2, 4]), ([], []), ([6], [6]), ([5, 7, 5], [5, 7]), ([1, 8], [1, 8]), ([], []), ([10, 9, 8, 0, 1, 2, 3, 4, 5, 6, 7, 8, 9, 10], [9, 10])])
def spileref36_Missing.B14 : List Nat := [0, 1, 0, 0, 8, 28, 0, 64, 252, 511, 0, 2047]
theorem spileref36_Missing.tab14 : rtab .any (opsOf Try.f14 14) = spileref36_Missing.T14 := by kernel_rfl
theorem spileref36_Missing.bits14 : waitsOk spileref36_Missing.T14.2 spileref36_Missing.B14 = true := by kernel_rfl

end Go.Proofs.Ytodfjkdgfjkifaa.PF
