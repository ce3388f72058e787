-- Written by a program of this session (wip/pr.py) out of Lean's print of the translation; Lean checks it.
import Derived.Test.YtcdkbciagchlgaaDoorPF0
import Derived.Test.YtcdkbciagchlgaaDoorPF1
import Derived.Test.YtcdkbciagchlgaaDoorPF11
import Derived.Test.YtcdkbciagchlgaaDoorPF13
namespace Go.Proofs.YtcdkbciagchlgaaDoor.PF
open Go.RowKit Go.Proofs.YtcdkbciagchlgaaDoorW.PrintWords Go.Proofs.YtcdkbciagchlgaaDoorW.PrintLast Go.Proofs.YtcdkbciagchlgaaDoorW.PrintMore
attribute [local go_sem] max2_int min2_int max_two min_two max_three min_three max_four min_four   
set_option linter.unusedVariables false
set_option linter.unusedSimpArgs false
def spileref30_over.l0 : Nat → List (S82) → List (S45) → Int → List Int → Int → Option (List Int)
 | 0, _, _, _, _, _ => none
 | k + 1, x0, x1, x2, x7, x8 => if x8 < (x1.length : Int) then (if 0 ≤ x8 then ((spileref18_At_s.f x0 x2).bind fun t254 => (if x7.length < 17592186044416 then (spileref30_over.l0 k x0 x1 x2 (x7 ++ [wrap64 ((wrap64 (((rd_T45 x1 x8).f0) * t254)) - (wrap64 (((rd_T45 x1 x8).f1) * x2)))]) (wrap64 (x8 + 1))) else (none))) else (none)) else (some x7)
def spileref30_over.f (k : Nat) (l0 : List (S82)) (l1 : List (S45)) (a2 : Int) : Option (List Int) := spileref30_over.l0 k l0 l1 a2 (([] : List Int)) 0
theorem spileref30_over.mono_l : ∀ k, (∀ y0 y1 y2 y3 y4, LeO (spileref30_over.l0 k y0 y1 y2 y3 y4) (spileref30_over.l0 (k + 1) y0 y1 y2 y3 y4))
 | 0 => fun _ _ _ _ _ r h => by simp [spileref30_over.l0] at h
 | k + 1 => by
  have ih0 := spileref30_over.mono_l k
  ·intro y0 y1 y2 y3 y4
   unfold spileref30_over.l0
   repeat' first
   | (with_reducible exact ih0 _ _ _ _ _)
   | (with_reducible exact LeO.refl _)
   | (with_reducible exact LeO.none _)
   | (with_reducible refine LeO.ite ?_ ?_)
   | (with_reducible refine LeO.bind ?_ (fun _ => ?_))
   | exact ih0 _ _ _ _ _
   | exact LeO.none _
   | refine LeO.ite ?_ ?_
   | refine LeO.bind ?_ (fun _ => ?_)
theorem spileref30_over.mono : ∀ a0 a1 a2 k, LeO (spileref30_over.f k a0 a1 a2) (spileref30_over.f (k + 1) a0 a1 a2) := by
 intro a0 a1 a2 k
 have ih0 := spileref30_over.mono_l k
 unfold spileref30_over.f
 repeat' first
   | (with_reducible exact ih0 _ _ _ _ _)
   | (with_reducible exact LeO.refl _)
   | (with_reducible exact LeO.none _)
   | (with_reducible refine LeO.ite ?_ ?_)
   | (with_reducible refine LeO.bind ?_ (fun _ => ?_))
   | exact ih0 _ _ _ _ _
   | exact LeO.none _
   | refine LeO.ite ?_ ?_
   | refine LeO.bind ?_ (fun _ => ?_)
def spileref30_excess.f (k : Nat) (l0 : List (S82)) (l1_0 : List (S45)) (l1_1 : List Int) (l1_2 : List Int) (a1_3 : Int) (a1_4 : Int) (a1_5 : Int) : Option (List Int × List Int) := (spileref30_over.f k l0 l1_0 a1_3).bind fun t260 => (if a1_4 < 10000 then ((spileref30_over.f k l0 l1_0 (wrap64 (a1_4 + 1))).bind fun t266 => (some (t260, t266))) else (some (t260, (([] : List Int)))))
theorem spileref30_excess.mono : ∀ a0 a1 a2 a3 a4 a5 a6 k, LeO (spileref30_excess.f k a0 a1 a2 a3 a4 a5 a6) (spileref30_excess.f (k + 1) a0 a1 a2 a3 a4 a5 a6) := by
 intro a0 a1 a2 a3 a4 a5 a6 k
 unfold spileref30_excess.f
 repeat' first
   | (with_reducible exact spileref30_over.mono _ _ _ _)
   | (with_reducible exact LeO.refl _)
   | (with_reducible exact LeO.none _)
   | (with_reducible refine LeO.ite ?_ ?_)
   | (with_reducible refine LeO.bind ?_ (fun _ => ?_))
   | exact spileref30_over.mono _ _ _ _
   | exact LeO.none _
   | refine LeO.ite ?_ ?_
   | refine LeO.bind ?_ (fun _ => ?_)
def spileref30_Excess.f (k : Nat) (l0 : List (S82)) (l1_0 : List (S45)) (l1_1 : List Int) (l1_2 : List Int) (a1_3 : Int) (a1_4 : Int) (a1_5 : Int) : Option (List Int × List Int × Int) := (spileref29_Check.f k l0 l1_0 l1_1 l1_2 a1_3 a1_4 a1_5).bind fun t270 => (if t270 = 0 then ((spileref30_excess.f k l0 l1_0 l1_1 l1_2 a1_3 a1_4 a1_5).bind fun bt271 => (some (bt271.1, bt271.2, 0))) else (some (([] : List Int), ([] : List Int), 1)))
theorem spileref30_Excess.mono : ∀ a0 a1 a2 a3 a4 a5 a6 k, LeO (spileref30_Excess.f k a0 a1 a2 a3 a4 a5 a6) (spileref30_Excess.f (k + 1) a0 a1 a2 a3 a4 a5 a6) := by
 intro a0 a1 a2 a3 a4 a5 a6 k
 unfold spileref30_Excess.f
 repeat' first
   | (with_reducible exact spileref29_Check.mono _ _ _ _ _ _ _ _)
   | (with_reducible exact spileref30_excess.mono _ _ _ _ _ _ _ _)
   | (with_reducible exact LeO.refl _)
   | (with_reducible exact LeO.none _)
   | (with_reducible refine LeO.ite ?_ ?_)
   | (with_reducible refine LeO.bind ?_ (fun _ => ?_))
   | exact spileref29_Check.mono _ _ _ _ _ _ _ _
   | exact spileref30_excess.mono _ _ _ _ _ _ _ _
   | exact LeO.none _
   | refine LeO.ite ?_ ?_
   | refine LeO.bind ?_ (fun _ => ?_)
def spileref30_need.l0 : Nat → List Int → List Int → List Int → Int → List Int → Int → Int → Int → Option (List Int)
 | 0, _, _, _, _, _, _, _, _ => none
 | k + 1, x0, x1, x7, x8, x278000, x278001, x278002, x278003 => if x8 < (x0.length : Int) then (if 0 ≤ x8 then (if (x1.length : Int) > 0 then (if x8 < (x1.length : Int) then (if x7.length < 17592186044416 then (spileref30_need.l0 k x0 x1 (x7 ++ [wrap64 ((wrap64 ((wrap64 (x278001 * (rd x0 x8))) + x278003)) - (wrap64 (x278002 * (rd x1 x8))))]) (wrap64 (x8 + 1)) x278000 x278001 x278002 x278003) else (none)) else (none)) else (if x7.length < 17592186044416 then (spileref30_need.l0 k x0 x1 (x7 ++ [wrap64 ((wrap64 (x278001 * (rd x0 x8))) + x278003)]) (wrap64 (x8 + 1)) x278000 x278001 x278002 x278003) else (none))) else (none)) else (some x7)
def spileref30_need.f (k : Nat) (l0 : List Int) (l1 : List Int) (l2_0 : List Int) (a2_1 : Int) (a2_2 : Int) (a2_3 : Int) : Option (List Int) := spileref30_need.l0 k l0 l1 (([] : List Int)) 0 l2_0 a2_1 a2_2 a2_3
theorem spileref30_need.mono_l : ∀ k, (∀ y0 y1 y2 y3 y4 y5 y6 y7, LeO (spileref30_need.l0 k y0 y1 y2 y3 y4 y5 y6 y7) (spileref30_need.l0 (k + 1) y0 y1 y2 y3 y4 y5 y6 y7))
 | 0 => fun _ _ _ _ _ _ _ _ r h => by simp [spileref30_need.l0] at h
 | k + 1 => by
  have ih0 := spileref30_need.mono_l k
  ·intro y0 y1 y2 y3 y4 y5 y6 y7
   unfold spileref30_need.l0
   repeat' first
   | (with_reducible exact ih0 _ _ _ _ _ _ _ _)
   | (with_reducible exact LeO.refl _)
   | (with_reducible exact LeO.none _)
   | (with_reducible refine LeO.ite ?_ ?_)
   | (with_reducible refine LeO.bind ?_ (fun _ => ?_))
   | exact ih0 _ _ _ _ _ _ _ _
   | exact LeO.none _
   | refine LeO.ite ?_ ?_
   | refine LeO.bind ?_ (fun _ => ?_)
theorem spileref30_need.mono : ∀ a0 a1 a2 a3 a4 a5 k, LeO (spileref30_need.f k a0 a1 a2 a3 a4 a5) (spileref30_need.f (k + 1) a0 a1 a2 a3 a4 a5) := by
 intro a0 a1 a2 a3 a4 a5 k
 have ih0 := spileref30_need.mono_l k
 unfold spileref30_need.f
 repeat' first
   | (with_reducible exact ih0 _ _ _ _ _ _ _ _)
   | (with_reducible exact LeO.refl _)
   | (with_reducible exact LeO.none _)
   | (with_reducible refine LeO.ite ?_ ?_)
   | (with_reducible refine LeO.bind ?_ (fun _ => ?_))
   | exact ih0 _ _ _ _ _ _ _ _
   | exact LeO.none _
   | refine LeO.ite ?_ ?_
   | refine LeO.bind ?_ (fun _ => ?_)
end Go.Proofs.YtcdkbciagchlgaaDoor.PF
