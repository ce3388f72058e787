-- Written by a program of this session (wip/pr.py) out of Lean's print of the translation; Lean checks it.
import Derived.Test.YtcdkbciagchlgaaDoorPF0
import Derived.Test.YtcdkbciagchlgaaDoorPF1
import Derived.Test.YtcdkbciagchlgaaDoorPF3
import Derived.Test.YtcdkbciagchlgaaDoorPF4
import Derived.Test.YtcdkbciagchlgaaDoorPF10
import Derived.Test.YtcdkbciagchlgaaDoorPF11
namespace Go.Proofs.YtcdkbciagchlgaaDoor.PF
open Go.RowKit Go.Proofs.YtcdkbciagchlgaaDoorW.PrintWords Go.Proofs.YtcdkbciagchlgaaDoorW.PrintLast Go.Proofs.YtcdkbciagchlgaaDoorW.PrintMore
attribute [local go_sem] max2_int min2_int max_two min_two max_three min_three max_four min_four   
set_option linter.unusedVariables false
set_option linter.unusedSimpArgs false
def spileref20_Check.j0 : Nat → List (S82) → Bool → Int → Int → Option (Int)
 | 0, _, _, _, _ => none
 | k + 1, x0, x25, x236000, x236001 => if x25 = true then (some 2) else ((spileref18_At_s.f x0 10000).bind fun t237 => (if (wrap64 (x236000 * t237)) > (wrap64 (x236001 * 10000)) then (some 10) else (some 0)))
def spileref20_Check.f (k : Nat) (l0 : List (S82)) (a1_0 : Int) (a1_1 : Int) : Option (Int) := (spileref16_Right.f l0).bind fun t236 => (if t236 = true then (if a1_0 < 0 then (spileref20_Check.j0 k l0 true a1_0 a1_1) else (if a1_0 > 10737418240000 then (spileref20_Check.j0 k l0 true a1_0 a1_1) else (if a1_1 < 0 then (spileref20_Check.j0 k l0 true a1_0 a1_1) else (spileref20_Check.j0 k l0 (decide (a1_1 > 128849018880000)) a1_0 a1_1)))) else (some 1))
theorem spileref20_Check.mono_l : ∀ k, (∀ y0 y1 y2 y3, LeO (spileref20_Check.j0 k y0 y1 y2 y3) (spileref20_Check.j0 (k + 1) y0 y1 y2 y3))
 | 0 => fun _ _ _ _ r h => by simp [spileref20_Check.j0] at h
 | k + 1 => by
  have ih0 := spileref20_Check.mono_l k
  ·intro y0 y1 y2 y3
   unfold spileref20_Check.j0
   repeat' first
   | (with_reducible exact ih0 _ _ _ _)
   | (with_reducible exact LeO.refl _)
   | (with_reducible exact LeO.none _)
   | (with_reducible refine LeO.ite ?_ ?_)
   | (with_reducible refine LeO.bind ?_ (fun _ => ?_))
   | exact ih0 _ _ _ _
   | exact LeO.none _
   | refine LeO.ite ?_ ?_
   | refine LeO.bind ?_ (fun _ => ?_)
theorem spileref20_Check.mono : ∀ a0 a1 a2 k, LeO (spileref20_Check.f k a0 a1 a2) (spileref20_Check.f (k + 1) a0 a1 a2) := by
 intro a0 a1 a2 k
 have ih0 := spileref20_Check.mono_l k
 unfold spileref20_Check.f
 repeat' first
   | (with_reducible exact ih0 _ _ _ _)
   | (with_reducible exact LeO.refl _)
   | (with_reducible exact LeO.none _)
   | (with_reducible refine LeO.ite ?_ ?_)
   | (with_reducible refine LeO.bind ?_ (fun _ => ?_))
   | exact ih0 _ _ _ _
   | exact LeO.none _
   | refine LeO.ite ?_ ?_
   | refine LeO.bind ?_ (fun _ => ?_)
def spileref20_Check_s.f (l0 : List S82) (a1_0 a1_1 : Int) : Option Int := some (lchk l0 a1_0 a1_1)
end Go.Proofs.YtcdkbciagchlgaaDoor.PF
