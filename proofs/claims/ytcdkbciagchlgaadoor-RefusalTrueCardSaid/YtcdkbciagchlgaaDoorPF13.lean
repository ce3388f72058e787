-- Written by a program of this session (wip/pr.py) out of Lean's print of the translation; Lean checks it.
import Derived.Test.YtcdkbciagchlgaaDoorPF0
import Derived.Test.YtcdkbciagchlgaaDoorPF1
import Derived.Test.YtcdkbciagchlgaaDoorPF10
import Derived.Test.YtcdkbciagchlgaaDoorPF11
import Derived.Test.YtcdkbciagchlgaaDoorPF12
namespace Go.Proofs.YtcdkbciagchlgaaDoor.PF
open Go.RowKit Go.Proofs.YtcdkbciagchlgaaDoorW.PrintWords Go.Proofs.YtcdkbciagchlgaaDoorW.PrintLast Go.Proofs.YtcdkbciagchlgaaDoorW.PrintMore
attribute [local go_sem] max2_int min2_int max_two min_two max_three min_three max_four min_four   
set_option linter.unusedVariables false
set_option linter.unusedSimpArgs false
mutual
def spileref29_Check.l0 : Nat → List (S82) → Int → List (S45) → List Int → List Int → Int → Int → Int → Option (Int)
 | 0, _, _, _, _, _, _, _, _ => none
 | k + 1, x0, x6, x239000, x239001, x239002, x239003, x239004, x239005 => if x6 < (x239000.length : Int) then (if 0 ≤ x6 then ((spileref20_Check_s.f x0 ((rd_T45 x239000 x6).f0) ((rd_T45 x239000 x6).f1)).bind fun t242 => (if t242 = 0 then (if ((rd_T45 x239000 x6).f1) < 1 then (some 1) else (if ((rd_T45 x239000 x6).f1) > 1000000000 then (some 1) else (spileref29_Check.l0 k x0 (wrap64 (x6 + 1)) x239000 x239001 x239002 x239003 x239004 x239005))) else (some 1))) else (none)) else (spileref29_Check.l1 k 1 0 x239000 x239001 x239002 x239003 x239004 x239005)
def spileref29_Check.l1 : Nat → Int → Int → List (S45) → List Int → List Int → Int → Int → Int → Option (Int)
 | 0, _, _, _, _, _, _, _, _ => none
 | k + 1, x7, x8, x239000, x239001, x239002, x239003, x239004, x239005 => if x8 < (x239001.length : Int) then (if 0 ≤ x8 then (if (rd x239001 x8) < 0 then (some 2) else (if (rd x239001 x8) > 64 then (some 2) else (if x8 < (x239002.length : Int) then (if (rd x239002 x8) < 0 then (some 2) else (if (rd x239002 x8) > 1000000 then (some 2) else (spileref29_Check.l1 k (wrap64 (x7 * (wrap64 ((rd x239001 x8) + 1)))) (wrap64 (x8 + 1)) x239000 x239001 x239002 x239003 x239004 x239005))) else (none)))) else (none)) else (if x239003 < 0 then (spileref29_Check.j2 k x7 true) else (if x239004 > 10000 then (spileref29_Check.j2 k x7 true) else (if x239003 > x239004 then (spileref29_Check.j2 k x7 true) else (if x239005 < 1 then (spileref29_Check.j2 k x7 true) else (spileref29_Check.j2 k x7 (decide (x239005 > 256)))))))
def spileref29_Check.j2 : Nat → Int → Bool → Option (Int)
 | 0, _, _ => none
 | k + 1, x7, x119 => if x119 = true then (some 2) else (if x7 > 4096 then (some 8) else (some 0))
end
def spileref29_Check.f (k : Nat) (l0 : List (S82)) (l1_0 : List (S45)) (l1_1 : List Int) (l1_2 : List Int) (a1_3 : Int) (a1_4 : Int) (a1_5 : Int) : Option (Int) := (spileref16_Right.f l0).bind fun t239 => (if t239 = true then ((spileref29_sizes.f l1_0 l1_1 l1_2 a1_3 a1_4 a1_5).bind fun t240 => (if t240 = 0 then (spileref29_Check.l0 k l0 0 l1_0 l1_1 l1_2 a1_3 a1_4 a1_5) else (some t240))) else (some 1))
theorem spileref29_Check.mono_l : ∀ k, (∀ y0 y1 y2 y3 y4 y5 y6 y7, LeO (spileref29_Check.l0 k y0 y1 y2 y3 y4 y5 y6 y7) (spileref29_Check.l0 (k + 1) y0 y1 y2 y3 y4 y5 y6 y7)) ∧ (∀ y0 y1 y2 y3 y4 y5 y6 y7, LeO (spileref29_Check.l1 k y0 y1 y2 y3 y4 y5 y6 y7) (spileref29_Check.l1 (k + 1) y0 y1 y2 y3 y4 y5 y6 y7)) ∧ (∀ y0 y1, LeO (spileref29_Check.j2 k y0 y1) (spileref29_Check.j2 (k + 1) y0 y1))
 | 0 => ⟨fun _ _ _ _ _ _ _ _ r h => by simp [spileref29_Check.l0] at h, fun _ _ _ _ _ _ _ _ r h => by simp [spileref29_Check.l1] at h, fun _ _ r h => by simp [spileref29_Check.j2] at h⟩
 | k + 1 => by
  obtain ⟨ih0, ih1, ih2⟩ := spileref29_Check.mono_l k
  refine ⟨?_, ?_, ?_⟩
  ·intro y0 y1 y2 y3 y4 y5 y6 y7
   unfold spileref29_Check.l0
   repeat' first
   | (with_reducible exact ih0 _ _ _ _ _ _ _ _)
   | (with_reducible exact ih1 _ _ _ _ _ _ _ _)
   | (with_reducible exact ih2 _ _)
   | (with_reducible exact LeO.refl _)
   | (with_reducible exact LeO.none _)
   | (with_reducible refine LeO.ite ?_ ?_)
   | (with_reducible refine LeO.bind ?_ (fun _ => ?_))
   | exact ih0 _ _ _ _ _ _ _ _
   | exact ih1 _ _ _ _ _ _ _ _
   | exact ih2 _ _
   | exact LeO.none _
   | refine LeO.ite ?_ ?_
   | refine LeO.bind ?_ (fun _ => ?_)
  ·intro y0 y1 y2 y3 y4 y5 y6 y7
   unfold spileref29_Check.l1
   repeat' first
   | (with_reducible exact ih0 _ _ _ _ _ _ _ _)
   | (with_reducible exact ih1 _ _ _ _ _ _ _ _)
   | (with_reducible exact ih2 _ _)
   | (with_reducible exact LeO.refl _)
   | (with_reducible exact LeO.none _)
   | (with_reducible refine LeO.ite ?_ ?_)
   | (with_reducible refine LeO.bind ?_ (fun _ => ?_))
   | exact ih0 _ _ _ _ _ _ _ _
   | exact ih1 _ _ _ _ _ _ _ _
   | exact ih2 _ _
   | exact LeO.none _
   | refine LeO.ite ?_ ?_
   | refine LeO.bind ?_ (fun _ => ?_)
  ·intro y0 y1
   unfold spileref29_Check.j2
   repeat' first
   | (with_reducible exact ih0 _ _ _ _ _ _ _ _)
   | (with_reducible exact ih1 _ _ _ _ _ _ _ _)
   | (with_reducible exact ih2 _ _)
   | (with_reducible exact LeO.refl _)
   | (with_reducible exact LeO.none _)
   | (with_reducible refine LeO.ite ?_ ?_)
   | (with_reducible refine LeO.bind ?_ (fun _ => ?_))
   | exact ih0 _ _ _ _ _ _ _ _
   | exact ih1 _ _ _ _ _ _ _ _
   | exact ih2 _ _
   | exact LeO.none _
   | refine LeO.ite ?_ ?_
   | refine LeO.bind ?_ (fun _ => ?_)
theorem spileref29_Check.mono : ∀ a0 a1 a2 a3 a4 a5 a6 k, LeO (spileref29_Check.f k a0 a1 a2 a3 a4 a5 a6) (spileref29_Check.f (k + 1) a0 a1 a2 a3 a4 a5 a6) := by
 intro a0 a1 a2 a3 a4 a5 a6 k
 obtain ⟨ih0, ih1, ih2⟩ := spileref29_Check.mono_l k
 unfold spileref29_Check.f
 repeat' first
   | (with_reducible exact ih0 _ _ _ _ _ _ _ _)
   | (with_reducible exact ih1 _ _ _ _ _ _ _ _)
   | (with_reducible exact ih2 _ _)
   | (with_reducible exact LeO.refl _)
   | (with_reducible exact LeO.none _)
   | (with_reducible refine LeO.ite ?_ ?_)
   | (with_reducible refine LeO.bind ?_ (fun _ => ?_))
   | exact ih0 _ _ _ _ _ _ _ _
   | exact ih1 _ _ _ _ _ _ _ _
   | exact ih2 _ _
   | exact LeO.none _
   | refine LeO.ite ?_ ?_
   | refine LeO.bind ?_ (fun _ => ?_)
end Go.Proofs.YtcdkbciagchlgaaDoor.PF
