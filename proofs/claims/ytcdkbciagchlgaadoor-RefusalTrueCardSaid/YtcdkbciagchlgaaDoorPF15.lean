-- Written by a program of this session (wip/pr.py) out of Lean's print of the translation; Lean checks it.
import Derived.Test.YtcdkbciagchlgaaDoorPF0
import Derived.Test.YtcdkbciagchlgaaDoorPF1
import Derived.Test.YtcdkbciagchlgaaDoorPF6
import Derived.Test.YtcdkbciagchlgaaDoorPF7
import Derived.Test.YtcdkbciagchlgaaDoorPF9
import Derived.Test.YtcdkbciagchlgaaDoorPF13
import Derived.Test.YtcdkbciagchlgaaDoorPF14
namespace Go.Proofs.YtcdkbciagchlgaaDoor.PF
open Go.RowKit Go.Proofs.YtcdkbciagchlgaaDoorW.PrintWords Go.Proofs.YtcdkbciagchlgaaDoorW.PrintLast Go.Proofs.YtcdkbciagchlgaaDoorW.PrintMore
attribute [local go_sem] max2_int min2_int max_two min_two max_three min_three max_four min_four   
set_option linter.unusedVariables false
set_option linter.unusedSimpArgs false
mutual
def spileref30_right.j0 : Nat → List Int → List Int → Bool → List (S45) → List Int → List Int → Int → Int → Int → List Int → Int → Int → Int → Option (Bool)
 | 0, _, _, _, _, _, _, _, _, _, _, _, _, _ => none
 | k + 1, x7, x8, x25, x290000, x290001, x290002, x290003, x290004, x290005, x291000, x291001, x291002, x291003 => if x25 = true then (some false) else ((spileref30_need.f k x7 x8 x291000 x291001 x291002 x291003).bind fun t297 => (spileref30_right.l0 k t297 0 0 x290000 x290001 x290002 x290003 x290004 x290005 x291000 x291001 x291002 x291003))
def spileref30_right.l0 : Nat → List Int → Int → Int → List (S45) → List Int → List Int → Int → Int → Int → List Int → Int → Int → Int → Option (Bool)
 | 0, _, _, _, _, _, _, _, _, _, _, _, _, _ => none
 | k + 1, x9, x10, x11, x290000, x290001, x290002, x290003, x290004, x290005, x291000, x291001, x291002, x291003 => if x11 < (x9.length : Int) then (if 0 ≤ x11 then (if x11 < (x291000.length : Int) then (if (rd x291000 x11) < (rd x9 x11) then (some false) else (if x11 < (x290001.length : Int) then (spileref30_right.l0 k x9 (wrap64 (x10 + (wrap64 ((rd x291000 x11) * (rd x290001 x11))))) (wrap64 (x11 + 1)) x290000 x290001 x290002 x290003 x290004 x290005 x291000 x291001 x291002 x291003) else (none))) else (none)) else (none)) else (some (decide (x10 < (wrap64 (x291002 + (wrap64 (x291003 * x290005)))))))
end
def spileref30_right.f (k : Nat) (l0 : List (S82)) (l1_0 : List (S45)) (l1_1 : List Int) (l1_2 : List Int) (a1_3 : Int) (a1_4 : Int) (a1_5 : Int) (l2_0 : List Int) (a2_1 : Int) (a2_2 : Int) (a2_3 : Int) : Option (Bool) := (spileref30_excess.f k l0 l1_0 l1_1 l1_2 a1_3 a1_4 a1_5).bind fun bt291 => (if a2_2 = 1 then (spileref30_right.j0 k bt291.1 bt291.2 ((bt291.2.length : Int) == 0) l1_0 l1_1 l1_2 a1_3 a1_4 a1_5 l2_0 a2_1 a2_2 a2_3) else (spileref30_right.j0 k bt291.1 bt291.2 false l1_0 l1_1 l1_2 a1_3 a1_4 a1_5 l2_0 a2_1 a2_2 a2_3))
theorem spileref30_right.mono_l : ∀ k, (∀ y0 y1 y2 y3 y4 y5 y6 y7 y8 y9 y10 y11 y12, LeO (spileref30_right.j0 k y0 y1 y2 y3 y4 y5 y6 y7 y8 y9 y10 y11 y12) (spileref30_right.j0 (k + 1) y0 y1 y2 y3 y4 y5 y6 y7 y8 y9 y10 y11 y12)) ∧ (∀ y0 y1 y2 y3 y4 y5 y6 y7 y8 y9 y10 y11 y12, LeO (spileref30_right.l0 k y0 y1 y2 y3 y4 y5 y6 y7 y8 y9 y10 y11 y12) (spileref30_right.l0 (k + 1) y0 y1 y2 y3 y4 y5 y6 y7 y8 y9 y10 y11 y12))
 | 0 => ⟨fun _ _ _ _ _ _ _ _ _ _ _ _ _ r h => by simp [spileref30_right.j0] at h, fun _ _ _ _ _ _ _ _ _ _ _ _ _ r h => by simp [spileref30_right.l0] at h⟩
 | k + 1 => by
  obtain ⟨ih0, ih1⟩ := spileref30_right.mono_l k
  refine ⟨?_, ?_⟩
  ·intro y0 y1 y2 y3 y4 y5 y6 y7 y8 y9 y10 y11 y12
   unfold spileref30_right.j0
   repeat' first
   | (with_reducible exact ih0 _ _ _ _ _ _ _ _ _ _ _ _ _)
   | (with_reducible exact ih1 _ _ _ _ _ _ _ _ _ _ _ _ _)
   | (with_reducible exact spileref30_excess.mono _ _ _ _ _ _ _ _)
   | (with_reducible exact spileref30_need.mono _ _ _ _ _ _ _)
   | (with_reducible exact LeO.refl _)
   | (with_reducible exact LeO.none _)
   | (with_reducible refine LeO.ite ?_ ?_)
   | (with_reducible refine LeO.bind ?_ (fun _ => ?_))
   | exact ih0 _ _ _ _ _ _ _ _ _ _ _ _ _
   | exact ih1 _ _ _ _ _ _ _ _ _ _ _ _ _
   | exact spileref30_excess.mono _ _ _ _ _ _ _ _
   | exact spileref30_need.mono _ _ _ _ _ _ _
   | exact LeO.none _
   | refine LeO.ite ?_ ?_
   | refine LeO.bind ?_ (fun _ => ?_)
  ·intro y0 y1 y2 y3 y4 y5 y6 y7 y8 y9 y10 y11 y12
   unfold spileref30_right.l0
   repeat' first
   | (with_reducible exact ih0 _ _ _ _ _ _ _ _ _ _ _ _ _)
   | (with_reducible exact ih1 _ _ _ _ _ _ _ _ _ _ _ _ _)
   | (with_reducible exact spileref30_excess.mono _ _ _ _ _ _ _ _)
   | (with_reducible exact spileref30_need.mono _ _ _ _ _ _ _)
   | (with_reducible exact LeO.refl _)
   | (with_reducible exact LeO.none _)
   | (with_reducible refine LeO.ite ?_ ?_)
   | (with_reducible refine LeO.bind ?_ (fun _ => ?_))
   | exact ih0 _ _ _ _ _ _ _ _ _ _ _ _ _
   | exact ih1 _ _ _ _ _ _ _ _ _ _ _ _ _
   | exact spileref30_excess.mono _ _ _ _ _ _ _ _
   | exact spileref30_need.mono _ _ _ _ _ _ _
   | exact LeO.none _
   | refine LeO.ite ?_ ?_
   | refine LeO.bind ?_ (fun _ => ?_)
theorem spileref30_right.mono : ∀ a0 a1 a2 a3 a4 a5 a6 a7 a8 a9 a10 k, LeO (spileref30_right.f k a0 a1 a2 a3 a4 a5 a6 a7 a8 a9 a10) (spileref30_right.f (k + 1) a0 a1 a2 a3 a4 a5 a6 a7 a8 a9 a10) := by
 intro a0 a1 a2 a3 a4 a5 a6 a7 a8 a9 a10 k
 obtain ⟨ih0, ih1⟩ := spileref30_right.mono_l k
 unfold spileref30_right.f
 repeat' first
   | (with_reducible exact ih0 _ _ _ _ _ _ _ _ _ _ _ _ _)
   | (with_reducible exact ih1 _ _ _ _ _ _ _ _ _ _ _ _ _)
   | (with_reducible exact spileref30_excess.mono _ _ _ _ _ _ _ _)
   | (with_reducible exact spileref30_need.mono _ _ _ _ _ _ _)
   | (with_reducible exact LeO.refl _)
   | (with_reducible exact LeO.none _)
   | (with_reducible refine LeO.ite ?_ ?_)
   | (with_reducible refine LeO.bind ?_ (fun _ => ?_))
   | exact ih0 _ _ _ _ _ _ _ _ _ _ _ _ _
   | exact ih1 _ _ _ _ _ _ _ _ _ _ _ _ _
   | exact spileref30_excess.mono _ _ _ _ _ _ _ _
   | exact spileref30_need.mono _ _ _ _ _ _ _
   | exact LeO.none _
   | refine LeO.ite ?_ ?_
   | refine LeO.bind ?_ (fun _ => ?_)
def rtryC (k : Nat) (l0 : List S82) (l1_0 : List S45) (l1_1 l1_2 : List Int) (a1_3 a1_4 a1_5 : Int) (lo hi : List Int) (c : S30) : Option (S30 × Bool) :=
  (spileref30_need.f k lo hi [] c.f1 c.f2 c.f3).bind fun u => if u.length ≤ 5000 then (spileref30_right.f k l0 l1_0 l1_1 l1_2 a1_3 a1_4 a1_5 (u.map up0) c.f1 c.f2 c.f3).bind fun b => some (⟨u.map up0, c.f1, c.f2, c.f3⟩, b) else none
def spileref30_Refuse.f (k : Nat) (l0 : List S82) (l1_0 : List S45) (l1_1 l1_2 : List Int) (a1_3 a1_4 a1_5 : Int) : Option (List Int × Int × Int × Int × Int) :=
  (spileref29_Check.f k l0 l1_0 l1_1 l1_2 a1_3 a1_4 a1_5).bind fun e => if e = 0 then (spileref30_excess.f k l0 l1_0 l1_1 l1_2 a1_3 a1_4 a1_5).bind fun x => (spileref30_candidates.f k x.1 x.2).bind fun cs => if cs.length ≤ 5000 then (cs.mapM (rtryC k l0 l1_0 l1_1 l1_2 a1_3 a1_4 a1_5 x.1 x.2)).bind fun rs => some (refuseR rs) else none else some ([], 0, 0, 0, 1)
theorem rtryC.mono (k : Nat) (l0 : List S82) (l1_0 : List S45) (l1_1 l1_2 : List Int) (a1_3 a1_4 a1_5 : Int) (lo hi : List Int) (c : S30) : LeO (rtryC k l0 l1_0 l1_1 l1_2 a1_3 a1_4 a1_5 lo hi c) (rtryC (k + 1) l0 l1_0 l1_1 l1_2 a1_3 a1_4 a1_5 lo hi c) := by
  unfold rtryC
  refine LeO.bind (spileref30_need.mono _ _ _ _ _ _ _) (fun u => ?_)
  split
  · exact LeO.bind (spileref30_right.mono _ _ _ _ _ _ _ _ _ _ _ _) (fun t => LeO.refl _)
  · exact LeO.refl _
theorem spileref30_Refuse.mono : ∀ a0 a1 a2 a3 a4 a5 a6 k, LeO (spileref30_Refuse.f k a0 a1 a2 a3 a4 a5 a6) (spileref30_Refuse.f (k + 1) a0 a1 a2 a3 a4 a5 a6) := by
  intro a0 a1 a2 a3 a4 a5 a6 k
  unfold spileref30_Refuse.f
  refine LeO.bind (spileref29_Check.mono _ _ _ _ _ _ _ _) (fun e => ?_)
  split
  · refine LeO.bind (spileref30_excess.mono _ _ _ _ _ _ _ _) (fun x => LeO.bind (spileref30_candidates.mono _ _ _) (fun cs => ?_))
    split
    · exact LeO.bind (mapM_leO (fun x => rtryC.mono k _ _ _ _ _ _ _ _ _ x) _) (fun rs => LeO.refl _)
    · exact LeO.refl _
  · exact LeO.refl _
end Go.Proofs.YtcdkbciagchlgaaDoor.PF
