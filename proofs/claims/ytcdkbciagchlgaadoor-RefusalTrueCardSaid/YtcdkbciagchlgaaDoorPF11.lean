-- Written by a program of this session (wip/pr.py) out of Lean's print of the translation; Lean checks it.
import Derived.Test.YtcdkbciagchlgaaDoorPF0
import Derived.Test.YtcdkbciagchlgaaDoorPF1
import Derived.Test.YtcdkbciagchlgaaDoorPF3
namespace Go.Proofs.YtcdkbciagchlgaaDoor.PF
open Go.RowKit Go.Proofs.YtcdkbciagchlgaaDoorW.PrintWords Go.Proofs.YtcdkbciagchlgaaDoorW.PrintLast Go.Proofs.YtcdkbciagchlgaaDoorW.PrintMore
attribute [local go_sem] max2_int min2_int max_two min_two max_three min_three max_four min_four   
set_option linter.unusedVariables false
set_option linter.unusedSimpArgs false
def spileref29_sizes.f (l0_0 : List (S45)) (l0_1 : List Int) (l0_2 : List Int) (a0_3 : Int) (a0_4 : Int) (a0_5 : Int) : Option (Int) := if (l0_0.length : Int) = 0 then (some 9) else (if (l0_0.length : Int) > 4 then (some 8) else (if (l0_1.length : Int) = (l0_0.length : Int) then (if (l0_2.length : Int) = (l0_0.length : Int) then (some 0) else (some 10)) else (some 10)))
def spileref16_At.l0 : Nat → List (S82) → Int → Int → Int → Option (Int)
 | 0, _, _, _, _ => none
 | k + 1, x0, x1, x5, x6 => if x6 < (x0.length : Int) then (if 0 ≤ x6 then (if ((rd_T82 x0 x6).f0) ≤ x1 then (spileref16_At.l0 k x0 x1 x6 (wrap64 (x6 + 1))) else (spileref16_At.l0 k x0 x1 x5 (wrap64 (x6 + 1)))) else (none)) else (some x5)
def spileref16_At.f (k : Nat) (l0 : List (S82)) (a1 : Int) : Option (Int) := spileref16_At.l0 k l0 a1 0 0
theorem spileref16_At.mono_l : ∀ k, (∀ y0 y1 y2 y3, LeO (spileref16_At.l0 k y0 y1 y2 y3) (spileref16_At.l0 (k + 1) y0 y1 y2 y3))
 | 0 => fun _ _ _ _ r h => by simp [spileref16_At.l0] at h
 | k + 1 => by
  have ih0 := spileref16_At.mono_l k
  ·intro y0 y1 y2 y3
   unfold spileref16_At.l0
   repeat' first
   | (with_reducible exact ih0 _ _ _ _)
   | (with_reducible exact LeO.refl _)
   | (with_reducible exact LeO.none _)
   | (with_reducible refine LeO.ite ?_ ?_)
   | (with_reducible refine LeO.bind ?_ (fun _ => ?_))
   | exact ih0 _ _ _ _
   | exact LeO.none _
   | refine LeO.ite ?_ ?_
   | refine LeO.bind ?_ (fun _ => ?_)
theorem spileref16_At.mono : ∀ a0 a1 k, LeO (spileref16_At.f k a0 a1) (spileref16_At.f (k + 1) a0 a1) := by
 intro a0 a1 k
 have ih0 := spileref16_At.mono_l k
 unfold spileref16_At.f
 repeat' first
   | (with_reducible exact ih0 _ _ _ _)
   | (with_reducible exact LeO.refl _)
   | (with_reducible exact LeO.none _)
   | (with_reducible refine LeO.ite ?_ ?_)
   | (with_reducible refine LeO.bind ?_ (fun _ => ?_))
   | exact ih0 _ _ _ _
   | exact LeO.none _
   | refine LeO.ite ?_ ?_
   | refine LeO.bind ?_ (fun _ => ?_)
def lastLe (l : List S82) (s : Int) : Nat → Nat → Nat → Nat
  | 0, _, at_ => at_
  | d + 1, i, at_ => lastLe l s d (i + 1) (if (rd_T82 l i).f0 ≤ s then i else at_)
def spileref16_At_s.f (l0 : List S82) (a1 : Int) : Option Int := if l0.length ≤ 9223372036854775807 then some ((lastLe l0 a1 l0.length 0 0 : Nat) : Int) else none
def spileref18_line.f (a0_0 : Int) (a0_1 : Int) (a1_0 : Int) (a1_1 : Int) (a2 : Int) : Option (Int) := if (wrap64 (2 * (wrap64 (a1_0 - a0_0)))) = 0 then (none) else (some (wrap64 (Int.tdiv (wrap64 ((wrap64 (2 * (wrap64 ((wrap64 (a0_1 * (wrap64 (a1_0 - a0_0)))) + (wrap64 ((wrap64 (a1_1 - a0_1)) * (wrap64 (a2 - a0_0)))))))) + (wrap64 (a1_0 - a0_0)))) (wrap64 (2 * (wrap64 (a1_0 - a0_0)))))))
def spileref18_At.f (l0 : List (S82)) (a1 : Int) : Option (Int) := (spileref16_At_s.f l0 a1).bind fun t229 => (if 0 ≤ t229 then (if t229 < (l0.length : Int) then (if ((rd_T82 l0 t229).f0) = a1 then (some ((rd_T82 l0 t229).f1)) else (if 0 ≤ (wrap64 (t229 + 1)) then (if (wrap64 (t229 + 1)) < (l0.length : Int) then ((spileref18_line.f ((rd_T82 l0 t229).f0) ((rd_T82 l0 t229).f1) ((rd_T82 l0 (wrap64 (t229 + 1))).f0) ((rd_T82 l0 (wrap64 (t229 + 1))).f1) a1).bind fun t234 => (some t234)) else (none)) else (none))) else (none)) else (none))
def spileref18_At_s.f (l0 : List S82) (a1 : Int) : Option Int := if (dchk l0).2 = 0 ∧ 0 ≤ a1 ∧ a1 ≤ 10000 then some (dens l0 a1) else none
theorem RightT.at18s {l : List S82} (h : RightT l) {s : Int} (h0 : 0 ≤ s) (h1 : s ≤ 10000) : spileref18_At_s.f l s = some (dens l s) := by
  unfold spileref18_At_s.f
  rw [if_pos ⟨(right_iff l).2 h, h0, h1⟩]
end Go.Proofs.YtcdkbciagchlgaaDoor.PF
