-- Written by a program of this session (wip/pr.py) out of Lean's print of the translation; Lean checks it.
import Derived.Test.YtcdkbciagchlgaaDoorPF0
import Derived.Test.YtcdkbciagchlgaaDoorPF1
import Derived.Test.YtcdkbciagchlgaaDoorPF3
import Derived.Test.YtcdkbciagchlgaaDoorPF4
import Derived.Test.YtcdkbciagchlgaaDoorPF9
import Derived.Test.YtcdkbciagchlgaaDoorPF10
import Derived.Test.YtcdkbciagchlgaaDoorPF16
namespace Go.Proofs.YtcdkbciagchlgaaDoor.PF
open Go.RowKit Go.Proofs.YtcdkbciagchlgaaDoorW.PrintWords Go.Proofs.YtcdkbciagchlgaaDoorW.PrintLast Go.Proofs.YtcdkbciagchlgaaDoorW.PrintMore
attribute [local go_sem] max2_int min2_int max_two min_two max_three min_three max_four min_four   
set_option linter.unusedVariables false
set_option linter.unusedSimpArgs false
theorem alcohol_Strength.eqL (d : Nat) (w : World) (x0 y0 x1 y1 : Int) :
    (Op.equalIn (d + 2) 45 (.agg #[.int .i64 x0, .int .i64 x1]) (.agg #[.int .i64 y0, .int .i64 y1])).run Tryd.prog w = .ok (x0 == y0 && (x1 == y1)) w := by
  refine eqA_of Tryd.underlying45 (by kernel_rfl) ?_
  refine eqf_cons (by rfl) (by go_simp; rfl) (by go_simp; rfl) (by go_simp) ?_
  exact eqf_last (by rfl) (by go_simp; rfl) (by go_simp; rfl) (by go_simp)
section
attribute [local go_sem high] alcohol_Strength.eqL
def alcohol_Strength.f (l0 : List S82) (a1_0 a1_1 : Int) : Option (Int × Int) := if lchk l0 a1_0 a1_1 = 0 then some (gradeS l0 a1_0 a1_1, 0) else some (0, 1)
end
def spilelaw30_RefusalFew.l0 : Nat → List (S82) → Int → Int → Bool → Bool → List (S45) → Int → Int → List (S45) → List Int → List Int → Int → Int → Int → List Int → Int → Int → Int → Option (Bool)
 | 0, _, _, _, _, _, _, _, _, _, _, _, _, _, _, _, _, _, _ => none
 | k + 1, x0, x6, x7, x8, x9, x33, x34, x35, x328000, x328001, x328002, x328003, x328004, x328005, x338000, x338001, x338002, x338003 => if x35 < x34 then (if 0 ≤ x35 then (if x35 < (x33.length : Int) then (if x35 ≥ (x328001.length : Int) then (some false) else ((alcohol_Strength.f x0 ((rd_T45 x33 x35).f0) ((rd_T45 x33 x35).f1)).bind fun bt341 => (if bt341.2 = 0 then (if x35 < (x328001.length : Int) then (if x8 = true then (if x9 = true then (spilelaw30_RefusalFew.l0 k x0 x6 (wrap64 (x7 + (rd x328001 x35))) (decide (bt341.1 < x328003)) (decide (bt341.1 > x328004)) x33 x34 (wrap64 (x35 + 1)) x328000 x328001 x328002 x328003 x328004 x328005 x338000 x338001 x338002 x338003) else (spilelaw30_RefusalFew.l0 k x0 x6 (wrap64 (x7 + (rd x328001 x35))) (decide (bt341.1 < x328003)) false x33 x34 (wrap64 (x35 + 1)) x328000 x328001 x328002 x328003 x328004 x328005 x338000 x338001 x338002 x338003)) else (if x9 = true then (spilelaw30_RefusalFew.l0 k x0 x6 (wrap64 (x7 + (rd x328001 x35))) false (decide (bt341.1 > x328004)) x33 x34 (wrap64 (x35 + 1)) x328000 x328001 x328002 x328003 x328004 x328005 x338000 x338001 x338002 x338003) else (spilelaw30_RefusalFew.l0 k x0 x6 (wrap64 (x7 + (rd x328001 x35))) false false x33 x34 (wrap64 (x35 + 1)) x328000 x328001 x328002 x328003 x328004 x328005 x338000 x338001 x338002 x338003))) else (none)) else (some false)))) else (none)) else (none)) else (if x7 < x328005 then (if x6 = 0 then (if x338001 = 0 then (if x338002 = 0 then (some (x338003 == 1)) else (some false)) else (some false)) else (some false)) else (if x8 = true then (some (x6 == 0)) else (if x9 = true then (some (x6 == 0)) else (some true))))
def spilelaw30_RefusalFew.f (k : Nat) (l0 : List (S82)) (l1_0 : List (S45)) (l1_1 : List Int) (l1_2 : List Int) (a1_3 : Int) (a1_4 : Int) (a1_5 : Int) : Option (Bool) := (spilelaw30_awake.f).bind fun t328 => (if t328 = true then ((spilelaw30_few.f l0 l1_0 l1_1 l1_2 a1_3 a1_4 a1_5 ([] : List Int) 0 0 0).bind fun t329 => (if t329 = true then ((refusal_Refuse.f k l0 l1_0 l1_1 l1_2 a1_3 a1_4 a1_5).bind fun bt330 => (if bt330.2.2.2.2 = 1 then ((spileref30_Same.f k bt330.1 bt330.2.1 bt330.2.2.1 bt330.2.2.2.1 ([] : List Int) 0 0 0).bind fun t338 => (some t338)) else (spilelaw30_RefusalFew.l0 k l0 bt330.2.2.2.2 0 true true l1_0 (l1_0.length : Int) 0 l1_0 l1_1 l1_2 a1_3 a1_4 a1_5 bt330.1 bt330.2.1 bt330.2.2.1 bt330.2.2.2.1))) else (some true))) else (some false))
theorem spilelaw30_RefusalFew.mono_l : ∀ k, (∀ y0 y1 y2 y3 y4 y5 y6 y7 y8 y9 y10 y11 y12 y13 y14 y15 y16 y17, LeO (spilelaw30_RefusalFew.l0 k y0 y1 y2 y3 y4 y5 y6 y7 y8 y9 y10 y11 y12 y13 y14 y15 y16 y17) (spilelaw30_RefusalFew.l0 (k + 1) y0 y1 y2 y3 y4 y5 y6 y7 y8 y9 y10 y11 y12 y13 y14 y15 y16 y17))
 | 0 => fun _ _ _ _ _ _ _ _ _ _ _ _ _ _ _ _ _ _ r h => by simp [spilelaw30_RefusalFew.l0] at h
 | k + 1 => by
  have ih0 := spilelaw30_RefusalFew.mono_l k
  ·intro y0 y1 y2 y3 y4 y5 y6 y7 y8 y9 y10 y11 y12 y13 y14 y15 y16 y17
   unfold spilelaw30_RefusalFew.l0
   repeat' first
   | (with_reducible exact ih0 _ _ _ _ _ _ _ _ _ _ _ _ _ _ _ _ _ _)
   | (with_reducible exact refusal_Refuse.mono _ _ _ _ _ _ _ _)
   | (with_reducible exact spileref30_Same.mono _ _ _ _ _ _ _ _ _)
   | (with_reducible exact LeO.refl _)
   | (with_reducible exact LeO.none _)
   | (with_reducible refine LeO.ite ?_ ?_)
   | (with_reducible refine LeO.bind ?_ (fun _ => ?_))
   | exact ih0 _ _ _ _ _ _ _ _ _ _ _ _ _ _ _ _ _ _
   | exact refusal_Refuse.mono _ _ _ _ _ _ _ _
   | exact spileref30_Same.mono _ _ _ _ _ _ _ _ _
   | exact LeO.none _
   | refine LeO.ite ?_ ?_
   | refine LeO.bind ?_ (fun _ => ?_)
theorem spilelaw30_RefusalFew.mono : ∀ a0 a1 a2 a3 a4 a5 a6 k, LeO (spilelaw30_RefusalFew.f k a0 a1 a2 a3 a4 a5 a6) (spilelaw30_RefusalFew.f (k + 1) a0 a1 a2 a3 a4 a5 a6) := by
 intro a0 a1 a2 a3 a4 a5 a6 k
 have ih0 := spilelaw30_RefusalFew.mono_l k
 unfold spilelaw30_RefusalFew.f
 repeat' first
   | (with_reducible exact ih0 _ _ _ _ _ _ _ _ _ _ _ _ _ _ _ _ _ _)
   | (with_reducible exact refusal_Refuse.mono _ _ _ _ _ _ _ _)
   | (with_reducible exact spileref30_Same.mono _ _ _ _ _ _ _ _ _)
   | (with_reducible exact LeO.refl _)
   | (with_reducible exact LeO.none _)
   | (with_reducible refine LeO.ite ?_ ?_)
   | (with_reducible refine LeO.bind ?_ (fun _ => ?_))
   | exact ih0 _ _ _ _ _ _ _ _ _ _ _ _ _ _ _ _ _ _
   | exact refusal_Refuse.mono _ _ _ _ _ _ _ _
   | exact spileref30_Same.mono _ _ _ _ _ _ _ _ _
   | exact LeO.none _
   | refine LeO.ite ?_ ?_
   | refine LeO.bind ?_ (fun _ => ?_)
def mix_plain.f (a0_0 : Int) (a0_1 : Int) : Option (Bool) := if a0_0 ≥ 0 then (if a0_0 ≤ 10737418240000 then (if a0_1 ≥ 0 then (if a0_1 ≤ 128849018880000 then (if a0_1 > 0 then (some true) else (some (a0_0 == 0))) else (some false)) else (some false)) else (some false)) else (some false)
def sumsL (l : List S45) : Nat → Int × Int
  | 0 => (0, 0)
  | j + 1 => (wrap64 ((sumsL l j).1 + (rd_T45 l j).f0), wrap64 ((sumsL l j).2 + (rd_T45 l j).f1))
def mix_total.f (l0 : List S45) : Option (Int × Int) := if l0.length < 4611686018427387904 then some (sumsL l0 l0.length) else none
end Go.Proofs.YtcdkbciagchlgaaDoor.PF
