-- Written by a program of this session (wip/pr.py) out of Lean's print of the translation; Lean checks it.
import Derived.Test.YtcdkbciagchlgaaDoorPF0
import Derived.Test.YtcdkbciagchlgaaDoorPF1
import Derived.Test.YtcdkbciagchlgaaDoorPF13
import Derived.Test.YtcdkbciagchlgaaDoorPF15
import Derived.Test.YtcdkbciagchlgaaDoorPF16
namespace Go.Proofs.YtcdkbciagchlgaaDoor.PF
open Go.RowKit Go.Proofs.YtcdkbciagchlgaaDoorW.PrintWords Go.Proofs.YtcdkbciagchlgaaDoorW.PrintLast Go.Proofs.YtcdkbciagchlgaaDoorW.PrintMore
attribute [local go_sem] max2_int min2_int max_two min_two max_three min_three max_four min_four   
set_option linter.unusedVariables false
set_option linter.unusedSimpArgs false
def spileref16_Decimal.f : Nat → Int → Option (ByteArray)
 | 0, _ => none
 | k + 1, a0 => if a0 < 10 then (if 0 ≤ a0 then (if a0 ≤ (wrap64 (a0 + 1)) then (if (wrap64 (a0 + 1)) ≤ 10 then (some ((⟨#[48, 49, 50, 51, 52, 53, 54, 55, 56, 57]⟩ : ByteArray).extract (a0 : Int).toNat ((wrap64 (a0 + 1)) : Int).toNat)) else (none)) else (none)) else (none)) else ((spileref16_Decimal.f k (wrap64 (Int.tdiv a0 10))).bind fun t311 => (if 0 ≤ (Int.tmod a0 10) then (if (Int.tmod a0 10) ≤ (wrap64 ((Int.tmod a0 10) + 1)) then (if (wrap64 ((Int.tmod a0 10) + 1)) ≤ 10 then (if t311.size + ((⟨#[48, 49, 50, 51, 52, 53, 54, 55, 56, 57]⟩ : ByteArray).extract ((Int.tmod a0 10) : Int).toNat ((wrap64 ((Int.tmod a0 10) + 1)) : Int).toNat).size ≤ 9223372036854775807 then (some (t311 ++ ((⟨#[48, 49, 50, 51, 52, 53, 54, 55, 56, 57]⟩ : ByteArray).extract ((Int.tmod a0 10) : Int).toNat ((wrap64 ((Int.tmod a0 10) + 1)) : Int).toNat))) else (none)) else (none)) else (none)) else (none)))
theorem spileref16_Decimal.mono_l : ∀ k, (∀ y0, LeO (spileref16_Decimal.f k y0) (spileref16_Decimal.f (k + 1) y0))
 | 0 => fun _ r h => by simp [spileref16_Decimal.f] at h
 | k + 1 => by
  have ih0 := spileref16_Decimal.mono_l k
  ·intro y0
   unfold spileref16_Decimal.f
   repeat' first
   | (with_reducible exact ih0 _)
   | (with_reducible exact LeO.refl _)
   | (with_reducible exact LeO.none _)
   | (with_reducible refine LeO.ite ?_ ?_)
   | (with_reducible refine LeO.bind ?_ (fun _ => ?_))
   | exact ih0 _
   | exact LeO.none _
   | refine LeO.ite ?_ ?_
   | refine LeO.bind ?_ (fun _ => ?_)
theorem spileref16_Decimal.mono : ∀ a0 k, LeO (spileref16_Decimal.f k a0) (spileref16_Decimal.f (k + 1) a0) := by
 intro a0 k
 have ih0 := spileref16_Decimal.mono_l k
 exact ih0 a0
def fewT : ByteArray := ⟨#[116, 111, 111, 32, 102, 101, 119, 32, 117, 110, 105, 116, 115]⟩
def weakT : ByteArray := ⟨#[116, 111, 111, 32, 119, 101, 97, 107]⟩
def strongT : ByteArray := ⟨#[116, 111, 111, 32, 115, 116, 114, 111, 110, 103]⟩
def facT : ByteArray := ⟨#[44, 32, 102, 97, 99, 116, 111, 114, 32]⟩
def spileref30_Why.f (k : Nat) (l0_0 : List Int) (a0_1 a0_2 a0_3 : Int) : Option (ByteArray × Int) :=
  (spileref30_formed.f k l0_0 a0_1 a0_2 a0_3).bind fun b => if b = true then (spileref16_Decimal.f k a0_3).bind fun t => (if t.size ≤ 1000 then some ((if a0_2 = 1 then strongT else if a0_1 = 1 then weakT else fewT) ++ facT ++ t, 0) else none) else some ((⟨#[]⟩ : ByteArray), 2)
theorem spileref30_Why.mono : ∀ a0 a1 a2 a3 k, LeO (spileref30_Why.f k a0 a1 a2 a3) (spileref30_Why.f (k + 1) a0 a1 a2 a3) := by
  intro a0 a1 a2 a3 k
  unfold spileref30_Why.f
  refine LeO.bind (spileref30_formed.mono _ _ _ _ _) (fun b => ?_)
  split
  · exact LeO.bind (spileref16_Decimal.mono _ _) (fun t => LeO.refl _)
  · exact LeO.refl _
def spileref30_Check.f (k : Nat) (l0 : List (S82)) (l1_0 : List (S45)) (l1_1 : List Int) (l1_2 : List Int) (a1_3 : Int) (a1_4 : Int) (a1_5 : Int) (l2_0 : List Int) (a2_1 : Int) (a2_2 : Int) (a2_3 : Int) : Option (Int) := (spileref29_Check.f k l0 l1_0 l1_1 l1_2 a1_3 a1_4 a1_5).bind fun t314 => (if t314 = 0 then (if (l2_0.length : Int) = (l1_0.length : Int) then ((spileref30_formed.f k l2_0 a2_1 a2_2 a2_3).bind fun t315 => (if t315 = true then ((spileref30_right.f k l0 l1_0 l1_1 l1_2 a1_3 a1_4 a1_5 l2_0 a2_1 a2_2 a2_3).bind fun t316 => (if t316 = true then (some 0) else (some 14))) else (some 2))) else (some 10)) else (some 1))
theorem spileref30_Check.mono : ∀ a0 a1 a2 a3 a4 a5 a6 a7 a8 a9 a10 k, LeO (spileref30_Check.f k a0 a1 a2 a3 a4 a5 a6 a7 a8 a9 a10) (spileref30_Check.f (k + 1) a0 a1 a2 a3 a4 a5 a6 a7 a8 a9 a10) := by
 intro a0 a1 a2 a3 a4 a5 a6 a7 a8 a9 a10 k
 unfold spileref30_Check.f
 repeat' first
   | (with_reducible exact spileref29_Check.mono _ _ _ _ _ _ _ _)
   | (with_reducible exact spileref30_formed.mono _ _ _ _ _)
   | (with_reducible exact spileref30_right.mono _ _ _ _ _ _ _ _ _ _ _ _)
   | (with_reducible exact LeO.refl _)
   | (with_reducible exact LeO.none _)
   | (with_reducible refine LeO.ite ?_ ?_)
   | (with_reducible refine LeO.bind ?_ (fun _ => ?_))
   | exact spileref29_Check.mono _ _ _ _ _ _ _ _
   | exact spileref30_formed.mono _ _ _ _ _
   | exact spileref30_right.mono _ _ _ _ _ _ _ _ _ _ _ _
   | exact LeO.none _
   | refine LeO.ite ?_ ?_
   | refine LeO.bind ?_ (fun _ => ?_)
end Go.Proofs.YtcdkbciagchlgaaDoor.PF
