/- The sizes that the laws of layer 30 ask. -/
import Derived.Test.YtcdkbciagchlgaaDoorPF0
import Derived.Test.YtcdkbciagchlgaaDoorPF10
import Derived.Test.YtcdkbciagchlgaaDoorPF9
namespace Go.Proofs.YtcdkbciagchlgaaDoor.PF
open Go.RowKit Go.Proofs.YtcdkbciagchlgaaDoorW.PrintWords Go.Proofs.YtcdkbciagchlgaaDoorW.PrintLast Go.Proofs.YtcdkbciagchlgaaDoorW.PrintMore
set_option linter.unusedVariables false
set_option linter.unusedSimpArgs false
theorem few16_some (l : List S82) : ∃ b, spileref16_Few.f l = some b := by
  unfold spileref16_Few.f
  split
  · exact ⟨_, rfl⟩
  · split <;> exact ⟨_, rfl⟩
theorem few30_some (l : List S82) (L : List S45) (V C : List Int) (lo hi al : Int) (U : List Int) (f1 f2 f3 : Int) : ∃ b, spilelaw30_few.f l L V C lo hi al U f1 f2 f3 = some b ∧ (b = true → L.length ≤ 8 ∧ V.length ≤ 8 ∧ C.length ≤ 8 ∧ U.length ≤ 8) := by
  obtain ⟨b, hb⟩ := few16_some l
  unfold spilelaw30_few.f
  rw [hb, Option.bind_some]
  cases b
  · exact ⟨false, by rw [if_neg (by decide)], fun h => by cases h⟩
  rw [if_pos rfl]
  split
  case isFalse => exact ⟨false, rfl, fun h => by cases h⟩
  split
  case isFalse => exact ⟨false, rfl, fun h => by cases h⟩
  split
  case isFalse => exact ⟨false, rfl, fun h => by cases h⟩
  exact ⟨_, rfl, fun h => by have := of_decide_eq_true h; omega⟩

end Go.Proofs.YtcdkbciagchlgaaDoor.PF
