/- The text of a refusal, as the program and as the reference writes it; the sizes that the laws of layer 30 ask. -/
import Derived.Test.YtcdkbciagchlgaaDoorMEv
import Derived.Test.YtcdkbciagchlgaaDoorMRef30b
import Derived.Test.YtcdkbciagchlgaaDoorPF0
import Derived.Test.YtcdkbciagchlgaaDoorPF1
import Derived.Test.YtcdkbciagchlgaaDoorPF10
import Derived.Test.YtcdkbciagchlgaaDoorPF17
import Derived.Test.YtcdkbciagchlgaaDoorPF8
import Derived.Test.YtcdkbciagchlgaaDoorPF9
namespace Go.Proofs.YtcdkbciagchlgaaDoor.PF
open Go.RowKit Go.Proofs.YtcdkbciagchlgaaDoorW.PrintWords Go.Proofs.YtcdkbciagchlgaaDoorW.PrintLast Go.Proofs.YtcdkbciagchlgaaDoorW.PrintMore
set_option linter.unusedVariables false
set_option linter.unusedSimpArgs false
theorem dig_ext {a : Nat} (h : a < 10) : (⟨#[48, 49, 50, 51, 52, 53, 54, 55, 56, 57]⟩ : ByteArray).extract ((a : Int)).toNat (wrap64 ((a : Int) + 1)).toNat = ⟨#[UInt8.ofNat (48 + a)]⟩ := by
  rw [w64_ (by omega) (by omega), Int.toNat_natCast, show ((a : Int) + 1).toNat = a + 1 by omega]
  rcases (show a = 0 ∨ a = 1 ∨ a = 2 ∨ a = 3 ∨ a = 4 ∨ a = 5 ∨ a = 6 ∨ a = 7 ∨ a = 8 ∨ a = 9 by omega) with rfl | rfl | rfl | rfl | rfl | rfl | rfl | rfl | rfl | rfl <;> rfl
theorem dec_lt10 {u : Nat} (c : u < 10) (k : Nat) : spileref16_Decimal.f (k + 1) (u : Int) = some (⟨(decW u).toArray⟩ : ByteArray) := by
  simp only [spileref16_Decimal.f]
  rw [if_pos (by omega), if_pos (by omega), dig_ext c, w64_ (x := (u : Int) + 1) (by omega) (by omega), if_pos (by omega), if_pos (by omega), decW, dif_pos c]
theorem dec_ev : ∀ d u : Nat, u < 10 ^ d → d ≤ 18 → Ev (fun k => spileref16_Decimal.f k (u : Int)) (⟨(decW u).toArray⟩ : ByteArray) ∧ (decW u).length ≤ d + 1 := by
  intro d
  induction d with
  | zero =>
    intro u hu _
    have c : u < 10 := by rw [Nat.pow_zero] at hu; omega
    exact ⟨Ev.ret (fun k => dec_lt10 c k), by rw [decW, dif_pos c]; exact Nat.le_refl _⟩
  | succ d ih =>
    intro u hu hd
    by_cases c : u < 10
    · exact ⟨Ev.ret (fun k => dec_lt10 c k), by rw [decW, dif_pos c]; simp⟩
    · obtain ⟨⟨N, hN⟩, h2⟩ := ih (u / 10) (by rw [Nat.pow_succ] at hu; omega) (by omega)
      have hp : 10 ^ (d + 1) ≤ 10 ^ 18 := Nat.pow_le_pow_right (by decide) hd
      have hu18 : u < 1000000000000000000 := Nat.lt_of_lt_of_le hu hp
      have e1 : wrap64 (Int.tdiv (u : Int) 10) = ((u / 10 : Nat) : Int) := by
        have e : Int.tdiv (u : Int) 10 = ((u / 10 : Nat) : Int) := rfl
        rw [e]; exact w64_ (by omega) (by omega)
      have e2 : Int.tmod (u : Int) 10 = ((u % 10 : Nat) : Int) := rfl
      have e3 : decW u = decW (u / 10) ++ [UInt8.ofNat (48 + u % 10)] := by rw [decW, dif_neg c]
      refine ⟨⟨N + 1, fun k hk => ?_⟩, by rw [e3, List.length_append, List.length_singleton]; omega⟩
      obtain ⟨j, rfl⟩ : ∃ j, k = j + 1 := ⟨k - 1, by omega⟩
      simp only [spileref16_Decimal.f]
      have hNj : spileref16_Decimal.f j ((u / 10 : Nat) : Int) = some (⟨(decW (u / 10)).toArray⟩ : ByteArray) := hN j (by omega)
      rw [if_neg (by omega), e1, hNj, Option.bind_some, e2, dig_ext (Nat.mod_lt _ (by decide)), if_pos (by omega), w64_ (x := ((u % 10 : Nat) : Int) + 1) (by omega) (by omega), if_pos (by omega), if_pos (by omega),
        if_pos (by show (decW (u / 10)).length + 1 ≤ 9223372036854775807; omega), e3]
      exact congrArg some (ByteArray.ext (by simp [ByteArray.data_append]))
theorem Why_ev {U : List Int} (hU : U.length ≤ 1000000) (f1 f2 f3 : Int) : ∃ r, refusal_Why.f U f1 f2 f3 = some r ∧ Ev (fun k => spileref30_Why.f k U f1 f2 f3) r := by
  unfold refusal_Why.f spileref30_Why.f
  rw [formed_plain hU, Option.bind_some]
  have hE := rformed_ev hU f1 f2 f3
  cases hf : formB U f1 f2 f3
  · rw [hf] at hE
    exact ⟨_, by rw [if_neg (by decide)], Ev.bind hE (Ev.now fun k => by rw [if_neg (by decide)])⟩
  · have hF := (formB_iff U f1 f2 f3).1 hf
    rw [hf] at hE
    refine ⟨_, by rw [if_pos rfl], Ev.bind hE ?_⟩
    simp only [if_true]
    have h3 := hF.hf3
    obtain ⟨h1, h2⟩ := dec_ev 18 f3.toNat (by omega) (by decide)
    rw [show ((f3.toNat : Nat) : Int) = f3 by omega] at h1
    refine Ev.bind h1 (Ev.now fun k => ?_)
    rw [if_pos (by show (decW f3.toNat).length ≤ 1000; omega)]
    have hw : (if f2 = 1 then strongT else if f1 = 1 then weakT else fewT) = wordT f1 f2 := by
      have := hF.s
      unfold wordT strongT weakT fewT
      by_cases c1 : f1 = 1
      · rw [if_neg (by omega), if_pos c1, if_pos c1]
      · rw [if_neg c1, if_neg c1]
    rw [hw]
    rfl
theorem few16_some (l : List S82) : ∃ b, spileref16_Few.f l = some b := by
  unfold spileref16_Few.f
  split
  · exact ⟨_, rfl⟩
  · split <;> exact ⟨_, rfl⟩
theorem few30_some (l : List S82) (L : List S45) (V C : List Int) (lo hi al : Int) (U : List Int) (f1 f2 f3 : Int) : ∃ b, spilelaw30_few.f l L V C lo hi al U f1 f2 f3 = some b ∧ (b = true → L.length ≤ 8 ∧ V.length ≤ 8 ∧ C.length ≤ 8 ∧ U.length ≤ 8) := by
  obtain ⟨b, hb⟩ := few16_some l
  unfold spilelaw30_few.f
  rw [hb, Option.bind_some]
  cases b
  · exact ⟨false, by rw [if_neg (by decide)], fun h => by cases h⟩
  rw [if_pos rfl]
  split
  case isFalse => exact ⟨false, rfl, fun h => by cases h⟩
  split
  case isFalse => exact ⟨false, rfl, fun h => by cases h⟩
  split
  case isFalse => exact ⟨false, rfl, fun h => by cases h⟩
  exact ⟨_, rfl, fun h => by have := of_decide_eq_true h; omega⟩

end Go.Proofs.YtcdkbciagchlgaaDoor.PF
