-- Written by a program of this session (wip/pr.py) out of Lean's print of the translation; Lean checks it.
import Derived.Test.YtcdkbciagchlgaaDoorPF0
import Derived.Test.YtcdkbciagchlgaaDoorPF1
import Derived.Test.YtcdkbciagchlgaaDoorPF6
import Derived.Test.YtcdkbciagchlgaaDoorPF9
import Derived.Test.YtcdkbciagchlgaaDoorPF10
import Derived.Test.YtcdkbciagchlgaaDoorPF19
import Derived.Test.YtcdkbciagchlgaaDoorPF20
namespace Go.Proofs.YtcdkbciagchlgaaDoor.PF
open Go.RowKit Go.Proofs.YtcdkbciagchlgaaDoorW.PrintWords Go.Proofs.YtcdkbciagchlgaaDoorW.PrintLast Go.Proofs.YtcdkbciagchlgaaDoorW.PrintMore
attribute [local go_sem] max2_int min2_int max_two min_two max_three min_three max_four min_four   -- for this text's walks alone
set_option linter.unusedVariables false
set_option linter.unusedSimpArgs false

/-! ### spilelaw30_RefusalSigns: function 7 -/
mutual
def spilelaw30_RefusalSigns.j0 : Nat → List (S82) → List Int → List Int → List Int → Bool → List (S45) → List Int → List Int → Int → Int → Int → Int → Int → Option (Bool)
 | 0, _, _, _, _, _, _, _, _, _, _, _, _, _ => none
 | k + 1, x0, x2, x7, x8, x55, x357000, x357001, x357002, x357003, x357004, x357005, x370000, x370001 => if x55 = true then (some true) else ((alcohol_Strength.f x0 x370000 x370001).bind fun bt370 => (if bt370.2 = 0 then (if (x7.length : Int) = (x2.length : Int) then (if (x8.length : Int) = 0 then (spilelaw30_RefusalSigns.j1 k x2 x7 x8 bt370.1 false x357000 x357001 x357002 x357003 x357004 x357005) else (spilelaw30_RefusalSigns.j1 k x2 x7 x8 bt370.1 ((x8.length : Int) != (x2.length : Int)) x357000 x357001 x357002 x357003 x357004 x357005)) else (spilelaw30_RefusalSigns.j1 k x2 x7 x8 bt370.1 true x357000 x357001 x357002 x357003 x357004 x357005)) else (spilelaw30_RefusalSigns.j1 k x2 x7 x8 bt370.1 true x357000 x357001 x357002 x357003 x357004 x357005)))
def spilelaw30_RefusalSigns.j1 : Nat → List Int → List Int → List Int → Int → Bool → List (S45) → List Int → List Int → Int → Int → Int → Option (Bool)
 | 0, _, _, _, _, _, _, _, _, _, _, _ => none
 | k + 1, x2, x7, x8, x12, x82, x357000, x357001, x357002, x357003, x357004, x357005 => if x82 = true then (some false) else (spilelaw30_RefusalSigns.l0 k x7 x8 x12 0 0 x2 (x2.length : Int) 0 x357000 x357001 x357002 x357003 x357004 x357005)
def spilelaw30_RefusalSigns.l0 : Nat → List Int → List Int → Int → Int → Int → List Int → Int → Int → List (S45) → List Int → List Int → Int → Int → Int → Option (Bool)
 | 0, _, _, _, _, _, _, _, _, _, _, _, _, _, _ => none
 | k + 1, x7, x8, x12, x14, x15, x83, x84, x85, x357000, x357001, x357002, x357003, x357004, x357005 => if x85 < x84 then (if 0 ≤ x85 then (if x85 < (x83.length : Int) then (if x85 < (x7.length : Int) then (if (x8.length : Int) > 0 then (if x85 < (x8.length : Int) then (spilelaw30_RefusalSigns.l0 k x7 x8 x12 (wrap64 (x14 + (wrap64 ((rd x83 x85) * (rd x7 x85))))) (wrap64 (x15 + (wrap64 ((rd x83 x85) * (rd x8 x85))))) x83 x84 (wrap64 (x85 + 1)) x357000 x357001 x357002 x357003 x357004 x357005) else (none)) else (spilelaw30_RefusalSigns.l0 k x7 x8 x12 (wrap64 (x14 + (wrap64 ((rd x83 x85) * (rd x7 x85))))) x15 x83 x84 (wrap64 (x85 + 1)) x357000 x357001 x357002 x357003 x357004 x357005)) else (none)) else (none)) else (none)) else (if ((decide (x14 ≥ 0)) != (decide (x12 ≥ x357003))) = true then (some false) else (if (((x8.length : Int) == 0) != (x357004 == 10000)) = true then (some false) else (if (x8.length : Int) = 0 then (some true) else (some ((decide (x15 ≥ 0)) == (decide (x12 > x357004)))))))
end
def spilelaw30_RefusalSigns.f (k : Nat) (l0 : List (S82)) (l1_0 : List (S45)) (l1_1 : List Int) (l1_2 : List Int) (a1_3 : Int) (a1_4 : Int) (a1_5 : Int) (l2 : List Int) : Option (Bool) := (spilelaw30_awake.f).bind fun t357 => (if t357 = true then ((spilelaw30_few.f l0 l1_0 l1_1 l1_2 a1_3 a1_4 a1_5 l2 0 0 0).bind fun t358 => (if t358 = true then ((refusal_Excess.f k l0 l1_0 l1_1 l1_2 a1_3 a1_4 a1_5).bind fun bt359 => (if bt359.2.2 = 0 then ((blend_Of.f k l1_0 l1_1 l1_2 a1_3 a1_4 a1_5 l2).bind fun bt366 => (if bt366.2.2 = 0 then (spilelaw30_RefusalSigns.j0 k l0 l2 bt359.1 bt359.2.1 (bt366.2.1 == 0) l1_0 l1_1 l1_2 a1_3 a1_4 a1_5 bt366.1 bt366.2.1) else (spilelaw30_RefusalSigns.j0 k l0 l2 bt359.1 bt359.2.1 true l1_0 l1_1 l1_2 a1_3 a1_4 a1_5 bt366.1 bt366.2.1))) else (if (bt359.1.length : Int) = 0 then (some ((bt359.2.1.length : Int) == 0)) else (some false)))) else (some true))) else (some false))
theorem spilelaw30_RefusalSigns.mono_l : ∀ k, (∀ y0 y1 y2 y3 y4 y5 y6 y7 y8 y9 y10 y11 y12, LeO (spilelaw30_RefusalSigns.j0 k y0 y1 y2 y3 y4 y5 y6 y7 y8 y9 y10 y11 y12) (spilelaw30_RefusalSigns.j0 (k + 1) y0 y1 y2 y3 y4 y5 y6 y7 y8 y9 y10 y11 y12)) ∧ (∀ y0 y1 y2 y3 y4 y5 y6 y7 y8 y9 y10, LeO (spilelaw30_RefusalSigns.j1 k y0 y1 y2 y3 y4 y5 y6 y7 y8 y9 y10) (spilelaw30_RefusalSigns.j1 (k + 1) y0 y1 y2 y3 y4 y5 y6 y7 y8 y9 y10)) ∧ (∀ y0 y1 y2 y3 y4 y5 y6 y7 y8 y9 y10 y11 y12 y13, LeO (spilelaw30_RefusalSigns.l0 k y0 y1 y2 y3 y4 y5 y6 y7 y8 y9 y10 y11 y12 y13) (spilelaw30_RefusalSigns.l0 (k + 1) y0 y1 y2 y3 y4 y5 y6 y7 y8 y9 y10 y11 y12 y13))
 | 0 => ⟨fun _ _ _ _ _ _ _ _ _ _ _ _ _ r h => by simp [spilelaw30_RefusalSigns.j0] at h, fun _ _ _ _ _ _ _ _ _ _ _ r h => by simp [spilelaw30_RefusalSigns.j1] at h, fun _ _ _ _ _ _ _ _ _ _ _ _ _ _ r h => by simp [spilelaw30_RefusalSigns.l0] at h⟩
 | k + 1 => by
  obtain ⟨ih0, ih1, ih2⟩ := spilelaw30_RefusalSigns.mono_l k
  refine ⟨?_, ?_, ?_⟩
  ·intro y0 y1 y2 y3 y4 y5 y6 y7 y8 y9 y10 y11 y12
   unfold spilelaw30_RefusalSigns.j0
   repeat' first
   | (with_reducible exact ih0 _ _ _ _ _ _ _ _ _ _ _ _ _)
   | (with_reducible exact ih1 _ _ _ _ _ _ _ _ _ _ _)
   | (with_reducible exact ih2 _ _ _ _ _ _ _ _ _ _ _ _ _ _)
   | (with_reducible exact blend_Of.mono _ _ _ _ _ _ _ _)
   | (with_reducible exact refusal_Excess.mono _ _ _ _ _ _ _ _)
   | (with_reducible exact LeO.refl _)
   | (with_reducible exact LeO.none _)
   | (with_reducible refine LeO.ite ?_ ?_)
   | (with_reducible refine LeO.bind ?_ (fun _ => ?_))
   | exact ih0 _ _ _ _ _ _ _ _ _ _ _ _ _
   | exact ih1 _ _ _ _ _ _ _ _ _ _ _
   | exact ih2 _ _ _ _ _ _ _ _ _ _ _ _ _ _
   | exact blend_Of.mono _ _ _ _ _ _ _ _
   | exact refusal_Excess.mono _ _ _ _ _ _ _ _
   | exact LeO.none _
   | refine LeO.ite ?_ ?_
   | refine LeO.bind ?_ (fun _ => ?_)
  ·intro y0 y1 y2 y3 y4 y5 y6 y7 y8 y9 y10
   unfold spilelaw30_RefusalSigns.j1
   repeat' first
   | (with_reducible exact ih0 _ _ _ _ _ _ _ _ _ _ _ _ _)
   | (with_reducible exact ih1 _ _ _ _ _ _ _ _ _ _ _)
   | (with_reducible exact ih2 _ _ _ _ _ _ _ _ _ _ _ _ _ _)
   | (with_reducible exact blend_Of.mono _ _ _ _ _ _ _ _)
   | (with_reducible exact refusal_Excess.mono _ _ _ _ _ _ _ _)
   | (with_reducible exact LeO.refl _)
   | (with_reducible exact LeO.none _)
   | (with_reducible refine LeO.ite ?_ ?_)
   | (with_reducible refine LeO.bind ?_ (fun _ => ?_))
   | exact ih0 _ _ _ _ _ _ _ _ _ _ _ _ _
   | exact ih1 _ _ _ _ _ _ _ _ _ _ _
   | exact ih2 _ _ _ _ _ _ _ _ _ _ _ _ _ _
   | exact blend_Of.mono _ _ _ _ _ _ _ _
   | exact refusal_Excess.mono _ _ _ _ _ _ _ _
   | exact LeO.none _
   | refine LeO.ite ?_ ?_
   | refine LeO.bind ?_ (fun _ => ?_)
  ·intro y0 y1 y2 y3 y4 y5 y6 y7 y8 y9 y10 y11 y12 y13
   unfold spilelaw30_RefusalSigns.l0
   repeat' first
   | (with_reducible exact ih0 _ _ _ _ _ _ _ _ _ _ _ _ _)
   | (with_reducible exact ih1 _ _ _ _ _ _ _ _ _ _ _)
   | (with_reducible exact ih2 _ _ _ _ _ _ _ _ _ _ _ _ _ _)
   | (with_reducible exact blend_Of.mono _ _ _ _ _ _ _ _)
   | (with_reducible exact refusal_Excess.mono _ _ _ _ _ _ _ _)
   | (with_reducible exact LeO.refl _)
   | (with_reducible exact LeO.none _)
   | (with_reducible refine LeO.ite ?_ ?_)
   | (with_reducible refine LeO.bind ?_ (fun _ => ?_))
   | exact ih0 _ _ _ _ _ _ _ _ _ _ _ _ _
   | exact ih1 _ _ _ _ _ _ _ _ _ _ _
   | exact ih2 _ _ _ _ _ _ _ _ _ _ _ _ _ _
   | exact blend_Of.mono _ _ _ _ _ _ _ _
   | exact refusal_Excess.mono _ _ _ _ _ _ _ _
   | exact LeO.none _
   | refine LeO.ite ?_ ?_
   | refine LeO.bind ?_ (fun _ => ?_)
theorem spilelaw30_RefusalSigns.mono : ∀ a0 a1 a2 a3 a4 a5 a6 a7 k, LeO (spilelaw30_RefusalSigns.f k a0 a1 a2 a3 a4 a5 a6 a7) (spilelaw30_RefusalSigns.f (k + 1) a0 a1 a2 a3 a4 a5 a6 a7) := by
 intro a0 a1 a2 a3 a4 a5 a6 a7 k
 obtain ⟨ih0, ih1, ih2⟩ := spilelaw30_RefusalSigns.mono_l k
 unfold spilelaw30_RefusalSigns.f
 repeat' first
   | (with_reducible exact ih0 _ _ _ _ _ _ _ _ _ _ _ _ _)
   | (with_reducible exact ih1 _ _ _ _ _ _ _ _ _ _ _)
   | (with_reducible exact ih2 _ _ _ _ _ _ _ _ _ _ _ _ _ _)
   | (with_reducible exact blend_Of.mono _ _ _ _ _ _ _ _)
   | (with_reducible exact refusal_Excess.mono _ _ _ _ _ _ _ _)
   | (with_reducible exact LeO.refl _)
   | (with_reducible exact LeO.none _)
   | (with_reducible refine LeO.ite ?_ ?_)
   | (with_reducible refine LeO.bind ?_ (fun _ => ?_))
   | exact ih0 _ _ _ _ _ _ _ _ _ _ _ _ _
   | exact ih1 _ _ _ _ _ _ _ _ _ _ _
   | exact ih2 _ _ _ _ _ _ _ _ _ _ _ _ _ _
   | exact blend_Of.mono _ _ _ _ _ _ _ _
   | exact refusal_Excess.mono _ _ _ _ _ _ _ _
   | exact LeO.none _
   | refine LeO.ite ?_ ?_
   | refine LeO.bind ?_ (fun _ => ?_)
set_option maxHeartbeats 8000000 in
set_option maxRecDepth 100000 in
theorem spilelaw30_RefusalSigns.calls (k : Nat) (A0 : Option Addr) (c0 : Nat) (l0 : List (S82)) (A1_0 : Option Addr) (c1_0 : Nat) (l1_0 : List (S45)) (A1_1 : Option Addr) (c1_1 : Nat) (l1_1 : List Int) (A1_2 : Option Addr) (c1_2 : Nat) (l1_2 : List Int) (a1_3 : Int) (a1_4 : Int) (a1_5 : Int) (A2 : Option Addr) (c2 : Nat) (l2 : List Int) (r : Bool) (w : World) (hr0 : Kd.C k82 w A0 l0.length l0) (hc0 : l0.length ≤ c0) (hr1_0 : Kd.C k45 w A1_0 l1_0.length l1_0) (hc1_0 : l1_0.length ≤ c1_0) (hr1_1 : Kd.C (Kd.int .i64) w A1_1 l1_1.length l1_1) (hc1_1 : l1_1.length ≤ c1_1) (hr1_2 : Kd.C (Kd.int .i64) w A1_2 l1_2.length l1_2) (hc1_2 : l1_2.length ≤ c1_2) (hr2 : Kd.C (Kd.int .i64) w A2 l2.length l2) (hc2 : l2.length ≤ c2) (hA_ : Aside0 (∀ w1, Below w.heap.size w w1 → AwakeOK w1)) (hP_ : Aside0 (∀ w1, Below w.heap.size w w1 → WhyOK w1)) (h : spilelaw30_RefusalSigns.f k l0 l1_0 l1_1 l1_2 a1_3 a1_4 a1_5 l2 = some r) :
  Calls Tryd.prog 7 #[.slice A0 l0.length c0, .agg #[.slice A1_0 l1_0.length c1_0, .slice A1_1 l1_1.length c1_1, .slice A1_2 l1_2.length c1_2, .int .i64 a1_3, .int .i64 a1_4, .int .i64 a1_5], .slice A2 l2.length c2] w fun e w' => e = .returned (.bool r) ∧ Below w.heap.size w w' := by
 have hu26 := Tryd.underlying26
 have hu30 := Tryd.underlying30
 have hu45 := Tryd.underlying45
 have HR0 := Aside0.mk hr0
 have HC0 := Aside0.mk hc0
 clear hr0 hc0
 have HR1_0 := Aside0.mk hr1_0
 have HC1_0 := Aside0.mk hc1_0
 clear hr1_0 hc1_0
 have HR1_1 := Aside0.mk hr1_1
 have HC1_1 := Aside0.mk hc1_1
 clear hr1_1 hc1_1
 have HR1_2 := Aside0.mk hr1_2
 have HC1_2 := Aside0.mk hc1_2
 clear hr1_2 hc1_2
 have HR2 := Aside0.mk hr2
 have HC2 := Aside0.mk hc2
 clear hr2 hc2
 have HB := Aside0.mk (Below.refl w.heap.size w)
 have H : ((spilelaw30_awake.f).bind fun t357 => (if t357 = true then ((spilelaw30_few.f l0 l1_0 l1_1 l1_2 a1_3 a1_4 a1_5 l2 0 0 0).bind fun t358 => (if t358 = true then ((refusal_Excess.f k l0 l1_0 l1_1 l1_2 a1_3 a1_4 a1_5).bind fun bt359 => (if bt359.2.2 = 0 then ((blend_Of.f k l1_0 l1_1 l1_2 a1_3 a1_4 a1_5 l2).bind fun bt366 => (if bt366.2.2 = 0 then (spilelaw30_RefusalSigns.j0 k l0 l2 bt359.1 bt359.2.1 (bt366.2.1 == 0) l1_0 l1_1 l1_2 a1_3 a1_4 a1_5 bt366.1 bt366.2.1) else (spilelaw30_RefusalSigns.j0 k l0 l2 bt359.1 bt359.2.1 true l1_0 l1_1 l1_2 a1_3 a1_4 a1_5 bt366.1 bt366.2.1))) else (if (bt359.1.length : Int) = 0 then (some ((bt359.2.1.length : Int) == 0)) else (some false)))) else (some true))) else (some false))) = some r := h
 clear h
 replace H := Option.bind_eq_some_iff.mp H
 obtain ⟨t357, A40, H⟩ := H
 replace H : (if t357 = true then ((spilelaw30_few.f l0 l1_0 l1_1 l1_2 a1_3 a1_4 a1_5 l2 0 0 0).bind fun t358 => (if t358 = true then ((refusal_Excess.f k l0 l1_0 l1_1 l1_2 a1_3 a1_4 a1_5).bind fun bt359 => (if bt359.2.2 = 0 then ((blend_Of.f k l1_0 l1_1 l1_2 a1_3 a1_4 a1_5 l2).bind fun bt366 => (if bt366.2.2 = 0 then (spilelaw30_RefusalSigns.j0 k l0 l2 bt359.1 bt359.2.1 (bt366.2.1 == 0) l1_0 l1_1 l1_2 a1_3 a1_4 a1_5 bt366.1 bt366.2.1) else (spilelaw30_RefusalSigns.j0 k l0 l2 bt359.1 bt359.2.1 true l1_0 l1_1 l1_2 a1_3 a1_4 a1_5 bt366.1 bt366.2.1))) else (if (bt359.1.length : Int) = 0 then (some ((bt359.2.1.length : Int) == 0)) else (some false)))) else (some true))) else (some false)) = some r := H
 have A4 := Aside0.mk A40
 clear A40
 by_cases c5 : t357 = true
 ·subst c5
  have H1 : ((spilelaw30_few.f l0 l1_0 l1_1 l1_2 a1_3 a1_4 a1_5 l2 0 0 0).bind fun t358 => (if t358 = true then ((refusal_Excess.f k l0 l1_0 l1_1 l1_2 a1_3 a1_4 a1_5).bind fun bt359 => (if bt359.2.2 = 0 then ((blend_Of.f k l1_0 l1_1 l1_2 a1_3 a1_4 a1_5 l2).bind fun bt366 => (if bt366.2.2 = 0 then (spilelaw30_RefusalSigns.j0 k l0 l2 bt359.1 bt359.2.1 (bt366.2.1 == 0) l1_0 l1_1 l1_2 a1_3 a1_4 a1_5 bt366.1 bt366.2.1) else (spilelaw30_RefusalSigns.j0 k l0 l2 bt359.1 bt359.2.1 true l1_0 l1_1 l1_2 a1_3 a1_4 a1_5 bt366.1 bt366.2.1))) else (if (bt359.1.length : Int) = 0 then (some ((bt359.2.1.length : Int) == 0)) else (some false)))) else (some true))) = some r := by rw [if_pos rfl] at H; exact H
  clear H
  have H := H1
  clear H1
  replace H := Option.bind_eq_some_iff.mp H
  obtain ⟨t358, A60, H⟩ := H
  replace H : (if t358 = true then ((refusal_Excess.f k l0 l1_0 l1_1 l1_2 a1_3 a1_4 a1_5).bind fun bt359 => (if bt359.2.2 = 0 then ((blend_Of.f k l1_0 l1_1 l1_2 a1_3 a1_4 a1_5 l2).bind fun bt366 => (if bt366.2.2 = 0 then (spilelaw30_RefusalSigns.j0 k l0 l2 bt359.1 bt359.2.1 (bt366.2.1 == 0) l1_0 l1_1 l1_2 a1_3 a1_4 a1_5 bt366.1 bt366.2.1) else (spilelaw30_RefusalSigns.j0 k l0 l2 bt359.1 bt359.2.1 true l1_0 l1_1 l1_2 a1_3 a1_4 a1_5 bt366.1 bt366.2.1))) else (if (bt359.1.length : Int) = 0 then (some ((bt359.2.1.length : Int) == 0)) else (some false)))) else (some true)) = some r := H
  have A6 := Aside0.mk A60
  clear A60
  by_cases c7 : t358 = true
  ·subst c7
   have H1 : ((refusal_Excess.f k l0 l1_0 l1_1 l1_2 a1_3 a1_4 a1_5).bind fun bt359 => (if bt359.2.2 = 0 then ((blend_Of.f k l1_0 l1_1 l1_2 a1_3 a1_4 a1_5 l2).bind fun bt366 => (if bt366.2.2 = 0 then (spilelaw30_RefusalSigns.j0 k l0 l2 bt359.1 bt359.2.1 (bt366.2.1 == 0) l1_0 l1_1 l1_2 a1_3 a1_4 a1_5 bt366.1 bt366.2.1) else (spilelaw30_RefusalSigns.j0 k l0 l2 bt359.1 bt359.2.1 true l1_0 l1_1 l1_2 a1_3 a1_4 a1_5 bt366.1 bt366.2.1))) else (if (bt359.1.length : Int) = 0 then (some ((bt359.2.1.length : Int) == 0)) else (some false)))) = some r := by rw [if_pos rfl] at H; exact H
   clear H
   have H := H1
   clear H1
   replace H := Option.bind_eq_some_iff.mp H
   obtain ⟨⟨t359, t362, t365⟩, A80, H⟩ := H
   replace H : (if t365 = 0 then ((blend_Of.f k l1_0 l1_1 l1_2 a1_3 a1_4 a1_5 l2).bind fun bt366 => (if bt366.2.2 = 0 then (spilelaw30_RefusalSigns.j0 k l0 l2 t359 t362 (bt366.2.1 == 0) l1_0 l1_1 l1_2 a1_3 a1_4 a1_5 bt366.1 bt366.2.1) else (spilelaw30_RefusalSigns.j0 k l0 l2 t359 t362 true l1_0 l1_1 l1_2 a1_3 a1_4 a1_5 bt366.1 bt366.2.1))) else (if (t359.length : Int) = 0 then (some ((t362.length : Int) == 0)) else (some false))) = some r := H
   have A8 := Aside0.mk A80
   clear A80
   by_cases c9 : t365 = 0
   ·rw [if_pos c9] at H
    have c9b0 : (t365 == 0) = true := beq_iff_eq.mpr c9
    have c9b1 : (t365 != 0) = false := bne_eq_false_iff_eq.mpr c9
    clear c9
    replace H := Option.bind_eq_some_iff.mp H
    obtain ⟨⟨t366, t367, t368⟩, A100, H⟩ := H
    replace H : (if t368 = 0 then (spilelaw30_RefusalSigns.j0 k l0 l2 t359 t362 (t367 == 0) l1_0 l1_1 l1_2 a1_3 a1_4 a1_5 t366 t367) else (spilelaw30_RefusalSigns.j0 k l0 l2 t359 t362 true l1_0 l1_1 l1_2 a1_3 a1_4 a1_5 t366 t367)) = some r := H
    have A10 := Aside0.mk A100
    clear A100
    have HC11 := Aside0.mk H
    clear H
    go_enter Tryd.func7, Tryd.ntmps7
    go_upto_region 9 with (first | ((with_reducible refine gate_dst (N := 4) rfl ?_); (try (refine gate_guard (by rfl) ?_; dsimp only)); refine be_ (N := 4) (cs := #[.slice A1_0 l1_0.length c1_0, .slice A1_1 l1_1.length c1_1, .slice A1_2 l1_2.length c1_2, .int .i64 a1_3, .int .i64 a1_4, .int .i64 a1_5]) (t := 26) ?_; intro gb356 hg w12 hbox hb; have n0_ := Aside0.mk (below_step bl_ hb); have n1_ := Aside0.mk (hbox); have n2_ := Aside0.mk ((by rw [hg]; exact (below_size bl_) : w.heap.size ≤ gb356)); have n3_ := Aside0.mk ((by rw [hg]; exact (below_size bl_) : w.heap.size ≤ gb356)); clear HB; have HB := n0_; have BK356 := n1_; have GW356 := n2_; have GE356 := n3_; clear n0_ n1_ n2_ n3_; clear hb hbox hg) | ((with_reducible refine gate_callee (f := 9) rfl ?_); refine gl_ (some 18) Tryd.func9 #[] ?_; (with_reducible refine (spilelaw30_awake.calls  true _ A4.out).mono ?_); rintro e w13 ⟨rfl, hb⟩; refine ⟨_, rfl, ?_⟩; have n0_ := Aside0.mk (blk_below (bkt_ BK356) hb); have n1_ := Aside0.mk (below_step bls_ hb); clear BK356; clear HB; have BK356 := n0_; have HB := n1_; clear n0_ n1_; (try clear hb); (try clear hb2); (try clear hk); (try clear hi); obtain ⟨hcz14_0, hcz14_1, hcz14_2, hcz14_3, hcz14_4, hcz14_5⟩ := bc6_ BK356; obtain ⟨hfz14_0, hfz14_1, hfz14_2, hfz14_3, hfz14_4⟩ := bf5_ BK356; have hfz14_5 := blk_frozen BK356.out 5) | ((with_reducible refine gate_callee (f := 10) rfl ?_); refine gl_ (some 24) Tryd.func10 #[.slice A0 l0.length c0, .agg #[.slice A1_0 l1_0.length c1_0, .slice A1_1 l1_1.length c1_1, .slice A1_2 l1_2.length c1_2, .int .i64 a1_3, .int .i64 a1_4, .int .i64 a1_5], .agg #[.slice A2 l2.length c2, .int .i64 0, .int .i64 0, .int .i64 0]] ?_; (with_reducible refine (spilelaw30_few.calls _ _ l0 _ _ l1_0 _ _ l1_1 _ _ l1_2 a1_3 a1_4 a1_5 _ _ l2 0 0 0 true _ ?side1 ?side2 ?side3 ?side4 ?side5 ?side6 ?side7 ?side8 ?side9 ?side10 A6.out).mono ?_); (case side1 => exact kc_ HR0); (case side2 => exact HC0.out); (case side3 => exact kc_ HR1_0); (case side4 => exact HC1_0.out); (case side5 => exact kc_ HR1_1); (case side6 => exact HC1_1.out); (case side7 => exact kc_ HR1_2); (case side8 => exact HC1_2.out); (case side9 => exact kc_ HR2); (case side10 => exact HC2.out); rintro e w15 ⟨rfl, hb⟩; refine ⟨_, rfl, ?_⟩; have n0_ := Aside0.mk (blk_below (bkt_ BK356) hb); have n1_ := Aside0.mk (below_step bls_ hb); clear BK356; clear HB; have BK356 := n0_; have HB := n1_; clear n0_ n1_; (try clear hb); (try clear hb2); (try clear hk); (try clear hi); obtain ⟨hcz16_0, hcz16_1, hcz16_2, hcz16_3, hcz16_4, hcz16_5⟩ := bc6_ BK356; obtain ⟨hfz16_0, hfz16_1, hfz16_2, hfz16_3, hfz16_4⟩ := bf5_ BK356; have hfz16_5 := blk_frozen BK356.out 5) | ((with_reducible refine gate_callee (f := 11) rfl ?_); refine gl_ (some 29) Tryd.func11 #[.slice A0 l0.length c0, .agg #[.slice A1_0 l1_0.length c1_0, .slice A1_1 l1_1.length c1_1, .slice A1_2 l1_2.length c1_2, .int .i64 a1_3, .int .i64 a1_4, .int .i64 a1_5]] ?_; (with_reducible refine (refusal_Excess.calls k _ _ l0 _ _ l1_0 _ _ l1_1 _ _ l1_2 a1_3 a1_4 a1_5 t359 t362 t365 _ ?side1 ?side2 ?side3 ?side4 ?side5 ?side6 ?side7 ?side8 A8.out).mono ?_); (case side1 => exact kc_ HR0); (case side2 => exact HC0.out); (case side3 => exact kc_ HR1_0); (case side4 => exact HC1_0.out); (case side5 => exact kc_ HR1_1); (case side6 => exact HC1_1.out); (case side7 => exact kc_ HR1_2); (case side8 => exact HC1_2.out); rintro e w17 ⟨v360, v363, rfl, ho0, ho1, hb⟩; refine ⟨_, rfl, ?_⟩; have n0_ := Aside0.mk (Kd.R_lower ho0 (below_size bls_)); have n1_ := Aside0.mk (Kd.R_lower ho1 (below_size bls_)); have n2_ := Aside0.mk (blk_below (bkt_ BK356) hb); have n3_ := Aside0.mk (below_step bls_ hb); clear BK356; clear HB; have HO361 := n0_; have HO364 := n1_; have BK356 := n2_; have HB := n3_; clear n0_ n1_ n2_ n3_; (try clear hb); (try clear hb2); (try clear hk); (try clear hi); (try clear ho0); (try clear ho1); obtain ⟨hcz18_0, hcz18_1, hcz18_2, hcz18_3, hcz18_4, hcz18_5⟩ := bc6_ BK356; obtain ⟨hfz18_0, hfz18_1, hfz18_2, hfz18_3, hfz18_4⟩ := bf5_ BK356; have hfz18_5 := blk_frozen BK356.out 5) | ((with_reducible refine gate_callee (f := 23) rfl ?_); refine gl_ (some 46) Tryd.func23 #[.agg #[.slice A1_0 l1_0.length c1_0, .slice A1_1 l1_1.length c1_1, .slice A1_2 l1_2.length c1_2, .int .i64 a1_3, .int .i64 a1_4, .int .i64 a1_5], .slice A2 l2.length c2] ?_; (with_reducible refine (blend_Of.calls k _ _ l1_0 _ _ l1_1 _ _ l1_2 a1_3 a1_4 a1_5 _ _ l2 t366 t367 t368 _ ?side1 ?side2 ?side3 ?side4 ?side5 ?side6 ?side7 ?side8 A10.out).mono ?_); (case side1 => exact kc_ HR1_0); (case side2 => exact HC1_0.out); (case side3 => exact kc_ HR1_1); (case side4 => exact HC1_1.out); (case side5 => exact kc_ HR1_2); (case side6 => exact HC1_2.out); (case side7 => exact kc_ HR2); (case side8 => exact HC2.out); rintro e w19 ⟨rfl, hb⟩; refine ⟨_, rfl, ?_⟩; have n0_ := Aside0.mk (Kd.R_below (kr_ HO361) hb); have n1_ := Aside0.mk (Kd.R_below (kr_ HO364) hb); have n2_ := Aside0.mk (blk_below (bkt_ BK356) hb); have n3_ := Aside0.mk (below_step bls_ hb); clear HO361; clear HO364; clear BK356; clear HB; have HO361 := n0_; have HO364 := n1_; have BK356 := n2_; have HB := n3_; clear n0_ n1_ n2_ n3_; (try clear hb); (try clear hb2); (try clear hk); (try clear hi)) | ((with_reducible refine gate_dst (N := 10) rfl ?_); (try (refine gate_guard (by rfl) ?_; dsimp only)); refine be_ (N := 10) (cs := #[.int .i64 0, .int .i64 0]) (t := 45) ?_; intro gb369 hg w20 hbox hb; have n0_ := Aside0.mk (Kd.R_below (kr_ HO361) hb); have n1_ := Aside0.mk (Kd.R_below (kr_ HO364) hb); have n2_ := Aside0.mk (blk_below (bkt_ BK356) hb); have n3_ := Aside0.mk (below_step bls_ hb); have n4_ := Aside0.mk (hbox); have n5_ := Aside0.mk ((by rw [hg]; exact (below_size bls_) : w.heap.size ≤ gb369)); have n6_ := Aside0.mk ((by rw [hg]; exact (below_size bls_) : w.heap.size ≤ gb369)); have n7_ := Aside0.mk ((by rw [hg]; exact Nat.ne_of_lt (blk_lt (bkt_ BK356)) : gb356 ≠ gb369)); have n8_ := Aside0.mk ((by rw [hg]; exact Nat.ne_of_gt (blk_lt (bkt_ BK356)) : gb369 ≠ gb356)); clear HO361; clear HO364; clear BK356; clear HB; have HO361 := n0_; have HO364 := n1_; have BK356 := n2_; have HB := n3_; have BK369 := n4_; have GW369 := n5_; have GE369 := n6_; have NB356_369 := n7_; have NB369_356 := n8_; clear n0_ n1_ n2_ n3_ n4_ n5_ n6_ n7_ n8_; clear hb hbox hg; have hnb21 := NB369_356.out; have hnc21 := NB356_369.out; obtain ⟨hcz22_0, hcz22_1⟩ := bc2_ BK369; have hfz22_0 := blk_frozen BK369.out 0; have hfz22_1 := blk_frozen BK369.out 1))
    (try simp only [Act.put, List.setIfInBounds_toArray, List.set_cons_zero, List.set_cons_succ])
    go_cut [55] (fun v55 wc => ∃ (kq : Nat) (x55_10 : Bool), v55 = .bool x55_10 ∧ Aside0 (spilelaw30_RefusalSigns.j0 kq l0 l2 t359 t362 x55_10 l1_0 l1_1 l1_2 a1_3 a1_4 a1_5 t366 t367 = some r) ∧ Aside0 (kq ≤ k) ∧ Aside0 (Kd.R (Kd.int .i64) 3 wc w.heap.size (fun k_ => some k_ ≠ (v363 : Value).ownBlock) v360 t359) ∧ Aside0 (Kd.R (Kd.int .i64) 3 wc w.heap.size (fun k_ => some k_ ≠ (v360 : Value).ownBlock) v363 t362) ∧ Aside0 (wc.heap[gb356]? = some (.cells #[(.slice A1_0 l1_0.length c1_0), (.slice A1_1 l1_1.length c1_1), (.slice A1_2 l1_2.length c1_2), .int .i64 a1_3, .int .i64 a1_4, .int .i64 a1_5] 26 (0, 0))) ∧ Aside0 (wc.heap[gb369]? = some (.cells #[.int .i64 t366, .int .i64 t367] 45 (0, 0))) ∧ Aside0 (Below w.heap.size w wc))
    case first =>
     have H := HC11.out
     clear HC11
     by_cases c23 : t368 = 0
     ·rw [if_pos c23] at H
      have c23b0 : (t368 == 0) = true := beq_iff_eq.mpr c23
      have c23b1 : (t368 != 0) = false := bne_eq_false_iff_eq.mpr c23
      clear c23
      (first | rw [c23b0] | (simp only [i64_w, i32_w]; rw [c23b0]) | skip)
      have H' := Aside0.mk H
      clear H
      have hnb24 := NB369_356.out
      have hnc24 := NB356_369.out
      obtain ⟨hcz25_0, hcz25_1⟩ := bc2_ BK369
      obtain ⟨hfz25_0, hfz25_1⟩ := bf2_ BK369
      go_wp2
      go_meet
      case rel => exact ⟨_, ((t367 == 0)), sm_, H', ⟨by first | omega | exact Nat.le_refl _⟩, ⟨by (with_reducible repeat (first | apply Kd.R_alloc | apply Kd.R_drewN | apply Kd.R_drew)); exact Kd.R_mono (Kd.R_far (p := ⟨gb369, 1, none⟩) (Kd.R_far (p := ⟨gb369, 0, none⟩) (Kd.R_types HO361.out BK369.out (by decide)) (fun _ hk => hk.2) (.int .i64 t366)) (fun _ hk => hk.2) (.int .i64 t367)) (fun _ hk => hk.1)⟩, ⟨by (with_reducible repeat (first | apply Kd.R_alloc | apply Kd.R_drewN | apply Kd.R_drew)); exact Kd.R_mono (Kd.R_far (p := ⟨gb369, 1, none⟩) (Kd.R_far (p := ⟨gb369, 0, none⟩) (Kd.R_types HO364.out BK369.out (by decide)) (fun _ hk => hk.2) (.int .i64 t366)) (fun _ hk => hk.2) (.int .i64 t367)) (fun _ hk => hk.1)⟩, ⟨by (with_reducible repeat (first | refine blk_drewN ?_ _ | refine blk_drew ?_ | refine blk_alloc ?_ _)); refine blk_far ?_ NB356_369.out _; (with_reducible repeat (first | refine blk_drewN ?_ _ | refine blk_drew ?_ | refine blk_alloc ?_ _)); refine blk_far ?_ NB356_369.out _; (with_reducible repeat (first | refine blk_drewN ?_ _ | refine blk_drew ?_ | refine blk_alloc ?_ _)); exact BK356.out⟩, ⟨by (with_reducible repeat (first | refine blk_drewN ?_ _ | refine blk_drew ?_ | refine blk_alloc ?_ _)); refine blk_put (cs := #[.int .i64 t366, .int .i64 0]) ?_ 1 _ rfl; (with_reducible repeat (first | refine blk_drewN ?_ _ | refine blk_drew ?_ | refine blk_alloc ?_ _)); refine blk_put (cs := #[.int .i64 0, .int .i64 0]) ?_ 0 _ rfl; (with_reducible repeat (first | refine blk_drewN ?_ _ | refine blk_drew ?_ | refine blk_alloc ?_ _)); exact BK369.out⟩, ⟨bls_⟩⟩
     ·rw [if_neg c23] at H
      have c23b0 : (t368 == 0) = false := beq_eq_false_iff_ne.mpr c23
      have c23b1 : (t368 != 0) = true := bne_iff_ne.mpr c23
      (first | rw [c23b0] | (simp only [i64_w, i32_w]; rw [c23b0]) | skip)
      have H' := Aside0.mk H
      clear H
      go_wp2
      go_meet
      case rel => exact ⟨_, (true), sm_, H', ⟨by first | omega | exact Nat.le_refl _⟩, ⟨by (with_reducible repeat (first | apply Kd.R_alloc | apply Kd.R_drewN | apply Kd.R_drew)); exact Kd.R_mono (Kd.R_far (p := ⟨gb369, 1, none⟩) (Kd.R_far (p := ⟨gb369, 0, none⟩) (Kd.R_types HO361.out BK369.out (by decide)) (fun _ hk => hk.2) (.int .i64 t366)) (fun _ hk => hk.2) (.int .i64 t367)) (fun _ hk => hk.1)⟩, ⟨by (with_reducible repeat (first | apply Kd.R_alloc | apply Kd.R_drewN | apply Kd.R_drew)); exact Kd.R_mono (Kd.R_far (p := ⟨gb369, 1, none⟩) (Kd.R_far (p := ⟨gb369, 0, none⟩) (Kd.R_types HO364.out BK369.out (by decide)) (fun _ hk => hk.2) (.int .i64 t366)) (fun _ hk => hk.2) (.int .i64 t367)) (fun _ hk => hk.1)⟩, ⟨by (with_reducible repeat (first | refine blk_drewN ?_ _ | refine blk_drew ?_ | refine blk_alloc ?_ _)); refine blk_far ?_ NB356_369.out _; (with_reducible repeat (first | refine blk_drewN ?_ _ | refine blk_drew ?_ | refine blk_alloc ?_ _)); refine blk_far ?_ NB356_369.out _; (with_reducible repeat (first | refine blk_drewN ?_ _ | refine blk_drew ?_ | refine blk_alloc ?_ _)); exact BK356.out⟩, ⟨by (with_reducible repeat (first | refine blk_drewN ?_ _ | refine blk_drew ?_ | refine blk_alloc ?_ _)); refine blk_put (cs := #[.int .i64 t366, .int .i64 0]) ?_ 1 _ rfl; (with_reducible repeat (first | refine blk_drewN ?_ _ | refine blk_drew ?_ | refine blk_alloc ?_ _)); refine blk_put (cs := #[.int .i64 0, .int .i64 0]) ?_ 0 _ rfl; (with_reducible repeat (first | refine blk_drewN ?_ _ | refine blk_drew ?_ | refine blk_alloc ?_ _)); exact BK369.out⟩, ⟨bls_⟩⟩
    case rest =>
     clear HC11
     try clear c1
     try clear c2
     try clear p2
     try clear c5
     try clear c7
     try clear c9
     try clear c9b0
     try clear c9b1
     try clear c10
     try clear c11
     try clear c21
     try clear c23
     try clear c23b0
     try clear c23b1
     try clear c24
     try clear hcz14_0
     try clear hcz14_1
     try clear hcz14_2
     try clear hcz14_3
     try clear hcz14_4
     try clear hcz14_5
     try clear hcz16_0
     try clear hcz16_1
     try clear hcz16_2
     try clear hcz16_3
     try clear hcz16_4
     try clear hcz16_5
     try clear hcz18_0
     try clear hcz18_1
     try clear hcz18_2
     try clear hcz18_3
     try clear hcz18_4
     try clear hcz18_5
     try clear hcz22_0
     try clear hcz22_1
     try clear hcz25_0
     try clear hcz25_1
     try clear hfz14_0
     try clear hfz14_1
     try clear hfz14_2
     try clear hfz14_3
     try clear hfz14_4
     try clear hfz14_5
     try clear hfz16_0
     try clear hfz16_1
     try clear hfz16_2
     try clear hfz16_3
     try clear hfz16_4
     try clear hfz16_5
     try clear hfz18_0
     try clear hfz18_1
     try clear hfz18_2
     try clear hfz18_3
     try clear hfz18_4
     try clear hfz18_5
     try clear hfz22_0
     try clear hfz22_1
     try clear hfz25_0
     try clear hfz25_1
     obtain ⟨kq, x55_10, rfl, HA, HJ10, HO_7, HO_8, BK356, BK369, HB⟩ := hcut
     cases kq with
     | zero => exact absurd HA.out (by simp [spilelaw30_RefusalSigns.j0])
     | succ kj10 =>
      have H := HA.out
      clear HA
      simp only [spilelaw30_RefusalSigns.j0] at H
      by_cases c26 : x55_10 = true
      ·subst c26
       have H1 : (some true) = some r := by rw [if_pos rfl] at H; exact H
       clear H
       have H := H1
       clear H1
       obtain rfl := Option.some.inj H
       go_wp2
       go_ret
       exact ⟨fin_, bls_⟩
      ·replace c26 := Bool.eq_false_iff.mpr c26
       subst c26
       have H1 : ((alcohol_Strength.f l0 t366 t367).bind fun bt370 => (if bt370.2 = 0 then (if (t359.length : Int) = (l2.length : Int) then (if (t362.length : Int) = 0 then (spilelaw30_RefusalSigns.j1 kj10 l2 t359 t362 bt370.1 false l1_0 l1_1 l1_2 a1_3 a1_4 a1_5) else (spilelaw30_RefusalSigns.j1 kj10 l2 t359 t362 bt370.1 ((t362.length : Int) != (l2.length : Int)) l1_0 l1_1 l1_2 a1_3 a1_4 a1_5)) else (spilelaw30_RefusalSigns.j1 kj10 l2 t359 t362 bt370.1 true l1_0 l1_1 l1_2 a1_3 a1_4 a1_5)) else (spilelaw30_RefusalSigns.j1 kj10 l2 t359 t362 bt370.1 true l1_0 l1_1 l1_2 a1_3 a1_4 a1_5))) = some r := by rw [if_neg (show ¬ (false = true) by decide)] at H; exact H
       clear H
       have H := H1
       clear H1
       replace H := Option.bind_eq_some_iff.mp H
       obtain ⟨⟨t370, t371⟩, A270, H⟩ := H
       replace H : (if t371 = 0 then (if (t359.length : Int) = (l2.length : Int) then (if (t362.length : Int) = 0 then (spilelaw30_RefusalSigns.j1 kj10 l2 t359 t362 t370 false l1_0 l1_1 l1_2 a1_3 a1_4 a1_5) else (spilelaw30_RefusalSigns.j1 kj10 l2 t359 t362 t370 ((t362.length : Int) != (l2.length : Int)) l1_0 l1_1 l1_2 a1_3 a1_4 a1_5)) else (spilelaw30_RefusalSigns.j1 kj10 l2 t359 t362 t370 true l1_0 l1_1 l1_2 a1_3 a1_4 a1_5)) else (spilelaw30_RefusalSigns.j1 kj10 l2 t359 t362 t370 true l1_0 l1_1 l1_2 a1_3 a1_4 a1_5)) = some r := H
       have A27 := Aside0.mk A270
       clear A270
       have HC28 := Aside0.mk H
       clear H
       have hnb29 := NB369_356.out
       have hnc29 := NB356_369.out
       obtain ⟨hcz30_0, hcz30_1⟩ := bc2_ BK369
       obtain ⟨hfz30_0, hfz30_1⟩ := bf2_ BK369
       go_upto_region 12 with (first | ((with_reducible refine gate_callee (f := 22) rfl ?_); refine gl_ (some 59) Tryd.func22 #[.slice A0 l0.length c0, .agg #[.int .i64 t366, .int .i64 t367]] ?_; (with_reducible refine (alcohol_Strength.calls _ _ l0 t366 t367 t370 t371 _ ?side1 ?side2 A27.out).mono ?_); (case side1 => exact kc_ HR0); (case side2 => exact HC0.out); rintro e w31 ⟨rfl, hb⟩; refine ⟨_, rfl, ?_⟩; have n0_ := Aside0.mk (Kd.R_below (kr_ HO_7) hb); have n1_ := Aside0.mk (Kd.R_below (kr_ HO_8) hb); have n2_ := Aside0.mk (blk_below (bkt_ BK356) hb); have n3_ := Aside0.mk (blk_below (bkt_ BK369) hb); have n4_ := Aside0.mk (below_step bls_ hb); clear HO_7; clear HO_8; clear BK356; clear BK369; clear HB; have HO_7 := n0_; have HO_8 := n1_; have BK356 := n2_; have BK369 := n3_; have HB := n4_; clear n0_ n1_ n2_ n3_ n4_; (try clear hb); (try clear hb2); (try clear hk); (try clear hi)))
       (try simp only [Act.put, List.setIfInBounds_toArray, List.set_cons_zero, List.set_cons_succ])
       go_cut [82] (fun v82 wc => ∃ (kq : Nat) (x82_27 : Bool), v82 = .bool x82_27 ∧ Aside0 (spilelaw30_RefusalSigns.j1 kq l2 t359 t362 t370 x82_27 l1_0 l1_1 l1_2 a1_3 a1_4 a1_5 = some r) ∧ Aside0 (kq ≤ kj10) ∧ Aside0 (Kd.R (Kd.int .i64) 3 wc w.heap.size (fun k_ => some k_ ≠ (v363 : Value).ownBlock) v360 t359) ∧ Aside0 (Kd.R (Kd.int .i64) 3 wc w.heap.size (fun k_ => some k_ ≠ (v360 : Value).ownBlock) v363 t362) ∧ Aside0 (wc.heap[gb356]? = some (.cells #[(.slice A1_0 l1_0.length c1_0), (.slice A1_1 l1_1.length c1_1), (.slice A1_2 l1_2.length c1_2), .int .i64 a1_3, .int .i64 a1_4, .int .i64 a1_5] 26 (0, 0))) ∧ Aside0 (wc.heap[gb369]? = some (.cells #[.int .i64 t366, .int .i64 t367] 45 (0, 0))) ∧ Aside0 (Below w.heap.size w wc))
       case first =>
        have H := HC28.out
        clear HC28
        by_cases c32 : t371 = 0
        ·rw [if_pos c32] at H
         have c32b0 : (t371 == 0) = true := beq_iff_eq.mpr c32
         have c32b1 : (t371 != 0) = false := bne_eq_false_iff_eq.mpr c32
         clear c32
         (first | rw [c32b0] | (simp only [i64_w, i32_w]; rw [c32b0]) | skip)
         by_cases c33 : (t359.length : Int) = (l2.length : Int)
         ·rw [if_pos c33] at H
          have c33b0 : ((t359.length : Int) == (l2.length : Int)) = true := beq_iff_eq.mpr c33
          have c33b1 : ((t359.length : Int) != (l2.length : Int)) = false := bne_eq_false_iff_eq.mpr c33
          have c33b2 : (t359.length == l2.length) = true := by first | simpa using c33 | (simp at c33 ⊢; omega)
          clear c33
          by_cases c34 : (t362.length : Int) = 0
          ·rw [if_pos c34] at H
           have c34b0 : ((t362.length : Int) == 0) = true := beq_iff_eq.mpr c34
           have c34b1 : ((t362.length : Int) != 0) = false := bne_eq_false_iff_eq.mpr c34
           clear c34
           have H' := Aside0.mk H
           clear H
           obtain ⟨Ao35, co35, eo35⟩ := Kd.R_slice HO_7.out
           subst eo35
           obtain ⟨Ao36, co36, eo36⟩ := Kd.R_slice HO_8.out
           subst eo36
           go_wp2
           go_meet
           case rel => exact ⟨_, (false), sm_, H', ⟨by have := HJ10.out; first | omega | exact Nat.le_refl _⟩, ⟨by (with_reducible repeat (first | apply Kd.R_alloc | apply Kd.R_drewN | apply Kd.R_drew)); exact HO_7.out⟩, ⟨by (with_reducible repeat (first | apply Kd.R_alloc | apply Kd.R_drewN | apply Kd.R_drew)); exact HO_8.out⟩, ⟨bkt_ BK356⟩, ⟨bkt_ BK369⟩, ⟨bls_⟩⟩
          ·rw [if_neg c34] at H
           have c34b0 : ((t362.length : Int) == 0) = false := beq_eq_false_iff_ne.mpr c34
           have c34b1 : ((t362.length : Int) != 0) = true := bne_iff_ne.mpr c34
           have c34b2 : ¬ (t362 = []) := fun h_ => c34 (by rw [h_]; rfl)
           have H' := Aside0.mk H
           clear H
           obtain ⟨Ao37, co37, eo37⟩ := Kd.R_slice HO_7.out
           subst eo37
           obtain ⟨Ao38, co38, eo38⟩ := Kd.R_slice HO_8.out
           subst eo38
           go_wp2
           go_meet
           case rel => exact ⟨_, (((t362.length : Int) != (l2.length : Int))), sm_, H', ⟨by have := HJ10.out; first | omega | exact Nat.le_refl _⟩, ⟨by (with_reducible repeat (first | apply Kd.R_alloc | apply Kd.R_drewN | apply Kd.R_drew)); exact HO_7.out⟩, ⟨by (with_reducible repeat (first | apply Kd.R_alloc | apply Kd.R_drewN | apply Kd.R_drew)); exact HO_8.out⟩, ⟨bkt_ BK356⟩, ⟨bkt_ BK369⟩, ⟨bls_⟩⟩
         ·rw [if_neg c33] at H
          have c33b0 : ((t359.length : Int) == (l2.length : Int)) = false := beq_eq_false_iff_ne.mpr c33
          have c33b1 : ((t359.length : Int) != (l2.length : Int)) = true := bne_iff_ne.mpr c33
          have c33b2 : (t359.length == l2.length) = false := by first | simpa using c33 | (simp at c33 ⊢; omega)
          have H' := Aside0.mk H
          clear H
          obtain ⟨Ao39, co39, eo39⟩ := Kd.R_slice HO_7.out
          subst eo39
          go_wp2
          go_meet
          case rel => exact ⟨_, (true), sm_, H', ⟨by have := HJ10.out; first | omega | exact Nat.le_refl _⟩, ⟨by (with_reducible repeat (first | apply Kd.R_alloc | apply Kd.R_drewN | apply Kd.R_drew)); exact HO_7.out⟩, ⟨by (with_reducible repeat (first | apply Kd.R_alloc | apply Kd.R_drewN | apply Kd.R_drew)); exact HO_8.out⟩, ⟨bkt_ BK356⟩, ⟨bkt_ BK369⟩, ⟨bls_⟩⟩
        ·rw [if_neg c32] at H
         have c32b0 : (t371 == 0) = false := beq_eq_false_iff_ne.mpr c32
         have c32b1 : (t371 != 0) = true := bne_iff_ne.mpr c32
         (first | rw [c32b0] | (simp only [i64_w, i32_w]; rw [c32b0]) | skip)
         have H' := Aside0.mk H
         clear H
         go_wp2
         go_meet
         case rel => exact ⟨_, (true), sm_, H', ⟨by have := HJ10.out; first | omega | exact Nat.le_refl _⟩, ⟨by (with_reducible repeat (first | apply Kd.R_alloc | apply Kd.R_drewN | apply Kd.R_drew)); exact HO_7.out⟩, ⟨by (with_reducible repeat (first | apply Kd.R_alloc | apply Kd.R_drewN | apply Kd.R_drew)); exact HO_8.out⟩, ⟨bkt_ BK356⟩, ⟨bkt_ BK369⟩, ⟨bls_⟩⟩
       case rest =>
        clear HC28
        try clear c1
        try clear c2
        try clear p2
        try clear c3
        try clear c5
        try clear c7
        try clear c9
        try clear c9b0
        try clear c9b1
        try clear c10
        try clear c11
        try clear c21
        try clear c22
        try clear c23
        try clear c23b0
        try clear c23b1
        try clear c24
        try clear c26
        try clear c29
        try clear c32
        try clear c32b0
        try clear c32b1
        try clear c33
        try clear c33b0
        try clear c33b1
        try clear c33b2
        try clear c34
        try clear c34b0
        try clear c34b1
        try clear c34b2
        try clear hcz14_0
        try clear hcz14_1
        try clear hcz14_2
        try clear hcz14_3
        try clear hcz14_4
        try clear hcz14_5
        try clear hcz16_0
        try clear hcz16_1
        try clear hcz16_2
        try clear hcz16_3
        try clear hcz16_4
        try clear hcz16_5
        try clear hcz18_0
        try clear hcz18_1
        try clear hcz18_2
        try clear hcz18_3
        try clear hcz18_4
        try clear hcz18_5
        try clear hcz22_0
        try clear hcz22_1
        try clear hcz25_0
        try clear hcz25_1
        try clear hcz30_0
        try clear hcz30_1
        try clear hfz14_0
        try clear hfz14_1
        try clear hfz14_2
        try clear hfz14_3
        try clear hfz14_4
        try clear hfz14_5
        try clear hfz16_0
        try clear hfz16_1
        try clear hfz16_2
        try clear hfz16_3
        try clear hfz16_4
        try clear hfz16_5
        try clear hfz18_0
        try clear hfz18_1
        try clear hfz18_2
        try clear hfz18_3
        try clear hfz18_4
        try clear hfz18_5
        try clear hfz22_0
        try clear hfz22_1
        try clear hfz25_0
        try clear hfz25_1
        try clear hfz30_0
        try clear hfz30_1
        try clear p2
        obtain ⟨kq, x82_27, rfl, HA, HJ27, HO_7, HO_8, BK356, BK369, HB⟩ := hcut
        cases kq with
        | zero => exact absurd HA.out (by simp [spilelaw30_RefusalSigns.j1])
        | succ kj27 =>
         have H := HA.out
         clear HA
         simp only [spilelaw30_RefusalSigns.j1] at H
         by_cases c40 : x82_27 = true
         ·subst c40
          have H1 : (some false) = some r := by rw [if_pos rfl] at H; exact H
          clear H
          have H := H1
          clear H1
          obtain rfl := Option.some.inj H
          go_wp2
          go_ret
          exact ⟨fin_, bls_⟩
         ·replace c40 := Bool.eq_false_iff.mpr c40
          subst c40
          have H1 : (spilelaw30_RefusalSigns.l0 kj27 t359 t362 t370 0 0 l2 (l2.length : Int) 0 l1_0 l1_1 l1_2 a1_3 a1_4 a1_5) = some r := by rw [if_neg (show ¬ (false = true) by decide)] at H; exact H
          clear H
          have H := H1
          clear H1
          have H' := Aside0.mk H
          clear H
          go_wp2
          go_loopg [14, 15, 85] kj27 (fun kq v14 v15 v85 w' => ∃ (x14_3 : Int) (x15_3 : Int) (x85_3 : Int), v14 = .int .i64 x14_3 ∧ v15 = .int .i64 x15_3 ∧ v85 = .int .i64 x85_3 ∧ Aside0 (spilelaw30_RefusalSigns.l0 kq t359 t362 t370 x14_3 x15_3 l2 (l2.length : Int) x85_3 l1_0 l1_1 l1_2 a1_3 a1_4 a1_5 = some r) ∧ Aside0 (kq ≤ kj27) ∧ Aside0 (Kd.R (Kd.int .i64) 3 w' w.heap.size (fun k_ => some k_ ≠ (v363 : Value).ownBlock) v360 t359) ∧ Aside0 (Kd.R (Kd.int .i64) 3 w' w.heap.size (fun k_ => some k_ ≠ (v360 : Value).ownBlock) v363 t362) ∧ Aside0 (w'.heap[gb356]? = some (.cells #[(.slice A1_0 l1_0.length c1_0), (.slice A1_1 l1_1.length c1_1), (.slice A1_2 l1_2.length c1_2), .int .i64 a1_3, .int .i64 a1_4, .int .i64 a1_5] 26 (0, 0))) ∧ Aside0 (w'.heap[gb369]? = some (.cells #[.int .i64 t366, .int .i64 t367] 45 (0, 0))) ∧ Aside0 (Below w.heap.size w w'))
          case atStart => exact ⟨(0), (0), (0), sm_, sm_, sm_, H', ⟨Nat.le_refl _⟩, ⟨by (with_reducible repeat (first | apply Kd.R_alloc | apply Kd.R_drewN | apply Kd.R_drew)); exact HO_7.out⟩, ⟨by (with_reducible repeat (first | apply Kd.R_alloc | apply Kd.R_drewN | apply Kd.R_drew)); exact HO_8.out⟩, ⟨bkt_ BK356⟩, ⟨bkt_ BK369⟩, ⟨bls_⟩⟩
          case round =>
           clear H'
           try clear c1
           try clear c2
           try clear p2
           try clear c3
           try clear c4
           try clear c5
           try clear c7
           try clear c9
           try clear c9b0
           try clear c9b1
           try clear c10
           try clear c11
           try clear c21
           try clear c22
           try clear c23
           try clear c23b0
           try clear c23b1
           try clear c24
           try clear c26
           try clear c29
           try clear c32
           try clear c32b0
           try clear c32b1
           try clear c33
           try clear c33b0
           try clear c33b1
           try clear c33b2
           try clear c34
           try clear c34b0
           try clear c34b1
           try clear c34b2
           try clear c40
           try clear hcz14_0
           try clear hcz14_1
           try clear hcz14_2
           try clear hcz14_3
           try clear hcz14_4
           try clear hcz14_5
           try clear hcz16_0
           try clear hcz16_1
           try clear hcz16_2
           try clear hcz16_3
           try clear hcz16_4
           try clear hcz16_5
           try clear hcz18_0
           try clear hcz18_1
           try clear hcz18_2
           try clear hcz18_3
           try clear hcz18_4
           try clear hcz18_5
           try clear hcz22_0
           try clear hcz22_1
           try clear hcz25_0
           try clear hcz25_1
           try clear hcz30_0
           try clear hcz30_1
           try clear hfz14_0
           try clear hfz14_1
           try clear hfz14_2
           try clear hfz14_3
           try clear hfz14_4
           try clear hfz14_5
           try clear hfz16_0
           try clear hfz16_1
           try clear hfz16_2
           try clear hfz16_3
           try clear hfz16_4
           try clear hfz16_5
           try clear hfz18_0
           try clear hfz18_1
           try clear hfz18_2
           try clear hfz18_3
           try clear hfz18_4
           try clear hfz18_5
           try clear hfz22_0
           try clear hfz22_1
           try clear hfz25_0
           try clear hfz25_1
           try clear hfz30_0
           try clear hfz30_1
           try clear p2
           obtain ⟨x14_3, x15_3, x85_3, rfl, rfl, rfl, HA, HK3, HO_7, HO_8, BK356, BK369, HB⟩ := hrel
           cases gk with
           | zero => exact absurd HA.out (by simp [spilelaw30_RefusalSigns.l0])
           | succ k3 =>
            have H := HA.out
            clear HA
            simp only [spilelaw30_RefusalSigns.l0] at H
            by_cases c41 : x85_3 < (l2.length : Int)
            ·rw [if_pos c41] at H
             have c41b0 : decide (x85_3 < (l2.length : Int)) = true := decide_eq_true c41
             clear c41
             by_cases c42 : 0 ≤ x85_3
             ·rw [if_pos c42] at H
              have c42b0 : decide (0 ≤ x85_3) = true := decide_eq_true c42
              clear c42
              by_cases c43 : x85_3 < (l2.length : Int)
              ·rw [if_pos c43] at H
               have c43b0 : decide (x85_3 < (l2.length : Int)) = true := decide_eq_true c43
               clear c43
               by_cases c44 : x85_3 < (t359.length : Int)
               ·rw [if_pos c44] at H
                have c44b0 : decide (x85_3 < (t359.length : Int)) = true := decide_eq_true c44
                clear c44
                by_cases c45 : (t362.length : Int) > 0
                ·rw [if_pos c45] at H
                 have c45b0 : decide (0 < (t362.length : Int)) = true := decide_eq_true c45
                 have c45b1 : decide (0 < t362.length) = true := decide_eq_true (by omega)
                 clear c45
                 by_cases c46 : x85_3 < (t362.length : Int)
                 ·rw [if_pos c46] at H
                  have c46b0 : decide (x85_3 < (t362.length : Int)) = true := decide_eq_true c46
                  clear c46
                  have H' := Aside0.mk H
                  clear H
                  have p372 : 0 ≤ (x85_3 : Int) := of_decide_eq_true as_
                  have q372 : x85_3 < (l2.length : Int) := of_decide_eq_true as_
                  obtain ⟨ad372, e372, hx372_0⟩ := Kd.at_int HR2.out x85_3 p372 q372
                  cases e372
                  replace hx372_0 := (HB.out.cell (World.block_lt_of_cell? w _ hx372_0)).trans hx372_0
                  replace p372 := eq_true p372
                  replace q372 := eq_true q372
                  obtain ⟨Ao47, co47, eo47⟩ := Kd.R_slice HO_7.out
                  subst eo47
                  have p373 : 0 ≤ (x85_3 : Int) := of_decide_eq_true as_
                  have q373 : x85_3 < (t359.length : Int) := of_decide_eq_true as_
                  obtain ⟨ad373, e373, hx373_0⟩ := Kd.at_int (Kd.R_reads' HO_7.out).2.2 x85_3 p373 q373
                  cases e373
                  replace p373 := eq_true p373
                  replace q373 := eq_true q373
                  obtain ⟨Ao48, co48, eo48⟩ := Kd.R_slice HO_8.out
                  subst eo48
                  have p374 : 0 ≤ (x85_3 : Int) := of_decide_eq_true as_
                  have q374 : x85_3 < (t362.length : Int) := of_decide_eq_true as_
                  obtain ⟨ad374, e374, hx374_0⟩ := Kd.at_int (Kd.R_reads' HO_8.out).2.2 x85_3 p374 q374
                  cases e374
                  replace p374 := eq_true p374
                  replace q374 := eq_true q374
                  go_wp2
                  go_roundg k3
                  case measure => have := HJ10.out; have := HJ27.out; have := HK3.out; omega
                  case rel => exact ⟨(wrap64 (x14_3 + (wrap64 ((rd l2 x85_3) * (rd t359 x85_3))))), (wrap64 (x15_3 + (wrap64 ((rd l2 x85_3) * (rd t362 x85_3))))), (wrap64 (x85_3 + 1)), sm_, sm_, sm_, H', ⟨by have := HJ10.out; have := HJ27.out; have := HK3.out; omega⟩, ⟨by (with_reducible repeat (first | apply Kd.R_alloc | apply Kd.R_drewN | apply Kd.R_drew)); exact HO_7.out⟩, ⟨by (with_reducible repeat (first | apply Kd.R_alloc | apply Kd.R_drewN | apply Kd.R_drew)); exact HO_8.out⟩, ⟨bkt_ BK356⟩, ⟨bkt_ BK369⟩, ⟨bls_⟩⟩
                 ·rw [if_neg c46] at H
                  exact absurd H (by simp)
                ·rw [if_neg c45] at H
                 have c45b0 : decide (0 < (t362.length : Int)) = false := decide_eq_false c45
                 have c45b1 : decide (0 < t362.length) = false := decide_eq_false (by omega)
                 clear c45
                 have H' := Aside0.mk H
                 clear H
                 have p372 : 0 ≤ (x85_3 : Int) := of_decide_eq_true as_
                 have q372 : x85_3 < (l2.length : Int) := of_decide_eq_true as_
                 obtain ⟨ad372, e372, hx372_0⟩ := Kd.at_int HR2.out x85_3 p372 q372
                 cases e372
                 replace hx372_0 := (HB.out.cell (World.block_lt_of_cell? w _ hx372_0)).trans hx372_0
                 replace p372 := eq_true p372
                 replace q372 := eq_true q372
                 obtain ⟨Ao49, co49, eo49⟩ := Kd.R_slice HO_7.out
                 subst eo49
                 have p373 : 0 ≤ (x85_3 : Int) := of_decide_eq_true as_
                 have q373 : x85_3 < (t359.length : Int) := of_decide_eq_true as_
                 obtain ⟨ad373, e373, hx373_0⟩ := Kd.at_int (Kd.R_reads' HO_7.out).2.2 x85_3 p373 q373
                 cases e373
                 replace p373 := eq_true p373
                 replace q373 := eq_true q373
                 obtain ⟨Ao50, co50, eo50⟩ := Kd.R_slice HO_8.out
                 subst eo50
                 go_wp2
                 go_roundg k3
                 case measure => have := HJ10.out; have := HJ27.out; have := HK3.out; omega
                 case rel => exact ⟨(wrap64 (x14_3 + (wrap64 ((rd l2 x85_3) * (rd t359 x85_3))))), (x15_3), (wrap64 (x85_3 + 1)), sm_, sm_, sm_, H', ⟨by have := HJ10.out; have := HJ27.out; have := HK3.out; omega⟩, ⟨by (with_reducible repeat (first | apply Kd.R_alloc | apply Kd.R_drewN | apply Kd.R_drew)); exact HO_7.out⟩, ⟨by (with_reducible repeat (first | apply Kd.R_alloc | apply Kd.R_drewN | apply Kd.R_drew)); exact HO_8.out⟩, ⟨bkt_ BK356⟩, ⟨bkt_ BK369⟩, ⟨bls_⟩⟩
               ·rw [if_neg c44] at H
                exact absurd H (by simp)
              ·rw [if_neg c43] at H
               exact absurd H (by simp)
             ·rw [if_neg c42] at H
              exact absurd H (by simp)
            ·rw [if_neg c41] at H
             have c41b0 : decide (x85_3 < (l2.length : Int)) = false := decide_eq_false c41
             clear c41
             by_cases c51 : ((decide (x14_3 ≥ 0)) != (decide (t370 ≥ a1_3))) = true
             ·rw [if_pos c51] at H
              have c51b0 : ((decide (x14_3 ≥ 0)) != (decide (t370 ≥ a1_3))) = true := c51
              (try (have c51b1 : decide ((decide (x14_3 ≥ 0)) = (decide (t370 ≥ a1_3))) = false := by simpa using c51))
              (try (have c51b2 : ((decide (x14_3 ≥ 0)) == (decide (t370 ≥ a1_3))) = false := by simpa using c51))
              (try (have c51b3 : ¬ ((decide (x14_3 ≥ 0)) = (decide (t370 ≥ a1_3))) := by simpa using c51))
              clear c51
              obtain rfl := Option.some.inj H
              have hnb52 := NB356_369.out
              have hnc52 := NB369_356.out
              obtain ⟨hcz53_0, hcz53_1, hcz53_2, hcz53_3, hcz53_4, hcz53_5⟩ := bc6_ BK356
              obtain ⟨hfz53_0, hfz53_1, hfz53_2, hfz53_3, hfz53_4, hfz53_5⟩ := bf6_ BK356
              go_wp2
              go_ret
              exact ⟨fin_, bls_⟩
             ·rw [if_neg c51] at H
              have c51b0 : ((decide (x14_3 ≥ 0)) != (decide (t370 ≥ a1_3))) = false := by simpa using c51
              (try (have c51b1 : decide ((decide (x14_3 ≥ 0)) = (decide (t370 ≥ a1_3))) = true := by simpa using c51))
              (try (have c51b2 : ((decide (x14_3 ≥ 0)) == (decide (t370 ≥ a1_3))) = true := by simpa using c51))
              clear c51
              by_cases c54 : (((t362.length : Int) == 0) != (a1_4 == 10000)) = true
              ·rw [if_pos c54] at H
               have c54b0 : (((t362.length : Int) == 0) != (a1_4 == 10000)) = true := c54
               (try (have c54b1 : decide (((t362.length : Int) == 0) = (a1_4 == 10000)) = false := by simpa using c54))
               (try (have c54b2 : (((t362.length : Int) == 0) == (a1_4 == 10000)) = false := by simpa using c54))
               (try (have c54b3 : ¬ (((t362.length : Int) == 0) = (a1_4 == 10000)) := by simpa using c54))
               clear c54
               obtain rfl := Option.some.inj H
               have hnb55 := NB356_369.out
               have hnc55 := NB369_356.out
               obtain ⟨hcz56_0, hcz56_1, hcz56_2, hcz56_3, hcz56_4, hcz56_5⟩ := bc6_ BK356
               obtain ⟨hfz56_0, hfz56_1, hfz56_2, hfz56_3, hfz56_4, hfz56_5⟩ := bf6_ BK356
               obtain ⟨Ao57, co57, eo57⟩ := Kd.R_slice HO_8.out
               subst eo57
               go_wp2
               go_ret
               exact ⟨fin_, bls_⟩
              ·rw [if_neg c54] at H
               have c54b0 : (((t362.length : Int) == 0) != (a1_4 == 10000)) = false := by simpa using c54
               (try (have c54b1 : decide (((t362.length : Int) == 0) = (a1_4 == 10000)) = true := by simpa using c54))
               (try (have c54b2 : (((t362.length : Int) == 0) == (a1_4 == 10000)) = true := by simpa using c54))
               clear c54
               by_cases c58 : (t362.length : Int) = 0
               ·rw [if_pos c58] at H
                have c58b0 : ((t362.length : Int) == 0) = true := beq_iff_eq.mpr c58
                have zz_ : (a1_4 == 10000) = true := by cases hq : (a1_4 == 10000); (rw [c58b0, hq] at c54b0; cases c54b0); rfl
                have c58b1 : ((t362.length : Int) != 0) = false := bne_eq_false_iff_eq.mpr c58
                clear c58
                obtain rfl := Option.some.inj H
                have hnb59 := NB356_369.out
                have hnc59 := NB369_356.out
                obtain ⟨hcz60_0, hcz60_1, hcz60_2, hcz60_3, hcz60_4, hcz60_5⟩ := bc6_ BK356
                obtain ⟨hfz60_0, hfz60_1, hfz60_2, hfz60_3, hfz60_4, hfz60_5⟩ := bf6_ BK356
                obtain ⟨Ao61, co61, eo61⟩ := Kd.R_slice HO_8.out
                subst eo61
                go_wp2
                go_ret
                exact ⟨fin_, bls_⟩
               ·rw [if_neg c58] at H
                have c58b0 : ((t362.length : Int) == 0) = false := beq_eq_false_iff_ne.mpr c58
                have zz_ : (a1_4 == 10000) = false := by cases hq : (a1_4 == 10000); rfl; (rw [c58b0, hq] at c54b0; cases c54b0)
                have c58b1 : ((t362.length : Int) != 0) = true := bne_iff_ne.mpr c58
                have c58b2 : ¬ (t362 = []) := fun h_ => c58 (by rw [h_]; rfl)
                obtain rfl := Option.some.inj H
                have hnb62 := NB356_369.out
                have hnc62 := NB369_356.out
                obtain ⟨hcz63_0, hcz63_1, hcz63_2, hcz63_3, hcz63_4, hcz63_5⟩ := bc6_ BK356
                obtain ⟨hfz63_0, hfz63_1, hfz63_2, hfz63_3, hfz63_4, hfz63_5⟩ := bf6_ BK356
                obtain ⟨Ao64, co64, eo64⟩ := Kd.R_slice HO_8.out
                subst eo64
                go_wp2
                go_ret
                exact ⟨fin_, bls_⟩
   ·rw [if_neg c9] at H
    have c9b0 : (t365 == 0) = false := beq_eq_false_iff_ne.mpr c9
    have c9b1 : (t365 != 0) = true := bne_iff_ne.mpr c9
    by_cases c65 : (t359.length : Int) = 0
    ·rw [if_pos c65] at H
     have c65b0 : ((t359.length : Int) == 0) = true := beq_iff_eq.mpr c65
     have c65b1 : ((t359.length : Int) != 0) = false := bne_eq_false_iff_eq.mpr c65
     clear c65
     obtain rfl := Option.some.inj H
     go_enter Tryd.func7, Tryd.ntmps7
     go_wp2_with (first | ((with_reducible refine gate_dst (N := 4) rfl ?_); (try (refine gate_guard (by rfl) ?_; dsimp only)); refine be_ (N := 4) (cs := #[.slice A1_0 l1_0.length c1_0, .slice A1_1 l1_1.length c1_1, .slice A1_2 l1_2.length c1_2, .int .i64 a1_3, .int .i64 a1_4, .int .i64 a1_5]) (t := 26) ?_; intro gb356 hg w66 hbox hb; have n0_ := Aside0.mk (below_step bl_ hb); have n1_ := Aside0.mk (hbox); have n2_ := Aside0.mk ((by rw [hg]; exact (below_size bl_) : w.heap.size ≤ gb356)); have n3_ := Aside0.mk ((by rw [hg]; exact (below_size bl_) : w.heap.size ≤ gb356)); clear HB; have HB := n0_; have BK356 := n1_; have GW356 := n2_; have GE356 := n3_; clear n0_ n1_ n2_ n3_; clear hb hbox hg) | ((with_reducible refine gate_callee (f := 9) rfl ?_); refine gl_ (some 18) Tryd.func9 #[] ?_; (with_reducible refine (spilelaw30_awake.calls  true _ A4.out).mono ?_); rintro e w67 ⟨rfl, hb⟩; refine ⟨_, rfl, ?_⟩; have n0_ := Aside0.mk (blk_below (bkt_ BK356) hb); have n1_ := Aside0.mk (below_step bls_ hb); clear BK356; clear HB; have BK356 := n0_; have HB := n1_; clear n0_ n1_; (try clear hb); (try clear hb2); (try clear hk); (try clear hi); obtain ⟨hcz68_0, hcz68_1, hcz68_2, hcz68_3, hcz68_4, hcz68_5⟩ := bc6_ BK356; obtain ⟨hfz68_0, hfz68_1, hfz68_2, hfz68_3, hfz68_4⟩ := bf5_ BK356; have hfz68_5 := blk_frozen BK356.out 5) | ((with_reducible refine gate_callee (f := 10) rfl ?_); refine gl_ (some 24) Tryd.func10 #[.slice A0 l0.length c0, .agg #[.slice A1_0 l1_0.length c1_0, .slice A1_1 l1_1.length c1_1, .slice A1_2 l1_2.length c1_2, .int .i64 a1_3, .int .i64 a1_4, .int .i64 a1_5], .agg #[.slice A2 l2.length c2, .int .i64 0, .int .i64 0, .int .i64 0]] ?_; (with_reducible refine (spilelaw30_few.calls _ _ l0 _ _ l1_0 _ _ l1_1 _ _ l1_2 a1_3 a1_4 a1_5 _ _ l2 0 0 0 true _ ?side1 ?side2 ?side3 ?side4 ?side5 ?side6 ?side7 ?side8 ?side9 ?side10 A6.out).mono ?_); (case side1 => exact kc_ HR0); (case side2 => exact HC0.out); (case side3 => exact kc_ HR1_0); (case side4 => exact HC1_0.out); (case side5 => exact kc_ HR1_1); (case side6 => exact HC1_1.out); (case side7 => exact kc_ HR1_2); (case side8 => exact HC1_2.out); (case side9 => exact kc_ HR2); (case side10 => exact HC2.out); rintro e w69 ⟨rfl, hb⟩; refine ⟨_, rfl, ?_⟩; have n0_ := Aside0.mk (blk_below (bkt_ BK356) hb); have n1_ := Aside0.mk (below_step bls_ hb); clear BK356; clear HB; have BK356 := n0_; have HB := n1_; clear n0_ n1_; (try clear hb); (try clear hb2); (try clear hk); (try clear hi); obtain ⟨hcz70_0, hcz70_1, hcz70_2, hcz70_3, hcz70_4, hcz70_5⟩ := bc6_ BK356; obtain ⟨hfz70_0, hfz70_1, hfz70_2, hfz70_3, hfz70_4⟩ := bf5_ BK356; have hfz70_5 := blk_frozen BK356.out 5) | ((with_reducible refine gate_callee (f := 11) rfl ?_); refine gl_ (some 29) Tryd.func11 #[.slice A0 l0.length c0, .agg #[.slice A1_0 l1_0.length c1_0, .slice A1_1 l1_1.length c1_1, .slice A1_2 l1_2.length c1_2, .int .i64 a1_3, .int .i64 a1_4, .int .i64 a1_5]] ?_; (with_reducible refine (refusal_Excess.calls k _ _ l0 _ _ l1_0 _ _ l1_1 _ _ l1_2 a1_3 a1_4 a1_5 t359 t362 t365 _ ?side1 ?side2 ?side3 ?side4 ?side5 ?side6 ?side7 ?side8 A8.out).mono ?_); (case side1 => exact kc_ HR0); (case side2 => exact HC0.out); (case side3 => exact kc_ HR1_0); (case side4 => exact HC1_0.out); (case side5 => exact kc_ HR1_1); (case side6 => exact HC1_1.out); (case side7 => exact kc_ HR1_2); (case side8 => exact HC1_2.out); rintro e w71 ⟨v360, v363, rfl, ho0, ho1, hb⟩; refine ⟨_, rfl, ?_⟩; have n0_ := Aside0.mk (Kd.R_lower ho0 (below_size bls_)); have n1_ := Aside0.mk (Kd.R_lower ho1 (below_size bls_)); have n2_ := Aside0.mk (blk_below (bkt_ BK356) hb); have n3_ := Aside0.mk (below_step bls_ hb); clear BK356; clear HB; have HO361 := n0_; have HO364 := n1_; have BK356 := n2_; have HB := n3_; clear n0_ n1_ n2_ n3_; (try clear hb); (try clear hb2); (try clear hk); (try clear hi); (try clear ho0); (try clear ho1); obtain ⟨Ao72, co72, eo72⟩ := Kd.R_slice HO361.out; subst eo72; obtain ⟨Ao73, co73, eo73⟩ := Kd.R_slice HO364.out; subst eo73))
     go_ret
     exact ⟨fin_, bls_⟩
    ·rw [if_neg c65] at H
     have c65b0 : ((t359.length : Int) == 0) = false := beq_eq_false_iff_ne.mpr c65
     have c65b1 : ((t359.length : Int) != 0) = true := bne_iff_ne.mpr c65
     have c65b2 : ¬ (t359 = []) := fun h_ => c65 (by rw [h_]; rfl)
     obtain rfl := Option.some.inj H
     go_enter Tryd.func7, Tryd.ntmps7
     go_wp2_with (first | ((with_reducible refine gate_dst (N := 4) rfl ?_); (try (refine gate_guard (by rfl) ?_; dsimp only)); refine be_ (N := 4) (cs := #[.slice A1_0 l1_0.length c1_0, .slice A1_1 l1_1.length c1_1, .slice A1_2 l1_2.length c1_2, .int .i64 a1_3, .int .i64 a1_4, .int .i64 a1_5]) (t := 26) ?_; intro gb356 hg w74 hbox hb; have n0_ := Aside0.mk (below_step bl_ hb); have n1_ := Aside0.mk (hbox); have n2_ := Aside0.mk ((by rw [hg]; exact (below_size bl_) : w.heap.size ≤ gb356)); have n3_ := Aside0.mk ((by rw [hg]; exact (below_size bl_) : w.heap.size ≤ gb356)); clear HB; have HB := n0_; have BK356 := n1_; have GW356 := n2_; have GE356 := n3_; clear n0_ n1_ n2_ n3_; clear hb hbox hg) | ((with_reducible refine gate_callee (f := 9) rfl ?_); refine gl_ (some 18) Tryd.func9 #[] ?_; (with_reducible refine (spilelaw30_awake.calls  true _ A4.out).mono ?_); rintro e w75 ⟨rfl, hb⟩; refine ⟨_, rfl, ?_⟩; have n0_ := Aside0.mk (blk_below (bkt_ BK356) hb); have n1_ := Aside0.mk (below_step bls_ hb); clear BK356; clear HB; have BK356 := n0_; have HB := n1_; clear n0_ n1_; (try clear hb); (try clear hb2); (try clear hk); (try clear hi); obtain ⟨hcz76_0, hcz76_1, hcz76_2, hcz76_3, hcz76_4, hcz76_5⟩ := bc6_ BK356; obtain ⟨hfz76_0, hfz76_1, hfz76_2, hfz76_3, hfz76_4⟩ := bf5_ BK356; have hfz76_5 := blk_frozen BK356.out 5) | ((with_reducible refine gate_callee (f := 10) rfl ?_); refine gl_ (some 24) Tryd.func10 #[.slice A0 l0.length c0, .agg #[.slice A1_0 l1_0.length c1_0, .slice A1_1 l1_1.length c1_1, .slice A1_2 l1_2.length c1_2, .int .i64 a1_3, .int .i64 a1_4, .int .i64 a1_5], .agg #[.slice A2 l2.length c2, .int .i64 0, .int .i64 0, .int .i64 0]] ?_; (with_reducible refine (spilelaw30_few.calls _ _ l0 _ _ l1_0 _ _ l1_1 _ _ l1_2 a1_3 a1_4 a1_5 _ _ l2 0 0 0 true _ ?side1 ?side2 ?side3 ?side4 ?side5 ?side6 ?side7 ?side8 ?side9 ?side10 A6.out).mono ?_); (case side1 => exact kc_ HR0); (case side2 => exact HC0.out); (case side3 => exact kc_ HR1_0); (case side4 => exact HC1_0.out); (case side5 => exact kc_ HR1_1); (case side6 => exact HC1_1.out); (case side7 => exact kc_ HR1_2); (case side8 => exact HC1_2.out); (case side9 => exact kc_ HR2); (case side10 => exact HC2.out); rintro e w77 ⟨rfl, hb⟩; refine ⟨_, rfl, ?_⟩; have n0_ := Aside0.mk (blk_below (bkt_ BK356) hb); have n1_ := Aside0.mk (below_step bls_ hb); clear BK356; clear HB; have BK356 := n0_; have HB := n1_; clear n0_ n1_; (try clear hb); (try clear hb2); (try clear hk); (try clear hi); obtain ⟨hcz78_0, hcz78_1, hcz78_2, hcz78_3, hcz78_4, hcz78_5⟩ := bc6_ BK356; obtain ⟨hfz78_0, hfz78_1, hfz78_2, hfz78_3, hfz78_4⟩ := bf5_ BK356; have hfz78_5 := blk_frozen BK356.out 5) | ((with_reducible refine gate_callee (f := 11) rfl ?_); refine gl_ (some 29) Tryd.func11 #[.slice A0 l0.length c0, .agg #[.slice A1_0 l1_0.length c1_0, .slice A1_1 l1_1.length c1_1, .slice A1_2 l1_2.length c1_2, .int .i64 a1_3, .int .i64 a1_4, .int .i64 a1_5]] ?_; (with_reducible refine (refusal_Excess.calls k _ _ l0 _ _ l1_0 _ _ l1_1 _ _ l1_2 a1_3 a1_4 a1_5 t359 t362 t365 _ ?side1 ?side2 ?side3 ?side4 ?side5 ?side6 ?side7 ?side8 A8.out).mono ?_); (case side1 => exact kc_ HR0); (case side2 => exact HC0.out); (case side3 => exact kc_ HR1_0); (case side4 => exact HC1_0.out); (case side5 => exact kc_ HR1_1); (case side6 => exact HC1_1.out); (case side7 => exact kc_ HR1_2); (case side8 => exact HC1_2.out); rintro e w79 ⟨v360, v363, rfl, ho0, ho1, hb⟩; refine ⟨_, rfl, ?_⟩; have n0_ := Aside0.mk (Kd.R_lower ho0 (below_size bls_)); have n1_ := Aside0.mk (Kd.R_lower ho1 (below_size bls_)); have n2_ := Aside0.mk (blk_below (bkt_ BK356) hb); have n3_ := Aside0.mk (below_step bls_ hb); clear BK356; clear HB; have HO361 := n0_; have HO364 := n1_; have BK356 := n2_; have HB := n3_; clear n0_ n1_ n2_ n3_; (try clear hb); (try clear hb2); (try clear hk); (try clear hi); (try clear ho0); (try clear ho1); obtain ⟨Ao80, co80, eo80⟩ := Kd.R_slice HO361.out; subst eo80))
     go_ret
     exact ⟨fin_, bls_⟩
  ·replace c7 := Bool.eq_false_iff.mpr c7
   subst c7
   have H1 : (some true) = some r := by rw [if_neg (show ¬ (false = true) by decide)] at H; exact H
   clear H
   have H := H1
   clear H1
   obtain rfl := Option.some.inj H
   go_enter Tryd.func7, Tryd.ntmps7
   go_wp2_with (first | ((with_reducible refine gate_dst (N := 4) rfl ?_); (try (refine gate_guard (by rfl) ?_; dsimp only)); refine be_ (N := 4) (cs := #[.slice A1_0 l1_0.length c1_0, .slice A1_1 l1_1.length c1_1, .slice A1_2 l1_2.length c1_2, .int .i64 a1_3, .int .i64 a1_4, .int .i64 a1_5]) (t := 26) ?_; intro gb356 hg w81 hbox hb; have n0_ := Aside0.mk (below_step bl_ hb); have n1_ := Aside0.mk (hbox); have n2_ := Aside0.mk ((by rw [hg]; exact (below_size bl_) : w.heap.size ≤ gb356)); have n3_ := Aside0.mk ((by rw [hg]; exact (below_size bl_) : w.heap.size ≤ gb356)); clear HB; have HB := n0_; have BK356 := n1_; have GW356 := n2_; have GE356 := n3_; clear n0_ n1_ n2_ n3_; clear hb hbox hg) | ((with_reducible refine gate_callee (f := 9) rfl ?_); refine gl_ (some 18) Tryd.func9 #[] ?_; (with_reducible refine (spilelaw30_awake.calls  true _ A4.out).mono ?_); rintro e w82 ⟨rfl, hb⟩; refine ⟨_, rfl, ?_⟩; have n0_ := Aside0.mk (blk_below (bkt_ BK356) hb); have n1_ := Aside0.mk (below_step bls_ hb); clear BK356; clear HB; have BK356 := n0_; have HB := n1_; clear n0_ n1_; (try clear hb); (try clear hb2); (try clear hk); (try clear hi); obtain ⟨hcz83_0, hcz83_1, hcz83_2, hcz83_3, hcz83_4, hcz83_5⟩ := bc6_ BK356; obtain ⟨hfz83_0, hfz83_1, hfz83_2, hfz83_3, hfz83_4⟩ := bf5_ BK356; have hfz83_5 := blk_frozen BK356.out 5) | ((with_reducible refine gate_callee (f := 10) rfl ?_); refine gl_ (some 24) Tryd.func10 #[.slice A0 l0.length c0, .agg #[.slice A1_0 l1_0.length c1_0, .slice A1_1 l1_1.length c1_1, .slice A1_2 l1_2.length c1_2, .int .i64 a1_3, .int .i64 a1_4, .int .i64 a1_5], .agg #[.slice A2 l2.length c2, .int .i64 0, .int .i64 0, .int .i64 0]] ?_; (with_reducible refine (spilelaw30_few.calls _ _ l0 _ _ l1_0 _ _ l1_1 _ _ l1_2 a1_3 a1_4 a1_5 _ _ l2 0 0 0 false _ ?side1 ?side2 ?side3 ?side4 ?side5 ?side6 ?side7 ?side8 ?side9 ?side10 A6.out).mono ?_); (case side1 => exact kc_ HR0); (case side2 => exact HC0.out); (case side3 => exact kc_ HR1_0); (case side4 => exact HC1_0.out); (case side5 => exact kc_ HR1_1); (case side6 => exact HC1_1.out); (case side7 => exact kc_ HR1_2); (case side8 => exact HC1_2.out); (case side9 => exact kc_ HR2); (case side10 => exact HC2.out); rintro e w84 ⟨rfl, hb⟩; refine ⟨_, rfl, ?_⟩; have n0_ := Aside0.mk (blk_below (bkt_ BK356) hb); have n1_ := Aside0.mk (below_step bls_ hb); clear BK356; clear HB; have BK356 := n0_; have HB := n1_; clear n0_ n1_; (try clear hb); (try clear hb2); (try clear hk); (try clear hi)))
   go_ret
   exact ⟨fin_, bls_⟩
 ·replace c5 := Bool.eq_false_iff.mpr c5
  subst c5
  have H1 : (some false) = some r := by rw [if_neg (show ¬ (false = true) by decide)] at H; exact H
  clear H
  have H := H1
  clear H1
  obtain rfl := Option.some.inj H
  go_enter Tryd.func7, Tryd.ntmps7
  go_wp2_with (first | ((with_reducible refine gate_dst (N := 4) rfl ?_); (try (refine gate_guard (by rfl) ?_; dsimp only)); refine be_ (N := 4) (cs := #[.slice A1_0 l1_0.length c1_0, .slice A1_1 l1_1.length c1_1, .slice A1_2 l1_2.length c1_2, .int .i64 a1_3, .int .i64 a1_4, .int .i64 a1_5]) (t := 26) ?_; intro gb356 hg w85 hbox hb; have n0_ := Aside0.mk (below_step bl_ hb); have n1_ := Aside0.mk (hbox); have n2_ := Aside0.mk ((by rw [hg]; exact (below_size bl_) : w.heap.size ≤ gb356)); have n3_ := Aside0.mk ((by rw [hg]; exact (below_size bl_) : w.heap.size ≤ gb356)); clear HB; have HB := n0_; have BK356 := n1_; have GW356 := n2_; have GE356 := n3_; clear n0_ n1_ n2_ n3_; clear hb hbox hg) | ((with_reducible refine gate_callee (f := 9) rfl ?_); refine gl_ (some 18) Tryd.func9 #[] ?_; (with_reducible refine (spilelaw30_awake.calls  false _ A4.out).mono ?_); rintro e w86 ⟨rfl, hb⟩; refine ⟨_, rfl, ?_⟩; have n0_ := Aside0.mk (blk_below (bkt_ BK356) hb); have n1_ := Aside0.mk (below_step bls_ hb); clear BK356; clear HB; have BK356 := n0_; have HB := n1_; clear n0_ n1_; (try clear hb); (try clear hb2); (try clear hk); (try clear hi)))
  go_ret
  exact ⟨fin_, bls_⟩

end Go.Proofs.YtcdkbciagchlgaaDoor.PF
