-- Written by a program of this session (wip/pr.py) out of Lean's print of the translation; Lean checks it.
import Derived.Test.YtdggkgkbjgigmaaPF0
import Derived.Test.YtdggkgkbjgigmaaPF1
import Derived.Test.YtdggkgkbjgigmaaPF4
namespace Go.Proofs.Ytdggkgkbjgigmaa.PF
open Go.RowKit Go.Proofs.YtdggkgkbjgigmaaW.PrintWords Go.Proofs.YtdggkgkbjgigmaaW.PrintLast Go.Proofs.YtdggkgkbjgigmaaW.PrintMore
attribute [local go_sem] max2_int min2_int max_two min_two max_three min_three max_four min_four   -- for this text's walks alone
set_option linter.unusedVariables false
set_option linter.unusedSimpArgs false

/-! ### spileref16_Check: function 66 -/
mutual
def spileref16_Check.l0 : Nat → List (S50) → Int → Option (Int × Int)
 | 0, _, _ => none
 | k + 1, x0, x4 => if x4 < (x0.length : Int) then (if 0 ≤ x4 then (if ((rd_T50 x0 x4).f0) < 0 then (spileref16_Check.j1 k x0 x4 true) else (if ((rd_T50 x0 x4).f0) > 10000 then (spileref16_Check.j1 k x0 x4 true) else (if ((rd_T50 x0 x4).f1) < 50000 then (spileref16_Check.j1 k x0 x4 true) else (spileref16_Check.j1 k x0 x4 (decide (((rd_T50 x0 x4).f1) > 120000)))))) else (none)) else (if 0 < (x0.length : Int) then (if ((rd_T50 x0 0).f0) = 0 then (if 0 ≤ (wrap64 ((x0.length : Int) - 1)) then (if (wrap64 ((x0.length : Int) - 1)) < (x0.length : Int) then (if ((rd_T50 x0 (wrap64 ((x0.length : Int) - 1))).f0) = 10000 then (some ((-1), 0)) else (some (wrap64 ((x0.length : Int) - 1), 10))) else (none)) else (none)) else (some (0, 10))) else (none))
def spileref16_Check.j1 : Nat → List (S50) → Int → Bool → Option (Int × Int)
 | 0, _, _, _ => none
 | k + 1, x0, x4, x46 => if x46 = true then (some (x4, 2)) else (if x4 > 0 then (if 0 ≤ x4 then (if x4 < (x0.length : Int) then (if 0 ≤ (wrap64 (x4 - 1)) then (if (wrap64 (x4 - 1)) < (x0.length : Int) then (spileref16_Check.j2 k x0 x4 (decide (((rd_T50 x0 x4).f0) ≤ ((rd_T50 x0 (wrap64 (x4 - 1))).f0)))) else (none)) else (none)) else (none)) else (none)) else (spileref16_Check.j2 k x0 x4 false))
def spileref16_Check.j2 : Nat → List (S50) → Int → Bool → Option (Int × Int)
 | 0, _, _, _ => none
 | k + 1, x0, x4, x63 => if x63 = true then (some (x4, 5)) else (if x4 > 0 then (if 0 ≤ x4 then (if x4 < (x0.length : Int) then (if 0 ≤ (wrap64 (x4 - 1)) then (if (wrap64 (x4 - 1)) < (x0.length : Int) then (if ((rd_T50 x0 x4).f1) > ((rd_T50 x0 (wrap64 (x4 - 1))).f1) then (some (x4, 18)) else (spileref16_Check.l0 k x0 (wrap64 (x4 + 1)))) else (none)) else (none)) else (none)) else (none)) else (spileref16_Check.l0 k x0 (wrap64 (x4 + 1))))
end
def spileref16_Check.f (k : Nat) (l0 : List (S50)) : Option (Int × Int) := if (l0.length : Int) > 128 then (some ((-1), 8)) else (if (l0.length : Int) < 2 then (some ((-1), 9)) else (spileref16_Check.l0 k l0 0))
theorem spileref16_Check.mono_l : ∀ k, (∀ y0 y1, LeO (spileref16_Check.l0 k y0 y1) (spileref16_Check.l0 (k + 1) y0 y1)) ∧ (∀ y0 y1 y2, LeO (spileref16_Check.j1 k y0 y1 y2) (spileref16_Check.j1 (k + 1) y0 y1 y2)) ∧ (∀ y0 y1 y2, LeO (spileref16_Check.j2 k y0 y1 y2) (spileref16_Check.j2 (k + 1) y0 y1 y2))
 | 0 => ⟨fun _ _ r h => by simp [spileref16_Check.l0] at h, fun _ _ _ r h => by simp [spileref16_Check.j1] at h, fun _ _ _ r h => by simp [spileref16_Check.j2] at h⟩
 | k + 1 => by
  obtain ⟨ih0, ih1, ih2⟩ := spileref16_Check.mono_l k
  refine ⟨?_, ?_, ?_⟩
  ·intro y0 y1
   unfold spileref16_Check.l0
   repeat' first
   | (with_reducible exact ih0 _ _)
   | (with_reducible exact ih1 _ _ _)
   | (with_reducible exact ih2 _ _ _)
   | (with_reducible exact LeO.refl _)
   | (with_reducible exact LeO.none _)
   | (with_reducible refine LeO.ite ?_ ?_)
   | (with_reducible refine LeO.bind ?_ (fun _ => ?_))
   | exact ih0 _ _
   | exact ih1 _ _ _
   | exact ih2 _ _ _
   | exact LeO.none _
   | refine LeO.ite ?_ ?_
   | refine LeO.bind ?_ (fun _ => ?_)
  ·intro y0 y1 y2
   unfold spileref16_Check.j1
   repeat' first
   | (with_reducible exact ih0 _ _)
   | (with_reducible exact ih1 _ _ _)
   | (with_reducible exact ih2 _ _ _)
   | (with_reducible exact LeO.refl _)
   | (with_reducible exact LeO.none _)
   | (with_reducible refine LeO.ite ?_ ?_)
   | (with_reducible refine LeO.bind ?_ (fun _ => ?_))
   | exact ih0 _ _
   | exact ih1 _ _ _
   | exact ih2 _ _ _
   | exact LeO.none _
   | refine LeO.ite ?_ ?_
   | refine LeO.bind ?_ (fun _ => ?_)
  ·intro y0 y1 y2
   unfold spileref16_Check.j2
   repeat' first
   | (with_reducible exact ih0 _ _)
   | (with_reducible exact ih1 _ _ _)
   | (with_reducible exact ih2 _ _ _)
   | (with_reducible exact LeO.refl _)
   | (with_reducible exact LeO.none _)
   | (with_reducible refine LeO.ite ?_ ?_)
   | (with_reducible refine LeO.bind ?_ (fun _ => ?_))
   | exact ih0 _ _
   | exact ih1 _ _ _
   | exact ih2 _ _ _
   | exact LeO.none _
   | refine LeO.ite ?_ ?_
   | refine LeO.bind ?_ (fun _ => ?_)
theorem spileref16_Check.mono : ∀ a0 k, LeO (spileref16_Check.f k a0) (spileref16_Check.f (k + 1) a0) := by
 intro a0 k
 obtain ⟨ih0, ih1, ih2⟩ := spileref16_Check.mono_l k
 unfold spileref16_Check.f
 repeat' first
   | (with_reducible exact ih0 _ _)
   | (with_reducible exact ih1 _ _ _)
   | (with_reducible exact ih2 _ _ _)
   | (with_reducible exact LeO.refl _)
   | (with_reducible exact LeO.none _)
   | (with_reducible refine LeO.ite ?_ ?_)
   | (with_reducible refine LeO.bind ?_ (fun _ => ?_))
   | exact ih0 _ _
   | exact ih1 _ _ _
   | exact ih2 _ _ _
   | exact LeO.none _
   | refine LeO.ite ?_ ?_
   | refine LeO.bind ?_ (fun _ => ?_)
set_option maxHeartbeats 8000000 in
set_option maxRecDepth 100000 in
theorem spileref16_Check.calls (k : Nat) (A0 : Option Addr) (c0 : Nat) (l0 : List (S50)) (r1 : Int) (r2 : Int) (w : World) (hr0 : Kd.C k50 w A0 l0.length l0) (hc0 : l0.length ≤ c0) (h : spileref16_Check.f k l0 = some (r1, r2)) :
  Calls Try.prog 66 #[.slice A0 l0.length c0] w fun e w' => e = .returned (.tuple #[.int .i64 r1, .int .i64 r2]) ∧ Drawn0 w w' := by
 have HR0 := Aside0.mk hr0
 have HC0 := Aside0.mk hc0
 clear hr0 hc0
 have H : (if (l0.length : Int) > 128 then (some ((-1), 8)) else (if (l0.length : Int) < 2 then (some ((-1), 9)) else (spileref16_Check.l0 k l0 0))) = some (r1, r2) := h
 clear h
 by_cases c2 : (l0.length : Int) > 128
 ·rw [if_pos c2] at H
  have c2b0 : decide (128 < (l0.length : Int)) = true := decide_eq_true c2
  have c2b1 : decide (128 < l0.length) = true := decide_eq_true (by omega)
  clear c2
  simp only [Option.some.injEq, Prod.mk.injEq] at H
  obtain ⟨rfl, rfl⟩ := H
  go_enter Try.func66, Try.ntmps66
  go_wp2
  repeat (go_quiet (fail); try go_wp2)
  go_ret2
  exact ⟨by first | rfl | (simp; done) | (simp [*]; done), by repeat (first | exact Drawn0.refl _ | apply Drawn0.step)⟩
 ·rw [if_neg c2] at H
  have c2b0 : decide (128 < (l0.length : Int)) = false := decide_eq_false c2
  have c2b1 : decide (128 < l0.length) = false := decide_eq_false (by omega)
  clear c2
  by_cases c3 : (l0.length : Int) < 2
  ·rw [if_pos c3] at H
   have c3b0 : decide ((l0.length : Int) < 2) = true := decide_eq_true c3
   have c3b1 : decide (l0.length < 2) = true := decide_eq_true (by omega)
   clear c3
   simp only [Option.some.injEq, Prod.mk.injEq] at H
   obtain ⟨rfl, rfl⟩ := H
   go_enter Try.func66, Try.ntmps66
   go_wp2
   repeat (go_quiet (fail); try go_wp2)
   go_ret2
   exact ⟨by first | rfl | (simp; done) | (simp [*]; done), by repeat (first | exact Drawn0.refl _ | apply Drawn0.step)⟩
  ·rw [if_neg c3] at H
   have c3b0 : decide ((l0.length : Int) < 2) = false := decide_eq_false c3
   have c3b1 : decide (l0.length < 2) = false := decide_eq_false (by omega)
   clear c3
   have H' := Aside0.mk H
   clear H
   go_enter Try.func66, Try.ntmps66
   go_wp2
   repeat (go_quiet (fail); try go_wp2)
   go_loopg [4] k (fun kq v4 w' => ∃ (x4_1 : Int), v4 = .int .i64 x4_1 ∧ Aside0 (spileref16_Check.l0 kq l0 x4_1 = some (r1, r2)) ∧ Aside0 (kq ≤ k) ∧ Drawn0 w w')
   case atStart => exact ⟨(0), (by first | rfl | (simp; done) | (simp [*]; done)), H', ⟨Nat.le_refl _⟩, by repeat (first | exact Drawn0.refl _ | apply Drawn0.step)⟩
   case round =>
    clear H'
    try clear c2
    try clear c2b0
    try clear c2b1
    try clear p2
    try clear c3
    try clear c3b0
    try clear c3b1
    obtain ⟨x4_1, rfl, HA, HK1, ⟨m1, rfl⟩⟩ := hrel
    cases gk with
    | zero => exact absurd HA.out (by simp [spileref16_Check.l0])
    | succ k1 =>
     have H := HA.out
     clear HA
     simp only [spileref16_Check.l0] at H
     by_cases c4 : x4_1 < (l0.length : Int)
     ·rw [if_pos c4] at H
      have c4b0 : decide (x4_1 < (l0.length : Int)) = true := decide_eq_true c4
      clear c4
      have HC5 := Aside0.mk H
      clear H
      go_upto_region 8 with (fail)
      repeat (go_quiet (fail); go_upto_region 8 with (fail))
      go_cut [46] (fun v46 wc => ∃ (kq : Nat) (x46_4 : Bool), v46 = .bool x46_4 ∧ Aside0 (spileref16_Check.j1 kq l0 x4_1 x46_4 = some (r1, r2)) ∧ Aside0 (kq ≤ k1) ∧ Drawn0 w wc)
      case first =>
       have H := HC5.out
       clear HC5
       by_cases c6 : 0 ≤ x4_1
       ·rw [if_pos c6] at H
        have c6b0 : decide (0 ≤ x4_1) = true := decide_eq_true c6
        clear c6
        (first | rw [c6b0] | (simp only [i64_w, i32_w]; rw [c6b0]) | skip)
        by_cases c7 : ((rd_T50 l0 x4_1).f0) < 0
        ·rw [if_pos c7] at H
         have c7b0 : decide (((rd_T50 l0 x4_1).f0) < 0) = true := decide_eq_true c7
         clear c7
         have H' := Aside0.mk H
         clear H
         have p183 : 0 ≤ (x4_1 : Int) := of_decide_eq_true (by first | (with_reducible assumption) | assumption)
         have q183 : x4_1 < (l0.length : Int) := of_decide_eq_true (by first | (with_reducible assumption) | assumption)
         obtain ⟨ad183, e183, hx183_0, hx183_1⟩ := at_T50 HR0.out x4_1 p183 q183
         cases e183
         replace p183 := eq_true p183
         replace q183 := eq_true q183
         go_wp2
         repeat (go_quiet (fail); try go_wp2)
         go_meet
         case rel => exact ⟨_, (true), (by first | rfl | (simp; done) | (simp [*]; done)), H', ⟨by have := HK1.out; first | omega | exact Nat.le_refl _⟩, by repeat (first | exact Drawn0.refl _ | apply Drawn0.step)⟩
        ·rw [if_neg c7] at H
         have c7b0 : decide (((rd_T50 l0 x4_1).f0) < 0) = false := decide_eq_false c7
         clear c7
         by_cases c8 : ((rd_T50 l0 x4_1).f0) > 10000
         ·rw [if_pos c8] at H
          have c8b0 : decide (10000 < ((rd_T50 l0 x4_1).f0)) = true := decide_eq_true c8
          clear c8
          have H' := Aside0.mk H
          clear H
          have p183 : 0 ≤ (x4_1 : Int) := of_decide_eq_true (by first | (with_reducible assumption) | assumption)
          have q183 : x4_1 < (l0.length : Int) := of_decide_eq_true (by first | (with_reducible assumption) | assumption)
          obtain ⟨ad183, e183, hx183_0, hx183_1⟩ := at_T50 HR0.out x4_1 p183 q183
          cases e183
          replace p183 := eq_true p183
          replace q183 := eq_true q183
          have p184 : 0 ≤ (x4_1 : Int) := of_decide_eq_true (by first | (with_reducible assumption) | assumption)
          have q184 : x4_1 < (l0.length : Int) := of_decide_eq_true (by first | (with_reducible assumption) | assumption)
          obtain ⟨ad184, e184, hx184_0, hx184_1⟩ := at_T50 HR0.out x4_1 p184 q184
          obtain rfl : ad183 = ad184 := (by injection e184)
          replace p184 := eq_true p184
          replace q184 := eq_true q184
          go_wp2
          repeat (go_quiet (fail); try go_wp2)
          go_meet
          case rel => exact ⟨_, (true), (by first | rfl | (simp; done) | (simp [*]; done)), H', ⟨by have := HK1.out; first | omega | exact Nat.le_refl _⟩, by repeat (first | exact Drawn0.refl _ | apply Drawn0.step)⟩
         ·rw [if_neg c8] at H
          have c8b0 : decide (10000 < ((rd_T50 l0 x4_1).f0)) = false := decide_eq_false c8
          clear c8
          by_cases c9 : ((rd_T50 l0 x4_1).f1) < 50000
          ·rw [if_pos c9] at H
           have c9b0 : decide (((rd_T50 l0 x4_1).f1) < 50000) = true := decide_eq_true c9
           clear c9
           have H' := Aside0.mk H
           clear H
           have p183 : 0 ≤ (x4_1 : Int) := of_decide_eq_true (by first | (with_reducible assumption) | assumption)
           have q183 : x4_1 < (l0.length : Int) := of_decide_eq_true (by first | (with_reducible assumption) | assumption)
           obtain ⟨ad183, e183, hx183_0, hx183_1⟩ := at_T50 HR0.out x4_1 p183 q183
           cases e183
           replace p183 := eq_true p183
           replace q183 := eq_true q183
           have p184 : 0 ≤ (x4_1 : Int) := of_decide_eq_true (by first | (with_reducible assumption) | assumption)
           have q184 : x4_1 < (l0.length : Int) := of_decide_eq_true (by first | (with_reducible assumption) | assumption)
           obtain ⟨ad184, e184, hx184_0, hx184_1⟩ := at_T50 HR0.out x4_1 p184 q184
           obtain rfl : ad183 = ad184 := (by injection e184)
           replace p184 := eq_true p184
           replace q184 := eq_true q184
           have p185 : 0 ≤ (x4_1 : Int) := of_decide_eq_true (by first | (with_reducible assumption) | assumption)
           have q185 : x4_1 < (l0.length : Int) := of_decide_eq_true (by first | (with_reducible assumption) | assumption)
           obtain ⟨ad185, e185, hx185_0, hx185_1⟩ := at_T50 HR0.out x4_1 p185 q185
           obtain rfl : ad183 = ad185 := (by injection e185)
           replace p185 := eq_true p185
           replace q185 := eq_true q185
           go_wp2
           repeat (go_quiet (fail); try go_wp2)
           go_meet
           case rel => exact ⟨_, (true), (by first | rfl | (simp; done) | (simp [*]; done)), H', ⟨by have := HK1.out; first | omega | exact Nat.le_refl _⟩, by repeat (first | exact Drawn0.refl _ | apply Drawn0.step)⟩
          ·rw [if_neg c9] at H
           have c9b0 : decide (((rd_T50 l0 x4_1).f1) < 50000) = false := decide_eq_false c9
           clear c9
           have H' := Aside0.mk H
           clear H
           have p183 : 0 ≤ (x4_1 : Int) := of_decide_eq_true (by first | (with_reducible assumption) | assumption)
           have q183 : x4_1 < (l0.length : Int) := of_decide_eq_true (by first | (with_reducible assumption) | assumption)
           obtain ⟨ad183, e183, hx183_0, hx183_1⟩ := at_T50 HR0.out x4_1 p183 q183
           cases e183
           replace p183 := eq_true p183
           replace q183 := eq_true q183
           have p184 : 0 ≤ (x4_1 : Int) := of_decide_eq_true (by first | (with_reducible assumption) | assumption)
           have q184 : x4_1 < (l0.length : Int) := of_decide_eq_true (by first | (with_reducible assumption) | assumption)
           obtain ⟨ad184, e184, hx184_0, hx184_1⟩ := at_T50 HR0.out x4_1 p184 q184
           obtain rfl : ad183 = ad184 := (by injection e184)
           replace p184 := eq_true p184
           replace q184 := eq_true q184
           have p185 : 0 ≤ (x4_1 : Int) := of_decide_eq_true (by first | (with_reducible assumption) | assumption)
           have q185 : x4_1 < (l0.length : Int) := of_decide_eq_true (by first | (with_reducible assumption) | assumption)
           obtain ⟨ad185, e185, hx185_0, hx185_1⟩ := at_T50 HR0.out x4_1 p185 q185
           obtain rfl : ad183 = ad185 := (by injection e185)
           replace p185 := eq_true p185
           replace q185 := eq_true q185
           have p186 : 0 ≤ (x4_1 : Int) := of_decide_eq_true (by first | (with_reducible assumption) | assumption)
           have q186 : x4_1 < (l0.length : Int) := of_decide_eq_true (by first | (with_reducible assumption) | assumption)
           obtain ⟨ad186, e186, hx186_0, hx186_1⟩ := at_T50 HR0.out x4_1 p186 q186
           obtain rfl : ad183 = ad186 := (by injection e186)
           replace p186 := eq_true p186
           replace q186 := eq_true q186
           go_wp2
           repeat (go_quiet (fail); try go_wp2)
           go_meet
           case rel => exact ⟨_, (decide (((rd_T50 l0 x4_1).f1) > 120000)), (by first | rfl | (simp; done) | (simp [*]; done)), H', ⟨by have := HK1.out; first | omega | exact Nat.le_refl _⟩, by repeat (first | exact Drawn0.refl _ | apply Drawn0.step)⟩
       ·rw [if_neg c6] at H
        exact absurd H (by simp)
      case rest =>
       clear HC5
       try clear p1
       try clear q1
       try clear hx1
       try clear c2
       try clear c2b0
       try clear c2b1
       try clear p2
       try clear c3
       try clear c3b0
       try clear c3b1
       try clear c4
       try clear c4b0
       try clear c6
       try clear c6b0
       try clear c7
       try clear c7b0
       try clear c8
       try clear c8b0
       try clear c9
       try clear c9b0
       try clear hx183_0
       try clear hx183_1
       try clear hx184_0
       try clear hx184_1
       try clear hx185_0
       try clear hx185_1
       try clear hx186_0
       try clear hx186_1
       try clear p183
       try clear p184
       try clear p185
       try clear p186
       try clear p2
       try clear q183
       try clear q184
       try clear q185
       try clear q186
       obtain ⟨kq, x46_4, rfl, HA, HJ4, ⟨mc4, rfl⟩⟩ := hcut
       cases kq with
       | zero => exact absurd HA.out (by simp [spileref16_Check.j1])
       | succ kj4 =>
        have H := HA.out
        clear HA
        simp only [spileref16_Check.j1] at H
        by_cases c10 : x46_4 = true
        ·subst c10
         have H1 : (some (x4_1, 2)) = some (r1, r2) := by rw [if_pos rfl] at H; exact H
         clear H
         have H := H1
         clear H1
         simp only [Option.some.injEq, Prod.mk.injEq] at H
         obtain ⟨rfl, rfl⟩ := H
         go_wp2
         repeat (go_quiet (fail); try go_wp2)
         go_ret2
         exact ⟨by first | rfl | (simp; done) | (simp [*]; done), by repeat (first | exact Drawn0.refl _ | apply Drawn0.step)⟩
        ·replace c10 := Bool.eq_false_iff.mpr c10
         subst c10
         have H1 : (if x4_1 > 0 then (if 0 ≤ x4_1 then (if x4_1 < (l0.length : Int) then (if 0 ≤ (wrap64 (x4_1 - 1)) then (if (wrap64 (x4_1 - 1)) < (l0.length : Int) then (spileref16_Check.j2 kj4 l0 x4_1 (decide (((rd_T50 l0 x4_1).f0) ≤ ((rd_T50 l0 (wrap64 (x4_1 - 1))).f0)))) else (none)) else (none)) else (none)) else (none)) else (spileref16_Check.j2 kj4 l0 x4_1 false)) = some (r1, r2) := by rw [if_neg (show ¬ (false = true) by decide)] at H; exact H
         clear H
         have H := H1
         clear H1
         have HC11 := Aside0.mk H
         clear H
         go_upto_region 10 with (fail)
         repeat (go_quiet (fail); go_upto_region 10 with (fail))
         go_cut [63] (fun v63 wc => ∃ (kq : Nat) (x63_10 : Bool), v63 = .bool x63_10 ∧ Aside0 (spileref16_Check.j2 kq l0 x4_1 x63_10 = some (r1, r2)) ∧ Aside0 (kq ≤ kj4) ∧ Drawn0 w wc)
         case first =>
          have H := HC11.out
          clear HC11
          by_cases c12 : x4_1 > 0
          ·rw [if_pos c12] at H
           have c12b0 : decide (0 < x4_1) = true := decide_eq_true c12
           clear c12
           (first | rw [c12b0] | (simp only [i64_w, i32_w]; rw [c12b0]) | skip)
           by_cases c13 : 0 ≤ x4_1
           ·rw [if_pos c13] at H
            have c13b0 : decide (0 ≤ x4_1) = true := decide_eq_true c13
            clear c13
            by_cases c14 : x4_1 < (l0.length : Int)
            ·rw [if_pos c14] at H
             have c14b0 : decide (x4_1 < (l0.length : Int)) = true := decide_eq_true c14
             clear c14
             obtain ⟨ji15, hji15⟩ : ∃ j_ : Int, (wrap64 (x4_1 - 1)) = j_ := ⟨_, rfl⟩
             replace H : (if 0 ≤ (ji15) then (if (ji15) < (l0.length : Int) then (spileref16_Check.j2 kj4 l0 x4_1 (decide (((rd_T50 l0 x4_1).f0) ≤ ((rd_T50 l0 (ji15)).f0)))) else (none)) else (none)) = some (r1, r2) := by first | (rw [hji15] at H; exact H) | (simp only [hji15] at H ⊢; exact H)
             have hji15w : (IntKind.i64.wrap (x4_1 - 1)) = ji15 := (i64_w _).trans hji15
             by_cases c16 : 0 ≤ (ji15)
             ·rw [if_pos c16] at H
              have c16b0 : decide (0 ≤ (ji15)) = true := decide_eq_true c16
              clear c16
              by_cases c17 : (ji15) < (l0.length : Int)
              ·rw [if_pos c17] at H
               have c17b0 : decide ((ji15) < (l0.length : Int)) = true := decide_eq_true c17
               clear c17
               have H' := Aside0.mk H
               clear H
               have p187 : 0 ≤ (x4_1 : Int) := of_decide_eq_true (by first | (with_reducible assumption) | assumption)
               have q187 : x4_1 < (l0.length : Int) := of_decide_eq_true (by first | (with_reducible assumption) | assumption)
               obtain ⟨ad187, e187, hx187_0, hx187_1⟩ := at_T50 HR0.out x4_1 p187 q187
               cases e187
               replace p187 := eq_true p187
               replace q187 := eq_true q187
               have p188 : 0 ≤ ((ji15) : Int) := of_decide_eq_true (by first | (with_reducible assumption) | assumption)
               have q188 : (ji15) < (l0.length : Int) := of_decide_eq_true (by first | (with_reducible assumption) | assumption)
               obtain ⟨ad188, e188, hx188_0, hx188_1⟩ := at_T50 HR0.out (ji15) p188 q188
               obtain rfl : ad187 = ad188 := (by injection e188)
               replace p188 := eq_true p188
               replace q188 := eq_true q188
               go_wp2
               repeat (go_quiet (fail); try go_wp2)
               go_meet
               case rel => exact ⟨_, (decide (((rd_T50 l0 x4_1).f0) ≤ ((rd_T50 l0 (ji15)).f0))), (by first | rfl | (simp; done) | (simp only [← hji15] <;> (first | rfl | simp)) | (simp [*]; done)), H', ⟨by have := HK1.out; have := HJ4.out; first | omega | exact Nat.le_refl _⟩, by repeat (first | exact Drawn0.refl _ | apply Drawn0.step)⟩
              ·rw [if_neg c17] at H
               exact absurd H (by simp)
             ·rw [if_neg c16] at H
              exact absurd H (by simp)
            ·rw [if_neg c14] at H
             exact absurd H (by simp)
           ·rw [if_neg c13] at H
            exact absurd H (by simp)
          ·rw [if_neg c12] at H
           have c12b0 : decide (0 < x4_1) = false := decide_eq_false c12
           clear c12
           (first | rw [c12b0] | (simp only [i64_w, i32_w]; rw [c12b0]) | skip)
           have H' := Aside0.mk H
           clear H
           go_wp2
           repeat (go_quiet (fail); try go_wp2)
           go_meet
           case rel => exact ⟨_, (false), (by first | rfl | (simp; done) | (simp [*]; done)), H', ⟨by have := HK1.out; have := HJ4.out; first | omega | exact Nat.le_refl _⟩, by repeat (first | exact Drawn0.refl _ | apply Drawn0.step)⟩
         case rest =>
          clear HC11
          try clear c1
          try clear p1
          try clear q1
          try clear hx1
          try clear c2
          try clear c2b0
          try clear c2b1
          try clear p2
          try clear c3
          try clear c3b0
          try clear c3b1
          try clear c4
          try clear c4b0
          try clear c6
          try clear c6b0
          try clear p6
          try clear c7
          try clear c7b0
          try clear c8
          try clear c8b0
          try clear c9
          try clear c9b0
          try clear c10
          try clear c12
          try clear c12b0
          try clear c13
          try clear c13b0
          try clear c14
          try clear c14b0
          try clear c16
          try clear c16b0
          try clear c17
          try clear c17b0
          try clear hx183_0
          try clear hx183_1
          try clear hx184_0
          try clear hx184_1
          try clear hx185_0
          try clear hx185_1
          try clear hx186_0
          try clear hx186_1
          try clear hx187_0
          try clear hx187_1
          try clear hx188_0
          try clear hx188_1
          try clear p1
          try clear p183
          try clear p184
          try clear p185
          try clear p186
          try clear p187
          try clear p188
          try clear p2
          try clear q1
          try clear q183
          try clear q184
          try clear q185
          try clear q186
          try clear q187
          try clear q188
          obtain ⟨kq, x63_10, rfl, HA, HJ10, ⟨mc10, rfl⟩⟩ := hcut
          cases kq with
          | zero => exact absurd HA.out (by simp [spileref16_Check.j2])
          | succ kj10 =>
           have H := HA.out
           clear HA
           simp only [spileref16_Check.j2] at H
           by_cases c18 : x63_10 = true
           ·subst c18
            have H1 : (some (x4_1, 5)) = some (r1, r2) := by rw [if_pos rfl] at H; exact H
            clear H
            have H := H1
            clear H1
            simp only [Option.some.injEq, Prod.mk.injEq] at H
            obtain ⟨rfl, rfl⟩ := H
            go_wp2
            repeat (go_quiet (fail); try go_wp2)
            go_ret2
            exact ⟨by first | rfl | (simp; done) | (simp [*]; done), by repeat (first | exact Drawn0.refl _ | apply Drawn0.step)⟩
           ·replace c18 := Bool.eq_false_iff.mpr c18
            subst c18
            have H1 : (if x4_1 > 0 then (if 0 ≤ x4_1 then (if x4_1 < (l0.length : Int) then (if 0 ≤ (wrap64 (x4_1 - 1)) then (if (wrap64 (x4_1 - 1)) < (l0.length : Int) then (if ((rd_T50 l0 x4_1).f1) > ((rd_T50 l0 (wrap64 (x4_1 - 1))).f1) then (some (x4_1, 18)) else (spileref16_Check.l0 kj10 l0 (wrap64 (x4_1 + 1)))) else (none)) else (none)) else (none)) else (none)) else (spileref16_Check.l0 kj10 l0 (wrap64 (x4_1 + 1)))) = some (r1, r2) := by rw [if_neg (show ¬ (false = true) by decide)] at H; exact H
            clear H
            have H := H1
            clear H1
            by_cases c19 : x4_1 > 0
            ·rw [if_pos c19] at H
             have c19b0 : decide (0 < x4_1) = true := decide_eq_true c19
             clear c19
             by_cases c20 : 0 ≤ x4_1
             ·rw [if_pos c20] at H
              have c20b0 : decide (0 ≤ x4_1) = true := decide_eq_true c20
              clear c20
              by_cases c21 : x4_1 < (l0.length : Int)
              ·rw [if_pos c21] at H
               have c21b0 : decide (x4_1 < (l0.length : Int)) = true := decide_eq_true c21
               clear c21
               obtain ⟨ji22, hji22⟩ : ∃ j_ : Int, (wrap64 (x4_1 - 1)) = j_ := ⟨_, rfl⟩
               replace H : (if 0 ≤ (ji22) then (if (ji22) < (l0.length : Int) then (if ((rd_T50 l0 x4_1).f1) > ((rd_T50 l0 (ji22)).f1) then (some (x4_1, 18)) else (spileref16_Check.l0 kj10 l0 (wrap64 (x4_1 + 1)))) else (none)) else (none)) = some (r1, r2) := by first | (rw [hji22] at H; exact H) | (simp only [hji22] at H ⊢; exact H)
               have hji22w : (IntKind.i64.wrap (x4_1 - 1)) = ji22 := (i64_w _).trans hji22
               by_cases c23 : 0 ≤ (ji22)
               ·rw [if_pos c23] at H
                have c23b0 : decide (0 ≤ (ji22)) = true := decide_eq_true c23
                clear c23
                by_cases c24 : (ji22) < (l0.length : Int)
                ·rw [if_pos c24] at H
                 have c24b0 : decide ((ji22) < (l0.length : Int)) = true := decide_eq_true c24
                 clear c24
                 by_cases c25 : ((rd_T50 l0 x4_1).f1) > ((rd_T50 l0 (ji22)).f1)
                 ·rw [if_pos c25] at H
                  have c25b0 : decide (((rd_T50 l0 (ji22)).f1) < ((rd_T50 l0 x4_1).f1)) = true := decide_eq_true c25
                  clear c25
                  simp only [Option.some.injEq, Prod.mk.injEq] at H
                  obtain ⟨rfl, rfl⟩ := H
                  have p189 : 0 ≤ (x4_1 : Int) := of_decide_eq_true (by first | (with_reducible assumption) | assumption)
                  have q189 : x4_1 < (l0.length : Int) := of_decide_eq_true (by first | (with_reducible assumption) | assumption)
                  obtain ⟨ad189, e189, hx189_0, hx189_1⟩ := at_T50 HR0.out x4_1 p189 q189
                  cases e189
                  replace p189 := eq_true p189
                  replace q189 := eq_true q189
                  have p190 : 0 ≤ ((ji22) : Int) := of_decide_eq_true (by first | (with_reducible assumption) | assumption)
                  have q190 : (ji22) < (l0.length : Int) := of_decide_eq_true (by first | (with_reducible assumption) | assumption)
                  obtain ⟨ad190, e190, hx190_0, hx190_1⟩ := at_T50 HR0.out (ji22) p190 q190
                  obtain rfl : ad189 = ad190 := (by injection e190)
                  replace p190 := eq_true p190
                  replace q190 := eq_true q190
                  go_wp2
                  repeat (go_quiet (fail); try go_wp2)
                  go_ret2
                  exact ⟨by first | rfl | (simp; done) | (simp only [← hji22] <;> (first | rfl | simp)) | (simp [*]; done), by repeat (first | exact Drawn0.refl _ | apply Drawn0.step)⟩
                 ·rw [if_neg c25] at H
                  have c25b0 : decide (((rd_T50 l0 (ji22)).f1) < ((rd_T50 l0 x4_1).f1)) = false := decide_eq_false c25
                  clear c25
                  have H' := Aside0.mk H
                  clear H
                  have p189 : 0 ≤ (x4_1 : Int) := of_decide_eq_true (by first | (with_reducible assumption) | assumption)
                  have q189 : x4_1 < (l0.length : Int) := of_decide_eq_true (by first | (with_reducible assumption) | assumption)
                  obtain ⟨ad189, e189, hx189_0, hx189_1⟩ := at_T50 HR0.out x4_1 p189 q189
                  cases e189
                  replace p189 := eq_true p189
                  replace q189 := eq_true q189
                  have p190 : 0 ≤ ((ji22) : Int) := of_decide_eq_true (by first | (with_reducible assumption) | assumption)
                  have q190 : (ji22) < (l0.length : Int) := of_decide_eq_true (by first | (with_reducible assumption) | assumption)
                  obtain ⟨ad190, e190, hx190_0, hx190_1⟩ := at_T50 HR0.out (ji22) p190 q190
                  obtain rfl : ad189 = ad190 := (by injection e190)
                  replace p190 := eq_true p190
                  replace q190 := eq_true q190
                  go_wp2
                  repeat (go_quiet (fail); try go_wp2)
                  go_roundg kj10
                  case measure => have := HK1.out; have := HJ4.out; have := HJ10.out; omega
                  case rel => exact ⟨(wrap64 (x4_1 + 1)), (by first | rfl | (simp; done) | (simp [*]; done)), H', ⟨by have := HK1.out; have := HJ4.out; have := HJ10.out; omega⟩, by repeat (first | exact Drawn0.refl _ | apply Drawn0.step)⟩
                ·rw [if_neg c24] at H
                 exact absurd H (by simp)
               ·rw [if_neg c23] at H
                exact absurd H (by simp)
              ·rw [if_neg c21] at H
               exact absurd H (by simp)
             ·rw [if_neg c20] at H
              exact absurd H (by simp)
            ·rw [if_neg c19] at H
             have c19b0 : decide (0 < x4_1) = false := decide_eq_false c19
             clear c19
             have H' := Aside0.mk H
             clear H
             go_wp2
             repeat (go_quiet (fail); try go_wp2)
             go_roundg kj10
             case measure => have := HK1.out; have := HJ4.out; have := HJ10.out; omega
             case rel => exact ⟨(wrap64 (x4_1 + 1)), (by first | rfl | (simp; done) | (simp [*]; done)), H', ⟨by have := HK1.out; have := HJ4.out; have := HJ10.out; omega⟩, by repeat (first | exact Drawn0.refl _ | apply Drawn0.step)⟩
     ·rw [if_neg c4] at H
      have c4b0 : decide (x4_1 < (l0.length : Int)) = false := decide_eq_false c4
      clear c4
      by_cases c26 : 0 < (l0.length : Int)
      ·rw [if_pos c26] at H
       have c26b0 : decide (0 < (l0.length : Int)) = true := decide_eq_true c26
       have c26b1 : decide (0 < l0.length) = true := decide_eq_true (by omega)
       clear c26
       by_cases c27 : ((rd_T50 l0 0).f0) = 0
       ·rw [if_pos c27] at H
        have c27b0 : (((rd_T50 l0 0).f0) == 0) = true := beq_iff_eq.mpr c27
        have c27b1 : (((rd_T50 l0 0).f0) != 0) = false := bne_eq_false_iff_eq.mpr c27
        clear c27
        obtain ⟨ji28, hji28⟩ : ∃ j_ : Int, (wrap64 ((l0.length : Int) - 1)) = j_ := ⟨_, rfl⟩
        replace H : (if 0 ≤ (ji28) then (if (ji28) < (l0.length : Int) then (if ((rd_T50 l0 (ji28)).f0) = 10000 then (some ((-1), 0)) else (some (ji28, 10))) else (none)) else (none)) = some (r1, r2) := by first | (rw [hji28] at H; exact H) | (simp only [hji28] at H ⊢; exact H)
        have hji28w : (IntKind.i64.wrap ((l0.length : Int) - 1)) = ji28 := (i64_w _).trans hji28
        by_cases c29 : 0 ≤ (ji28)
        ·rw [if_pos c29] at H
         have c29b0 : decide (0 ≤ (ji28)) = true := decide_eq_true c29
         clear c29
         by_cases c30 : (ji28) < (l0.length : Int)
         ·rw [if_pos c30] at H
          have c30b0 : decide ((ji28) < (l0.length : Int)) = true := decide_eq_true c30
          clear c30
          by_cases c31 : ((rd_T50 l0 (ji28)).f0) = 10000
          ·rw [if_pos c31] at H
           have c31b0 : (((rd_T50 l0 (ji28)).f0) == 10000) = true := beq_iff_eq.mpr c31
           have c31b1 : (((rd_T50 l0 (ji28)).f0) != 10000) = false := bne_eq_false_iff_eq.mpr c31
           clear c31
           simp only [Option.some.injEq, Prod.mk.injEq] at H
           obtain ⟨rfl, rfl⟩ := H
           have p191 : 0 ≤ (0 : Int) := (by omega)
           have q191 : 0 < (l0.length : Int) := of_decide_eq_true (by first | (with_reducible assumption) | assumption)
           obtain ⟨ad191, e191, hx191_0, hx191_1⟩ := at_T50 HR0.out 0 p191 q191
           cases e191
           have qi191 : (0 < l0.length) = True := eq_true (by omega)
           (try rw [show ((0 : Int)).toNat = 0 from rfl] at hx191_0)
           (try rw [show 0 * 2 = 0 from rfl] at hx191_0)
           (try rw [Addr.add_zero'] at hx191_0)
           (try rw [show ((0 : Int)).toNat = 0 from rfl] at hx191_1)
           (try rw [show 0 * 2 = 0 from rfl] at hx191_1)
           (try rw [Addr.add_zero'] at hx191_1)
           replace p191 := eq_true p191
           replace q191 := eq_true q191
           have p192 : 0 ≤ ((ji28) : Int) := of_decide_eq_true (by first | (with_reducible assumption) | assumption)
           have q192 : (ji28) < (l0.length : Int) := of_decide_eq_true (by first | (with_reducible assumption) | assumption)
           obtain ⟨ad192, e192, hx192_0, hx192_1⟩ := at_T50 HR0.out (ji28) p192 q192
           obtain rfl : ad191 = ad192 := (by injection e192)
           replace p192 := eq_true p192
           replace q192 := eq_true q192
           go_wp2
           repeat (go_quiet (fail); try go_wp2)
           go_ret2
           exact ⟨by first | rfl | (simp; done) | (simp only [← hji28] <;> (first | rfl | simp)) | (simp [*]; done), by repeat (first | exact Drawn0.refl _ | apply Drawn0.step)⟩
          ·rw [if_neg c31] at H
           have c31b0 : (((rd_T50 l0 (ji28)).f0) == 10000) = false := beq_eq_false_iff_ne.mpr c31
           have c31b1 : (((rd_T50 l0 (ji28)).f0) != 10000) = true := bne_iff_ne.mpr c31
           simp only [Option.some.injEq, Prod.mk.injEq] at H
           obtain ⟨rfl, rfl⟩ := H
           have p191 : 0 ≤ (0 : Int) := (by omega)
           have q191 : 0 < (l0.length : Int) := of_decide_eq_true (by first | (with_reducible assumption) | assumption)
           obtain ⟨ad191, e191, hx191_0, hx191_1⟩ := at_T50 HR0.out 0 p191 q191
           cases e191
           have qi191 : (0 < l0.length) = True := eq_true (by omega)
           (try rw [show ((0 : Int)).toNat = 0 from rfl] at hx191_0)
           (try rw [show 0 * 2 = 0 from rfl] at hx191_0)
           (try rw [Addr.add_zero'] at hx191_0)
           (try rw [show ((0 : Int)).toNat = 0 from rfl] at hx191_1)
           (try rw [show 0 * 2 = 0 from rfl] at hx191_1)
           (try rw [Addr.add_zero'] at hx191_1)
           replace p191 := eq_true p191
           replace q191 := eq_true q191
           have p192 : 0 ≤ ((ji28) : Int) := of_decide_eq_true (by first | (with_reducible assumption) | assumption)
           have q192 : (ji28) < (l0.length : Int) := of_decide_eq_true (by first | (with_reducible assumption) | assumption)
           obtain ⟨ad192, e192, hx192_0, hx192_1⟩ := at_T50 HR0.out (ji28) p192 q192
           obtain rfl : ad191 = ad192 := (by injection e192)
           replace p192 := eq_true p192
           replace q192 := eq_true q192
           go_wp2
           repeat (go_quiet (fail); try go_wp2)
           go_ret2
           exact ⟨by first | rfl | (simp; done) | (simp only [← hji28] <;> (first | rfl | simp)) | (simp [*]; done), by repeat (first | exact Drawn0.refl _ | apply Drawn0.step)⟩
         ·rw [if_neg c30] at H
          exact absurd H (by simp)
        ·rw [if_neg c29] at H
         exact absurd H (by simp)
       ·rw [if_neg c27] at H
        have c27b0 : (((rd_T50 l0 0).f0) == 0) = false := beq_eq_false_iff_ne.mpr c27
        have c27b1 : (((rd_T50 l0 0).f0) != 0) = true := bne_iff_ne.mpr c27
        simp only [Option.some.injEq, Prod.mk.injEq] at H
        obtain ⟨rfl, rfl⟩ := H
        have p191 : 0 ≤ (0 : Int) := (by omega)
        have q191 : 0 < (l0.length : Int) := of_decide_eq_true (by first | (with_reducible assumption) | assumption)
        obtain ⟨ad191, e191, hx191_0, hx191_1⟩ := at_T50 HR0.out 0 p191 q191
        cases e191
        have qi191 : (0 < l0.length) = True := eq_true (by omega)
        (try rw [show ((0 : Int)).toNat = 0 from rfl] at hx191_0)
        (try rw [show 0 * 2 = 0 from rfl] at hx191_0)
        (try rw [Addr.add_zero'] at hx191_0)
        (try rw [show ((0 : Int)).toNat = 0 from rfl] at hx191_1)
        (try rw [show 0 * 2 = 0 from rfl] at hx191_1)
        (try rw [Addr.add_zero'] at hx191_1)
        replace p191 := eq_true p191
        replace q191 := eq_true q191
        go_wp2
        repeat (go_quiet (fail); try go_wp2)
        go_ret2
        exact ⟨by first | rfl | (simp; done) | (simp [*]; done), by repeat (first | exact Drawn0.refl _ | apply Drawn0.step)⟩
      ·rw [if_neg c26] at H
       exact absurd H (by simp)
-- MAKING
theorem spileref16_Check.tail_plain (l : List S50) (h2 : 2 ≤ l.length) (hl : l.length ≤ 128) :
    (if 0 < (l.length : Int) then (if ((rd_T50 l 0).f0) = 0 then (if 0 ≤ (wrap64 ((l.length : Int) - 1)) then (if (wrap64 ((l.length : Int) - 1)) < (l.length : Int) then (if ((rd_T50 l (wrap64 ((l.length : Int) - 1))).f0) = 10000 then (some ((-1 : Int), (0 : Int))) else (some (wrap64 ((l.length : Int) - 1), 10))) else (none)) else (none)) else (some (0, 10))) else (none)) = some (dtail l) := density_Check.tail_plain l h2 hl
theorem spileref16_Check.loop_plain (l : List S50) (h2 : 2 ≤ l.length) (hl : l.length ≤ 128) (d : Nat) : ∀ (i k : Nat), i + d = l.length → 3 * d + 1 ≤ k → spileref16_Check.l0 k l i = some (dfrom l d i) := by
  induction d with
  | zero =>
    intro i k hi hk
    obtain ⟨k, rfl⟩ : ∃ m, k = m + 1 := ⟨k - 1, by omega⟩
    simp only [spileref16_Check.l0]
    rw [if_neg (by omega), spileref16_Check.tail_plain l h2 hl]
    rfl
  | succ d ih =>
    intro i k hi hk
    obtain ⟨q, rfl⟩ : ∃ m, k = m + 3 := ⟨k - 3, by omega⟩
    have e1 : wrap64 ((i : Int) + 1) = ((i + 1 : Nat) : Int) := by rw [w64_ (by omega) (by omega)]; omega
    have e2 : wrap64 ((i : Int) - 1) = (i : Int) - 1 := w64_ (by omega) (by omega)
    have hn := ih (i + 1) q (by omega) (by omega)
    rw [← e1] at hn
    have c0 : (0 : Int) ≤ i := by omega
    have c1 : (i : Int) < (l.length : Int) := by omega
    simp only [spileref16_Check.l0, spileref16_Check.j1, spileref16_Check.j2, if_pos c0, if_pos c1, e2, hn, dfrom, dfault]
    have c3 : (i : Int) - 1 < (l.length : Int) := by omega
    by_cases h0 : (rd_T50 l i).f0 < 0
    · simp [h0]
    by_cases h1 : (rd_T50 l i).f0 > 10000
    · simp [h0, h1]
    by_cases h2 : (rd_T50 l i).f1 < 50000
    · simp [h0, h1, h2]
    by_cases h3 : (rd_T50 l i).f1 > 120000
    · simp [h0, h1, h2, h3]
    by_cases h4 : 0 < i
    · have c2 : (0 : Int) ≤ (i : Int) - 1 := by omega
      have c4 : (i : Int) > 0 := by omega
      have c5 : (1 : Int) ≤ (i : Int) := by omega
      by_cases h5 : (rd_T50 l i).f0 ≤ (rd_T50 l ((i : Int) - 1)).f0
      · simp [h0, h1, h2, h3, h4, h5, c2, c3, c4, c5]
      by_cases h6 : (rd_T50 l i).f1 > (rd_T50 l ((i : Int) - 1)).f1
      · simp [h0, h1, h2, h3, h4, h5, h6, c2, c3, c4, c5]
      · simp [h0, h1, h2, h3, h4, h5, h6, c2, c3, c4, c5]
    · have c4 : ¬ ((i : Int) > 0) := by omega
      simp [h0, h1, h2, h3, h4, c4]
theorem spileref16_Check.plain (l : List S50) : spileref16_Check.f 600 l = some (dchk l) := by
  unfold spileref16_Check.f dchk
  by_cases h1 : 128 < l.length
  · rw [if_pos (by omega), if_pos h1]
  · rw [if_neg (by omega), if_neg h1]
    by_cases h2 : l.length < 2
    · rw [if_pos (by omega), if_pos h2]
    · rw [if_neg (by omega), if_neg h2]
      exact spileref16_Check.loop_plain l (by omega) (by omega) l.length 0 600 (by omega) (by omega)
def spileref16_Check_s.f (l0 : List S50) : Option (Int × Int) := some (dchk l0)
theorem spileref16_Check_s.calls (A0 : Option Addr) (c0 : Nat) (l0 : List S50) (r1 r2 : Int) (w : World) (hr0 : Kd.C k50 w A0 l0.length l0) (hc0 : l0.length ≤ c0) (h : spileref16_Check_s.f l0 = some (r1, r2)) :
    Calls Try.prog 66 #[.slice A0 l0.length c0] w fun e w' => e = .returned (.tuple #[.int .i64 r1, .int .i64 r2]) ∧ Below w.heap.size w w' :=
  (spileref16_Check.calls 600 A0 c0 l0 r1 r2 w hr0 hc0 ((spileref16_Check.plain l0).trans h)).mono fun _ _ ⟨h1, h2⟩ => ⟨h1, h2.below⟩

/-! ### spileref16_Right: function 56 -/
def spileref16_Right.f (l0 : List (S50)) : Option (Bool) := (spileref16_Check_s.f l0).bind fun bt193 => (some (bt193.2 == 0))
set_option maxHeartbeats 8000000 in
set_option maxRecDepth 100000 in
theorem spileref16_Right.calls (A0 : Option Addr) (c0 : Nat) (l0 : List (S50)) (r : Bool) (w : World) (hr0 : Kd.C k50 w A0 l0.length l0) (hc0 : l0.length ≤ c0) (h : spileref16_Right.f l0 = some r) :
  Calls Try.prog 56 #[.slice A0 l0.length c0] w fun e w' => e = .returned (.bool r) ∧ Below w.heap.size w w' := by
 have HR0 := Aside0.mk hr0
 have HC0 := Aside0.mk hc0
 clear hr0 hc0
 have HB := Aside0.mk (Below.refl w.heap.size w)
 have H : ((spileref16_Check_s.f l0).bind fun bt193 => (some (bt193.2 == 0))) = some r := h
 clear h
 replace H := Option.bind_eq_some_iff.mp H
 obtain ⟨⟨t193, t194⟩, A20, H⟩ := H
 replace H : (some (t194 == 0)) = some r := H
 have A2 := Aside0.mk A20
 clear A20
 obtain rfl := Option.some.inj H
 go_enter Try.func56, Try.ntmps56
 go_wp2_with (first | ((with_reducible refine gate_callee (f := 66) rfl ?_); refine goesL_ (some 7) rfl rfl Try.func66 (by kernel_rfl) rfl #[.slice A0 l0.length c0] rfl (by (try simp only [List.map_toArray, List.map_cons, List.map_nil]); first | done | rfl | (simp only [List.length_drop, List.length_take]; rfl)) ?_; (with_reducible refine (spileref16_Check_s.calls _ _ l0 t193 t194 _ ?side1 ?side2 A2.out).mono ?_); (case side1 => repeat (first | exact HR0.out | (with_reducible refine Kd.C_alloc ?_ _) | (with_reducible refine Kd.C_drewN ?_ _) | (with_reducible refine Kd.C_drew ?_))); (case side2 => exact HC0.out); rintro e w3 ⟨rfl, hb⟩; refine ⟨_, rfl, ?_⟩; have n0_ := Aside0.mk (below_step (by repeat (first | (with_reducible first | exact HB.out | apply below_alloc | apply pw_below_drewN | apply below_drew1) | exact HB.out)) hb); clear HB; have HB := n0_; clear n0_; (try clear hb); (try clear hb2); (try clear hk); (try clear hi)))
 go_ret
 exact ⟨by first | rfl | (simp [errW_none, errW_some] <;> rfl) | (simp [*, errW_none, errW_some] <;> rfl), by repeat (first | (with_reducible first | exact HB.out | apply below_alloc | apply pw_below_drewN | apply below_drew1) | exact HB.out)⟩

end Go.Proofs.Ytdggkgkbjgigmaa.PF
