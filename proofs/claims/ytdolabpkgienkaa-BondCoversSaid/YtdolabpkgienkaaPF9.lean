-- Written by a program of this session (wip/pr.py) out of Lean's print of the translation; Lean checks it.
import Derived.Test.YtdolabpkgienkaaPF0
import Derived.Test.YtdolabpkgienkaaPF1
import Derived.Test.YtdolabpkgienkaaPF3
import Derived.Test.YtdolabpkgienkaaPF5
namespace Go.Proofs.Ytdolabpkgienkaa.PF
open Go.RowKit Go.Proofs.YtdolabpkgienkaaW.PrintWords Go.Proofs.YtdolabpkgienkaaW.PrintLast Go.Proofs.YtdolabpkgienkaaW.PrintMore
attribute [local go_sem] max2_int min2_int max_two min_two max_three min_three max_four min_four   -- for this text's walks alone
set_option linter.unusedVariables false
set_option linter.unusedSimpArgs false

/-! ### bond_Choose: function 27 -/
mutual
def bond_Choose.j0 : Nat → List (S31) → List (S35) → Int → Int → Bool → Option (Int × Int)
 | 0, _, _, _, _, _ => none
 | k + 1, x0, x1, x2, x3, x29 => if x29 = true then (some (0, 2)) else (bond_Choose.l0 k x1 x2 x3 0 0 x0 (x0.length : Int) 0)
def bond_Choose.l0 : Nat → List (S35) → Int → Int → Int → Int → List (S31) → Int → Int → Option (Int × Int)
 | 0, _, _, _, _, _, _, _, _ => none
 | k + 1, x1, x2, x3, x11, x12, x30, x31, x32 => if x32 < x31 then (if 0 ≤ x32 then (if x32 < (x30.length : Int) then ((bond_free.f k ((rd_T31 x30 x32).f0) ((rd_T31 x30 x32).f1) ((rd_T31 x30 x32).f2) ((rd_T31 x30 x32).f3) x1).bind fun t148 => ((bond_within.f x3 ((rd_T31 x30 x32).f1) ((rd_T31 x30 x32).f2)).bind fun t149 => (if t149 = true then (if t148 ≥ x2 then (if x11 = 0 then (bond_Choose.l0 k x1 x2 x3 ((rd_T31 x30 x32).f0) t148 x30 x31 (wrap64 (x32 + 1))) else (if t148 < x12 then (bond_Choose.l0 k x1 x2 x3 ((rd_T31 x30 x32).f0) t148 x30 x31 (wrap64 (x32 + 1))) else (bond_Choose.l0 k x1 x2 x3 x11 x12 x30 x31 (wrap64 (x32 + 1))))) else (bond_Choose.l0 k x1 x2 x3 x11 x12 x30 x31 (wrap64 (x32 + 1)))) else (bond_Choose.l0 k x1 x2 x3 x11 x12 x30 x31 (wrap64 (x32 + 1)))))) else (none)) else (none)) else (if x11 = 0 then (some (0, 17)) else (some (x11, 0)))
end
def bond_Choose.f (k : Nat) (l0 : List (S31)) (l1 : List (S35)) (a2 : Int) (a3 : Int) : Option (Int × Int) := (bond_asks.f l0 l1).bind fun t143 => (if t143 = 0 then ((bond_within.f a2 0 1125899906842624).bind fun t144 => (if t144 = true then ((bond_within.f a3 0 100000).bind fun t145 => (bond_Choose.j0 k l0 l1 a2 a3 (!t145))) else (bond_Choose.j0 k l0 l1 a2 a3 true))) else (some (0, t143)))
theorem bond_Choose.mono_l : ∀ k, (∀ y0 y1 y2 y3 y4, LeO (bond_Choose.j0 k y0 y1 y2 y3 y4) (bond_Choose.j0 (k + 1) y0 y1 y2 y3 y4)) ∧ (∀ y0 y1 y2 y3 y4 y5 y6 y7, LeO (bond_Choose.l0 k y0 y1 y2 y3 y4 y5 y6 y7) (bond_Choose.l0 (k + 1) y0 y1 y2 y3 y4 y5 y6 y7))
 | 0 => ⟨fun _ _ _ _ _ r h => by simp [bond_Choose.j0] at h, fun _ _ _ _ _ _ _ _ r h => by simp [bond_Choose.l0] at h⟩
 | k + 1 => by
  obtain ⟨ih0, ih1⟩ := bond_Choose.mono_l k
  refine ⟨?_, ?_⟩
  ·intro y0 y1 y2 y3 y4
   unfold bond_Choose.j0
   repeat' first
   | (with_reducible exact ih0 _ _ _ _ _)
   | (with_reducible exact ih1 _ _ _ _ _ _ _ _)
   | (with_reducible exact bond_free.mono _ _ _ _ _ _)
   | (with_reducible exact LeO.refl _)
   | (with_reducible exact LeO.none _)
   | (with_reducible refine LeO.ite ?_ ?_)
   | (with_reducible refine LeO.bind ?_ (fun _ => ?_))
   | exact ih0 _ _ _ _ _
   | exact ih1 _ _ _ _ _ _ _ _
   | exact bond_free.mono _ _ _ _ _ _
   | exact LeO.none _
   | refine LeO.ite ?_ ?_
   | refine LeO.bind ?_ (fun _ => ?_)
  ·intro y0 y1 y2 y3 y4 y5 y6 y7
   unfold bond_Choose.l0
   repeat' first
   | (with_reducible exact ih0 _ _ _ _ _)
   | (with_reducible exact ih1 _ _ _ _ _ _ _ _)
   | (with_reducible exact bond_free.mono _ _ _ _ _ _)
   | (with_reducible exact LeO.refl _)
   | (with_reducible exact LeO.none _)
   | (with_reducible refine LeO.ite ?_ ?_)
   | (with_reducible refine LeO.bind ?_ (fun _ => ?_))
   | exact ih0 _ _ _ _ _
   | exact ih1 _ _ _ _ _ _ _ _
   | exact bond_free.mono _ _ _ _ _ _
   | exact LeO.none _
   | refine LeO.ite ?_ ?_
   | refine LeO.bind ?_ (fun _ => ?_)
theorem bond_Choose.mono : ∀ a0 a1 a2 a3 k, LeO (bond_Choose.f k a0 a1 a2 a3) (bond_Choose.f (k + 1) a0 a1 a2 a3) := by
 intro a0 a1 a2 a3 k
 obtain ⟨ih0, ih1⟩ := bond_Choose.mono_l k
 unfold bond_Choose.f
 repeat' first
   | (with_reducible exact ih0 _ _ _ _ _)
   | (with_reducible exact ih1 _ _ _ _ _ _ _ _)
   | (with_reducible exact bond_free.mono _ _ _ _ _ _)
   | (with_reducible exact LeO.refl _)
   | (with_reducible exact LeO.none _)
   | (with_reducible refine LeO.ite ?_ ?_)
   | (with_reducible refine LeO.bind ?_ (fun _ => ?_))
   | exact ih0 _ _ _ _ _
   | exact ih1 _ _ _ _ _ _ _ _
   | exact bond_free.mono _ _ _ _ _ _
   | exact LeO.none _
   | refine LeO.ite ?_ ?_
   | refine LeO.bind ?_ (fun _ => ?_)
set_option maxHeartbeats 8000000 in
set_option maxRecDepth 100000 in
theorem bond_Choose.calls (k : Nat) (A0 : Option Addr) (c0 : Nat) (l0 : List (S31)) (A1 : Option Addr) (c1 : Nat) (l1 : List (S35)) (a2 : Int) (a3 : Int) (r1 : Int) (r2 : Int) (w : World) (hr0 : Kd.C k31 w A0 l0.length l0) (hc0 : l0.length ≤ c0) (hr1 : Kd.C k35 w A1 l1.length l1) (hc1 : l1.length ≤ c1) (h : bond_Choose.f k l0 l1 a2 a3 = some (r1, r2)) :
  Calls Try.prog 27 #[.slice A0 l0.length c0, .slice A1 l1.length c1, .int .i64 a2, .int .i64 a3] w fun e w' => e = .returned (.tuple #[.int .i64 r1, .int .i64 r2]) ∧ Below w.heap.size w w' := by
 have hu31 := Try.underlying31
 have HR0 := Aside0.mk hr0
 have HC0 := Aside0.mk hc0
 clear hr0 hc0
 have HR1 := Aside0.mk hr1
 have HC1 := Aside0.mk hc1
 clear hr1 hc1
 have HB := Aside0.mk (Below.refl w.heap.size w)
 have H : ((bond_asks.f l0 l1).bind fun t143 => (if t143 = 0 then ((bond_within.f a2 0 1125899906842624).bind fun t144 => (if t144 = true then ((bond_within.f a3 0 100000).bind fun t145 => (bond_Choose.j0 k l0 l1 a2 a3 (!t145))) else (bond_Choose.j0 k l0 l1 a2 a3 true))) else (some (0, t143)))) = some (r1, r2) := h
 clear h
 replace H := Option.bind_eq_some_iff.mp H
 obtain ⟨t143, A50, H⟩ := H
 replace H : (if t143 = 0 then ((bond_within.f a2 0 1125899906842624).bind fun t144 => (if t144 = true then ((bond_within.f a3 0 100000).bind fun t145 => (bond_Choose.j0 k l0 l1 a2 a3 (!t145))) else (bond_Choose.j0 k l0 l1 a2 a3 true))) else (some (0, t143))) = some (r1, r2) := H
 have A5 := Aside0.mk A50
 clear A50
 by_cases c6 : t143 = 0
 ·rw [if_pos c6] at H
  have c6b0 : (t143 == 0) = true := beq_iff_eq.mpr c6
  have c6b1 : (t143 != 0) = false := bne_eq_false_iff_eq.mpr c6
  clear c6
  have HC7 := Aside0.mk H
  clear H
  go_enter Try.func27, Try.ntmps27
  go_upto_region 4 with (first | ((with_reducible refine gate_callee (f := 42) rfl ?_); refine goesL_ (some 18) rfl rfl Try.func42 (by kernel_rfl) rfl #[.slice A0 l0.length c0, .slice A1 l1.length c1] rfl (by (try simp only [List.map_toArray, List.map_cons, List.map_nil]); first | done | rfl | (simp only [List.length_drop, List.length_take]; rfl)) ?_; (with_reducible refine (bond_asks.calls _ _ l0 _ _ l1 t143 _ ?side1 ?side2 ?side3 ?side4 A5.out).mono ?_); (case side1 => repeat (first | exact HR0.out | (with_reducible refine Kd.C_alloc ?_ _) | (with_reducible refine Kd.C_drewN ?_ _) | (with_reducible refine Kd.C_drew ?_))); (case side2 => exact HC0.out); (case side3 => repeat (first | exact HR1.out | (with_reducible refine Kd.C_alloc ?_ _) | (with_reducible refine Kd.C_drewN ?_ _) | (with_reducible refine Kd.C_drew ?_))); (case side4 => exact HC1.out); rintro e w8 ⟨rfl, hb⟩; refine ⟨_, rfl, ?_⟩; have n0_ := Aside0.mk (below_step (by repeat (first | (with_reducible first | exact HB.out | apply below_alloc | apply pw_below_drewN | apply below_drew1) | exact HB.out)) hb); clear HB; have HB := n0_; clear n0_; (try clear hb); (try clear hb2); (try clear hk); (try clear hi)))
  (try simp only [Act.put, List.setIfInBounds_toArray, List.set_cons_zero, List.set_cons_succ])
  go_cut [29] (fun v29 wc => ∃ (kq : Nat) (x29_6 : Bool), v29 = .bool x29_6 ∧ Aside0 (bond_Choose.j0 kq l0 l1 a2 a3 x29_6 = some (r1, r2)) ∧ Aside0 (kq ≤ k) ∧ Aside0 (Below w.heap.size w wc))
  case first =>
   have H := HC7.out
   clear HC7
   replace H := Option.bind_eq_some_iff.mp H
   obtain ⟨t144, A90, H⟩ := H
   replace H : (if t144 = true then ((bond_within.f a3 0 100000).bind fun t145 => (bond_Choose.j0 k l0 l1 a2 a3 (!t145))) else (bond_Choose.j0 k l0 l1 a2 a3 true)) = some (r1, r2) := H
   have A9 := Aside0.mk A90
   clear A90
   by_cases c10 : t144 = true
   ·subst c10
    have H1 : ((bond_within.f a3 0 100000).bind fun t145 => (bond_Choose.j0 k l0 l1 a2 a3 (!t145))) = some (r1, r2) := by rw [if_pos rfl] at H; exact H
    clear H
    have H := H1
    clear H1
    replace H := Option.bind_eq_some_iff.mp H
    obtain ⟨t145, A110, H⟩ := H
    replace H : (bond_Choose.j0 k l0 l1 a2 a3 (!t145)) = some (r1, r2) := H
    have A11 := Aside0.mk A110
    clear A110
    have H' := Aside0.mk H
    clear H
    go_wp2_with (first | ((with_reducible refine gate_callee (f := 37) rfl ?_); refine goesL_ (some 23) rfl rfl Try.func37 (by kernel_rfl) rfl #[.int .i64 a2, .int .i64 0, .int .i64 1125899906842624] rfl (by (try simp only [List.map_toArray, List.map_cons, List.map_nil]); first | done | rfl | (simp only [List.length_drop, List.length_take]; rfl)) ?_; (with_reducible refine (bond_within.calls a2 0 1125899906842624 true _ A9.out).mono ?_); rintro e w' ⟨rfl, ⟨nd, rfl⟩⟩; refine ⟨_, rfl, ?_⟩) | (go_at_call 37; (with_reducible refine (bond_within.calls a3 0 100000 t145 _ A11.out).mono ?_); rintro e w' ⟨rfl, ⟨nd, rfl⟩⟩))
    go_meet
    case rel => exact ⟨_, (!t145), (by first | rfl | (simp; done) | (simp [*]; done)), H', ⟨by first | omega | exact Nat.le_refl _⟩, ⟨by repeat (first | (with_reducible first | exact HB.out | apply below_alloc | apply pw_below_drewN | apply below_drew1) | exact HB.out)⟩⟩
   ·replace c10 := Bool.eq_false_iff.mpr c10
    subst c10
    have H1 : (bond_Choose.j0 k l0 l1 a2 a3 true) = some (r1, r2) := by rw [if_neg (show ¬ (false = true) by decide)] at H; exact H
    clear H
    have H := H1
    clear H1
    have H' := Aside0.mk H
    clear H
    go_wp2_with (first | ((with_reducible refine gate_callee (f := 37) rfl ?_); refine goesL_ (some 23) rfl rfl Try.func37 (by kernel_rfl) rfl #[.int .i64 a2, .int .i64 0, .int .i64 1125899906842624] rfl (by (try simp only [List.map_toArray, List.map_cons, List.map_nil]); first | done | rfl | (simp only [List.length_drop, List.length_take]; rfl)) ?_; (with_reducible refine (bond_within.calls a2 0 1125899906842624 false _ A9.out).mono ?_); rintro e w' ⟨rfl, ⟨nd, rfl⟩⟩; refine ⟨_, rfl, ?_⟩))
    go_meet
    case rel => exact ⟨_, (true), (by first | rfl | (simp; done) | (simp [*]; done)), H', ⟨by first | omega | exact Nat.le_refl _⟩, ⟨by repeat (first | (with_reducible first | exact HB.out | apply below_alloc | apply pw_below_drewN | apply below_drew1) | exact HB.out)⟩⟩
  case rest =>
   clear HC7
   try clear c1
   try clear c2
   try clear p2
   try clear c3
   try clear c4
   try clear c6
   try clear c6b0
   try clear c6b1
   try clear c10
   obtain ⟨kq, x29_6, rfl, HA, HJ6, HB⟩ := hcut
   cases kq with
   | zero => exact absurd HA.out (by simp [bond_Choose.j0])
   | succ kj6 =>
    have H := HA.out
    clear HA
    simp only [bond_Choose.j0] at H
    by_cases c12 : x29_6 = true
    ·subst c12
     have H1 : (some (0, 2)) = some (r1, r2) := by rw [if_pos rfl] at H; exact H
     clear H
     have H := H1
     clear H1
     simp only [Option.some.injEq, Prod.mk.injEq] at H
     obtain ⟨rfl, rfl⟩ := H
     go_wp2
     go_ret2
     exact ⟨by first | rfl | (simp [errW_none, errW_some] <;> rfl) | (simp [*, errW_none, errW_some] <;> rfl), by repeat (first | (with_reducible first | exact HB.out | apply below_alloc | apply pw_below_drewN | apply below_drew1) | exact HB.out)⟩
    ·replace c12 := Bool.eq_false_iff.mpr c12
     subst c12
     have H1 : (bond_Choose.l0 kj6 l1 a2 a3 0 0 l0 (l0.length : Int) 0) = some (r1, r2) := by rw [if_neg (show ¬ (false = true) by decide)] at H; exact H
     clear H
     have H := H1
     clear H1
     have H' := Aside0.mk H
     clear H
     go_wp2
     go_loopg [11, 12, 32] kj6 (fun kq v11 v12 v32 w' => ∃ (x11_2 : Int) (x12_2 : Int) (x32_2 : Int), v11 = .int .i64 x11_2 ∧ v12 = .int .i64 x12_2 ∧ v32 = .int .i64 x32_2 ∧ Aside0 (bond_Choose.l0 kq l1 a2 a3 x11_2 x12_2 l0 (l0.length : Int) x32_2 = some (r1, r2)) ∧ Aside0 (kq ≤ kj6) ∧ Aside0 (Below w.heap.size w w'))
     case atStart => exact ⟨(0), (0), (0), (by first | rfl | (simp; done) | (simp [*]; done)), (by first | rfl | (simp; done) | (simp [*]; done)), (by first | rfl | (simp; done) | (simp [*]; done)), H', ⟨Nat.le_refl _⟩, ⟨by repeat (first | (with_reducible first | exact HB.out | apply below_alloc | apply pw_below_drewN | apply below_drew1) | exact HB.out)⟩⟩
     case round =>
      clear H'
      try clear c1
      try clear c2
      try clear p2
      try clear c3
      try clear c4
      try clear c6
      try clear c6b0
      try clear c6b1
      try clear c10
      try clear c12
      try clear p2
      obtain ⟨x11_2, x12_2, x32_2, rfl, rfl, rfl, HA, HK2, HB⟩ := hrel
      cases gk with
      | zero => exact absurd HA.out (by simp [bond_Choose.l0])
      | succ k2 =>
       have H := HA.out
       clear HA
       simp only [bond_Choose.l0] at H
       by_cases c13 : x32_2 < (l0.length : Int)
       ·rw [if_pos c13] at H
        have c13b0 : decide (x32_2 < (l0.length : Int)) = true := decide_eq_true c13
        clear c13
        by_cases c14 : 0 ≤ x32_2
        ·rw [if_pos c14] at H
         have c14b0 : decide (0 ≤ x32_2) = true := decide_eq_true c14
         clear c14
         by_cases c15 : x32_2 < (l0.length : Int)
         ·rw [if_pos c15] at H
          have c15b0 : decide (x32_2 < (l0.length : Int)) = true := decide_eq_true c15
          clear c15
          replace H := Option.bind_eq_some_iff.mp H
          obtain ⟨t148, A160, H⟩ := H
          replace H : ((bond_within.f a3 ((rd_T31 l0 x32_2).f1) ((rd_T31 l0 x32_2).f2)).bind fun t149 => (if t149 = true then (if t148 ≥ a2 then (if x11_2 = 0 then (bond_Choose.l0 k2 l1 a2 a3 ((rd_T31 l0 x32_2).f0) t148 l0 (l0.length : Int) (wrap64 (x32_2 + 1))) else (if t148 < x12_2 then (bond_Choose.l0 k2 l1 a2 a3 ((rd_T31 l0 x32_2).f0) t148 l0 (l0.length : Int) (wrap64 (x32_2 + 1))) else (bond_Choose.l0 k2 l1 a2 a3 x11_2 x12_2 l0 (l0.length : Int) (wrap64 (x32_2 + 1))))) else (bond_Choose.l0 k2 l1 a2 a3 x11_2 x12_2 l0 (l0.length : Int) (wrap64 (x32_2 + 1)))) else (bond_Choose.l0 k2 l1 a2 a3 x11_2 x12_2 l0 (l0.length : Int) (wrap64 (x32_2 + 1))))) = some (r1, r2) := H
          have A16 := Aside0.mk A160
          clear A160
          replace H := Option.bind_eq_some_iff.mp H
          obtain ⟨t149, A170, H⟩ := H
          replace H : (if t149 = true then (if t148 ≥ a2 then (if x11_2 = 0 then (bond_Choose.l0 k2 l1 a2 a3 ((rd_T31 l0 x32_2).f0) t148 l0 (l0.length : Int) (wrap64 (x32_2 + 1))) else (if t148 < x12_2 then (bond_Choose.l0 k2 l1 a2 a3 ((rd_T31 l0 x32_2).f0) t148 l0 (l0.length : Int) (wrap64 (x32_2 + 1))) else (bond_Choose.l0 k2 l1 a2 a3 x11_2 x12_2 l0 (l0.length : Int) (wrap64 (x32_2 + 1))))) else (bond_Choose.l0 k2 l1 a2 a3 x11_2 x12_2 l0 (l0.length : Int) (wrap64 (x32_2 + 1)))) else (bond_Choose.l0 k2 l1 a2 a3 x11_2 x12_2 l0 (l0.length : Int) (wrap64 (x32_2 + 1)))) = some (r1, r2) := H
          have A17 := Aside0.mk A170
          clear A170
          by_cases c18 : t149 = true
          ·subst c18
           have H1 : (if t148 ≥ a2 then (if x11_2 = 0 then (bond_Choose.l0 k2 l1 a2 a3 ((rd_T31 l0 x32_2).f0) t148 l0 (l0.length : Int) (wrap64 (x32_2 + 1))) else (if t148 < x12_2 then (bond_Choose.l0 k2 l1 a2 a3 ((rd_T31 l0 x32_2).f0) t148 l0 (l0.length : Int) (wrap64 (x32_2 + 1))) else (bond_Choose.l0 k2 l1 a2 a3 x11_2 x12_2 l0 (l0.length : Int) (wrap64 (x32_2 + 1))))) else (bond_Choose.l0 k2 l1 a2 a3 x11_2 x12_2 l0 (l0.length : Int) (wrap64 (x32_2 + 1)))) = some (r1, r2) := by rw [if_pos rfl] at H; exact H
           clear H
           have H := H1
           clear H1
           by_cases c19 : t148 ≥ a2
           ·rw [if_pos c19] at H
            have c19b0 : decide (a2 ≤ t148) = true := decide_eq_true c19
            clear c19
            by_cases c20 : x11_2 = 0
            ·rw [if_pos c20] at H
             have c20b0 : (x11_2 == 0) = true := beq_iff_eq.mpr c20
             have c20b1 : (x11_2 != 0) = false := bne_eq_false_iff_eq.mpr c20
             clear c20
             have H' := Aside0.mk H
             clear H
             have p146 : 0 ≤ (x32_2 : Int) := of_decide_eq_true (by first | (with_reducible assumption) | assumption)
             have q146 : x32_2 < (l0.length : Int) := of_decide_eq_true (by first | (with_reducible assumption) | assumption)
             obtain ⟨ad146, e146, hx146_0, hx146_1, hx146_2, hx146_3⟩ := at_T31 HR0.out x32_2 p146 q146
             cases e146
             replace hx146_0 := (HB.out.cell (World.block_lt_of_cell? w _ hx146_0)).trans hx146_0
             replace hx146_1 := (HB.out.cell (World.block_lt_of_cell? w _ hx146_1)).trans hx146_1
             replace hx146_2 := (HB.out.cell (World.block_lt_of_cell? w _ hx146_2)).trans hx146_2
             replace hx146_3 := (HB.out.cell (World.block_lt_of_cell? w _ hx146_3)).trans hx146_3
             replace p146 := eq_true p146
             replace q146 := eq_true q146
             go_wp2_with (first | ((with_reducible refine gate_dst (N := 14) rfl ?_); refine box_event ?hg (N := 14) ?hd (cs := #[.int .i64 0, .int .i64 0, .int .i64 0, .int .i64 0]) (t := 31) ?hr ?_; (case hd => rfl); (case hg => rfl); (case hr => first | (go_simp; done) | (go_simp; rfl)); intro gb147 hg w21 hbox hb; have n0_ := Aside0.mk (below_step (by repeat (first | (with_reducible first | exact HB.out | apply below_alloc | apply pw_below_drewN | apply below_drew1) | exact HB.out)) hb); have n1_ := Aside0.mk (hbox); have n2_ := Aside0.mk ((by rw [hg]; exact (below_size (by repeat (first | (with_reducible first | exact HB.out | apply below_alloc | apply pw_below_drewN | apply below_drew1) | exact HB.out))) : w.heap.size ≤ gb147)); have n3_ := Aside0.mk ((by rw [hg]; exact (below_size (by repeat (first | (with_reducible first | exact HB.out | apply below_alloc | apply pw_below_drewN | apply below_drew1) | exact HB.out))) : w.heap.size ≤ gb147)); clear HB; have HB := n0_; have BK147 := n1_; have GW147 := n2_; have GE147 := n3_; clear n0_ n1_ n2_ n3_; clear hb hbox hg; have hcz22_0 : w21.cell? ⟨gb147, 0, none⟩ = some (.int .i64 0) := (blk_cell BK147.out 0).trans rfl; have hcz22_1 : w21.cell? ⟨gb147, 1, none⟩ = some (.int .i64 0) := (blk_cell BK147.out 1).trans rfl; have hcz22_2 : w21.cell? ⟨gb147, 2, none⟩ = some (.int .i64 0) := (blk_cell BK147.out 2).trans rfl; have hcz22_3 : w21.cell? ⟨gb147, 3, none⟩ = some (.int .i64 0) := (blk_cell BK147.out 3).trans rfl; have hfz22_0 := blk_frozen BK147.out 0; have hfz22_1 := blk_frozen BK147.out 1; have hfz22_2 := blk_frozen BK147.out 2; have hfz22_3 := blk_frozen BK147.out 3) | ((with_reducible refine gate_callee (f := 43) rfl ?_); refine goesL_ (some 38) rfl rfl Try.func43 (by kernel_rfl) rfl #[.agg #[.int .i64 ((rd_T31 l0 x32_2).f0), .int .i64 ((rd_T31 l0 x32_2).f1), .int .i64 ((rd_T31 l0 x32_2).f2), .int .i64 ((rd_T31 l0 x32_2).f3)], .slice A1 l1.length c1] rfl (by (try simp only [List.map_toArray, List.map_cons, List.map_nil]); first | done | rfl | (simp only [List.length_drop, List.length_take]; rfl)) ?_; (with_reducible refine (bond_free.calls k2 ((rd_T31 l0 x32_2).f0) ((rd_T31 l0 x32_2).f1) ((rd_T31 l0 x32_2).f2) ((rd_T31 l0 x32_2).f3) _ _ l1 t148 _ ?side1 ?side2 A16.out).mono ?_); (case side1 => exact Kd.C_below HR1.out (by repeat (first | (with_reducible first | exact HB.out | apply below_alloc | apply pw_below_drewN | apply below_drew1 | refine below_set ?_ GE147.out) | exact HB.out))); (case side2 => exact HC1.out); rintro e w23 ⟨rfl, hb⟩; refine ⟨_, rfl, ?_⟩; have n0_ := Aside0.mk (blk_below (g := gb147) (o := .cells #[.int .i64 ((rd_T31 l0 x32_2).f0), .int .i64 ((rd_T31 l0 x32_2).f1), .int .i64 ((rd_T31 l0 x32_2).f2), .int .i64 ((rd_T31 l0 x32_2).f3)] 31 (0, 0)) (by (with_reducible repeat (first | refine blk_drewN ?_ _ | refine blk_drew ?_ | refine blk_alloc ?_ _)); refine blk_put (cs := #[.int .i64 ((rd_T31 l0 x32_2).f0), .int .i64 ((rd_T31 l0 x32_2).f1), .int .i64 ((rd_T31 l0 x32_2).f2), .int .i64 0]) ?_ 3 _ rfl; (with_reducible repeat (first | refine blk_drewN ?_ _ | refine blk_drew ?_ | refine blk_alloc ?_ _)); refine blk_put (cs := #[.int .i64 ((rd_T31 l0 x32_2).f0), .int .i64 ((rd_T31 l0 x32_2).f1), .int .i64 0, .int .i64 0]) ?_ 2 _ rfl; (with_reducible repeat (first | refine blk_drewN ?_ _ | refine blk_drew ?_ | refine blk_alloc ?_ _)); refine blk_put (cs := #[.int .i64 ((rd_T31 l0 x32_2).f0), .int .i64 0, .int .i64 0, .int .i64 0]) ?_ 1 _ rfl; (with_reducible repeat (first | refine blk_drewN ?_ _ | refine blk_drew ?_ | refine blk_alloc ?_ _)); refine blk_put (cs := #[.int .i64 0, .int .i64 0, .int .i64 0, .int .i64 0]) ?_ 0 _ rfl; (with_reducible repeat (first | refine blk_drewN ?_ _ | refine blk_drew ?_ | refine blk_alloc ?_ _)); exact BK147.out) hb); have n1_ := Aside0.mk (below_step (by repeat (first | (with_reducible first | exact HB.out | apply below_alloc | apply pw_below_drewN | apply below_drew1 | refine below_set ?_ GE147.out) | exact HB.out)) hb); clear BK147; clear HB; have BK147 := n0_; have HB := n1_; clear n0_ n1_; (try clear hb); (try clear hb2); (try clear hk); (try clear hi); have hcz24_0 : w23.cell? ⟨gb147, 0, none⟩ = some (.int .i64 ((rd_T31 l0 x32_2).f0)) := (blk_cell BK147.out 0).trans rfl; have hcz24_1 : w23.cell? ⟨gb147, 1, none⟩ = some (.int .i64 ((rd_T31 l0 x32_2).f1)) := (blk_cell BK147.out 1).trans rfl; have hcz24_2 : w23.cell? ⟨gb147, 2, none⟩ = some (.int .i64 ((rd_T31 l0 x32_2).f2)) := (blk_cell BK147.out 2).trans rfl; have hcz24_3 : w23.cell? ⟨gb147, 3, none⟩ = some (.int .i64 ((rd_T31 l0 x32_2).f3)) := (blk_cell BK147.out 3).trans rfl; have hfz24_0 := blk_frozen BK147.out 0; have hfz24_1 := blk_frozen BK147.out 1; have hfz24_2 := blk_frozen BK147.out 2; have hfz24_3 := blk_frozen BK147.out 3) | ((with_reducible refine gate_callee (f := 37) rfl ?_); refine goesL_ (some 44) rfl rfl Try.func37 (by kernel_rfl) rfl #[.int .i64 a3, .int .i64 ((rd_T31 l0 x32_2).f1), .int .i64 ((rd_T31 l0 x32_2).f2)] rfl (by (try simp only [List.map_toArray, List.map_cons, List.map_nil]); first | done | rfl | (simp only [List.length_drop, List.length_take]; rfl)) ?_; (with_reducible refine (bond_within.calls a3 ((rd_T31 l0 x32_2).f1) ((rd_T31 l0 x32_2).f2) true _ A17.out).mono ?_); rintro e w' ⟨rfl, ⟨nd, rfl⟩⟩; refine ⟨_, rfl, ?_⟩))
             go_roundg k2
             case measure => have := HJ6.out; have := HK2.out; omega
             case rel => exact ⟨((rd_T31 l0 x32_2).f0), (t148), (wrap64 (x32_2 + 1)), (by first | rfl | (simp; done) | (simp [*]; done)), (by first | rfl | (simp; done) | (simp [*]; done)), (by first | rfl | (simp; done) | (simp [*]; done)), H', ⟨by have := HJ6.out; have := HK2.out; omega⟩, ⟨by repeat (first | (with_reducible first | exact HB.out | apply below_alloc | apply pw_below_drewN | apply below_drew1 | refine below_set ?_ GE147.out) | exact HB.out)⟩⟩
            ·rw [if_neg c20] at H
             have c20b0 : (x11_2 == 0) = false := beq_eq_false_iff_ne.mpr c20
             have c20b1 : (x11_2 != 0) = true := bne_iff_ne.mpr c20
             by_cases c25 : t148 < x12_2
             ·rw [if_pos c25] at H
              have c25b0 : decide (t148 < x12_2) = true := decide_eq_true c25
              clear c25
              have H' := Aside0.mk H
              clear H
              have p146 : 0 ≤ (x32_2 : Int) := of_decide_eq_true (by first | (with_reducible assumption) | assumption)
              have q146 : x32_2 < (l0.length : Int) := of_decide_eq_true (by first | (with_reducible assumption) | assumption)
              obtain ⟨ad146, e146, hx146_0, hx146_1, hx146_2, hx146_3⟩ := at_T31 HR0.out x32_2 p146 q146
              cases e146
              replace hx146_0 := (HB.out.cell (World.block_lt_of_cell? w _ hx146_0)).trans hx146_0
              replace hx146_1 := (HB.out.cell (World.block_lt_of_cell? w _ hx146_1)).trans hx146_1
              replace hx146_2 := (HB.out.cell (World.block_lt_of_cell? w _ hx146_2)).trans hx146_2
              replace hx146_3 := (HB.out.cell (World.block_lt_of_cell? w _ hx146_3)).trans hx146_3
              replace p146 := eq_true p146
              replace q146 := eq_true q146
              go_wp2_with (first | ((with_reducible refine gate_dst (N := 14) rfl ?_); refine box_event ?hg (N := 14) ?hd (cs := #[.int .i64 0, .int .i64 0, .int .i64 0, .int .i64 0]) (t := 31) ?hr ?_; (case hd => rfl); (case hg => rfl); (case hr => first | (go_simp; done) | (go_simp; rfl)); intro gb147 hg w26 hbox hb; have n0_ := Aside0.mk (below_step (by repeat (first | (with_reducible first | exact HB.out | apply below_alloc | apply pw_below_drewN | apply below_drew1) | exact HB.out)) hb); have n1_ := Aside0.mk (hbox); have n2_ := Aside0.mk ((by rw [hg]; exact (below_size (by repeat (first | (with_reducible first | exact HB.out | apply below_alloc | apply pw_below_drewN | apply below_drew1) | exact HB.out))) : w.heap.size ≤ gb147)); have n3_ := Aside0.mk ((by rw [hg]; exact (below_size (by repeat (first | (with_reducible first | exact HB.out | apply below_alloc | apply pw_below_drewN | apply below_drew1) | exact HB.out))) : w.heap.size ≤ gb147)); clear HB; have HB := n0_; have BK147 := n1_; have GW147 := n2_; have GE147 := n3_; clear n0_ n1_ n2_ n3_; clear hb hbox hg; have hcz27_0 : w26.cell? ⟨gb147, 0, none⟩ = some (.int .i64 0) := (blk_cell BK147.out 0).trans rfl; have hcz27_1 : w26.cell? ⟨gb147, 1, none⟩ = some (.int .i64 0) := (blk_cell BK147.out 1).trans rfl; have hcz27_2 : w26.cell? ⟨gb147, 2, none⟩ = some (.int .i64 0) := (blk_cell BK147.out 2).trans rfl; have hcz27_3 : w26.cell? ⟨gb147, 3, none⟩ = some (.int .i64 0) := (blk_cell BK147.out 3).trans rfl; have hfz27_0 := blk_frozen BK147.out 0; have hfz27_1 := blk_frozen BK147.out 1; have hfz27_2 := blk_frozen BK147.out 2; have hfz27_3 := blk_frozen BK147.out 3) | ((with_reducible refine gate_callee (f := 43) rfl ?_); refine goesL_ (some 38) rfl rfl Try.func43 (by kernel_rfl) rfl #[.agg #[.int .i64 ((rd_T31 l0 x32_2).f0), .int .i64 ((rd_T31 l0 x32_2).f1), .int .i64 ((rd_T31 l0 x32_2).f2), .int .i64 ((rd_T31 l0 x32_2).f3)], .slice A1 l1.length c1] rfl (by (try simp only [List.map_toArray, List.map_cons, List.map_nil]); first | done | rfl | (simp only [List.length_drop, List.length_take]; rfl)) ?_; (with_reducible refine (bond_free.calls k2 ((rd_T31 l0 x32_2).f0) ((rd_T31 l0 x32_2).f1) ((rd_T31 l0 x32_2).f2) ((rd_T31 l0 x32_2).f3) _ _ l1 t148 _ ?side1 ?side2 A16.out).mono ?_); (case side1 => exact Kd.C_below HR1.out (by repeat (first | (with_reducible first | exact HB.out | apply below_alloc | apply pw_below_drewN | apply below_drew1 | refine below_set ?_ GE147.out) | exact HB.out))); (case side2 => exact HC1.out); rintro e w28 ⟨rfl, hb⟩; refine ⟨_, rfl, ?_⟩; have n0_ := Aside0.mk (blk_below (g := gb147) (o := .cells #[.int .i64 ((rd_T31 l0 x32_2).f0), .int .i64 ((rd_T31 l0 x32_2).f1), .int .i64 ((rd_T31 l0 x32_2).f2), .int .i64 ((rd_T31 l0 x32_2).f3)] 31 (0, 0)) (by (with_reducible repeat (first | refine blk_drewN ?_ _ | refine blk_drew ?_ | refine blk_alloc ?_ _)); refine blk_put (cs := #[.int .i64 ((rd_T31 l0 x32_2).f0), .int .i64 ((rd_T31 l0 x32_2).f1), .int .i64 ((rd_T31 l0 x32_2).f2), .int .i64 0]) ?_ 3 _ rfl; (with_reducible repeat (first | refine blk_drewN ?_ _ | refine blk_drew ?_ | refine blk_alloc ?_ _)); refine blk_put (cs := #[.int .i64 ((rd_T31 l0 x32_2).f0), .int .i64 ((rd_T31 l0 x32_2).f1), .int .i64 0, .int .i64 0]) ?_ 2 _ rfl; (with_reducible repeat (first | refine blk_drewN ?_ _ | refine blk_drew ?_ | refine blk_alloc ?_ _)); refine blk_put (cs := #[.int .i64 ((rd_T31 l0 x32_2).f0), .int .i64 0, .int .i64 0, .int .i64 0]) ?_ 1 _ rfl; (with_reducible repeat (first | refine blk_drewN ?_ _ | refine blk_drew ?_ | refine blk_alloc ?_ _)); refine blk_put (cs := #[.int .i64 0, .int .i64 0, .int .i64 0, .int .i64 0]) ?_ 0 _ rfl; (with_reducible repeat (first | refine blk_drewN ?_ _ | refine blk_drew ?_ | refine blk_alloc ?_ _)); exact BK147.out) hb); have n1_ := Aside0.mk (below_step (by repeat (first | (with_reducible first | exact HB.out | apply below_alloc | apply pw_below_drewN | apply below_drew1 | refine below_set ?_ GE147.out) | exact HB.out)) hb); clear BK147; clear HB; have BK147 := n0_; have HB := n1_; clear n0_ n1_; (try clear hb); (try clear hb2); (try clear hk); (try clear hi); have hcz29_0 : w28.cell? ⟨gb147, 0, none⟩ = some (.int .i64 ((rd_T31 l0 x32_2).f0)) := (blk_cell BK147.out 0).trans rfl; have hcz29_1 : w28.cell? ⟨gb147, 1, none⟩ = some (.int .i64 ((rd_T31 l0 x32_2).f1)) := (blk_cell BK147.out 1).trans rfl; have hcz29_2 : w28.cell? ⟨gb147, 2, none⟩ = some (.int .i64 ((rd_T31 l0 x32_2).f2)) := (blk_cell BK147.out 2).trans rfl; have hcz29_3 : w28.cell? ⟨gb147, 3, none⟩ = some (.int .i64 ((rd_T31 l0 x32_2).f3)) := (blk_cell BK147.out 3).trans rfl; have hfz29_0 := blk_frozen BK147.out 0; have hfz29_1 := blk_frozen BK147.out 1; have hfz29_2 := blk_frozen BK147.out 2; have hfz29_3 := blk_frozen BK147.out 3) | ((with_reducible refine gate_callee (f := 37) rfl ?_); refine goesL_ (some 44) rfl rfl Try.func37 (by kernel_rfl) rfl #[.int .i64 a3, .int .i64 ((rd_T31 l0 x32_2).f1), .int .i64 ((rd_T31 l0 x32_2).f2)] rfl (by (try simp only [List.map_toArray, List.map_cons, List.map_nil]); first | done | rfl | (simp only [List.length_drop, List.length_take]; rfl)) ?_; (with_reducible refine (bond_within.calls a3 ((rd_T31 l0 x32_2).f1) ((rd_T31 l0 x32_2).f2) true _ A17.out).mono ?_); rintro e w' ⟨rfl, ⟨nd, rfl⟩⟩; refine ⟨_, rfl, ?_⟩))
              go_roundg k2
              case measure => have := HJ6.out; have := HK2.out; omega
              case rel => exact ⟨((rd_T31 l0 x32_2).f0), (t148), (wrap64 (x32_2 + 1)), (by first | rfl | (simp; done) | (simp [*]; done)), (by first | rfl | (simp; done) | (simp [*]; done)), (by first | rfl | (simp; done) | (simp [*]; done)), H', ⟨by have := HJ6.out; have := HK2.out; omega⟩, ⟨by repeat (first | (with_reducible first | exact HB.out | apply below_alloc | apply pw_below_drewN | apply below_drew1 | refine below_set ?_ GE147.out) | exact HB.out)⟩⟩
             ·rw [if_neg c25] at H
              have c25b0 : decide (t148 < x12_2) = false := decide_eq_false c25
              clear c25
              have H' := Aside0.mk H
              clear H
              have p146 : 0 ≤ (x32_2 : Int) := of_decide_eq_true (by first | (with_reducible assumption) | assumption)
              have q146 : x32_2 < (l0.length : Int) := of_decide_eq_true (by first | (with_reducible assumption) | assumption)
              obtain ⟨ad146, e146, hx146_0, hx146_1, hx146_2, hx146_3⟩ := at_T31 HR0.out x32_2 p146 q146
              cases e146
              replace hx146_0 := (HB.out.cell (World.block_lt_of_cell? w _ hx146_0)).trans hx146_0
              replace hx146_1 := (HB.out.cell (World.block_lt_of_cell? w _ hx146_1)).trans hx146_1
              replace hx146_2 := (HB.out.cell (World.block_lt_of_cell? w _ hx146_2)).trans hx146_2
              replace hx146_3 := (HB.out.cell (World.block_lt_of_cell? w _ hx146_3)).trans hx146_3
              replace p146 := eq_true p146
              replace q146 := eq_true q146
              go_wp2_with (first | ((with_reducible refine gate_dst (N := 14) rfl ?_); refine box_event ?hg (N := 14) ?hd (cs := #[.int .i64 0, .int .i64 0, .int .i64 0, .int .i64 0]) (t := 31) ?hr ?_; (case hd => rfl); (case hg => rfl); (case hr => first | (go_simp; done) | (go_simp; rfl)); intro gb147 hg w30 hbox hb; have n0_ := Aside0.mk (below_step (by repeat (first | (with_reducible first | exact HB.out | apply below_alloc | apply pw_below_drewN | apply below_drew1) | exact HB.out)) hb); have n1_ := Aside0.mk (hbox); have n2_ := Aside0.mk ((by rw [hg]; exact (below_size (by repeat (first | (with_reducible first | exact HB.out | apply below_alloc | apply pw_below_drewN | apply below_drew1) | exact HB.out))) : w.heap.size ≤ gb147)); have n3_ := Aside0.mk ((by rw [hg]; exact (below_size (by repeat (first | (with_reducible first | exact HB.out | apply below_alloc | apply pw_below_drewN | apply below_drew1) | exact HB.out))) : w.heap.size ≤ gb147)); clear HB; have HB := n0_; have BK147 := n1_; have GW147 := n2_; have GE147 := n3_; clear n0_ n1_ n2_ n3_; clear hb hbox hg; have hcz31_0 : w30.cell? ⟨gb147, 0, none⟩ = some (.int .i64 0) := (blk_cell BK147.out 0).trans rfl; have hcz31_1 : w30.cell? ⟨gb147, 1, none⟩ = some (.int .i64 0) := (blk_cell BK147.out 1).trans rfl; have hcz31_2 : w30.cell? ⟨gb147, 2, none⟩ = some (.int .i64 0) := (blk_cell BK147.out 2).trans rfl; have hcz31_3 : w30.cell? ⟨gb147, 3, none⟩ = some (.int .i64 0) := (blk_cell BK147.out 3).trans rfl; have hfz31_0 := blk_frozen BK147.out 0; have hfz31_1 := blk_frozen BK147.out 1; have hfz31_2 := blk_frozen BK147.out 2; have hfz31_3 := blk_frozen BK147.out 3) | ((with_reducible refine gate_callee (f := 43) rfl ?_); refine goesL_ (some 38) rfl rfl Try.func43 (by kernel_rfl) rfl #[.agg #[.int .i64 ((rd_T31 l0 x32_2).f0), .int .i64 ((rd_T31 l0 x32_2).f1), .int .i64 ((rd_T31 l0 x32_2).f2), .int .i64 ((rd_T31 l0 x32_2).f3)], .slice A1 l1.length c1] rfl (by (try simp only [List.map_toArray, List.map_cons, List.map_nil]); first | done | rfl | (simp only [List.length_drop, List.length_take]; rfl)) ?_; (with_reducible refine (bond_free.calls k2 ((rd_T31 l0 x32_2).f0) ((rd_T31 l0 x32_2).f1) ((rd_T31 l0 x32_2).f2) ((rd_T31 l0 x32_2).f3) _ _ l1 t148 _ ?side1 ?side2 A16.out).mono ?_); (case side1 => exact Kd.C_below HR1.out (by repeat (first | (with_reducible first | exact HB.out | apply below_alloc | apply pw_below_drewN | apply below_drew1 | refine below_set ?_ GE147.out) | exact HB.out))); (case side2 => exact HC1.out); rintro e w32 ⟨rfl, hb⟩; refine ⟨_, rfl, ?_⟩; have n0_ := Aside0.mk (blk_below (g := gb147) (o := .cells #[.int .i64 ((rd_T31 l0 x32_2).f0), .int .i64 ((rd_T31 l0 x32_2).f1), .int .i64 ((rd_T31 l0 x32_2).f2), .int .i64 ((rd_T31 l0 x32_2).f3)] 31 (0, 0)) (by (with_reducible repeat (first | refine blk_drewN ?_ _ | refine blk_drew ?_ | refine blk_alloc ?_ _)); refine blk_put (cs := #[.int .i64 ((rd_T31 l0 x32_2).f0), .int .i64 ((rd_T31 l0 x32_2).f1), .int .i64 ((rd_T31 l0 x32_2).f2), .int .i64 0]) ?_ 3 _ rfl; (with_reducible repeat (first | refine blk_drewN ?_ _ | refine blk_drew ?_ | refine blk_alloc ?_ _)); refine blk_put (cs := #[.int .i64 ((rd_T31 l0 x32_2).f0), .int .i64 ((rd_T31 l0 x32_2).f1), .int .i64 0, .int .i64 0]) ?_ 2 _ rfl; (with_reducible repeat (first | refine blk_drewN ?_ _ | refine blk_drew ?_ | refine blk_alloc ?_ _)); refine blk_put (cs := #[.int .i64 ((rd_T31 l0 x32_2).f0), .int .i64 0, .int .i64 0, .int .i64 0]) ?_ 1 _ rfl; (with_reducible repeat (first | refine blk_drewN ?_ _ | refine blk_drew ?_ | refine blk_alloc ?_ _)); refine blk_put (cs := #[.int .i64 0, .int .i64 0, .int .i64 0, .int .i64 0]) ?_ 0 _ rfl; (with_reducible repeat (first | refine blk_drewN ?_ _ | refine blk_drew ?_ | refine blk_alloc ?_ _)); exact BK147.out) hb); have n1_ := Aside0.mk (below_step (by repeat (first | (with_reducible first | exact HB.out | apply below_alloc | apply pw_below_drewN | apply below_drew1 | refine below_set ?_ GE147.out) | exact HB.out)) hb); clear BK147; clear HB; have BK147 := n0_; have HB := n1_; clear n0_ n1_; (try clear hb); (try clear hb2); (try clear hk); (try clear hi); have hcz33_0 : w32.cell? ⟨gb147, 0, none⟩ = some (.int .i64 ((rd_T31 l0 x32_2).f0)) := (blk_cell BK147.out 0).trans rfl; have hcz33_1 : w32.cell? ⟨gb147, 1, none⟩ = some (.int .i64 ((rd_T31 l0 x32_2).f1)) := (blk_cell BK147.out 1).trans rfl; have hcz33_2 : w32.cell? ⟨gb147, 2, none⟩ = some (.int .i64 ((rd_T31 l0 x32_2).f2)) := (blk_cell BK147.out 2).trans rfl; have hcz33_3 : w32.cell? ⟨gb147, 3, none⟩ = some (.int .i64 ((rd_T31 l0 x32_2).f3)) := (blk_cell BK147.out 3).trans rfl; have hfz33_0 := blk_frozen BK147.out 0; have hfz33_1 := blk_frozen BK147.out 1; have hfz33_2 := blk_frozen BK147.out 2; have hfz33_3 := blk_frozen BK147.out 3) | ((with_reducible refine gate_callee (f := 37) rfl ?_); refine goesL_ (some 44) rfl rfl Try.func37 (by kernel_rfl) rfl #[.int .i64 a3, .int .i64 ((rd_T31 l0 x32_2).f1), .int .i64 ((rd_T31 l0 x32_2).f2)] rfl (by (try simp only [List.map_toArray, List.map_cons, List.map_nil]); first | done | rfl | (simp only [List.length_drop, List.length_take]; rfl)) ?_; (with_reducible refine (bond_within.calls a3 ((rd_T31 l0 x32_2).f1) ((rd_T31 l0 x32_2).f2) true _ A17.out).mono ?_); rintro e w' ⟨rfl, ⟨nd, rfl⟩⟩; refine ⟨_, rfl, ?_⟩))
              go_roundg k2
              case measure => have := HJ6.out; have := HK2.out; omega
              case rel => exact ⟨(x11_2), (x12_2), (wrap64 (x32_2 + 1)), (by first | rfl | (simp; done) | (simp [*]; done)), (by first | rfl | (simp; done) | (simp [*]; done)), (by first | rfl | (simp; done) | (simp [*]; done)), H', ⟨by have := HJ6.out; have := HK2.out; omega⟩, ⟨by repeat (first | (with_reducible first | exact HB.out | apply below_alloc | apply pw_below_drewN | apply below_drew1 | refine below_set ?_ GE147.out) | exact HB.out)⟩⟩
           ·rw [if_neg c19] at H
            have c19b0 : decide (a2 ≤ t148) = false := decide_eq_false c19
            clear c19
            have H' := Aside0.mk H
            clear H
            have p146 : 0 ≤ (x32_2 : Int) := of_decide_eq_true (by first | (with_reducible assumption) | assumption)
            have q146 : x32_2 < (l0.length : Int) := of_decide_eq_true (by first | (with_reducible assumption) | assumption)
            obtain ⟨ad146, e146, hx146_0, hx146_1, hx146_2, hx146_3⟩ := at_T31 HR0.out x32_2 p146 q146
            cases e146
            replace hx146_0 := (HB.out.cell (World.block_lt_of_cell? w _ hx146_0)).trans hx146_0
            replace hx146_1 := (HB.out.cell (World.block_lt_of_cell? w _ hx146_1)).trans hx146_1
            replace hx146_2 := (HB.out.cell (World.block_lt_of_cell? w _ hx146_2)).trans hx146_2
            replace hx146_3 := (HB.out.cell (World.block_lt_of_cell? w _ hx146_3)).trans hx146_3
            replace p146 := eq_true p146
            replace q146 := eq_true q146
            go_wp2_with (first | ((with_reducible refine gate_dst (N := 14) rfl ?_); refine box_event ?hg (N := 14) ?hd (cs := #[.int .i64 0, .int .i64 0, .int .i64 0, .int .i64 0]) (t := 31) ?hr ?_; (case hd => rfl); (case hg => rfl); (case hr => first | (go_simp; done) | (go_simp; rfl)); intro gb147 hg w34 hbox hb; have n0_ := Aside0.mk (below_step (by repeat (first | (with_reducible first | exact HB.out | apply below_alloc | apply pw_below_drewN | apply below_drew1) | exact HB.out)) hb); have n1_ := Aside0.mk (hbox); have n2_ := Aside0.mk ((by rw [hg]; exact (below_size (by repeat (first | (with_reducible first | exact HB.out | apply below_alloc | apply pw_below_drewN | apply below_drew1) | exact HB.out))) : w.heap.size ≤ gb147)); have n3_ := Aside0.mk ((by rw [hg]; exact (below_size (by repeat (first | (with_reducible first | exact HB.out | apply below_alloc | apply pw_below_drewN | apply below_drew1) | exact HB.out))) : w.heap.size ≤ gb147)); clear HB; have HB := n0_; have BK147 := n1_; have GW147 := n2_; have GE147 := n3_; clear n0_ n1_ n2_ n3_; clear hb hbox hg; have hcz35_0 : w34.cell? ⟨gb147, 0, none⟩ = some (.int .i64 0) := (blk_cell BK147.out 0).trans rfl; have hcz35_1 : w34.cell? ⟨gb147, 1, none⟩ = some (.int .i64 0) := (blk_cell BK147.out 1).trans rfl; have hcz35_2 : w34.cell? ⟨gb147, 2, none⟩ = some (.int .i64 0) := (blk_cell BK147.out 2).trans rfl; have hcz35_3 : w34.cell? ⟨gb147, 3, none⟩ = some (.int .i64 0) := (blk_cell BK147.out 3).trans rfl; have hfz35_0 := blk_frozen BK147.out 0; have hfz35_1 := blk_frozen BK147.out 1; have hfz35_2 := blk_frozen BK147.out 2; have hfz35_3 := blk_frozen BK147.out 3) | ((with_reducible refine gate_callee (f := 43) rfl ?_); refine goesL_ (some 38) rfl rfl Try.func43 (by kernel_rfl) rfl #[.agg #[.int .i64 ((rd_T31 l0 x32_2).f0), .int .i64 ((rd_T31 l0 x32_2).f1), .int .i64 ((rd_T31 l0 x32_2).f2), .int .i64 ((rd_T31 l0 x32_2).f3)], .slice A1 l1.length c1] rfl (by (try simp only [List.map_toArray, List.map_cons, List.map_nil]); first | done | rfl | (simp only [List.length_drop, List.length_take]; rfl)) ?_; (with_reducible refine (bond_free.calls k2 ((rd_T31 l0 x32_2).f0) ((rd_T31 l0 x32_2).f1) ((rd_T31 l0 x32_2).f2) ((rd_T31 l0 x32_2).f3) _ _ l1 t148 _ ?side1 ?side2 A16.out).mono ?_); (case side1 => exact Kd.C_below HR1.out (by repeat (first | (with_reducible first | exact HB.out | apply below_alloc | apply pw_below_drewN | apply below_drew1 | refine below_set ?_ GE147.out) | exact HB.out))); (case side2 => exact HC1.out); rintro e w36 ⟨rfl, hb⟩; refine ⟨_, rfl, ?_⟩; have n0_ := Aside0.mk (blk_below (g := gb147) (o := .cells #[.int .i64 ((rd_T31 l0 x32_2).f0), .int .i64 ((rd_T31 l0 x32_2).f1), .int .i64 ((rd_T31 l0 x32_2).f2), .int .i64 ((rd_T31 l0 x32_2).f3)] 31 (0, 0)) (by (with_reducible repeat (first | refine blk_drewN ?_ _ | refine blk_drew ?_ | refine blk_alloc ?_ _)); refine blk_put (cs := #[.int .i64 ((rd_T31 l0 x32_2).f0), .int .i64 ((rd_T31 l0 x32_2).f1), .int .i64 ((rd_T31 l0 x32_2).f2), .int .i64 0]) ?_ 3 _ rfl; (with_reducible repeat (first | refine blk_drewN ?_ _ | refine blk_drew ?_ | refine blk_alloc ?_ _)); refine blk_put (cs := #[.int .i64 ((rd_T31 l0 x32_2).f0), .int .i64 ((rd_T31 l0 x32_2).f1), .int .i64 0, .int .i64 0]) ?_ 2 _ rfl; (with_reducible repeat (first | refine blk_drewN ?_ _ | refine blk_drew ?_ | refine blk_alloc ?_ _)); refine blk_put (cs := #[.int .i64 ((rd_T31 l0 x32_2).f0), .int .i64 0, .int .i64 0, .int .i64 0]) ?_ 1 _ rfl; (with_reducible repeat (first | refine blk_drewN ?_ _ | refine blk_drew ?_ | refine blk_alloc ?_ _)); refine blk_put (cs := #[.int .i64 0, .int .i64 0, .int .i64 0, .int .i64 0]) ?_ 0 _ rfl; (with_reducible repeat (first | refine blk_drewN ?_ _ | refine blk_drew ?_ | refine blk_alloc ?_ _)); exact BK147.out) hb); have n1_ := Aside0.mk (below_step (by repeat (first | (with_reducible first | exact HB.out | apply below_alloc | apply pw_below_drewN | apply below_drew1 | refine below_set ?_ GE147.out) | exact HB.out)) hb); clear BK147; clear HB; have BK147 := n0_; have HB := n1_; clear n0_ n1_; (try clear hb); (try clear hb2); (try clear hk); (try clear hi); have hcz37_0 : w36.cell? ⟨gb147, 0, none⟩ = some (.int .i64 ((rd_T31 l0 x32_2).f0)) := (blk_cell BK147.out 0).trans rfl; have hcz37_1 : w36.cell? ⟨gb147, 1, none⟩ = some (.int .i64 ((rd_T31 l0 x32_2).f1)) := (blk_cell BK147.out 1).trans rfl; have hcz37_2 : w36.cell? ⟨gb147, 2, none⟩ = some (.int .i64 ((rd_T31 l0 x32_2).f2)) := (blk_cell BK147.out 2).trans rfl; have hcz37_3 : w36.cell? ⟨gb147, 3, none⟩ = some (.int .i64 ((rd_T31 l0 x32_2).f3)) := (blk_cell BK147.out 3).trans rfl; have hfz37_0 := blk_frozen BK147.out 0; have hfz37_1 := blk_frozen BK147.out 1; have hfz37_2 := blk_frozen BK147.out 2; have hfz37_3 := blk_frozen BK147.out 3) | ((with_reducible refine gate_callee (f := 37) rfl ?_); refine goesL_ (some 44) rfl rfl Try.func37 (by kernel_rfl) rfl #[.int .i64 a3, .int .i64 ((rd_T31 l0 x32_2).f1), .int .i64 ((rd_T31 l0 x32_2).f2)] rfl (by (try simp only [List.map_toArray, List.map_cons, List.map_nil]); first | done | rfl | (simp only [List.length_drop, List.length_take]; rfl)) ?_; (with_reducible refine (bond_within.calls a3 ((rd_T31 l0 x32_2).f1) ((rd_T31 l0 x32_2).f2) true _ A17.out).mono ?_); rintro e w' ⟨rfl, ⟨nd, rfl⟩⟩; refine ⟨_, rfl, ?_⟩))
            go_roundg k2
            case measure => have := HJ6.out; have := HK2.out; omega
            case rel => exact ⟨(x11_2), (x12_2), (wrap64 (x32_2 + 1)), (by first | rfl | (simp; done) | (simp [*]; done)), (by first | rfl | (simp; done) | (simp [*]; done)), (by first | rfl | (simp; done) | (simp [*]; done)), H', ⟨by have := HJ6.out; have := HK2.out; omega⟩, ⟨by repeat (first | (with_reducible first | exact HB.out | apply below_alloc | apply pw_below_drewN | apply below_drew1 | refine below_set ?_ GE147.out) | exact HB.out)⟩⟩
          ·replace c18 := Bool.eq_false_iff.mpr c18
           subst c18
           have H1 : (bond_Choose.l0 k2 l1 a2 a3 x11_2 x12_2 l0 (l0.length : Int) (wrap64 (x32_2 + 1))) = some (r1, r2) := by rw [if_neg (show ¬ (false = true) by decide)] at H; exact H
           clear H
           have H := H1
           clear H1
           have H' := Aside0.mk H
           clear H
           have p146 : 0 ≤ (x32_2 : Int) := of_decide_eq_true (by first | (with_reducible assumption) | assumption)
           have q146 : x32_2 < (l0.length : Int) := of_decide_eq_true (by first | (with_reducible assumption) | assumption)
           obtain ⟨ad146, e146, hx146_0, hx146_1, hx146_2, hx146_3⟩ := at_T31 HR0.out x32_2 p146 q146
           cases e146
           replace hx146_0 := (HB.out.cell (World.block_lt_of_cell? w _ hx146_0)).trans hx146_0
           replace hx146_1 := (HB.out.cell (World.block_lt_of_cell? w _ hx146_1)).trans hx146_1
           replace hx146_2 := (HB.out.cell (World.block_lt_of_cell? w _ hx146_2)).trans hx146_2
           replace hx146_3 := (HB.out.cell (World.block_lt_of_cell? w _ hx146_3)).trans hx146_3
           replace p146 := eq_true p146
           replace q146 := eq_true q146
           go_wp2_with (first | ((with_reducible refine gate_dst (N := 14) rfl ?_); refine box_event ?hg (N := 14) ?hd (cs := #[.int .i64 0, .int .i64 0, .int .i64 0, .int .i64 0]) (t := 31) ?hr ?_; (case hd => rfl); (case hg => rfl); (case hr => first | (go_simp; done) | (go_simp; rfl)); intro gb147 hg w38 hbox hb; have n0_ := Aside0.mk (below_step (by repeat (first | (with_reducible first | exact HB.out | apply below_alloc | apply pw_below_drewN | apply below_drew1) | exact HB.out)) hb); have n1_ := Aside0.mk (hbox); have n2_ := Aside0.mk ((by rw [hg]; exact (below_size (by repeat (first | (with_reducible first | exact HB.out | apply below_alloc | apply pw_below_drewN | apply below_drew1) | exact HB.out))) : w.heap.size ≤ gb147)); have n3_ := Aside0.mk ((by rw [hg]; exact (below_size (by repeat (first | (with_reducible first | exact HB.out | apply below_alloc | apply pw_below_drewN | apply below_drew1) | exact HB.out))) : w.heap.size ≤ gb147)); clear HB; have HB := n0_; have BK147 := n1_; have GW147 := n2_; have GE147 := n3_; clear n0_ n1_ n2_ n3_; clear hb hbox hg; have hcz39_0 : w38.cell? ⟨gb147, 0, none⟩ = some (.int .i64 0) := (blk_cell BK147.out 0).trans rfl; have hcz39_1 : w38.cell? ⟨gb147, 1, none⟩ = some (.int .i64 0) := (blk_cell BK147.out 1).trans rfl; have hcz39_2 : w38.cell? ⟨gb147, 2, none⟩ = some (.int .i64 0) := (blk_cell BK147.out 2).trans rfl; have hcz39_3 : w38.cell? ⟨gb147, 3, none⟩ = some (.int .i64 0) := (blk_cell BK147.out 3).trans rfl; have hfz39_0 := blk_frozen BK147.out 0; have hfz39_1 := blk_frozen BK147.out 1; have hfz39_2 := blk_frozen BK147.out 2; have hfz39_3 := blk_frozen BK147.out 3) | ((with_reducible refine gate_callee (f := 43) rfl ?_); refine goesL_ (some 38) rfl rfl Try.func43 (by kernel_rfl) rfl #[.agg #[.int .i64 ((rd_T31 l0 x32_2).f0), .int .i64 ((rd_T31 l0 x32_2).f1), .int .i64 ((rd_T31 l0 x32_2).f2), .int .i64 ((rd_T31 l0 x32_2).f3)], .slice A1 l1.length c1] rfl (by (try simp only [List.map_toArray, List.map_cons, List.map_nil]); first | done | rfl | (simp only [List.length_drop, List.length_take]; rfl)) ?_; (with_reducible refine (bond_free.calls k2 ((rd_T31 l0 x32_2).f0) ((rd_T31 l0 x32_2).f1) ((rd_T31 l0 x32_2).f2) ((rd_T31 l0 x32_2).f3) _ _ l1 t148 _ ?side1 ?side2 A16.out).mono ?_); (case side1 => exact Kd.C_below HR1.out (by repeat (first | (with_reducible first | exact HB.out | apply below_alloc | apply pw_below_drewN | apply below_drew1 | refine below_set ?_ GE147.out) | exact HB.out))); (case side2 => exact HC1.out); rintro e w40 ⟨rfl, hb⟩; refine ⟨_, rfl, ?_⟩; have n0_ := Aside0.mk (blk_below (g := gb147) (o := .cells #[.int .i64 ((rd_T31 l0 x32_2).f0), .int .i64 ((rd_T31 l0 x32_2).f1), .int .i64 ((rd_T31 l0 x32_2).f2), .int .i64 ((rd_T31 l0 x32_2).f3)] 31 (0, 0)) (by (with_reducible repeat (first | refine blk_drewN ?_ _ | refine blk_drew ?_ | refine blk_alloc ?_ _)); refine blk_put (cs := #[.int .i64 ((rd_T31 l0 x32_2).f0), .int .i64 ((rd_T31 l0 x32_2).f1), .int .i64 ((rd_T31 l0 x32_2).f2), .int .i64 0]) ?_ 3 _ rfl; (with_reducible repeat (first | refine blk_drewN ?_ _ | refine blk_drew ?_ | refine blk_alloc ?_ _)); refine blk_put (cs := #[.int .i64 ((rd_T31 l0 x32_2).f0), .int .i64 ((rd_T31 l0 x32_2).f1), .int .i64 0, .int .i64 0]) ?_ 2 _ rfl; (with_reducible repeat (first | refine blk_drewN ?_ _ | refine blk_drew ?_ | refine blk_alloc ?_ _)); refine blk_put (cs := #[.int .i64 ((rd_T31 l0 x32_2).f0), .int .i64 0, .int .i64 0, .int .i64 0]) ?_ 1 _ rfl; (with_reducible repeat (first | refine blk_drewN ?_ _ | refine blk_drew ?_ | refine blk_alloc ?_ _)); refine blk_put (cs := #[.int .i64 0, .int .i64 0, .int .i64 0, .int .i64 0]) ?_ 0 _ rfl; (with_reducible repeat (first | refine blk_drewN ?_ _ | refine blk_drew ?_ | refine blk_alloc ?_ _)); exact BK147.out) hb); have n1_ := Aside0.mk (below_step (by repeat (first | (with_reducible first | exact HB.out | apply below_alloc | apply pw_below_drewN | apply below_drew1 | refine below_set ?_ GE147.out) | exact HB.out)) hb); clear BK147; clear HB; have BK147 := n0_; have HB := n1_; clear n0_ n1_; (try clear hb); (try clear hb2); (try clear hk); (try clear hi); have hcz41_0 : w40.cell? ⟨gb147, 0, none⟩ = some (.int .i64 ((rd_T31 l0 x32_2).f0)) := (blk_cell BK147.out 0).trans rfl; have hcz41_1 : w40.cell? ⟨gb147, 1, none⟩ = some (.int .i64 ((rd_T31 l0 x32_2).f1)) := (blk_cell BK147.out 1).trans rfl; have hcz41_2 : w40.cell? ⟨gb147, 2, none⟩ = some (.int .i64 ((rd_T31 l0 x32_2).f2)) := (blk_cell BK147.out 2).trans rfl; have hcz41_3 : w40.cell? ⟨gb147, 3, none⟩ = some (.int .i64 ((rd_T31 l0 x32_2).f3)) := (blk_cell BK147.out 3).trans rfl; have hfz41_0 := blk_frozen BK147.out 0; have hfz41_1 := blk_frozen BK147.out 1; have hfz41_2 := blk_frozen BK147.out 2; have hfz41_3 := blk_frozen BK147.out 3) | ((with_reducible refine gate_callee (f := 37) rfl ?_); refine goesL_ (some 44) rfl rfl Try.func37 (by kernel_rfl) rfl #[.int .i64 a3, .int .i64 ((rd_T31 l0 x32_2).f1), .int .i64 ((rd_T31 l0 x32_2).f2)] rfl (by (try simp only [List.map_toArray, List.map_cons, List.map_nil]); first | done | rfl | (simp only [List.length_drop, List.length_take]; rfl)) ?_; (with_reducible refine (bond_within.calls a3 ((rd_T31 l0 x32_2).f1) ((rd_T31 l0 x32_2).f2) false _ A17.out).mono ?_); rintro e w' ⟨rfl, ⟨nd, rfl⟩⟩; refine ⟨_, rfl, ?_⟩))
           go_roundg k2
           case measure => have := HJ6.out; have := HK2.out; omega
           case rel => exact ⟨(x11_2), (x12_2), (wrap64 (x32_2 + 1)), (by first | rfl | (simp; done) | (simp [*]; done)), (by first | rfl | (simp; done) | (simp [*]; done)), (by first | rfl | (simp; done) | (simp [*]; done)), H', ⟨by have := HJ6.out; have := HK2.out; omega⟩, ⟨by repeat (first | (with_reducible first | exact HB.out | apply below_alloc | apply pw_below_drewN | apply below_drew1 | refine below_set ?_ GE147.out) | exact HB.out)⟩⟩
         ·rw [if_neg c15] at H
          exact absurd H (by simp)
        ·rw [if_neg c14] at H
         exact absurd H (by simp)
       ·rw [if_neg c13] at H
        have c13b0 : decide (x32_2 < (l0.length : Int)) = false := decide_eq_false c13
        clear c13
        by_cases c42 : x11_2 = 0
        ·rw [if_pos c42] at H
         have c42b0 : (x11_2 == 0) = true := beq_iff_eq.mpr c42
         have c42b1 : (x11_2 != 0) = false := bne_eq_false_iff_eq.mpr c42
         clear c42
         simp only [Option.some.injEq, Prod.mk.injEq] at H
         obtain ⟨rfl, rfl⟩ := H
         go_wp2
         go_ret2
         exact ⟨by first | rfl | (simp [errW_none, errW_some] <;> rfl) | (simp [*, errW_none, errW_some] <;> rfl), by repeat (first | (with_reducible first | exact HB.out | apply below_alloc | apply pw_below_drewN | apply below_drew1) | exact HB.out)⟩
        ·rw [if_neg c42] at H
         have c42b0 : (x11_2 == 0) = false := beq_eq_false_iff_ne.mpr c42
         have c42b1 : (x11_2 != 0) = true := bne_iff_ne.mpr c42
         simp only [Option.some.injEq, Prod.mk.injEq] at H
         obtain ⟨rfl, rfl⟩ := H
         go_wp2
         go_ret2
         exact ⟨by first | rfl | (simp [errW_none, errW_some] <;> rfl) | (simp [*, errW_none, errW_some] <;> rfl), by repeat (first | (with_reducible first | exact HB.out | apply below_alloc | apply pw_below_drewN | apply below_drew1) | exact HB.out)⟩
 ·rw [if_neg c6] at H
  have c6b0 : (t143 == 0) = false := beq_eq_false_iff_ne.mpr c6
  have c6b1 : (t143 != 0) = true := bne_iff_ne.mpr c6
  simp only [Option.some.injEq, Prod.mk.injEq] at H
  obtain ⟨rfl, rfl⟩ := H
  go_enter Try.func27, Try.ntmps27
  go_wp2_with (first | ((with_reducible refine gate_callee (f := 42) rfl ?_); refine goesL_ (some 18) rfl rfl Try.func42 (by kernel_rfl) rfl #[.slice A0 l0.length c0, .slice A1 l1.length c1] rfl (by (try simp only [List.map_toArray, List.map_cons, List.map_nil]); first | done | rfl | (simp only [List.length_drop, List.length_take]; rfl)) ?_; (with_reducible refine (bond_asks.calls _ _ l0 _ _ l1 t143 _ ?side1 ?side2 ?side3 ?side4 A5.out).mono ?_); (case side1 => repeat (first | exact HR0.out | (with_reducible refine Kd.C_alloc ?_ _) | (with_reducible refine Kd.C_drewN ?_ _) | (with_reducible refine Kd.C_drew ?_))); (case side2 => exact HC0.out); (case side3 => repeat (first | exact HR1.out | (with_reducible refine Kd.C_alloc ?_ _) | (with_reducible refine Kd.C_drewN ?_ _) | (with_reducible refine Kd.C_drew ?_))); (case side4 => exact HC1.out); rintro e w43 ⟨rfl, hb⟩; refine ⟨_, rfl, ?_⟩; have n0_ := Aside0.mk (below_step (by repeat (first | (with_reducible first | exact HB.out | apply below_alloc | apply pw_below_drewN | apply below_drew1) | exact HB.out)) hb); clear HB; have HB := n0_; clear n0_; (try clear hb); (try clear hb2); (try clear hk); (try clear hi)))
  go_ret2
  exact ⟨by first | rfl | (simp [errW_none, errW_some] <;> rfl) | (simp [*, errW_none, errW_some] <;> rfl), by repeat (first | (with_reducible first | exact HB.out | apply below_alloc | apply pw_below_drewN | apply below_drew1) | exact HB.out)⟩

/-! ### api_Hold_50: function 50 -/
-- HELPER
set_option maxHeartbeats 4000000 in
set_option maxRecDepth 1000000 in
/-- slices.IndexFunc[[]spile/api.Hold,spile/api.Hold] over a closure that may make memory. -/
theorem api_Hold_50.below (g : Nat) (cb : Array Value) (A : Option Addr) (c : Nat) (l : List S35) (q : Nat → Bool) (w : World) (eg : ∀ args w, (callFunc g args).run Try.prog w = .ok (.enter g args) w) (hsz : l.length < 4611686018427387904) (hr : Kd.C k35 w A l.length l)
    (hf : ∀ (W : World) (i : Int), 0 ≤ i → i < l.length → Below w.heap.size w W → Calls Try.prog g (#[.agg #[.int .i64 (rd_T35 l i).f0, .int .i64 (rd_T35 l i).f1, .int .i64 (rd_T35 l i).f2]] ++ cb) W fun e w' => e = .returned (.bool (q i.toNat)) ∧ Below W.heap.size W w') :
    Calls Try.prog 50 #[.slice A l.length c, .func (.func g) #[] cb] w fun e w' => e = .returned (.int .i64 (idxP q l.length 0)) ∧ Below w.heap.size w w' := by
  have hu := Try.underlying35
  have HF := Aside0.mk hf
  have HR := Aside0.mk hr
  clear hf hr
  obtain ⟨res, hres⟩ : ∃ res, idxP q l.length 0 = res := ⟨_, rfl⟩
  rw [hres]
  have HS := Aside0.mk hres
  clear hres
  go_enter Try.func50, Try.ntmps50
  go_wp2
  go_loopg [5, 8] l.length (fun kx s5 s8 wr => ∃ x : Int, s8 = .int .i64 x ∧ Aside0 (0 ≤ x ∧ x ≤ l.length ∧ l.length - x.toNat ≤ kx ∧ ∀ j, j < x.toNat → q j = false) ∧ Aside0 (Below w.heap.size w wr))
  case atStart => exact ⟨0, rfl, ⟨by omega, by omega, by omega, fun j hj => by simp at hj⟩, ⟨Below.refl _ _⟩⟩
  case round =>
    obtain ⟨x, rfl, HX, HB⟩ := hrel
    by_cases hlt : x < (l.length : Int)
    · have hltb : decide (x < (l.length : Int)) = true := decide_eq_true hlt
      have p1 : 0 ≤ x := HX.out.1
      obtain ⟨ad, e, h1, h2, h3⟩ := at_T35 HR.out x p1 hlt
      cases e
      replace h1 := pw_cell_below HB.out h1
      replace h2 := pw_cell_below HB.out h2
      replace h3 := pw_cell_below HB.out h3
      have hc := Aside0.mk (HF.out _ x p1 hlt HB.out)
      have HLT := Aside0.mk hlt
      clear hlt
      replace p1 := eq_true p1
      have p2 : (x < (l.length : Int)) = True := eq_true HLT.out
      generalize (rd_T35 l x).f0 = y0 at h1 hc
      generalize (rd_T35 l x).f1 = y1 at h2 hc
      generalize (rd_T35 l x).f2 = y2 at h3 hc
      have hw : wrap64 (x + 1) = x + 1 := by have := HX.out.1; have := HLT.out; unfold wrap64; omega
      have HW := Aside0.mk hw
      clear hw
      cases hq : q x.toNat
      · rw [hq] at hc
        have HQ := Aside0.mk hq
        clear hq
        go_wp2_with (refine hc.out.mono ?_; rintro e w' ⟨rfl, hb2⟩)
        have HB2 := Aside0.mk (below_then HB.out HB.out.size hb2)
        go_roundg (l.length - (x + 1).toNat)
        case measure => have := HX.out; have := HLT.out; omega
        case rel => exact ⟨x + 1, by rw [HW.out], ⟨by have := HX.out; omega, by have := HLT.out; omega, Nat.le_refl _, fun j hj => by
          rcases Nat.lt_or_ge j x.toNat with h | h
          · exact HX.out.2.2.2 j h
          · have e : j = x.toNat := by have := HX.out.1; omega
            rw [e]; exact HQ.out⟩, HB2⟩
      · rw [hq] at hc
        have er : x = res := by
          rw [← HS.out, idxP_found q x.toNat l.length 0 hq (fun j _ hj => HX.out.2.2.2 j hj) (Nat.zero_le _) (by have := HX.out; have := HLT.out; omega)]
          have := HX.out.1; omega
        have ER := Aside0.mk er
        clear hq er
        go_wp2_with (refine hc.out.mono ?_; rintro e w' ⟨rfl, hb2⟩)
        have HB2 := Aside0.mk (below_then HB.out HB.out.size hb2)
        go_ret
        exact ⟨by rw [← ER.out]; rfl, HB2.out⟩
    · have hltb : decide (x < (l.length : Int)) = false := decide_eq_false hlt
      have er : -1 = res := by
        rw [← HS.out]
        exact (idxP_none q l.length 0 (fun j _ hj => HX.out.2.2.2 j (by have := HX.out; omega))).symm
      have ER := Aside0.mk er
      clear hlt er
      go_wp2
      go_ret
      exact ⟨by rw [← ER.out]; rfl, HB.out⟩

/-! ### api_Hold_31: function 31 -/
-- HELPER
set_option maxHeartbeats 4000000 in
set_option maxRecDepth 1000000 in
theorem api_Hold_31.below (g : Nat) (cb : Array Value) (A : Option Addr) (c : Nat) (l : List S35) (q : Nat → Bool) (w : World) (eg : ∀ args w, (callFunc g args).run Try.prog w = .ok (.enter g args) w) (hsz : l.length < 4611686018427387904) (hr : Kd.C k35 w A l.length l)
    (hf : ∀ (W : World) (i : Int), 0 ≤ i → i < l.length → Below w.heap.size w W → Calls Try.prog g (#[.agg #[.int .i64 (rd_T35 l i).f0, .int .i64 (rd_T35 l i).f1, .int .i64 (rd_T35 l i).f2]] ++ cb) W fun e w' => e = .returned (.bool (q i.toNat)) ∧ Below W.heap.size W w') :
    Calls Try.prog 31 #[.slice A l.length c, .func (.func g) #[] cb] w fun e w' => e = .returned (.bool (decide (0 ≤ idxP q l.length 0))) ∧ Below w.heap.size w w' := by
  have HC := Aside0.mk (api_Hold_50.below g cb A c l q w eg hsz hr hf)
  clear hf hr eg
  generalize idxP q l.length 0 = r at HC ⊢
  go_enter Try.func31, Try.ntmps31
  go_wp2_with (refine HC.out.mono ?_; rintro e w' ⟨rfl, hb⟩)
  go_ret
  exact ⟨rfl, hb⟩

end Go.Proofs.Ytdolabpkgienkaa.PF
