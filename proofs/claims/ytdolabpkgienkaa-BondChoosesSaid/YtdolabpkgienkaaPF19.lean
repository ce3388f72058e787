-- Written by a program of this session (wip/pr.py) out of Lean's print of the translation; Lean checks it.
import Derived.Test.YtdolabpkgienkaaPF0
import Derived.Test.YtdolabpkgienkaaPF10
import Derived.Test.YtdolabpkgienkaaPF11
namespace Go.Proofs.Ytdolabpkgienkaa.PF
open Go.RowKit Go.Proofs.YtdolabpkgienkaaW.PrintWords Go.Proofs.YtdolabpkgienkaaW.PrintLast Go.Proofs.YtdolabpkgienkaaW.PrintMore
attribute [local go_sem] max2_int min2_int max_two min_two max_three min_three max_four min_four   -- for this text's walks alone
set_option linter.unusedVariables false
set_option linter.unusedSimpArgs false

/-! ### spileref52_Short: function 30 -/
mutual
def spileref52_Short.l0 : Nat → List (S31) → List (S35) → Int → Option ((List (S35)) × Int)
 | 0, _, _, _ => none
 | k + 1, x0, x1, x8 => if x8 < (x1.length : Int) then (if 0 ≤ x8 then ((spileref52_between.f ((rd_T35 x1 x8).f2) 0 1125899906842624).bind fun t368 => (if t368 = true then (spileref52_Short.l0 k x0 x1 (wrap64 (x8 + 1))) else (some (([] : List (S35)), 2)))) else (none)) else (spileref52_Short.l1 k x0 x1 0)
def spileref52_Short.l1 : Nat → List (S31) → List (S35) → Int → Option ((List (S35)) × Int)
 | 0, _, _, _ => none
 | k + 1, x0, x1, x9 => if x9 < (x1.length : Int) then (if 0 ≤ x9 then ((spileref52_find.f k x0 ((rd_T35 x1 x9).f0)).bind fun t370 => (if t370 < 0 then (some (([] : List (S35)), 7)) else (spileref52_Short.l1 k x0 x1 (wrap64 (x9 + 1))))) else (none)) else (spileref52_Short.l2 k x0 x1 ([] : List (S35)) 0)
def spileref52_Short.l2 : Nat → List (S31) → List (S35) → List (S35) → Int → Option ((List (S35)) × Int)
 | 0, _, _, _, _ => none
 | k + 1, x0, x1, x10, x11 => if x11 < (x0.length : Int) then (if 0 ≤ x11 then ((spileref52_bound.f k x1 ((rd_T31 x0 x11).f0)).bind fun t372 => (if (wrap64 (t372 - ((rd_T31 x0 x11).f3))) > 0 then (if x10.length < 5864062014805 then (spileref52_Short.l2 k x0 x1 (x10 ++ [(⟨(rd_T31 x0 x11).f0, 0, wrap64 (t372 - ((rd_T31 x0 x11).f3))⟩ : S35)]) (wrap64 (x11 + 1))) else (none)) else (spileref52_Short.l2 k x0 x1 x10 (wrap64 (x11 + 1))))) else (none)) else (some (x10, 0))
end
def spileref52_Short.f (k : Nat) (l0 : List (S31)) (l1 : List (S35)) : Option ((List (S35)) × Int) := (spileref52_Check.f k l0).bind fun bt365 => (if bt365.2 = 0 then (if (l1.length : Int) > 64 then (some (([] : List (S35)), 8)) else (spileref52_Short.l0 k l0 l1 0)) else (some (([] : List (S35)), 1)))
theorem spileref52_Short.mono_l : ∀ k, (∀ y0 y1 y2, LeO (spileref52_Short.l0 k y0 y1 y2) (spileref52_Short.l0 (k + 1) y0 y1 y2)) ∧ (∀ y0 y1 y2, LeO (spileref52_Short.l1 k y0 y1 y2) (spileref52_Short.l1 (k + 1) y0 y1 y2)) ∧ (∀ y0 y1 y2 y3, LeO (spileref52_Short.l2 k y0 y1 y2 y3) (spileref52_Short.l2 (k + 1) y0 y1 y2 y3))
 | 0 => ⟨fun _ _ _ r h => by simp [spileref52_Short.l0] at h, fun _ _ _ r h => by simp [spileref52_Short.l1] at h, fun _ _ _ _ r h => by simp [spileref52_Short.l2] at h⟩
 | k + 1 => by
  obtain ⟨ih0, ih1, ih2⟩ := spileref52_Short.mono_l k
  refine ⟨?_, ?_, ?_⟩
  ·intro y0 y1 y2
   unfold spileref52_Short.l0
   repeat' first
   | (with_reducible exact ih0 _ _ _)
   | (with_reducible exact ih1 _ _ _)
   | (with_reducible exact ih2 _ _ _ _)
   | (with_reducible exact spileref52_Check.mono _ _)
   | (with_reducible exact spileref52_bound.mono _ _ _)
   | (with_reducible exact spileref52_find.mono _ _ _)
   | (with_reducible exact LeO.refl _)
   | (with_reducible exact LeO.none _)
   | (with_reducible refine LeO.ite ?_ ?_)
   | (with_reducible refine LeO.bind ?_ (fun _ => ?_))
   | exact ih0 _ _ _
   | exact ih1 _ _ _
   | exact ih2 _ _ _ _
   | exact spileref52_Check.mono _ _
   | exact spileref52_bound.mono _ _ _
   | exact spileref52_find.mono _ _ _
   | exact LeO.none _
   | refine LeO.ite ?_ ?_
   | refine LeO.bind ?_ (fun _ => ?_)
  ·intro y0 y1 y2
   unfold spileref52_Short.l1
   repeat' first
   | (with_reducible exact ih0 _ _ _)
   | (with_reducible exact ih1 _ _ _)
   | (with_reducible exact ih2 _ _ _ _)
   | (with_reducible exact spileref52_Check.mono _ _)
   | (with_reducible exact spileref52_bound.mono _ _ _)
   | (with_reducible exact spileref52_find.mono _ _ _)
   | (with_reducible exact LeO.refl _)
   | (with_reducible exact LeO.none _)
   | (with_reducible refine LeO.ite ?_ ?_)
   | (with_reducible refine LeO.bind ?_ (fun _ => ?_))
   | exact ih0 _ _ _
   | exact ih1 _ _ _
   | exact ih2 _ _ _ _
   | exact spileref52_Check.mono _ _
   | exact spileref52_bound.mono _ _ _
   | exact spileref52_find.mono _ _ _
   | exact LeO.none _
   | refine LeO.ite ?_ ?_
   | refine LeO.bind ?_ (fun _ => ?_)
  ·intro y0 y1 y2 y3
   unfold spileref52_Short.l2
   repeat' first
   | (with_reducible exact ih0 _ _ _)
   | (with_reducible exact ih1 _ _ _)
   | (with_reducible exact ih2 _ _ _ _)
   | (with_reducible exact spileref52_Check.mono _ _)
   | (with_reducible exact spileref52_bound.mono _ _ _)
   | (with_reducible exact spileref52_find.mono _ _ _)
   | (with_reducible exact LeO.refl _)
   | (with_reducible exact LeO.none _)
   | (with_reducible refine LeO.ite ?_ ?_)
   | (with_reducible refine LeO.bind ?_ (fun _ => ?_))
   | exact ih0 _ _ _
   | exact ih1 _ _ _
   | exact ih2 _ _ _ _
   | exact spileref52_Check.mono _ _
   | exact spileref52_bound.mono _ _ _
   | exact spileref52_find.mono _ _ _
   | exact LeO.none _
   | refine LeO.ite ?_ ?_
   | refine LeO.bind ?_ (fun _ => ?_)
theorem spileref52_Short.mono : ∀ a0 a1 k, LeO (spileref52_Short.f k a0 a1) (spileref52_Short.f (k + 1) a0 a1) := by
 intro a0 a1 k
 obtain ⟨ih0, ih1, ih2⟩ := spileref52_Short.mono_l k
 unfold spileref52_Short.f
 repeat' first
   | (with_reducible exact ih0 _ _ _)
   | (with_reducible exact ih1 _ _ _)
   | (with_reducible exact ih2 _ _ _ _)
   | (with_reducible exact spileref52_Check.mono _ _)
   | (with_reducible exact spileref52_bound.mono _ _ _)
   | (with_reducible exact spileref52_find.mono _ _ _)
   | (with_reducible exact LeO.refl _)
   | (with_reducible exact LeO.none _)
   | (with_reducible refine LeO.ite ?_ ?_)
   | (with_reducible refine LeO.bind ?_ (fun _ => ?_))
   | exact ih0 _ _ _
   | exact ih1 _ _ _
   | exact ih2 _ _ _ _
   | exact spileref52_Check.mono _ _
   | exact spileref52_bound.mono _ _ _
   | exact spileref52_find.mono _ _ _
   | exact LeO.none _
   | refine LeO.ite ?_ ?_
   | refine LeO.bind ?_ (fun _ => ?_)
set_option maxHeartbeats 8000000 in
set_option maxRecDepth 100000 in
theorem spileref52_Short.calls (k : Nat) (A0 : Option Addr) (c0 : Nat) (l0 : List (S31)) (A1 : Option Addr) (c1 : Nat) (l1 : List (S35)) (r1 : List (S35)) (r2 : Int) (w : World) (hr0 : Kd.C k31 w A0 l0.length l0) (hc0 : l0.length ≤ c0) (hr1 : Kd.C k35 w A1 l1.length l1) (hc1 : l1.length ≤ c1) (h : spileref52_Short.f k l0 l1 = some (r1, r2)) :
  Calls Try.prog 30 #[.slice A0 l0.length c0, .slice A1 l1.length c1] w fun e w' => ∃ v0_ : Value, e = .returned (.tuple #[v0_, .int .i64 r2]) ∧ Kd.R k35 35 w' w.heap.size (fun _ => True) v0_ r1 ∧ Below w.heap.size w w' := by
 have hu35 := Try.underlying35
 have HR0 := Aside0.mk hr0
 have HC0 := Aside0.mk hc0
 clear hr0 hc0
 have HR1 := Aside0.mk hr1
 have HC1 := Aside0.mk hc1
 clear hr1 hc1
 have HB := Aside0.mk (Below.refl w.heap.size w)
 have H : ((spileref52_Check.f k l0).bind fun bt365 => (if bt365.2 = 0 then (if (l1.length : Int) > 64 then (some (([] : List (S35)), 8)) else (spileref52_Short.l0 k l0 l1 0)) else (some (([] : List (S35)), 1)))) = some (r1, r2) := h
 clear h
 replace H := Option.bind_eq_some_iff.mp H
 obtain ⟨⟨t365, t366⟩, A30, H⟩ := H
 replace H : (if t366 = 0 then (if (l1.length : Int) > 64 then (some (([] : List (S35)), 8)) else (spileref52_Short.l0 k l0 l1 0)) else (some (([] : List (S35)), 1))) = some (r1, r2) := H
 have A3 := Aside0.mk A30
 clear A30
 by_cases c4 : t366 = 0
 ·rw [if_pos c4] at H
  have c4b0 : (t366 == 0) = true := beq_iff_eq.mpr c4
  have c4b1 : (t366 != 0) = false := bne_eq_false_iff_eq.mpr c4
  clear c4
  by_cases c5 : (l1.length : Int) > 64
  ·rw [if_pos c5] at H
   have c5b0 : decide (64 < (l1.length : Int)) = true := decide_eq_true c5
   have c5b1 : decide (64 < l1.length) = true := decide_eq_true (by omega)
   clear c5
   simp only [Option.some.injEq, Prod.mk.injEq] at H
   obtain ⟨rfl, rfl⟩ := H
   go_enter Try.func30, Try.ntmps30
   go_wp2_with (first | (go_at_call 14; (with_reducible refine (spileref52_Check.calls k _ _ l0 t365 t366 _ ?side1 ?side2 A3.out).mono ?_); (case side1 => repeat (first | exact HR0.out | (with_reducible refine Kd.C_alloc ?_ _) | (with_reducible refine Kd.C_drewN ?_ _) | (with_reducible refine Kd.C_drew ?_))); (case side2 => exact HC0.out); rintro e w6 ⟨rfl, hb⟩; have n0_ := Aside0.mk (below_step (by repeat (first | (with_reducible first | exact HB.out | apply below_alloc | apply pw_below_drewN | apply below_drew1) | exact HB.out)) hb); clear HB; have HB := n0_; clear n0_; (try clear hb); (try clear hb2); (try clear hk); (try clear hi)))
   repeat (go_quiet (first | (go_at_call 14; (with_reducible refine (spileref52_Check.calls k _ _ l0 t365 t366 _ ?side1 ?side2 A3.out).mono ?_); (case side1 => repeat (first | exact HR0.out | (with_reducible refine Kd.C_alloc ?_ _) | (with_reducible refine Kd.C_drewN ?_ _) | (with_reducible refine Kd.C_drew ?_))); (case side2 => exact HC0.out); rintro e w6 ⟨rfl, hb⟩; have n0_ := Aside0.mk (below_step (by repeat (first | (with_reducible first | exact HB.out | apply below_alloc | apply pw_below_drewN | apply below_drew1) | exact HB.out)) hb); clear HB; have HB := n0_; clear n0_; (try clear hb); (try clear hb2); (try clear hk); (try clear hi))); try go_wp2_with (first | (go_at_call 14; (with_reducible refine (spileref52_Check.calls k _ _ l0 t365 t366 _ ?side1 ?side2 A3.out).mono ?_); (case side1 => repeat (first | exact HR0.out | (with_reducible refine Kd.C_alloc ?_ _) | (with_reducible refine Kd.C_drewN ?_ _) | (with_reducible refine Kd.C_drew ?_))); (case side2 => exact HC0.out); rintro e w6 ⟨rfl, hb⟩; have n0_ := Aside0.mk (below_step (by repeat (first | (with_reducible first | exact HB.out | apply below_alloc | apply pw_below_drewN | apply below_drew1) | exact HB.out)) hb); clear HB; have HB := n0_; clear n0_; (try clear hb); (try clear hb2); (try clear hk); (try clear hi))))
   go_ret2
   exact ⟨_, by first | rfl | (simp [errW_none, errW_some] <;> rfl) | (simp [*, errW_none, errW_some] <;> rfl), by first | exact Kd.R_nil _ _ _ _ _ | exact Kd.N_nil _ _ _ _ _ | exact Kd.V_nil _ _ _ _ _ | exact Kd.Q_nil _ _ _ _ _ | exact Kd.S_nil _ _ _ _ _, by repeat (first | (with_reducible first | exact HB.out | apply below_alloc | apply pw_below_drewN | apply below_drew1) | exact HB.out)⟩
  ·rw [if_neg c5] at H
   have c5b0 : decide (64 < (l1.length : Int)) = false := decide_eq_false c5
   have c5b1 : decide (64 < l1.length) = false := decide_eq_false (by omega)
   clear c5
   have H' := Aside0.mk H
   clear H
   go_enter Try.func30, Try.ntmps30
   go_wp2_with (first | (go_at_call 14; (with_reducible refine (spileref52_Check.calls k _ _ l0 t365 t366 _ ?side1 ?side2 A3.out).mono ?_); (case side1 => repeat (first | exact HR0.out | (with_reducible refine Kd.C_alloc ?_ _) | (with_reducible refine Kd.C_drewN ?_ _) | (with_reducible refine Kd.C_drew ?_))); (case side2 => exact HC0.out); rintro e w7 ⟨rfl, hb⟩; have n0_ := Aside0.mk (below_step (by repeat (first | (with_reducible first | exact HB.out | apply below_alloc | apply pw_below_drewN | apply below_drew1) | exact HB.out)) hb); clear HB; have HB := n0_; clear n0_; (try clear hb); (try clear hb2); (try clear hk); (try clear hi)))
   repeat (go_quiet (first | (go_at_call 14; (with_reducible refine (spileref52_Check.calls k _ _ l0 t365 t366 _ ?side1 ?side2 A3.out).mono ?_); (case side1 => repeat (first | exact HR0.out | (with_reducible refine Kd.C_alloc ?_ _) | (with_reducible refine Kd.C_drewN ?_ _) | (with_reducible refine Kd.C_drew ?_))); (case side2 => exact HC0.out); rintro e w7 ⟨rfl, hb⟩; have n0_ := Aside0.mk (below_step (by repeat (first | (with_reducible first | exact HB.out | apply below_alloc | apply pw_below_drewN | apply below_drew1) | exact HB.out)) hb); clear HB; have HB := n0_; clear n0_; (try clear hb); (try clear hb2); (try clear hk); (try clear hi))); try go_wp2_with (first | (go_at_call 14; (with_reducible refine (spileref52_Check.calls k _ _ l0 t365 t366 _ ?side1 ?side2 A3.out).mono ?_); (case side1 => repeat (first | exact HR0.out | (with_reducible refine Kd.C_alloc ?_ _) | (with_reducible refine Kd.C_drewN ?_ _) | (with_reducible refine Kd.C_drew ?_))); (case side2 => exact HC0.out); rintro e w7 ⟨rfl, hb⟩; have n0_ := Aside0.mk (below_step (by repeat (first | (with_reducible first | exact HB.out | apply below_alloc | apply pw_below_drewN | apply below_drew1) | exact HB.out)) hb); clear HB; have HB := n0_; clear n0_; (try clear hb); (try clear hb2); (try clear hk); (try clear hi))))
   go_loopg [8] k (fun kq v8 w' => ∃ (x8_1 : Int), v8 = .int .i64 x8_1 ∧ Aside0 (spileref52_Short.l0 kq l0 l1 x8_1 = some (r1, r2)) ∧ Aside0 (kq ≤ k) ∧ Aside0 (Below w.heap.size w w'))
   case atStart => exact ⟨(0), (by first | rfl | (simp; done) | (simp [*]; done)), H', ⟨Nat.le_refl _⟩, ⟨by repeat (first | (with_reducible first | exact HB.out | apply below_alloc | apply pw_below_drewN | apply below_drew1) | exact HB.out)⟩⟩
   case round =>
    clear H'
    try clear c1
    try clear p2
    try clear c3
    try clear c4
    try clear c4b0
    try clear c4b1
    try clear c5
    try clear c5b0
    try clear c5b1
    obtain ⟨x8_1, rfl, HA, HK1, HB⟩ := hrel
    cases gk with
    | zero => exact absurd HA.out (by simp [spileref52_Short.l0])
    | succ k1 =>
     have H := HA.out
     clear HA
     simp only [spileref52_Short.l0] at H
     by_cases c8 : x8_1 < (l1.length : Int)
     ·rw [if_pos c8] at H
      have c8b0 : decide (x8_1 < (l1.length : Int)) = true := decide_eq_true c8
      clear c8
      by_cases c9 : 0 ≤ x8_1
      ·rw [if_pos c9] at H
       have c9b0 : decide (0 ≤ x8_1) = true := decide_eq_true c9
       clear c9
       replace H := Option.bind_eq_some_iff.mp H
       obtain ⟨t368, A100, H⟩ := H
       replace H : (if t368 = true then (spileref52_Short.l0 k1 l0 l1 (wrap64 (x8_1 + 1))) else (some (([] : List (S35)), 2))) = some (r1, r2) := H
       have A10 := Aside0.mk A100
       clear A100
       by_cases c11 : t368 = true
       ·subst c11
        have H1 : (spileref52_Short.l0 k1 l0 l1 (wrap64 (x8_1 + 1))) = some (r1, r2) := by rw [if_pos rfl] at H; exact H
        clear H
        have H := H1
        clear H1
        have H' := Aside0.mk H
        clear H
        have p367 : 0 ≤ (x8_1 : Int) := of_decide_eq_true (by first | (with_reducible assumption) | assumption)
        have q367 : x8_1 < (l1.length : Int) := of_decide_eq_true (by first | (with_reducible assumption) | assumption)
        obtain ⟨ad367, e367, hx367_0, hx367_1, hx367_2⟩ := at_T35 HR1.out x8_1 p367 q367
        cases e367
        replace hx367_0 := (HB.out.cell (World.block_lt_of_cell? w _ hx367_0)).trans hx367_0
        replace hx367_1 := (HB.out.cell (World.block_lt_of_cell? w _ hx367_1)).trans hx367_1
        replace hx367_2 := (HB.out.cell (World.block_lt_of_cell? w _ hx367_2)).trans hx367_2
        replace p367 := eq_true p367
        replace q367 := eq_true q367
        go_wp2_with (first | (go_at_call 38; (with_reducible refine (spileref52_between.calls ((rd_T35 l1 x8_1).f2) 0 1125899906842624 true _ A10.out).mono ?_); rintro e w' ⟨rfl, ⟨nd, rfl⟩⟩; (try first | exact ⟨rfl, _, World.drewN_drewN _ _ _⟩ | exact ⟨rfl, _, Eq.trans (World.drewN_drewN _ _ _) (congrArg (World.drewN _) (Nat.add_assoc _ _ _))⟩)))
        repeat (go_quiet (first | (go_at_call 38; (with_reducible refine (spileref52_between.calls ((rd_T35 l1 x8_1).f2) 0 1125899906842624 true _ A10.out).mono ?_); rintro e w' ⟨rfl, ⟨nd, rfl⟩⟩; (try first | exact ⟨rfl, _, World.drewN_drewN _ _ _⟩ | exact ⟨rfl, _, Eq.trans (World.drewN_drewN _ _ _) (congrArg (World.drewN _) (Nat.add_assoc _ _ _))⟩))); try go_wp2_with (first | (go_at_call 38; (with_reducible refine (spileref52_between.calls ((rd_T35 l1 x8_1).f2) 0 1125899906842624 true _ A10.out).mono ?_); rintro e w' ⟨rfl, ⟨nd, rfl⟩⟩; (try first | exact ⟨rfl, _, World.drewN_drewN _ _ _⟩ | exact ⟨rfl, _, Eq.trans (World.drewN_drewN _ _ _) (congrArg (World.drewN _) (Nat.add_assoc _ _ _))⟩))))
        go_roundg k1
        case measure => have := HK1.out; omega
        case rel => exact ⟨(wrap64 (x8_1 + 1)), (by first | rfl | (simp; done) | (simp [*]; done)), H', ⟨by have := HK1.out; omega⟩, ⟨by repeat (first | (with_reducible first | exact HB.out | apply below_alloc | apply pw_below_drewN | apply below_drew1) | exact HB.out)⟩⟩
       ·replace c11 := Bool.eq_false_iff.mpr c11
        subst c11
        have H1 : (some (([] : List (S35)), 2)) = some (r1, r2) := by rw [if_neg (show ¬ (false = true) by decide)] at H; exact H
        clear H
        have H := H1
        clear H1
        simp only [Option.some.injEq, Prod.mk.injEq] at H
        obtain ⟨rfl, rfl⟩ := H
        have p367 : 0 ≤ (x8_1 : Int) := of_decide_eq_true (by first | (with_reducible assumption) | assumption)
        have q367 : x8_1 < (l1.length : Int) := of_decide_eq_true (by first | (with_reducible assumption) | assumption)
        obtain ⟨ad367, e367, hx367_0, hx367_1, hx367_2⟩ := at_T35 HR1.out x8_1 p367 q367
        cases e367
        replace hx367_0 := (HB.out.cell (World.block_lt_of_cell? w _ hx367_0)).trans hx367_0
        replace hx367_1 := (HB.out.cell (World.block_lt_of_cell? w _ hx367_1)).trans hx367_1
        replace hx367_2 := (HB.out.cell (World.block_lt_of_cell? w _ hx367_2)).trans hx367_2
        replace p367 := eq_true p367
        replace q367 := eq_true q367
        go_wp2_with (first | (go_at_call 38; (with_reducible refine (spileref52_between.calls ((rd_T35 l1 x8_1).f2) 0 1125899906842624 false _ A10.out).mono ?_); rintro e w' ⟨rfl, ⟨nd, rfl⟩⟩; (try first | exact ⟨rfl, _, World.drewN_drewN _ _ _⟩ | exact ⟨rfl, _, Eq.trans (World.drewN_drewN _ _ _) (congrArg (World.drewN _) (Nat.add_assoc _ _ _))⟩)))
        repeat (go_quiet (first | (go_at_call 38; (with_reducible refine (spileref52_between.calls ((rd_T35 l1 x8_1).f2) 0 1125899906842624 false _ A10.out).mono ?_); rintro e w' ⟨rfl, ⟨nd, rfl⟩⟩; (try first | exact ⟨rfl, _, World.drewN_drewN _ _ _⟩ | exact ⟨rfl, _, Eq.trans (World.drewN_drewN _ _ _) (congrArg (World.drewN _) (Nat.add_assoc _ _ _))⟩))); try go_wp2_with (first | (go_at_call 38; (with_reducible refine (spileref52_between.calls ((rd_T35 l1 x8_1).f2) 0 1125899906842624 false _ A10.out).mono ?_); rintro e w' ⟨rfl, ⟨nd, rfl⟩⟩; (try first | exact ⟨rfl, _, World.drewN_drewN _ _ _⟩ | exact ⟨rfl, _, Eq.trans (World.drewN_drewN _ _ _) (congrArg (World.drewN _) (Nat.add_assoc _ _ _))⟩))))
        go_ret2
        exact ⟨_, by first | rfl | (simp [errW_none, errW_some] <;> rfl) | (simp [*, errW_none, errW_some] <;> rfl), by first | exact Kd.R_nil _ _ _ _ _ | exact Kd.N_nil _ _ _ _ _ | exact Kd.V_nil _ _ _ _ _ | exact Kd.Q_nil _ _ _ _ _ | exact Kd.S_nil _ _ _ _ _, by repeat (first | (with_reducible first | exact HB.out | apply below_alloc | apply pw_below_drewN | apply below_drew1) | exact HB.out)⟩
      ·rw [if_neg c9] at H
       exact absurd H (by simp)
     ·rw [if_neg c8] at H
      have c8b0 : decide (x8_1 < (l1.length : Int)) = false := decide_eq_false c8
      clear c8
      have H' := Aside0.mk H
      clear H
      go_wp2
      repeat (go_quiet (fail); try go_wp2)
      go_loopg [9] k1 (fun kq v9 w' => ∃ (x9_2 : Int), v9 = .int .i64 x9_2 ∧ Aside0 (spileref52_Short.l1 kq l0 l1 x9_2 = some (r1, r2)) ∧ Aside0 (kq ≤ k1) ∧ Aside0 (Below w.heap.size w w'))
      case atStart => exact ⟨(0), (by first | rfl | (simp; done) | (simp [*]; done)), H', ⟨Nat.le_refl _⟩, ⟨by repeat (first | (with_reducible first | exact HB.out | apply below_alloc | apply pw_below_drewN | apply below_drew1) | exact HB.out)⟩⟩
      case round =>
       clear H'
       try clear c1
       try clear p2
       try clear c3
       try clear p3
       try clear q3
       try clear hx3
       try clear c4
       try clear c4b0
       try clear c4b1
       try clear c5
       try clear c5b0
       try clear c5b1
       try clear p6
       try clear c8
       try clear c8b0
       try clear c9
       try clear c9b0
       try clear c11
       try clear hx367_0
       try clear hx367_1
       try clear hx367_2
       try clear p2
       try clear p367
       try clear q367
       obtain ⟨x9_2, rfl, HA, HK2, HB⟩ := hrel
       cases gk with
       | zero => exact absurd HA.out (by simp [spileref52_Short.l1])
       | succ k2 =>
        have H := HA.out
        clear HA
        simp only [spileref52_Short.l1] at H
        by_cases c12 : x9_2 < (l1.length : Int)
        ·rw [if_pos c12] at H
         have c12b0 : decide (x9_2 < (l1.length : Int)) = true := decide_eq_true c12
         clear c12
         by_cases c13 : 0 ≤ x9_2
         ·rw [if_pos c13] at H
          have c13b0 : decide (0 ≤ x9_2) = true := decide_eq_true c13
          clear c13
          replace H := Option.bind_eq_some_iff.mp H
          obtain ⟨t370, A140, H⟩ := H
          replace H : (if t370 < 0 then (some (([] : List (S35)), 7)) else (spileref52_Short.l1 k2 l0 l1 (wrap64 (x9_2 + 1)))) = some (r1, r2) := H
          have A14 := Aside0.mk A140
          clear A140
          by_cases c15 : t370 < 0
          ·rw [if_pos c15] at H
           have c15b0 : decide (t370 < 0) = true := decide_eq_true c15
           clear c15
           simp only [Option.some.injEq, Prod.mk.injEq] at H
           obtain ⟨rfl, rfl⟩ := H
           have p369 : 0 ≤ (x9_2 : Int) := of_decide_eq_true (by first | (with_reducible assumption) | assumption)
           have q369 : x9_2 < (l1.length : Int) := of_decide_eq_true (by first | (with_reducible assumption) | assumption)
           obtain ⟨ad369, e369, hx369_0, hx369_1, hx369_2⟩ := at_T35 HR1.out x9_2 p369 q369
           cases e369
           replace hx369_0 := (HB.out.cell (World.block_lt_of_cell? w _ hx369_0)).trans hx369_0
           replace hx369_1 := (HB.out.cell (World.block_lt_of_cell? w _ hx369_1)).trans hx369_1
           replace hx369_2 := (HB.out.cell (World.block_lt_of_cell? w _ hx369_2)).trans hx369_2
           replace p369 := eq_true p369
           replace q369 := eq_true q369
           go_wp2_with (first | (go_at_call 40; (with_reducible refine (spileref52_find.calls k2 _ _ l0 ((rd_T35 l1 x9_2).f0) t370 _ ?side1 ?side2 A14.out).mono ?_); (case side1 => repeat (first | exact (Kd.C_below HR0.out HB.out) | (with_reducible refine Kd.C_alloc ?_ _) | (with_reducible refine Kd.C_drewN ?_ _) | (with_reducible refine Kd.C_drew ?_))); (case side2 => exact HC0.out); rintro e w' ⟨rfl, ⟨nd, rfl⟩⟩; (try first | exact ⟨rfl, _, World.drewN_drewN _ _ _⟩ | exact ⟨rfl, _, Eq.trans (World.drewN_drewN _ _ _) (congrArg (World.drewN _) (Nat.add_assoc _ _ _))⟩)))
           repeat (go_quiet (first | (go_at_call 40; (with_reducible refine (spileref52_find.calls k2 _ _ l0 ((rd_T35 l1 x9_2).f0) t370 _ ?side1 ?side2 A14.out).mono ?_); (case side1 => repeat (first | exact (Kd.C_below HR0.out HB.out) | (with_reducible refine Kd.C_alloc ?_ _) | (with_reducible refine Kd.C_drewN ?_ _) | (with_reducible refine Kd.C_drew ?_))); (case side2 => exact HC0.out); rintro e w' ⟨rfl, ⟨nd, rfl⟩⟩; (try first | exact ⟨rfl, _, World.drewN_drewN _ _ _⟩ | exact ⟨rfl, _, Eq.trans (World.drewN_drewN _ _ _) (congrArg (World.drewN _) (Nat.add_assoc _ _ _))⟩))); try go_wp2_with (first | (go_at_call 40; (with_reducible refine (spileref52_find.calls k2 _ _ l0 ((rd_T35 l1 x9_2).f0) t370 _ ?side1 ?side2 A14.out).mono ?_); (case side1 => repeat (first | exact (Kd.C_below HR0.out HB.out) | (with_reducible refine Kd.C_alloc ?_ _) | (with_reducible refine Kd.C_drewN ?_ _) | (with_reducible refine Kd.C_drew ?_))); (case side2 => exact HC0.out); rintro e w' ⟨rfl, ⟨nd, rfl⟩⟩; (try first | exact ⟨rfl, _, World.drewN_drewN _ _ _⟩ | exact ⟨rfl, _, Eq.trans (World.drewN_drewN _ _ _) (congrArg (World.drewN _) (Nat.add_assoc _ _ _))⟩))))
           go_ret2
           exact ⟨_, by first | rfl | (simp [errW_none, errW_some] <;> rfl) | (simp [*, errW_none, errW_some] <;> rfl), by first | exact Kd.R_nil _ _ _ _ _ | exact Kd.N_nil _ _ _ _ _ | exact Kd.V_nil _ _ _ _ _ | exact Kd.Q_nil _ _ _ _ _ | exact Kd.S_nil _ _ _ _ _, by repeat (first | (with_reducible first | exact HB.out | apply below_alloc | apply pw_below_drewN | apply below_drew1) | exact HB.out)⟩
          ·rw [if_neg c15] at H
           have c15b0 : decide (t370 < 0) = false := decide_eq_false c15
           clear c15
           have H' := Aside0.mk H
           clear H
           have p369 : 0 ≤ (x9_2 : Int) := of_decide_eq_true (by first | (with_reducible assumption) | assumption)
           have q369 : x9_2 < (l1.length : Int) := of_decide_eq_true (by first | (with_reducible assumption) | assumption)
           obtain ⟨ad369, e369, hx369_0, hx369_1, hx369_2⟩ := at_T35 HR1.out x9_2 p369 q369
           cases e369
           replace hx369_0 := (HB.out.cell (World.block_lt_of_cell? w _ hx369_0)).trans hx369_0
           replace hx369_1 := (HB.out.cell (World.block_lt_of_cell? w _ hx369_1)).trans hx369_1
           replace hx369_2 := (HB.out.cell (World.block_lt_of_cell? w _ hx369_2)).trans hx369_2
           replace p369 := eq_true p369
           replace q369 := eq_true q369
           go_wp2_with (first | (go_at_call 40; (with_reducible refine (spileref52_find.calls k2 _ _ l0 ((rd_T35 l1 x9_2).f0) t370 _ ?side1 ?side2 A14.out).mono ?_); (case side1 => repeat (first | exact (Kd.C_below HR0.out HB.out) | (with_reducible refine Kd.C_alloc ?_ _) | (with_reducible refine Kd.C_drewN ?_ _) | (with_reducible refine Kd.C_drew ?_))); (case side2 => exact HC0.out); rintro e w' ⟨rfl, ⟨nd, rfl⟩⟩; (try first | exact ⟨rfl, _, World.drewN_drewN _ _ _⟩ | exact ⟨rfl, _, Eq.trans (World.drewN_drewN _ _ _) (congrArg (World.drewN _) (Nat.add_assoc _ _ _))⟩)))
           repeat (go_quiet (first | (go_at_call 40; (with_reducible refine (spileref52_find.calls k2 _ _ l0 ((rd_T35 l1 x9_2).f0) t370 _ ?side1 ?side2 A14.out).mono ?_); (case side1 => repeat (first | exact (Kd.C_below HR0.out HB.out) | (with_reducible refine Kd.C_alloc ?_ _) | (with_reducible refine Kd.C_drewN ?_ _) | (with_reducible refine Kd.C_drew ?_))); (case side2 => exact HC0.out); rintro e w' ⟨rfl, ⟨nd, rfl⟩⟩; (try first | exact ⟨rfl, _, World.drewN_drewN _ _ _⟩ | exact ⟨rfl, _, Eq.trans (World.drewN_drewN _ _ _) (congrArg (World.drewN _) (Nat.add_assoc _ _ _))⟩))); try go_wp2_with (first | (go_at_call 40; (with_reducible refine (spileref52_find.calls k2 _ _ l0 ((rd_T35 l1 x9_2).f0) t370 _ ?side1 ?side2 A14.out).mono ?_); (case side1 => repeat (first | exact (Kd.C_below HR0.out HB.out) | (with_reducible refine Kd.C_alloc ?_ _) | (with_reducible refine Kd.C_drewN ?_ _) | (with_reducible refine Kd.C_drew ?_))); (case side2 => exact HC0.out); rintro e w' ⟨rfl, ⟨nd, rfl⟩⟩; (try first | exact ⟨rfl, _, World.drewN_drewN _ _ _⟩ | exact ⟨rfl, _, Eq.trans (World.drewN_drewN _ _ _) (congrArg (World.drewN _) (Nat.add_assoc _ _ _))⟩))))
           go_roundg k2
           case measure => have := HK1.out; have := HK2.out; omega
           case rel => exact ⟨(wrap64 (x9_2 + 1)), (by first | rfl | (simp; done) | (simp [*]; done)), H', ⟨by have := HK1.out; have := HK2.out; omega⟩, ⟨by repeat (first | (with_reducible first | exact HB.out | apply below_alloc | apply pw_below_drewN | apply below_drew1) | exact HB.out)⟩⟩
         ·rw [if_neg c13] at H
          exact absurd H (by simp)
        ·rw [if_neg c12] at H
         have c12b0 : decide (x9_2 < (l1.length : Int)) = false := decide_eq_false c12
         clear c12
         have H' := Aside0.mk H
         clear H
         go_wp2
         repeat (go_quiet (fail); try go_wp2)
         go_loopg [10, 11] k2 (fun kq v10 v11 w' => ∃ (x10_3 : List (S35)) (x11_3 : Int), v11 = .int .i64 x11_3 ∧ Aside0 (spileref52_Short.l2 kq l0 l1 x10_3 x11_3 = some (r1, r2)) ∧ Aside0 (kq ≤ k2) ∧ Aside0 (Kd.R k35 35 w' w.heap.size (fun _ => True) v10 x10_3) ∧ Aside0 (Below w.heap.size w w'))
         case atStart => exact ⟨(([] : List (S35))), (0), (by first | rfl | (simp; done) | (simp [*]; done)), H', ⟨Nat.le_refl _⟩, ⟨by first | exact Kd.R_nil _ _ _ _ _ | exact Kd.N_nil _ _ _ _ _ | exact Kd.V_nil _ _ _ _ _ | exact Kd.Q_nil _ _ _ _ _ | exact Kd.S_nil _ _ _ _ _⟩, ⟨by repeat (first | (with_reducible first | exact HB.out | apply below_alloc | apply pw_below_drewN | apply below_drew1) | exact HB.out)⟩⟩
         case round =>
          clear H'
          try clear c1
          try clear p2
          try clear c3
          try clear p3
          try clear q3
          try clear hx3
          try clear c4
          try clear c4b0
          try clear c4b1
          try clear c5
          try clear c5b0
          try clear c5b1
          try clear p6
          try clear c8
          try clear c8b0
          try clear c9
          try clear c9b0
          try clear c11
          try clear c12
          try clear c12b0
          try clear c13
          try clear c13b0
          try clear c15
          try clear c15b0
          try clear hx367_0
          try clear hx367_1
          try clear hx367_2
          try clear hx369_0
          try clear hx369_1
          try clear hx369_2
          try clear p2
          try clear p3
          try clear p367
          try clear p369
          try clear p6
          try clear q3
          try clear q367
          try clear q369
          obtain ⟨x10_3, x11_3, rfl, HA, HK3, HO_10, HB⟩ := hrel
          cases gk with
          | zero => exact absurd HA.out (by simp [spileref52_Short.l2])
          | succ k3 =>
           have H := HA.out
           clear HA
           simp only [spileref52_Short.l2] at H
           by_cases c16 : x11_3 < (l0.length : Int)
           ·rw [if_pos c16] at H
            have c16b0 : decide (x11_3 < (l0.length : Int)) = true := decide_eq_true c16
            clear c16
            by_cases c17 : 0 ≤ x11_3
            ·rw [if_pos c17] at H
             have c17b0 : decide (0 ≤ x11_3) = true := decide_eq_true c17
             clear c17
             replace H := Option.bind_eq_some_iff.mp H
             obtain ⟨t372, A180, H⟩ := H
             replace H : (if (wrap64 (t372 - ((rd_T31 l0 x11_3).f3))) > 0 then (if x10_3.length < 5864062014805 then (spileref52_Short.l2 k3 l0 l1 (x10_3 ++ [(⟨(rd_T31 l0 x11_3).f0, 0, wrap64 (t372 - ((rd_T31 l0 x11_3).f3))⟩ : S35)]) (wrap64 (x11_3 + 1))) else (none)) else (spileref52_Short.l2 k3 l0 l1 x10_3 (wrap64 (x11_3 + 1)))) = some (r1, r2) := H
             have A18 := Aside0.mk A180
             clear A180
             by_cases c19 : (wrap64 (t372 - ((rd_T31 l0 x11_3).f3))) > 0
             ·rw [if_pos c19] at H
              have c19b0 : decide (0 < (wrap64 (t372 - ((rd_T31 l0 x11_3).f3)))) = true := decide_eq_true c19
              clear c19
              by_cases c20 : x10_3.length < 5864062014805
              ·rw [if_pos c20] at H
               have LMc20 := Aside0.mk c20
               clear c20
               obtain ⟨y375, hy375⟩ : ∃ y_ : List (S35), y_ = (x10_3 ++ [(⟨(rd_T31 l0 x11_3).f0, 0, wrap64 (t372 - ((rd_T31 l0 x11_3).f3))⟩ : S35)]) := ⟨_, rfl⟩
               replace H : (spileref52_Short.l2 k3 l0 l1 y375 (wrap64 (x11_3 + 1))) = some (r1, r2) := by first | (rw [hy375]; with_reducible exact H) | (have H2_ := (Option.bind_some _ _).symm.trans H; rw [hy375]; with_reducible exact H2_) | (have H2_ := (Option.bind_some _ _).symm.trans H; with_reducible exact H2_) | with_reducible exact H | (rw [hy375]; exact H) | exact H
               have Ny375 := Aside0.mk hy375
               clear hy375
               have H' := Aside0.mk H
               clear H
               have p371 : 0 ≤ (x11_3 : Int) := of_decide_eq_true (by first | (with_reducible assumption) | assumption)
               have q371 : x11_3 < (l0.length : Int) := of_decide_eq_true (by first | (with_reducible assumption) | assumption)
               obtain ⟨ad371, e371, hx371_0, hx371_1, hx371_2, hx371_3⟩ := at_T31 HR0.out x11_3 p371 q371
               cases e371
               replace hx371_0 := (HB.out.cell (World.block_lt_of_cell? w _ hx371_0)).trans hx371_0
               replace hx371_1 := (HB.out.cell (World.block_lt_of_cell? w _ hx371_1)).trans hx371_1
               replace hx371_2 := (HB.out.cell (World.block_lt_of_cell? w _ hx371_2)).trans hx371_2
               replace hx371_3 := (HB.out.cell (World.block_lt_of_cell? w _ hx371_3)).trans hx371_3
               replace p371 := eq_true p371
               replace q371 := eq_true q371
               go_wp2_with (first | (go_at_call 41; (with_reducible refine (spileref52_bound.calls k3 _ _ l1 ((rd_T31 l0 x11_3).f0) t372 _ ?side1 ?side2 A18.out).mono ?_); (case side1 => repeat (first | exact (Kd.C_below HR1.out HB.out) | (with_reducible refine Kd.C_alloc ?_ _) | (with_reducible refine Kd.C_drewN ?_ _) | (with_reducible refine Kd.C_drew ?_))); (case side2 => exact HC1.out); rintro e w' ⟨rfl, ⟨nd, rfl⟩⟩; (try first | exact ⟨rfl, _, World.drewN_drewN _ _ _⟩ | exact ⟨rfl, _, Eq.trans (World.drewN_drewN _ _ _) (congrArg (World.drewN _) (Nat.add_assoc _ _ _))⟩); (first | done | (have p373 : 0 ≤ (x11_3 : Int) := of_decide_eq_true (by first | (with_reducible assumption) | assumption); have q373 : x11_3 < (l0.length : Int) := of_decide_eq_true (by first | (with_reducible assumption) | assumption); obtain ⟨ad373, e373, hx373_0, hx373_1, hx373_2, hx373_3⟩ := at_T31 HR0.out x11_3 p373 q373; obtain rfl : ad371 = ad373 := (by injection e373); replace hx373_0 := (HB.out.cell (World.block_lt_of_cell? w _ hx373_0)).trans hx373_0; replace hx373_1 := (HB.out.cell (World.block_lt_of_cell? w _ hx373_1)).trans hx373_1; replace hx373_2 := (HB.out.cell (World.block_lt_of_cell? w _ hx373_2)).trans hx373_2; replace hx373_3 := (HB.out.cell (World.block_lt_of_cell? w _ hx373_3)).trans hx373_3; replace p373 := eq_true p373; replace q373 := eq_true q373; have p374 : 0 ≤ (x11_3 : Int) := of_decide_eq_true (by first | (with_reducible assumption) | assumption); have q374 : x11_3 < (l0.length : Int) := of_decide_eq_true (by first | (with_reducible assumption) | assumption); obtain ⟨ad374, e374, hx374_0, hx374_1, hx374_2, hx374_3⟩ := at_T31 HR0.out x11_3 p374 q374; obtain rfl : ad371 = ad374 := (by injection e374); replace hx374_0 := (HB.out.cell (World.block_lt_of_cell? w _ hx374_0)).trans hx374_0; replace hx374_1 := (HB.out.cell (World.block_lt_of_cell? w _ hx374_1)).trans hx374_1; replace hx374_2 := (HB.out.cell (World.block_lt_of_cell? w _ hx374_2)).trans hx374_2; replace hx374_3 := (HB.out.cell (World.block_lt_of_cell? w _ hx374_3)).trans hx374_3; replace p374 := eq_true p374; replace q374 := eq_true q374))) | ((with_reducible refine gate_builtin (b := .append) (xs := #[.tmp 71, .tmp 79]) rfl ?_); at_builtin; refine Kd.R_append k35 (w0 := w) w.heap.size rfl (.tmp 71) (.tmp 79) 23 35 (.agg #[(.int .i64 0), (.int .i64 0), (.int .i64 0)]) 24 rfl Try.underlying23 info35 rfl (by decide) (by omega) u10 x10_3 (⟨(rd_T31 l0 x11_3).f0, 0, wrap64 (t372 - ((rd_T31 l0 x11_3).f3))⟩ : S35) [.int .i64 ((rd_T31 l0 x11_3).f0), .int .i64 0, .int .i64 (wrap64 (t372 - ((rd_T31 l0 x11_3).f3)))] (fun _ => True) (fun _ => False) rfl rfl ?aP (fun _ hk => hk.elim) ?aF ?aO ?aB ?aS ?aL ?_; (case aP => exact k35_mkM _ _ _ (⟨(rd_T31 l0 x11_3).f0, 0, wrap64 (t372 - ((rd_T31 l0 x11_3).f3))⟩ : S35)); (case aB => exact (by repeat (first | (with_reducible first | exact HB.out | apply below_alloc | apply pw_below_drewN | apply below_drew1) | exact HB.out))); (case aF => exact (fun _ _ => trivial)); (case aO => exact (by (with_reducible repeat (first | apply Kd.R_alloc | apply Kd.R_drewN | apply Kd.R_drew)); exact HO_10.out)); (case aS => exact (below_size (by repeat (first | (with_reducible first | exact HB.out | apply below_alloc | apply pw_below_drewN | apply below_drew1) | exact HB.out)))); (case aL => have := LMc20.out; omega); intro v376 w21 ho hb hg hat; rw [← Ny375.out] at ho; have n0_ := Aside0.mk (hb); have n1_ := Aside0.mk (ho); clear HB; clear HO_10; have HB := n0_; have HO377 := n1_; clear n0_ n1_; clear ho hb hg hat))
               repeat (go_quiet (first | (go_at_call 41; (with_reducible refine (spileref52_bound.calls k3 _ _ l1 ((rd_T31 l0 x11_3).f0) t372 _ ?side1 ?side2 A18.out).mono ?_); (case side1 => repeat (first | exact (Kd.C_below HR1.out HB.out) | (with_reducible refine Kd.C_alloc ?_ _) | (with_reducible refine Kd.C_drewN ?_ _) | (with_reducible refine Kd.C_drew ?_))); (case side2 => exact HC1.out); rintro e w' ⟨rfl, ⟨nd, rfl⟩⟩; (try first | exact ⟨rfl, _, World.drewN_drewN _ _ _⟩ | exact ⟨rfl, _, Eq.trans (World.drewN_drewN _ _ _) (congrArg (World.drewN _) (Nat.add_assoc _ _ _))⟩); (first | done | (have p373 : 0 ≤ (x11_3 : Int) := of_decide_eq_true (by first | (with_reducible assumption) | assumption); have q373 : x11_3 < (l0.length : Int) := of_decide_eq_true (by first | (with_reducible assumption) | assumption); obtain ⟨ad373, e373, hx373_0, hx373_1, hx373_2, hx373_3⟩ := at_T31 HR0.out x11_3 p373 q373; obtain rfl : ad371 = ad373 := (by injection e373); replace hx373_0 := (HB.out.cell (World.block_lt_of_cell? w _ hx373_0)).trans hx373_0; replace hx373_1 := (HB.out.cell (World.block_lt_of_cell? w _ hx373_1)).trans hx373_1; replace hx373_2 := (HB.out.cell (World.block_lt_of_cell? w _ hx373_2)).trans hx373_2; replace hx373_3 := (HB.out.cell (World.block_lt_of_cell? w _ hx373_3)).trans hx373_3; replace p373 := eq_true p373; replace q373 := eq_true q373; have p374 : 0 ≤ (x11_3 : Int) := of_decide_eq_true (by first | (with_reducible assumption) | assumption); have q374 : x11_3 < (l0.length : Int) := of_decide_eq_true (by first | (with_reducible assumption) | assumption); obtain ⟨ad374, e374, hx374_0, hx374_1, hx374_2, hx374_3⟩ := at_T31 HR0.out x11_3 p374 q374; obtain rfl : ad371 = ad374 := (by injection e374); replace hx374_0 := (HB.out.cell (World.block_lt_of_cell? w _ hx374_0)).trans hx374_0; replace hx374_1 := (HB.out.cell (World.block_lt_of_cell? w _ hx374_1)).trans hx374_1; replace hx374_2 := (HB.out.cell (World.block_lt_of_cell? w _ hx374_2)).trans hx374_2; replace hx374_3 := (HB.out.cell (World.block_lt_of_cell? w _ hx374_3)).trans hx374_3; replace p374 := eq_true p374; replace q374 := eq_true q374))) | ((with_reducible refine gate_builtin (b := .append) (xs := #[.tmp 71, .tmp 79]) rfl ?_); at_builtin; refine Kd.R_append k35 (w0 := w) w.heap.size rfl (.tmp 71) (.tmp 79) 23 35 (.agg #[(.int .i64 0), (.int .i64 0), (.int .i64 0)]) 24 rfl Try.underlying23 info35 rfl (by decide) (by omega) u10 x10_3 (⟨(rd_T31 l0 x11_3).f0, 0, wrap64 (t372 - ((rd_T31 l0 x11_3).f3))⟩ : S35) [.int .i64 ((rd_T31 l0 x11_3).f0), .int .i64 0, .int .i64 (wrap64 (t372 - ((rd_T31 l0 x11_3).f3)))] (fun _ => True) (fun _ => False) rfl rfl ?aP (fun _ hk => hk.elim) ?aF ?aO ?aB ?aS ?aL ?_; (case aP => exact k35_mkM _ _ _ (⟨(rd_T31 l0 x11_3).f0, 0, wrap64 (t372 - ((rd_T31 l0 x11_3).f3))⟩ : S35)); (case aB => exact (by repeat (first | (with_reducible first | exact HB.out | apply below_alloc | apply pw_below_drewN | apply below_drew1) | exact HB.out))); (case aF => exact (fun _ _ => trivial)); (case aO => exact (by (with_reducible repeat (first | apply Kd.R_alloc | apply Kd.R_drewN | apply Kd.R_drew)); exact HO_10.out)); (case aS => exact (below_size (by repeat (first | (with_reducible first | exact HB.out | apply below_alloc | apply pw_below_drewN | apply below_drew1) | exact HB.out)))); (case aL => have := LMc20.out; omega); intro v376 w21 ho hb hg hat; rw [← Ny375.out] at ho; have n0_ := Aside0.mk (hb); have n1_ := Aside0.mk (ho); clear HB; clear HO_10; have HB := n0_; have HO377 := n1_; clear n0_ n1_; clear ho hb hg hat)); try go_wp2_with (first | (go_at_call 41; (with_reducible refine (spileref52_bound.calls k3 _ _ l1 ((rd_T31 l0 x11_3).f0) t372 _ ?side1 ?side2 A18.out).mono ?_); (case side1 => repeat (first | exact (Kd.C_below HR1.out HB.out) | (with_reducible refine Kd.C_alloc ?_ _) | (with_reducible refine Kd.C_drewN ?_ _) | (with_reducible refine Kd.C_drew ?_))); (case side2 => exact HC1.out); rintro e w' ⟨rfl, ⟨nd, rfl⟩⟩; (try first | exact ⟨rfl, _, World.drewN_drewN _ _ _⟩ | exact ⟨rfl, _, Eq.trans (World.drewN_drewN _ _ _) (congrArg (World.drewN _) (Nat.add_assoc _ _ _))⟩); (first | done | (have p373 : 0 ≤ (x11_3 : Int) := of_decide_eq_true (by first | (with_reducible assumption) | assumption); have q373 : x11_3 < (l0.length : Int) := of_decide_eq_true (by first | (with_reducible assumption) | assumption); obtain ⟨ad373, e373, hx373_0, hx373_1, hx373_2, hx373_3⟩ := at_T31 HR0.out x11_3 p373 q373; obtain rfl : ad371 = ad373 := (by injection e373); replace hx373_0 := (HB.out.cell (World.block_lt_of_cell? w _ hx373_0)).trans hx373_0; replace hx373_1 := (HB.out.cell (World.block_lt_of_cell? w _ hx373_1)).trans hx373_1; replace hx373_2 := (HB.out.cell (World.block_lt_of_cell? w _ hx373_2)).trans hx373_2; replace hx373_3 := (HB.out.cell (World.block_lt_of_cell? w _ hx373_3)).trans hx373_3; replace p373 := eq_true p373; replace q373 := eq_true q373; have p374 : 0 ≤ (x11_3 : Int) := of_decide_eq_true (by first | (with_reducible assumption) | assumption); have q374 : x11_3 < (l0.length : Int) := of_decide_eq_true (by first | (with_reducible assumption) | assumption); obtain ⟨ad374, e374, hx374_0, hx374_1, hx374_2, hx374_3⟩ := at_T31 HR0.out x11_3 p374 q374; obtain rfl : ad371 = ad374 := (by injection e374); replace hx374_0 := (HB.out.cell (World.block_lt_of_cell? w _ hx374_0)).trans hx374_0; replace hx374_1 := (HB.out.cell (World.block_lt_of_cell? w _ hx374_1)).trans hx374_1; replace hx374_2 := (HB.out.cell (World.block_lt_of_cell? w _ hx374_2)).trans hx374_2; replace hx374_3 := (HB.out.cell (World.block_lt_of_cell? w _ hx374_3)).trans hx374_3; replace p374 := eq_true p374; replace q374 := eq_true q374))) | ((with_reducible refine gate_builtin (b := .append) (xs := #[.tmp 71, .tmp 79]) rfl ?_); at_builtin; refine Kd.R_append k35 (w0 := w) w.heap.size rfl (.tmp 71) (.tmp 79) 23 35 (.agg #[(.int .i64 0), (.int .i64 0), (.int .i64 0)]) 24 rfl Try.underlying23 info35 rfl (by decide) (by omega) u10 x10_3 (⟨(rd_T31 l0 x11_3).f0, 0, wrap64 (t372 - ((rd_T31 l0 x11_3).f3))⟩ : S35) [.int .i64 ((rd_T31 l0 x11_3).f0), .int .i64 0, .int .i64 (wrap64 (t372 - ((rd_T31 l0 x11_3).f3)))] (fun _ => True) (fun _ => False) rfl rfl ?aP (fun _ hk => hk.elim) ?aF ?aO ?aB ?aS ?aL ?_; (case aP => exact k35_mkM _ _ _ (⟨(rd_T31 l0 x11_3).f0, 0, wrap64 (t372 - ((rd_T31 l0 x11_3).f3))⟩ : S35)); (case aB => exact (by repeat (first | (with_reducible first | exact HB.out | apply below_alloc | apply pw_below_drewN | apply below_drew1) | exact HB.out))); (case aF => exact (fun _ _ => trivial)); (case aO => exact (by (with_reducible repeat (first | apply Kd.R_alloc | apply Kd.R_drewN | apply Kd.R_drew)); exact HO_10.out)); (case aS => exact (below_size (by repeat (first | (with_reducible first | exact HB.out | apply below_alloc | apply pw_below_drewN | apply below_drew1) | exact HB.out)))); (case aL => have := LMc20.out; omega); intro v376 w21 ho hb hg hat; rw [← Ny375.out] at ho; have n0_ := Aside0.mk (hb); have n1_ := Aside0.mk (ho); clear HB; clear HO_10; have HB := n0_; have HO377 := n1_; clear n0_ n1_; clear ho hb hg hat)))
               go_roundg k3
               case measure => have := HK1.out; have := HK2.out; have := HK3.out; omega
               case rel => exact ⟨(y375), (wrap64 (x11_3 + 1)), (by first | rfl | (simp; done) | (simp [*]; done)), H', ⟨by have := HK1.out; have := HK2.out; have := HK3.out; omega⟩, ⟨by (with_reducible repeat (first | apply Kd.R_alloc | apply Kd.R_drewN | apply Kd.R_drew)); exact HO377.out⟩, ⟨by repeat (first | (with_reducible first | exact HB.out | apply below_alloc | apply pw_below_drewN | apply below_drew1) | exact HB.out)⟩⟩
              ·rw [if_neg c20] at H
               exact absurd H (by simp)
             ·rw [if_neg c19] at H
              have c19b0 : decide (0 < (wrap64 (t372 - ((rd_T31 l0 x11_3).f3)))) = false := decide_eq_false c19
              clear c19
              have H' := Aside0.mk H
              clear H
              have p371 : 0 ≤ (x11_3 : Int) := of_decide_eq_true (by first | (with_reducible assumption) | assumption)
              have q371 : x11_3 < (l0.length : Int) := of_decide_eq_true (by first | (with_reducible assumption) | assumption)
              obtain ⟨ad371, e371, hx371_0, hx371_1, hx371_2, hx371_3⟩ := at_T31 HR0.out x11_3 p371 q371
              cases e371
              replace hx371_0 := (HB.out.cell (World.block_lt_of_cell? w _ hx371_0)).trans hx371_0
              replace hx371_1 := (HB.out.cell (World.block_lt_of_cell? w _ hx371_1)).trans hx371_1
              replace hx371_2 := (HB.out.cell (World.block_lt_of_cell? w _ hx371_2)).trans hx371_2
              replace hx371_3 := (HB.out.cell (World.block_lt_of_cell? w _ hx371_3)).trans hx371_3
              replace p371 := eq_true p371
              replace q371 := eq_true q371
              go_wp2_with (first | (go_at_call 41; (with_reducible refine (spileref52_bound.calls k3 _ _ l1 ((rd_T31 l0 x11_3).f0) t372 _ ?side1 ?side2 A18.out).mono ?_); (case side1 => repeat (first | exact (Kd.C_below HR1.out HB.out) | (with_reducible refine Kd.C_alloc ?_ _) | (with_reducible refine Kd.C_drewN ?_ _) | (with_reducible refine Kd.C_drew ?_))); (case side2 => exact HC1.out); rintro e w' ⟨rfl, ⟨nd, rfl⟩⟩; (try first | exact ⟨rfl, _, World.drewN_drewN _ _ _⟩ | exact ⟨rfl, _, Eq.trans (World.drewN_drewN _ _ _) (congrArg (World.drewN _) (Nat.add_assoc _ _ _))⟩); (first | done | (have p373 : 0 ≤ (x11_3 : Int) := of_decide_eq_true (by first | (with_reducible assumption) | assumption); have q373 : x11_3 < (l0.length : Int) := of_decide_eq_true (by first | (with_reducible assumption) | assumption); obtain ⟨ad373, e373, hx373_0, hx373_1, hx373_2, hx373_3⟩ := at_T31 HR0.out x11_3 p373 q373; obtain rfl : ad371 = ad373 := (by injection e373); replace hx373_0 := (HB.out.cell (World.block_lt_of_cell? w _ hx373_0)).trans hx373_0; replace hx373_1 := (HB.out.cell (World.block_lt_of_cell? w _ hx373_1)).trans hx373_1; replace hx373_2 := (HB.out.cell (World.block_lt_of_cell? w _ hx373_2)).trans hx373_2; replace hx373_3 := (HB.out.cell (World.block_lt_of_cell? w _ hx373_3)).trans hx373_3; replace p373 := eq_true p373; replace q373 := eq_true q373))))
              repeat (go_quiet (first | (go_at_call 41; (with_reducible refine (spileref52_bound.calls k3 _ _ l1 ((rd_T31 l0 x11_3).f0) t372 _ ?side1 ?side2 A18.out).mono ?_); (case side1 => repeat (first | exact (Kd.C_below HR1.out HB.out) | (with_reducible refine Kd.C_alloc ?_ _) | (with_reducible refine Kd.C_drewN ?_ _) | (with_reducible refine Kd.C_drew ?_))); (case side2 => exact HC1.out); rintro e w' ⟨rfl, ⟨nd, rfl⟩⟩; (try first | exact ⟨rfl, _, World.drewN_drewN _ _ _⟩ | exact ⟨rfl, _, Eq.trans (World.drewN_drewN _ _ _) (congrArg (World.drewN _) (Nat.add_assoc _ _ _))⟩); (first | done | (have p373 : 0 ≤ (x11_3 : Int) := of_decide_eq_true (by first | (with_reducible assumption) | assumption); have q373 : x11_3 < (l0.length : Int) := of_decide_eq_true (by first | (with_reducible assumption) | assumption); obtain ⟨ad373, e373, hx373_0, hx373_1, hx373_2, hx373_3⟩ := at_T31 HR0.out x11_3 p373 q373; obtain rfl : ad371 = ad373 := (by injection e373); replace hx373_0 := (HB.out.cell (World.block_lt_of_cell? w _ hx373_0)).trans hx373_0; replace hx373_1 := (HB.out.cell (World.block_lt_of_cell? w _ hx373_1)).trans hx373_1; replace hx373_2 := (HB.out.cell (World.block_lt_of_cell? w _ hx373_2)).trans hx373_2; replace hx373_3 := (HB.out.cell (World.block_lt_of_cell? w _ hx373_3)).trans hx373_3; replace p373 := eq_true p373; replace q373 := eq_true q373)))); try go_wp2_with (first | (go_at_call 41; (with_reducible refine (spileref52_bound.calls k3 _ _ l1 ((rd_T31 l0 x11_3).f0) t372 _ ?side1 ?side2 A18.out).mono ?_); (case side1 => repeat (first | exact (Kd.C_below HR1.out HB.out) | (with_reducible refine Kd.C_alloc ?_ _) | (with_reducible refine Kd.C_drewN ?_ _) | (with_reducible refine Kd.C_drew ?_))); (case side2 => exact HC1.out); rintro e w' ⟨rfl, ⟨nd, rfl⟩⟩; (try first | exact ⟨rfl, _, World.drewN_drewN _ _ _⟩ | exact ⟨rfl, _, Eq.trans (World.drewN_drewN _ _ _) (congrArg (World.drewN _) (Nat.add_assoc _ _ _))⟩); (first | done | (have p373 : 0 ≤ (x11_3 : Int) := of_decide_eq_true (by first | (with_reducible assumption) | assumption); have q373 : x11_3 < (l0.length : Int) := of_decide_eq_true (by first | (with_reducible assumption) | assumption); obtain ⟨ad373, e373, hx373_0, hx373_1, hx373_2, hx373_3⟩ := at_T31 HR0.out x11_3 p373 q373; obtain rfl : ad371 = ad373 := (by injection e373); replace hx373_0 := (HB.out.cell (World.block_lt_of_cell? w _ hx373_0)).trans hx373_0; replace hx373_1 := (HB.out.cell (World.block_lt_of_cell? w _ hx373_1)).trans hx373_1; replace hx373_2 := (HB.out.cell (World.block_lt_of_cell? w _ hx373_2)).trans hx373_2; replace hx373_3 := (HB.out.cell (World.block_lt_of_cell? w _ hx373_3)).trans hx373_3; replace p373 := eq_true p373; replace q373 := eq_true q373)))))
              go_roundg k3
              case measure => have := HK1.out; have := HK2.out; have := HK3.out; omega
              case rel => exact ⟨(x10_3), (wrap64 (x11_3 + 1)), (by first | rfl | (simp; done) | (simp [*]; done)), H', ⟨by have := HK1.out; have := HK2.out; have := HK3.out; omega⟩, ⟨by (with_reducible repeat (first | apply Kd.R_alloc | apply Kd.R_drewN | apply Kd.R_drew)); exact HO_10.out⟩, ⟨by repeat (first | (with_reducible first | exact HB.out | apply below_alloc | apply pw_below_drewN | apply below_drew1) | exact HB.out)⟩⟩
            ·rw [if_neg c17] at H
             exact absurd H (by simp)
           ·rw [if_neg c16] at H
            have c16b0 : decide (x11_3 < (l0.length : Int)) = false := decide_eq_false c16
            clear c16
            simp only [Option.some.injEq, Prod.mk.injEq] at H
            obtain ⟨rfl, rfl⟩ := H
            go_wp2
            repeat (go_quiet (fail); try go_wp2)
            go_ret2
            exact ⟨_, by first | rfl | (simp [errW_none, errW_some] <;> rfl) | (simp [*, errW_none, errW_some] <;> rfl), by (with_reducible repeat (first | apply Kd.R_alloc | apply Kd.R_drewN | apply Kd.R_drew)); exact HO_10.out, by repeat (first | (with_reducible first | exact HB.out | apply below_alloc | apply pw_below_drewN | apply below_drew1) | exact HB.out)⟩
 ·rw [if_neg c4] at H
  have c4b0 : (t366 == 0) = false := beq_eq_false_iff_ne.mpr c4
  have c4b1 : (t366 != 0) = true := bne_iff_ne.mpr c4
  simp only [Option.some.injEq, Prod.mk.injEq] at H
  obtain ⟨rfl, rfl⟩ := H
  go_enter Try.func30, Try.ntmps30
  go_wp2_with (first | (go_at_call 14; (with_reducible refine (spileref52_Check.calls k _ _ l0 t365 t366 _ ?side1 ?side2 A3.out).mono ?_); (case side1 => repeat (first | exact HR0.out | (with_reducible refine Kd.C_alloc ?_ _) | (with_reducible refine Kd.C_drewN ?_ _) | (with_reducible refine Kd.C_drew ?_))); (case side2 => exact HC0.out); rintro e w22 ⟨rfl, hb⟩; have n0_ := Aside0.mk (below_step (by repeat (first | (with_reducible first | exact HB.out | apply below_alloc | apply pw_below_drewN | apply below_drew1) | exact HB.out)) hb); clear HB; have HB := n0_; clear n0_; (try clear hb); (try clear hb2); (try clear hk); (try clear hi)))
  repeat (go_quiet (first | (go_at_call 14; (with_reducible refine (spileref52_Check.calls k _ _ l0 t365 t366 _ ?side1 ?side2 A3.out).mono ?_); (case side1 => repeat (first | exact HR0.out | (with_reducible refine Kd.C_alloc ?_ _) | (with_reducible refine Kd.C_drewN ?_ _) | (with_reducible refine Kd.C_drew ?_))); (case side2 => exact HC0.out); rintro e w22 ⟨rfl, hb⟩; have n0_ := Aside0.mk (below_step (by repeat (first | (with_reducible first | exact HB.out | apply below_alloc | apply pw_below_drewN | apply below_drew1) | exact HB.out)) hb); clear HB; have HB := n0_; clear n0_; (try clear hb); (try clear hb2); (try clear hk); (try clear hi))); try go_wp2_with (first | (go_at_call 14; (with_reducible refine (spileref52_Check.calls k _ _ l0 t365 t366 _ ?side1 ?side2 A3.out).mono ?_); (case side1 => repeat (first | exact HR0.out | (with_reducible refine Kd.C_alloc ?_ _) | (with_reducible refine Kd.C_drewN ?_ _) | (with_reducible refine Kd.C_drew ?_))); (case side2 => exact HC0.out); rintro e w22 ⟨rfl, hb⟩; have n0_ := Aside0.mk (below_step (by repeat (first | (with_reducible first | exact HB.out | apply below_alloc | apply pw_below_drewN | apply below_drew1) | exact HB.out)) hb); clear HB; have HB := n0_; clear n0_; (try clear hb); (try clear hb2); (try clear hk); (try clear hi))))
  go_ret2
  exact ⟨_, by first | rfl | (simp [errW_none, errW_some] <;> rfl) | (simp [*, errW_none, errW_some] <;> rfl), by first | exact Kd.R_nil _ _ _ _ _ | exact Kd.N_nil _ _ _ _ _ | exact Kd.V_nil _ _ _ _ _ | exact Kd.Q_nil _ _ _ _ _ | exact Kd.S_nil _ _ _ _ _, by repeat (first | (with_reducible first | exact HB.out | apply below_alloc | apply pw_below_drewN | apply below_drew1) | exact HB.out)⟩

end Go.Proofs.Ytdolabpkgienkaa.PF
